/- The walk of package  -/
import Derived.Test.YtfgdoknipbpfhaaGreatDoorZBodyOpened17
import Derived.Test.YtfgdoknipbpfhaaGreatDoorZBodyOpened3
namespace Go.Proofs.YtfgdoknipbpfhaaGreatDoor
open Go.Proofs.Tryz
open Go.Lib (hid)
set_option maxHeartbeats 4000000
set_option maxRecDepth 100000
variable{w w':World}{L R base c g k m n s t:Nat}{S ks l:List Nat}{i:Int}{A:Option Addr}{lf:Value}{vals:List Value}
namespace Lens
open Go.RowKit Mem Own Srt Canon
theorem Pm(x:Nat)(w:World):Calls prog 362 #[.int .u32 x] w fun e w'=>e= .returned (.bool false)/\w=w':=by go_enter func362,ntmps362;go_wp2_with fail;go_ret;exact⟨rfl,rfl⟩
theorem dY(a b:Nat)(w:World):Calls prog 348 #[.int .u32 a, .int .u32 b] w fun e w'=>e= .returned (.int .i64 (zY a b))/\w=w':=by
 rcases Nat.lt_trichotomy a b with h|h|h
 ·have e:zY a b= -1:=by unfold zY;rw[Ae h]
  rw[e];clear e;go_enter func348,ntmps348;go_wp2_with(go_at_call 362;refine(Pm _ _).mono ?_;rintro e w' ⟨rfl,rfl⟩);go_ret;exact⟨rfl,rfl⟩
 ·have e:zY a b=0:=by unfold zY;rw[Ab mz,Ab mz]
  rw[e];subst h;clear e;go_enter func348,ntmps348;go_wp2_with(go_at_call 362;refine(Pm _ _).mono ?_;rintro e w' ⟨rfl,rfl⟩);go_ret;exact⟨rfl,rfl⟩
 ·have e:zY a b=1:=by unfold zY;rw[Ab mz,Ae h]
  rw[e];have h':¬a<b:=mz
  clear e;go_enter func348,ntmps348;go_wp2_with(go_at_call 362;refine(Pm _ _).mono ?_;rintro e w' ⟨rfl,rfl⟩);go_ret;exact⟨rfl,rfl⟩
abbrev kOf(ks:List Nat):Nat->Nat:=fun s=>ks.getD s 0
theorem WI(w:World)(Bo B n c x y:Nat)(A:Option Addr)(ks:List Nat)(hn:ks.length=n)(hx:x<n)(hy:y<n)(hb:w.cell? ⟨Bo,0,none⟩=some (.slice A n c))(ha:Row w B A n 1 (jZ .u32 ks)):
 Calls prog 347 #[x,y, .pointer (some ⟨Bo,0,none⟩)] w fun e w'=>e= .returned (.int .i64 (zY (kOf ks x) (kOf ks y)))/\∃q,w'=w.drewN q:=by
 obtain⟨b,J,v1,rfl,G,j,c1⟩:=CF ha hn hx;obtain⟨b',E,v2,e2,z,i,c2⟩:=CF ha hn hy;injection e2 with e2;injection e2 with e3 e4;subst e3 e4;have k1:kOf ks x=v1:=by simp[kOf,List.getD_eq_getElem?_getD,j]
 have k2:kOf ks y=v2:=by simp[kOf,List.getD_eq_getElem?_getD,i]
 rw[k1,k2];have x1:(0:Int)<=(x:Int):=mz
 have x2:(x:Int)<(n:Int):=mz
 have x3:(0:Int)<=(y:Int):=mz
 have x4:(y:Int)<(n:Int):=mz
 clear k1 k2 j i hn ha;go_enter func347,ntmps347;go_wp2_with fail;go_quiet ((go_at_call 348;exact CP ((dY _ _ _).mono (fun _ _ h=>⟨h.1,h.2.symm⟩))));go_wp2_with fail;go_ret;exact⟨rfl,_,rfl⟩
theorem Xb:(prog.info? 3).map (fun i=>(i.zero,i.size,i.bytes))=some (some (.int .i64 0),1,8):=mr
def My(ks:List Nat)(w:World)(e:Ending)(w':World):Prop:=
 ∃A c,e= .returned (.slice A (vZ (kOf ks) ks.length).length c)/\Row w' w' A (vZ (kOf ks) ks.length).length 1 (jZ .i64 (vZ (kOf ks) ks.length))/\Below w w w'
theorem Wn(h:w.ownsRow base 3 1 (.slice (some ⟨g,0,none⟩) n c) n (cZ .i64 l))(hl:l.length=n):Dat w g n (fun i=>l.getD i 0):=by
 rcases h.2 with ⟨hv,_⟩|⟨g',y,cur,hv,_,hh,z,_,E,j⟩
 ·cases hv
 ·injection hv with e1 e2 e3;injection e1 with e1;injection e1 with e1;subst e1;refine⟨cur,hh,mz,fun i hi=> ?_⟩;have h1:(cZ .i64 l)[i]? =some (.int .i64 (l.getD i 0:Nat)):=by rw[cZ,BE,AD mz,Ar,AD mz];rfl
  rw[<-j,Gq]at h1;split at h1
  ·simpa using h1
  ·cases h1
theorem V0(l:List Nat):seg (fun i=>l.getD i 0) 0 l.length=l:=by refine List.ext_getElem (by rw[seg_length];rfl) fun i h1 h2=> ?_;rw[GN,Ck,Ar,AD h2];rfl
theorem Xl{k f:Nat->Nat}(h:Sor k f 0 n):(seg f 0 n).Pairwise (Lt k):=by rw[List.pairwise_iff_getElem];intro i j hi hj y;rw[seg_length]at hj;rw[GN,GN,Ck,Ck];exact h i j (Cr _) y mz
theorem Xe{k f:Nat->Nat}(hd:Dat w g n f)(h:Ok k (fun i=>(used k m).getD i 0) f 0 n)(hn:(used k m).length=n):(vZ k m).length=n/\Row w w (some ⟨g,0,none⟩) n 1 (jZ .i64 (vZ k m)):=by
 have e:seg f 0 n=vZ k m:=Zd (Xl h.1) (by have h2:=h.2;rw[<-hn,V0,hn]at h2;exact h2);have hl:(vZ k m).length=n:=by rw[<-e,seg_length];rfl
 refine⟨hl,fun _=>⟨g,0,rfl,hd.lt,fun i j hi hj=> ?_⟩⟩;obtain rfl:j=0:=mz
 rw[CG,Bj,Ck,hd.cell hi];unfold jZ;rw[<-e,Ar,AD pd,GN,Ck];rfl
theorem dL{k:Nat->Nat}:∀i j,i<j->j<(used k m).length->(used k m).getD i 0<(used k m).getD j 0:=by intro i j y hj;have h:=List.pairwise_iff_getElem.1 (OQ k m) i j mz hj y;rw[Ar,Ar,AD mz,AD hj];exact h
theorem YQ{k:Nat->Nat}:All m (used k m).length (fun i=>(used k m).getD i 0):=fun i hi=>by show(used k m).getD i 0<m;rw[Ar,AD hi];exact(Pr.1 (Fo hi)).1
theorem Pj(w:World)(A:Option Addr)(n c:Nat)(ks:List Nat)(hn:ks.length=n)(hN:n<=100000)(ha:Row w w A n 1 (jZ .u32 ks)):
 Calls prog 314 #[.slice A n c] w (My ks w):=by
 obtain⟨j0,au,av,ak,al⟩:=info_parts Xb;have HN:=hid hn;have HA:=hid ha;clear hn ha;go_enter func314,ntmps314;go_wp2_with fail;have ag:Blk (w.alloc (.cells #[.slice A n c] 266)) w 266 #[.slice A n c]:=Blk.made _ _ _;have M:Below w w (w.alloc (.cells #[.slice A n c] 266)):=aZ (Ag _ _);go_loopw [3,8] (fun v i wr=>∃ (t q:Nat),t<=n/\q<=t/\i= .int .i64 t/\Hid ((used (kOf ks) t).length=q)/\wr.ownsRow (w.heap.size+1) 3 1 v q (cZ .i64 (used (kOf ks) t))/\Blk wr w 266 #[.slice A n c]/\Below w w wr) (fun _ i _=>n-(intOf i).toNat)
 case atStart=>exact⟨0,0,mz,mz,rfl,rfl,AK _ _ _ _,ag,M⟩
 case round=>
  clear ag M;obtain⟨t,q,ht,hq,rfl,E,z,bl,bel⟩:=hrel;have ah:=bl.lt;by_cases aj:t<n
  ·obtain⟨b,az,x,rfl,ay,hx,c0⟩:=CF (HA.out.below bel) HN.out aj;have aa:kOf ks t=x:=(by simp[kOf,List.getD_eq_getElem?_getD,hx]);have Z:used (kOf ks) (t+1)=if x=0 then used (kOf ks) t else used (kOf ks) t++ [t]:=(by rw[used,aa]);have J:=hid Z;have x0:(0:Int)<=(t:Int):=mz;have x1:(t:Int)<(n:Int):=mz;clear hx aa Z;by_cases G:x=0
   ·have HU:Hid (used (kOf ks) (t+1)=used (kOf ks) t):=(by show _=_;rw[J.out,Ae G]);subst G;clear J;go_wp2_with fail;go_roundw
    case rel=>go_light;exact⟨t+1,q,mz,mz,jp,by show _=_;rw[HU.out];exact E.out,by rw[HU.out];exact z,bl,bel⟩
    case measure=>exact jo
   ·have HU:Hid (used (kOf ks) (t+1)=used (kOf ks) t++ [t]):=(by show _=_;rw[J.out,Ab G]);have xp:0<x:=mz;obtain⟨va,vc,rfl⟩:=bZ z;have HO:=hid z;have BL:=hid bl;have aq:=hid bel;have an:=bel.size;clear J G z bel bl;go_wp2_with(at_builtin;refine iZ rfl (.tmp 15) (.tmp 17) 37 rfl (w.heap.size+1) 3 j0 _ 1 8 underlying37 au av ak al rfl ip _ _ _ nc (HO.out.alloc _) _ 1 1 [.int .i64 t] nc (Src.of_blk (Blk.made _ _ _) 1 1 1 rfl) mp qg mz pQ ?_;intro v4 w4 U Y aw);go_roundw
    case measure=>exact jo
    case rel=>
     go_light;have hr:∀k,(Value.slice va q vc).ownBlock=some k->w.heap.size+1<=k:=fun k hk=>(Am HO.out k hk).1;refine⟨t+1,q+1,mz,mz,jp,?_,?_,?_,?_⟩
     ·show _=_;rw[HU.out,Aj,E.out];rfl
     ·rw[HU.out,cZ,EN];exact U
     ·exact(BL.out.alloc _).grown Y (fun h=>by have:=hr _ h.symm;omega)
     ·exact(mZ an aq.out).grown Y pQ (fun k hk=>by have:=hr k hk;omega)
  ·obtain rfl:t=n:=by omega
   have hz:=bel.size;have Q:=bl.cell 0;rcases z.2 with ⟨rfl,ar⟩|⟨g,ab,cur,rfl,hg,hh,a0,ax,ai,N⟩
   ·subst ar;have e0:vZ (kOf ks) t= []:=Gr (by rw[(Jp _ _).length_eq];exact E.out);have E0:=hid e0;clear e0 z;go_wp2_with fail;refine(eI _ _).mono ?_;rintro e w5 ⟨rfl,rfl⟩;go_wp2_with fail;go_ret;refine⟨none,0,?_,?_,bel⟩
    ·rw[HN.out,E0.out];rfl
    ·rw[HN.out,E0.out];exact Row.zero
   ·have hd:Dat wr g q (fun i=>(used (kOf ks) t).getD i 0):=Wn z E.out;have ac:CmpOk w g t wr (kOf ks):=(by intro x y w2 hx hy hk;refine WI w2 w w t c x y A ks HN.out hx hy ((World.cell?_of_block (a:=⟨w,0,none⟩) (hk.block _ ⟨ah,pH⟩)).trans Q) ?_;exact(HA.out.below bel).keep fun p hp=>World.cell?_of_block (hk.block _ ⟨mz,mz⟩));have C:=fO wr w g q ab t (kOf ks) _ mz (fun i j h1 h2=>dL i j h1 (by rw[E.out];exact h2)) (by have:=YQ (k:=kOf ks) (m:=t);rw[E.out]at this;exact this) hd ac;have a1:=hd.lt;have CC:=hid C;clear C ac hd hh ai N z;go_wp2_with fail;refine CC.out.mono ?_;rintro e w5 ⟨rfl,f',hp,ae⟩;obtain⟨hl,af⟩:=Xe hp.1 ae E.out;have HL:=hid hl;have am:Below w w w5:=bel.trans (hp.2.below (fun b hb=>⟨mz,mz⟩));clear hp ae hl;go_wp2_with fail;go_ret;refine⟨some ⟨g,0,none⟩,ab,?_,?_,am⟩
    ·rw[HN.out,HL.out];rfl
    ·rw[HN.out,HL.out];exact af
end Lens
namespace Lens
open Srt Canon
def lenS(ks:List Nat)(L s:Nat):Nat:=
 if(vZ (kOf ks) ks.length).length<2 then if s∈vZ (kOf ks) ks.length then 1 else 0
 else BP (kOf ks) (vZ (kOf ks) ks.length) (L-1) (2*(vZ (kOf ks) ks.length).length-2) s
theorem mV(ks:List Nat)(L:Nat):IF ks L=(List.range ks.length).map (lenS ks L):=by
 unfold IF;show(if(vZ (kOf ks) ks.length).length<2 then _ else _)=_;split
 ·rename_i h;refine Kf fun s _=> ?_;unfold lenS;rw[Ae h]
 ·rename_i h;refine Kf fun s _=> ?_;unfold lenS;rw[Ab h]
theorem ok_parts(h:Ej ks i=0):
 ks.length<=300/\∃L:Nat,i=L/\1<=L/\L<=15/\(vZ (kOf ks) ks.length).length<=2 ^ L/\CV ks i=(List.range ks.length).map (lenS ks L):=by
 have h0:=h;unfold Ej at h;split at h
 ·cases h
 ·rename_i h1;split at h
  ·cases h
  ·rename_i h2;obtain⟨L,rfl⟩:∃L:Nat,i=L:=⟨i.toNat,mz⟩;refine⟨mz,L,rfl,mz,mz,Nat.le_of_not_lt h2,?_⟩;unfold CV;rw[Ae h0,Bw,mV]
theorem Nd(h:Ej ks i=0):(CV ks i).length=ks.length:=by obtain⟨_,L,_,_,_,_,e⟩:=ok_parts h;rw[e];simp
theorem Sa(h:s ∉ vZ (kOf ks) ks.length):lenS ks L s=0:=by
 unfold lenS;split
 ·rfl
 ·exact XI _ _ _ h
theorem RS{k f:Nat->Nat}(h:∀s,k s=0->f s=0):∀n,((List.range n).map f).sum=sm f (used k n)
 |0=>rfl
 |n+1=>by
  rw[GJ,EN,NH,RS h n,used];split
  ·rename_i h0;simp[h n h0]
  ·rw[KY];simp[sm]
theorem Vx{k f:Nat->Nat}(h:∀s,k s=0->f s=0)(n:Nat):((List.range n).map f).sum=sm f (vZ k n):=by rw[RS h n,YU (Jp k n)]
theorem Uy(h:kOf ks s=0):lenS ks L s=0:=Sa fun hs=>(JV.1 hs).2 h
theorem Lj(h1:1<=L)(h:(vZ (kOf ks) ks.length).length<=2 ^ L)(hs:s∈vZ (kOf ks) ks.length):1<=lenS ks L s/\lenS ks L s<=L:=by
 unfold lenS;split
 ·omega
 ·have h2:=(full (Jb (kOf ks) ks.length) mz h1 h).2 s hs;have h3:=Rk (k:=kOf ks) (S:=vZ (kOf ks) ks.length) (L-1) (2*(vZ (kOf ks) ks.length).length-2) s;omega
theorem WN(h1:1<=L)(h:(vZ (kOf ks) ks.length).length<=2 ^ L)(h2:2<=(vZ (kOf ks) ks.length).length):sm (fun s=>2 ^ (L-lenS ks L s)) (vZ (kOf ks) ks.length)=2 ^ L:=by have h3:=(full (Jb (kOf ks) ks.length) h2 h1 h).1;rw[<-h3];refine Ip fun s _=> ?_;unfold lenS;rw[Ab mz]
theorem WR(h:Ej ks i=0):JO (CV ks i)=if(vZ (kOf ks) ks.length).length=0 then 0 else if(vZ (kOf ks) ks.length).length=1 then 16384 else 32768:=by
 obtain⟨hn,L,rfl,h1,h2,h3,e⟩:=ok_parts h;unfold JO;rw[e,List.map_map,Vx (k:=kOf ks) (fun s hs=>by simp[Uy hs])];have e1:sm ((fun x=>if x=0 then 0 else 2 ^ (15-x)) ∘ lenS ks L) (vZ (kOf ks) ks.length)=sm (fun s=>2 ^ (15-lenS ks L s)) (vZ (kOf ks) ks.length):=Ip fun s hs=>by have:=(Lj h1 h3 hs).1;show(if lenS ks L s=0 then 0 else _)=_;rw[Ab mz]
 rw[e1];by_cases q0:(vZ (kOf ks) ks.length).length=0
 ·rw[Ae q0,Gr q0];rfl
 ·rw[Ab q0];by_cases q1:(vZ (kOf ks) ks.length).length=1
  ·rw[Ae q1];have hx:∀s∈vZ (kOf ks) ks.length,2 ^ (15-lenS ks L s)=16384:=fun s hs=>by have:lenS ks L s=1:=(by unfold lenS;rw[Ae mz,Ae hs]);rw[this]
   rw[Ip (g:=fun _=>16384) hx,JA,q1]
  ·rw[Ab q1];have hx:∀s∈vZ (kOf ks) ks.length,2 ^ (15-lenS ks L s)=2 ^ (15-L)*2 ^ (L-lenS ks L s):=fun s hs=>by have:=(Lj h1 h3 hs).2;rw[<-Nat.pow_add];congr 1;omega
   rw[Ip hx,We,WN h1 h3 mz,<-Nat.pow_add,show 15-L+L=15 by omega]
theorem Wx(h:Ej ks i=0):(CV ks i).countP (fun x=>decide (x≠0))=(vZ (kOf ks) ks.length).length:=by
 obtain⟨hn,L,rfl,h1,h2,h3,e⟩:=ok_parts h
 have j:∀n,((List.range n).map (lenS ks L)).countP (fun x=>decide (x≠0))=((List.range n).map fun s=>if lenS ks L s=0 then 0 else 1).sum:=by
  intro n
  induction n with
  |zero=>rfl
  |succ n ih=>rw[GJ,EN,EN,List.countP_append,NH,ih];by_cases hz:lenS ks L n=0<;>simp[hz]
 rw[e,j,Vx (k:=kOf ks) (fun s hs=>by rw[Ae (Uy hs)])];have hx:∀s∈vZ (kOf ks) ks.length,(if lenS ks L s=0 then 0 else 1)=1:=fun s hs=>by have:=(Lj h1 h3 hs).1;rw[Ab mz]
 rw[Ip (g:=fun _=>1) hx,JA,CG]
theorem V8{f:Nat->Nat}(h:s<n):((List.range n).map f).getD s 0=f s:=by rw[Ar,BE,List.getElem?_range h];rfl
end Lens
namespace Lens
open Srt Canon
theorem lX(hE:Ej ks 15=0)(hn:ks.length<=300):Dm (CV ks 15)=true:=by
 refine dJ (by rw[Nd hE];exact hn) fun x hx=> ?_;obtain⟨_,L,hL,h1,h2,h3,e⟩:=ok_parts hE;rw[e]at hx;obtain⟨s,_,rfl⟩:=Cc.1 hx;by_cases hm:s∈vZ (kOf ks) ks.length
 ·have:=(Lj h1 h3 hm).2;omega
 ·rw[Sa hm];omega
theorem Pa(hE:Ej ks 15=0)(hn:ks.length<=300):okB (CV ks 15)=true:=by
 have hg:=lX hE hn;have hu:=Wx hE;have hk:=WR hE;have hc:=jN hg
 have h0:GM (CV ks 15)=0:=by
  rw[hc,Ae];by_cases q0:(vZ (kOf ks) ks.length).length=0
  ·left;unfold Canon.used;rw[hu,q0]
  ·by_cases q1:(vZ (kOf ks) ks.length).length=1
   ·right;left
    refine⟨by unfold Canon.used;rw[hu,q1],?_⟩;have:cnt (CV ks 15) 1=(CV ks 15).countP (fun x=>decide (x≠0)):=(by unfold cnt;refine List.countP_congr fun x hx=> ?_;obtain⟨_,L,hL,h1,h2,h3,e⟩:=ok_parts hE;rw[e]at hx;obtain⟨s,_,rfl⟩:=Cc.1 hx;have h:lenS ks L s<=1:=(by unfold lenS;rw[Ae mz];split<;>omega);simp;omega);rw[this,hu,q1]
   ·right;right
    rw[hk,Ab q0,Ab q1]
 unfold GM at h0;split at h0
 ·assumption
 ·cases h0
end Lens
namespace Lens
open Go.RowKit Mem Own Srt Canon
def itL(X:List It):List Value:=X.flatMap fun x=> [.int .u64 (x.1:Nat), .bool (Cx x)]
def itF(X:List It):Nat->Nat->Value:=fun i j=>if j=0 then .int .u64 ((X.getD i (0,[])).1:Nat)else .bool (Cx (X.getD i (0,[])))
theorem Nj(a b:List It):itL (a++b)=itL a++itL b:=by simp[itL]
theorem UH(X:List It):(itL X).length=X.length*2:=by
 induction X with
 |nil=>rfl
 |cons x t ih=>simp only[itL,List.flatMap_cons,List.length_append,List.length_cons,List.length_nil]at ih ⊢;omega
theorem MY:∀ (X:List It) (i j:Nat),i<X.length->j<2->(itL X)[i*2+j]? =some (itF X i j)
 | [],i,j,h,_=>pJ
 |x :: t,0,j,_,hj=>by
  have:j=0∨j=1:=mz
  rcases this with rfl|rfl<;>simp[itL,itF]
 |x :: t,i+1,j,h,hj=>by have:=MY t i j p5 hj;rw[itL,Ct,show(i+1)*2+j=(i*2+j)+2 by omega,I4 pI];simpa[itF,itL]using this
def Its(X:List It)(t:Nat)(cs:Array Value):Prop:=cs.size=X.length*2/\∀i j,i<t->j<2->cs[i*2+j]? =some (itF X i j)
theorem Its.put{X:List It}{cs:Array Value}(h:Its X t cs)(ht:t<X.length){a b:Value}(ha:a=itF X t 0)(hb:b=itF X t 1):Its X (t+1) ((cs.setIfInBounds (t*2) a).setIfInBounds (t*2+1) b):=by
 refine⟨by simpa using h.1,fun i j hi hj=> ?_⟩;have hs:=h.1;rw[FE,FE];by_cases e1:t*2+1=i*2+j
 ·have:i=t:=by omega
  have y:j=1:=mz
  subst this y;rw[Ae rfl,Ae pQ,hb]
 ·rw[Ab e1];by_cases e2:t*2=i*2+j
  ·have:i=t:=mz;have y:j=0:=mz;subst this y;rw[Ae mz,Ae mz,ha]
  ·rw[Ab e2];exact h.2 i j mz hj
theorem Vn:(prog.info? 404).map (fun i=>(i.zero,i.size,i.bytes))=some (some (.agg #[.int .u64 0,false]),2,16):=mr
theorem Wt(n:Nat)(hn:n<=100000)(w:World):(Instr.makeSlice 399 (.int .i64 (n:Int)) (.int .i64 (n:Int))).run prog w=
 .ok (.slice (some ⟨w,0,none⟩) n n) (w.alloc (.cells (madeCells #[.int .u64 0,false] (n*2)) 404)):=by
 obtain⟨i0,hi,y,i,j⟩:=info_parts Vn;have h:=run_make (P:=prog) w 399 404 i0 (.agg #[.int .u64 0,false]) underlying399 hi y .i64 .i64 (n:Int) (n:Int) mz (Int.le_refl _) o7 mz;simp only[Int.toNat_natCast]at h;simpa[i,Value.cells]using h
def OwnIt(w:World)(base:Nat)(v:Value)(X:List It):Prop:=w.ownsRow base 404 2 v X.length (itL X)
theorem OwnIt.row{X:List It}(h:OwnIt w base (.slice A X.length c) X):Row w w A X.length 2 (itF X):=Row.of_own h rfl fun i j hi hj=>MY X i j hi hj
theorem OwnIt.shape{v:Value}{X:List It}(h:OwnIt w base v X):∃A c,v= .slice A X.length c:=bZ h
def Ql(X:List It)(w:World)(e:Ending)(w':World):Prop:=∃v,e= .returned v/\OwnIt w' w v X/\Below w w w'
theorem nC(w:World)(A B:Option Addr)(n c m d:Nat)(ks S:List Nat)(hn:ks.length=n)(hm:S.length=m)(hN:n<=100000)(hM:m<=n)(hS:∀s∈S,s<n)(y:∀x∈ks,x<4294967296)(ha:Row w w A n 1 (jZ .u32 ks))(hb:Row w w B m 1 (jZ .i64 S)):
 Calls prog 315 #[.slice A n c, .slice B m d] w (Ql (lv (kOf ks) S) w):=by
 have HN:=hid hn;have HM:=hid hm;have HA:=hid ha;have HB:=hid hb;have HS:=hid hS;have J:=hid y;have ab:=Wt m mz;clear hn hm ha hb hS y;go_enter func315,ntmps315;go_wp2_with fail;have E:Blk (w.alloc (.cells (madeCells #[.int .u64 0,false] (m*2)) 404)) w 404 _:=Blk.made _ _ _;have h:Below w w (w.alloc (.cells (madeCells #[.int .u64 0,false] (m*2)) 404)):=aZ (Ag _ _);have hI:Hid (Its (lv (kOf ks) S) 0 (madeCells #[.int .u64 0,false] (m*2))):=by refine⟨?_,fun i j hi _=>mz⟩;rw[GH,HM.out];simp[madeCells]
 go_loopw [13] (fun i wr=>∃ (t:Nat) (cs:Array Value),t<=m/\i= .int .i64 t/\Hid (Its (lv (kOf ks) S) t cs)/\Blk wr w 404 cs/\Below w w wr) (fun i _=>m-(intOf i).toNat)
 case atStart=>exact⟨0,_,mz,rfl,hI,E,h⟩
 case round=>
  clear E h hI;obtain⟨t,cs,ht,rfl,hI,bl,bel⟩:=hrel;by_cases G:t<m
  ·obtain⟨b,Z,s,rfl,Y,hs,c0⟩:=CF (HB.out.below bel) HM.out G;obtain⟨b',U,x,rfl,Q,hx,c1⟩:=CF (HA.out.below bel) HN.out (HS.out s (Bg hs));have aa:=HS.out s (Bg hs);have x0:(0:Int)<=(t:Int):=mz;have x1:(t:Int)<(m:Int):=mz;have x2:(0:Int)<=(s:Int):=mz;have x3:(s:Int)<(n:Int):=mz;have f0:=bl.frozen (t*2);have f1:=bl.frozen (t*2+1);have N:cs.size=m*2:=(by have:=hI.out.1;rwa [GH,HM.out]at this);have d0:=bl.cell (t*2);have d1:=bl.cell (t*2+1);rw[Ki mz]at d0 d1;generalize cs[t*2]' mz=o0 at d0;generalize cs[t*2+1]' mz=o1 at d1;have y:=J.out x (Bg hx);have s1:IntKind.u64.wrap (x:Int)=(x:Int):=by rw[Bv];omega
   have z:Its (lv (kOf ks) S) (t+1) ((cs.setIfInBounds (t*2) (.int .u64 (x:Nat))).setIfInBounds (t*2+1) (.bool true)):=by
    have hg:(lv (kOf ks) S).getD t (0,[])=(x,[s]):=(by rw[Ar,lv,BE,hs];simp[kOf,List.getD_eq_getElem?_getD,hx]);refine hI.out.put (by rw[GH,HM.out];exact G) ?_ ?_
    ·unfold itF;rw[Ae rfl,hg]
    ·unfold itF;rw[Ab mz,hg];rfl
   have M:=hid z;clear N z hs hx;go_wp2_with fail;go_roundw
   case rel=>go_light;exact⟨t+1,_,mz,jp,M,(bl.set _ _).set _ _,B4 (p:=⟨w.heap.size,t*2+1,none⟩) (Aq _) (B4 (p:=⟨w.heap.size,t*2,none⟩) (Aq _) bel)⟩
   case measure=>exact jo
  ·obtain rfl:t=m:=by omega
   go_wp2_with fail;go_ret;refine⟨_,rfl,?_,bel⟩;have e:(lv (kOf ks) S).length=t:=(by rw[GH,HM.out]);refine⟨?_, .inr ⟨w.heap.size,t,cs,by rw[e];rfl,Aq _,bl,by rw[e];exact Aq _,qg,by rw[hI.out.1,e],?_⟩⟩
   ·rw[UH]
   ·have hs:=hI.out.1;rw[e]at hs;refine List.ext_getElem? fun i=> ?_;rw[Gq];by_cases hi:i<(lv (kOf ks) S).length*2
    ·rw[Ae hi];have h1:=hI.out.2 (i / 2) (i % 2) (by rw[e]at hi;omega) mz;have h2:=MY (lv (kOf ks) S) (i / 2) (i % 2) mz mz;rw[show i / 2*2+i % 2=i by omega]at h1 h2;rw[Array.getElem?_toList,h1,h2]
    ·rw[Ab hi,Fp];rw[UH];omega
theorem MT{B:Nat}{X:List It}(h:Row w B A n 2 (itF X))(hn:X.length=n)(hk:k<n):
 ∃b i x,A=some ⟨b,i,none⟩/\b<B/\X[k]? =some x/\w.cell? ⟨b,i+k*2,none⟩=some (.int .u64 (x.1:Nat))/\w.cell? ⟨b,i+k*2+1,none⟩=some (.bool (Cx x)):=by
 obtain⟨b,i,e,hb,hc⟩:=h mz;have hl:k<X.length:=mz
 have h0:=hc k 0 hk mz;have h1:=hc k 1 hk mz;have hg:X.getD k (0,[])=X[k]:=by rw[Ar,AD hl];rfl
 rw[itF,Ae rfl,hg]at h0;rw[itF,Ab mz,hg]at h1;exact⟨b,i,X[k],e,hb,AD hl,h0,h1⟩
def MAt(X Y:List It)(i k:Nat)(done:List It):Prop:=done++mrg (X.drop i) (DY (Y.drop k))=mrg X (DY Y)
theorem MAt.len{X Y:List It}{i:Nat}{done:List It}(h:MAt X Y i k done):done.length<=X.length+Y.length:=by have:=AE List.length h;rw[Aj,No,No,JB,JB]at this;omega
theorem drop_at{α:Type}{l:List α}{i:Nat}{x:α}(h:l[i]? =some x):l.drop i=x :: l.drop (i+1):=by obtain⟨hi,rfl⟩:=CE.1 h;exact Df hi
theorem MAt.leaf{X Y:List It}{i:Nat}{done:List It}{x:It}(h:MAt X Y i k done)(hx:X[i]? =some x)(hc:Y.length<=k+1∨∃y z,Y[k]? =some y/\Y[k+1]? =some z/\x.1<=y.1+z.1):MAt X Y (i+1) k (done++ [x]):=by
 unfold MAt at h ⊢;rw[<-h,drop_at hx,AJ];congr 1;rcases hc with hc|⟨y,z,hy,hz,j⟩
 ·rw[VT (l:=Y.drop k) nm,Ld,Ld];rfl
 ·rw[drop_at hy,drop_at hz,La,KI (by exact j)];rfl
theorem MAt.pair{X Y:List It}{i:Nat}{done:List It}{y z:It}(h:MAt X Y i k done)(hy:Y[k]? =some y)(hz:Y[k+1]? =some z)(hc:X.length<=i∨∃x,X[i]? =some x/\¬x.1<=y.1+z.1):MAt X Y i (k+2) (done++ [(y.1+z.1,y.2++z.2)]):=by
 unfold MAt at h ⊢;rw[<-h,drop_at hy,drop_at hz,La,AJ];congr 1;rcases hc with hc|⟨x,hx,j⟩
 ·rw[Eb hc,JD,JD];rfl
 ·rw[drop_at hx,Ky (by exact j)];rfl
theorem MAt.done{X Y:List It}{i k:Nat}{done:List It}(h:MAt X Y i k done)(hi:X.length<=i)(hk:Y.length<=k+1):done=mrg X (DY Y):=by unfold MAt at h;rw[Eb hi,JD,VT nm,Ce]at h;exact h
theorem m8{y z:It}(hy:y.2≠ [])(hz:z.2≠ []):Cx (y.1+z.1,y.2++z.2)=false:=by have h1:=FD.2 hy;have h2:=FD.2 hz;unfold Cx;rw[FQ,Aj];omega
theorem next_any(w:World)(A B:Option Addr)(n c m d M:Nat)(X Y:List It)(hn:X.length=n)(hm:Y.length=m)(hN:n<=1000)(hM:m<=1000)(hX:∀x∈X,Cx x=true)(hY:∀y∈Y,y.2≠ []/\y.1<=M)(bq:2*M<18446744073709551616)(ha:Row w w A n 2 (itF X))(hb:Row w w B m 2 (itF Y)):
 Calls prog 316 #[.slice A n c, .slice B m d] w (Ql (mrg X (DY Y)) w):=by
 have HN:=hid hn;have HM:=hid hm;have HA:=hid ha;have HB:=hid hb;have HX:=hid hX;have HY:=hid hY;obtain⟨j0,au,aw,al,am⟩:=info_parts Vn;obtain⟨h2,bj⟩:=ii (m / 2)
 have bg:∀w,(Instr.makeSlice 399 (.int .i64 (0:Int)) (.int .i64 ((n:Int)+(m:Int) / 2))).run prog w=
  .ok (.slice (some ⟨w,0,none⟩) 0 (n+h2)) (w.alloc (.cells (madeCells #[.int .u64 0,false] ((n+h2)*2)) 404)):=by
  intro w;have h:=run_make (P:=prog) w 399 404 j0 (.agg #[.int .u64 0,false]) underlying399 au aw .i64 .i64 0 ((n:Int)+(m:Int) / 2) mz mz (by rw[am];omega) mz;rw[show((n:Int)+(m:Int) / 2).toNat=n+h2 by omega]at h;simpa[al,Value.cells]using h
 have bC:h2<=m:=mz
 clear hn hm ha hb hX hY bj;go_enter func316,ntmps316;go_wp2_with fail;have ar:(w.alloc (.cells (madeCells #[.int .u64 0,false] ((n+h2)*2)) 404)).ownsRow w 404 2 (.slice (some ⟨w,0,none⟩) 0 (n+h2)) 0 (itL []):=World.ownsRow_made w _ _ (Aq _) qg (size_madeCells _ _);have a0:Below w w (w.alloc (.cells (madeCells #[.int .u64 0,false] ((n+h2)*2)) 404)):=aZ (Ag _ _);go_loopw [5,6,7] (fun v iv kv wr=>∃ (i k q:Nat) (done:List It),i<=n/\k<=m/\q<=2001/\iv= .int .i64 i/\kv= .int .i64 k/\Hid (done.length=q)/\wr.ownsRow w 404 2 v q (itL done)/\Hid (MAt X Y i k done)/\Below w w wr) (fun _ i k _=>(n-(intOf i).toNat)+(m-(intOf k).toNat))
 case atStart=>exact⟨0,0,0,[],mz,mz,mz,rfl,rfl,rfl,ar,rfl,a0⟩
 case round=>
  clear a0 ar bg;obtain⟨i,k,q,done,hi,hk,hq,rfl,rfl,aj,N,av,bel⟩:=hrel;have ay:=bel.size;have bu:q<=n+m:=by have:=av.out.len;rw[aj.out,HN.out,HM.out]at this;exact this
  obtain⟨va,vc,rfl⟩:=bZ N;have hr:Hid (∀k,(Value.slice va q vc).ownBlock=some k->w.heap.size<=k):=fun k hk=>(Am N k hk).1;have x0:(0:Int)<=(i:Int):=mz
  have z0:(0:Int)<=(k:Int):=mz
  by_cases bt:k+1<m
  ·obtain⟨b,bp,y,rfl,bn,hy,c0,_⟩:=MT (HB.out.below bel) HM.out (k:=k) mz;obtain⟨b',bm,z,e2,bl,hz,c1,_⟩:=MT (HB.out.below bel) HM.out (k:=k+1) mz;injection e2 with e2;injection e2 with e3 e4;subst e3 e4;have a9:=HY.out y (Bg hy);have a3:=HY.out z (Bg hz);have ax:=m8 a9.1 a3.1;have aa:=av.out.pair hy hz;have Z:=fun x hx a1=>av.out.leaf (x:=x) hx (.inr ⟨y,z,hy,hz,a1⟩);have bb:=a9.2;have bd:=a3.2;obtain⟨ya,ys⟩:=y;obtain⟨za,zs⟩:=z;simp only at c0 c1 ax aa Z bb bd;obtain⟨ww,bf⟩:=ii (ya+za);rw[<-bf]at ax aa Z;have an:=hid aa;have ae:=hid Z;have ba:=hid ax;have E:Hid ((ya:Int)+(za:Int)=(ww:Int)):=px;have s3:IntKind.u64.wrap ((ya:Int)+(za:Int))=(ya:Int)+(za:Int):=n5;have s1:IntKind.i64.wrap ((k:Int)+1)=(k:Int)+1:=Aw _ mz;have z1:(k:Int)<(m:Int):=mz;have z2:(0:Int)<=(k:Int)+1:=mz;have z3:(k:Int)+1<(m:Int):=mz;have z5:((k:Int)+1).toNat=k+1:=mz;have aq:Hid (((k:Int)+1).toNat=k+1/\IntKind.i64.wrap ((k:Int)+1)=(k:Int)+1/\IntKind.u64.wrap ((ya:Int)+(za:Int))=(ya:Int)+(za:Int)):=⟨z5,s1,s3⟩;have HO:=hid N;have ah:=hid bel;clear hy hz a9 a3 ax aa Z bf s1 s3 z5 N bel;by_cases a4:i<n
   ·obtain⟨b2,ai,x,rfl,bc,hx,d0,d1⟩:=MT (HA.out.below ah.out) HN.out a4;obtain⟨xa,xs⟩:=x;simp only at d0;have x1:(i:Int)<(n:Int):=mz;have a5:=hid hx;obtain⟨lb,ac⟩:=ii (Cx (xa,xs));rw[<-ac]at d1;have a6:=hid ac;clear hx ac;by_cases a1:xa<=ww
    ·go_wp2_with fail;obtain⟨z5,s1,s3⟩:=aq.out;go_quiet (fail);clear z5 s1 s3;rw[E.out];have G:(wr.drewN nq).ownsRow w 404 2 (.slice va q vc) q (itL done):=eZ HO.out (fun _ _=>rfl);have J:Below w w (wr.drewN nq):=below_drewN ah.out nq;have bh:(wr.drewN nq).cell? ⟨b2,ai+i*2,none⟩=some (.int .u64 (xa:Nat)):=d0;have bx:(wr.drewN nq).cell? ⟨b2,ai+i*2+1,none⟩=some (.bool lb):=d1;have U:w.heap.size<=(wr.drewN nq).heap.size:=ay;generalize wr.drewN nq=wq at *;have af:=hid G;have Q:=hid J;clear G J d0 d1 c0 c1 HO ah;go_wp2_with(at_builtin;refine iZ rfl (.tmp 66) (.tmp 71) 399 rfl w 404 j0 _ 2 16 underlying399 au aw al am rfl ip _ _ _ nc (af.out.alloc _) _ 1 1 [.int .u64 (xa:Nat), .bool lb] nc (Src.of_blk (Blk.made _ _ _) 1 1 2 rfl) ml qg mz pQ ?_;intro v4 w4 j ab ak);go_roundw
     case measure=>exact jo
     case rel=>
      go_light;refine⟨i+1,k,q+1,done++ [(xa,xs)],mz,mz,mz,jp,rfl,?_,?_,ae.out _ a5.out a1,(mZ U Q.out).grown ab pQ (fun k hk=>hr.out k hk)⟩
      ·show _=_;rw[Aj,aj.out];rfl
      ·rw[Nj];rw[a6.out]at j;exact j
    ·have bk:ww<xa:=mz;go_wp2_with fail;obtain⟨z5,s1,s3⟩:=aq.out;go_quiet (fail);clear z5 s1 s3;rw[E.out];have G:(wr.drewN nq).ownsRow w 404 2 (.slice va q vc) q (itL done):=eZ HO.out (fun _ _=>rfl);have J:Below w w (wr.drewN nq):=below_drewN ah.out nq;have U:w.heap.size<=(wr.drewN nq).heap.size:=ay;have bh:(wr.drewN nq).cell? ⟨b2,ai+i*2,none⟩=some (.int .u64 (xa:Nat)):=d0;clear d0 d1;generalize wr.drewN nq=wq at *;have af:=hid G;have Q:=hid J;clear G J c0 c1 HO ah;go_wp2_with(at_builtin;refine iZ rfl (.tmp 75) (.tmp 78) 399 rfl w 404 j0 _ 2 16 underlying399 au aw al am rfl ip _ _ _ nc (af.out.alloc _) _ 1 1 [.int .u64 (ww:Nat), .bool false] nc (Src.of_blk (Blk.made _ _ _) 1 1 2 rfl) ml qg mz pQ ?_;intro v4 w4 j ab ak);go_roundw
     case measure=>exact jo
     case rel=>
      go_light;refine⟨i,k+2,q+1,done++ [(ww,ys++zs)],mz,mz,mz,rfl,jp,?_,?_,an.out (.inr ⟨_,a5.out,mz⟩),(mZ U Q.out).grown ab pQ (fun k hk=>hr.out k hk)⟩
      ·show _=_;rw[Aj,aj.out];rfl
      ·rw[Nj];rw[<-ba.out]at j;exact j
   ·go_wp2_with fail;obtain⟨z5,s1,s3⟩:=aq.out;go_quiet (fail);clear z5 s1 s3;rw[E.out];have G:(wr.drewN nq).ownsRow w 404 2 (.slice va q vc) q (itL done):=eZ HO.out (fun _ _=>rfl);have J:Below w w (wr.drewN nq):=below_drewN ah.out nq;have U:w.heap.size<=(wr.drewN nq).heap.size:=ay;generalize wr.drewN nq=wq at *;have af:=hid G;have Q:=hid J;clear G J c0 c1 HO ah;go_wp2_with(at_builtin;refine iZ rfl (.tmp 75) (.tmp 78) 399 rfl w 404 j0 _ 2 16 underlying399 au aw al am rfl ip _ _ _ nc (af.out.alloc _) _ 1 1 [.int .u64 (ww:Nat), .bool false] nc (Src.of_blk (Blk.made _ _ _) 1 1 2 rfl) ml qg mz pQ ?_;intro v4 w4 j ab ak);go_roundw
    case measure=>exact jo
    case rel=>
     go_light;refine⟨i,k+2,q+1,done++ [(ww,ys++zs)],mz,mz,mz,rfl,jp,?_,?_,an.out (.inl ou),(mZ U Q.out).grown ab pQ (fun k hk=>hr.out k hk)⟩
     ·show _=_;rw[Aj,aj.out];rfl
     ·rw[Nj];rw[<-ba.out]at j;exact j
  ·have be:m<=k+1:=mz;by_cases a4:i<n
   ·obtain⟨b2,ai,x,rfl,bc,hx,d0,d1⟩:=MT (HA.out.below bel) HN.out a4;obtain⟨xa,xs⟩:=x;simp only at d0;have x1:(i:Int)<(n:Int):=mz;have a5:=hid hx;obtain⟨lb,ac⟩:=ii (Cx (xa,xs));rw[<-ac]at d1;have a6:=hid ac;have ae:=hid (av.out.leaf (x:=(xa,xs)) hx (.inl (by rw[HM.out];exact be)));have af:=hid N;have Q:=hid bel;have U:=ay;clear hx ac N bel;go_wp2_with(at_builtin;refine iZ rfl (.tmp 32) (.tmp 37) 399 rfl w 404 j0 _ 2 16 underlying399 au aw al am rfl ip _ _ _ nc (af.out.alloc _) _ 1 1 [.int .u64 (xa:Nat), .bool lb] nc (Src.of_blk (Blk.made _ _ _) 1 1 2 rfl) ml qg mz pQ ?_;intro v4 w4 j ab ak);go_roundw
    case measure=>exact jo
    case rel=>
     go_light;refine⟨i+1,k,q+1,done++ [(xa,xs)],mz,mz,mz,jp,rfl,?_,?_,ae.out,(mZ U Q.out).grown ab pQ (fun k hk=>hr.out k hk)⟩
     ·show _=_;rw[Aj,aj.out];rfl
     ·rw[Nj];rw[a6.out]at j;exact j
   ·have ag:=av.out.done ou (by rw[HM.out];exact be);have az:(mrg X (DY Y)).length=q:=(by rw[<-ag];exact aj.out);have HD:=hid ag;have bi:=hid az;clear ag az;go_wp2_with fail;go_ret;refine⟨_,rfl,?_,bel⟩;show World.ownsRow _ _ _ _ _ _ _;rw[bi.out,<-HD.out];exact N
end Lens
namespace Lens
open Go.RowKit Mem Own Srt Canon
def IV(ks:List Nat)(limit:Int)(w:World)(e:Ending)(w':World):Prop:=
 ∃A c,e= .returned (.tuple #[.slice A (CV ks limit).length c, .int .i64 (Ej ks limit)])/\Row w' w' A (CV ks limit).length 1 (jZ .u8 (CV ks limit))/\Wf A (CV ks limit).length c/\Below w w w'/\(0<(CV ks limit).length->∀p,A=some p->w.heap.size<=p.block)
theorem Mi{e:Ending}{x:Int}(hx:x≠0)(h:Ej ks i=x)(he:e= .returned (.tuple #[(),x]))(hb:Below w w w'):IV ks i w e w':=by
 have h0:CV ks i= []:=by unfold CV;rw[Ab (by rw[h];exact hx)]
 refine⟨none,0,?_,?_,?_,hb,fun _ p hp=>by cases hp⟩
 ·rw[he,h0,h];rfl
 ·rw[h0];exact Row.zero
 ·rw[h0];exact Wf.nil
theorem k7(w:World)(A:Option Addr)(n c:Nat)(ks:List Nat)(i:Int)(hn:ks.length=n)(hN:n<=9223372036854775807)(j: -9223372036854775808<=i)(y:i<=9223372036854775807)(h:n>300∨i<1∨i>15):
 Calls prog 275 #[.slice A n c,i] w (IV ks i w):=by
 have hE:Hid (Ej ks i=13):=by show _=_;unfold Ej;rw[hn,Ae h]
 clear hn;by_cases h1:300<n
 ·clear h;go_enter func275,ntmps275;go_wp2_with fail;go_ret2;exact Mi ip hE.out rfl (Ag _ _)
 ·have g1:=ig ((300:Int)<n)
  have g2:=ig (300<n)
  by_cases h2:i<1
  ·clear h;have g3:decide (i<1)=true:=p6;go_enter func275,ntmps275;go_wp2_with fail;go_ret2;exact Mi ip hE.out rfl (Ag _ _)
  ·have h3:15<i:=mz;have g3:=ig (i<1);have g4:decide (15<i)=true:=(by simpa using h3);clear h;go_enter func275,ntmps275;go_wp2_with fail;go_ret2;exact Mi ip hE.out rfl (Ag _ _)
theorem O6(h:L<=15):wrap64 ((2:Int) ^ L)=((2 ^ L:Nat):Int):=by
 have h1:2 ^ L<=2 ^ 15:=Cl mz h;have e:(2:Int) ^ L=((2 ^ L:Nat):Int):=pI
 rw[e];generalize 2 ^ L=p at *;have h2:p<=32768:=h1;unfold wrap64;omega
theorem mF(w:World)(A:Option Addr)(n c L:Nat)(ks:List Nat)(hn:ks.length=n)(hN:n<=300)(z:1<=L)(i:L<=15)(h:2 ^ L<(vZ (kOf ks) n).length)(ha:Row w w A n 1 (jZ .u32 ks)):
 Calls prog 275 #[.slice A n c,L] w (IV ks L w):=by
 have hE:Hid (Ej ks L=6):=by show _=_;unfold Ej;rw[Ab mz,Ae];rw[hn];exact h
 have C:=Pj w A n c ks hn mz ha;unfold My at C;have HN:=hid hn;rw[hn]at C;have C:=hid C;have g1:=ig ((300:Int)<n)
 have g2:=ig (300<n)
 have g3:=ig ((L:Int)<1)
 have g4:=ig ((15:Int)<L)
 have g5:=ig (L<1)
 have g6:=ig (15<L)
 clear ha hn;have t1:decide (wrap64 ((2:Int) ^ L)<((vZ (kOf ks) n).length:Int))=true:=by rw[O6 i];exact Be (Int.ofNat_lt.2 h)
 generalize vZ (kOf ks) n=S at *;go_enter func275,ntmps275;go_wp2_with fail;refine C.out.mono ?_;rintro e w1 ⟨A1,c1,rfl,y,j⟩;go_wp2_with fail;go_ret2;exact Mi ip hE.out rfl j
theorem j7:(prog.info? 5).map (fun i=>(i.zero,i.size,i.bytes))=some (some (.int .u8 0),1,1):=mr
theorem make_u8(n:Nat)(hn:n<=8388608)(w:World):(Instr.makeSlice 28 (.int .i64 (n:Int)) (.int .i64 (n:Int))).run prog w=
 .ok (.slice (some ⟨w,0,none⟩) n n) (w.alloc (.cells (madeCells #[.int .u8 0] n) 5)):=by
 obtain⟨i0,hi,y,i,j⟩:=info_parts j7;have h:=run_make (P:=prog) w 28 5 i0 (.int .u8 0) underlying28 hi y .i64 .i64 (n:Int) (n:Int) mz (Int.le_refl _) o7 mz;simp only[Int.toNat_natCast]at h;simpa[i,Value.cells]using h
def U8s(f:Nat->Nat)(n:Nat)(cs:Array Value):Prop:=cs.size=n/\∀i,i<n->cs[i]? =some (.int .u8 (f i:Nat))
theorem U8s.made(n:Nat):U8s (fun _=>0) n (madeCells #[.int .u8 0] n):=na
theorem U8s.set{f g:Nat->Nat}{cs:Array Value}(h:U8s f n cs){i v:Nat}(hv:g i=v)(ho:∀j,j≠i->g j=f j):U8s g n (cs.setIfInBounds i (.int .u8 (v:Nat))):=by
 refine⟨by simpa using h.1,fun j hj=> ?_⟩;have hs:=h.1;rw[FE];by_cases e:i=j
 ·subst e;rw[Ae rfl,Ae mz,hv]
 ·rw[Ab e,h.2 j hj,ho j (AZ e)]
theorem U8s.row{f:Nat->Nat}{cs:Array Value}(h:U8s f n cs)(hb:Blk w g 5 cs)(hl:l=(List.range n).map f):Row w w (some ⟨g,0,none⟩) n 1 (jZ .u8 l):=by
 subst hl;refine Row.of_blk hb hb.lt fun i j hi hj=> ?_;obtain rfl:j=0:=mz
 rw[CG,Bj,h.2 i hi];unfold jZ;rw[Ar,BE,List.getElem?_range hi];rfl
theorem NQ{e:Ending}{f:Nat->Nat}{cs:Array Value}(hE:Ej ks i=0)(hl:IF ks i.toNat=(List.range n).map f)
 (h:U8s f n cs)(hb:Blk w' g 5 cs)(he:e= .returned (.tuple #[.slice (some ⟨g,0,none⟩) n n,ij]))(y:Below w w w')(hg:w.heap.size<=g):IV ks i w e w':=by
 have h0:CV ks i=(List.range n).map f:=by unfold CV;rw[Ae hE,hl]
 have j:(CV ks i).length=n:=by rw[h0];simp
 refine⟨some ⟨g,0,none⟩,n,?_,?_,?_,y,fun _ p hp=>by cases hp;exact hg⟩
 ·rw[he,hE,j]
 ·rw[j];exact h.row hb h0
 ·rw[j];exact Wf.some (Aq _)
theorem jG(w:World)(A:Option Addr)(n c L:Nat)(ks:List Nat)(hn:ks.length=n)(hN:n<=300)(G:1<=L)(M:L<=15)(h:(vZ (kOf ks) n).length<2)(ha:Row w w A n 1 (jZ .u32 ks)):
 Calls prog 275 #[.slice A n c,L] w (IV ks L w):=by
 have Q:2<=2 ^ L:=by have:=Cl (n:=2) mz G;simpa using this
 have hE:Hid (Ej ks L=0):=pD
 have C:=Pj w A n c ks hn mz ha;unfold My at C;have HN:=hid hn;rw[hn]at C;have C:=hid C;have g1:=ig ((300:Int)<n)
 have g2:=ig (300<n)
 have g3:=ig ((L:Int)<1)
 have g4:=ig ((15:Int)<L)
 have g5:=ig (L<1)
 have g6:=ig (15<L)
 have t1:decide (wrap64 ((2:Int) ^ L)<((vZ (kOf ks) n).length:Int))=false:=by rw[O6 M];exact Bi (by rw[Int.ofNat_lt];omega)
 have hV:Hid (IF ks L=(List.range n).map fun s=>if s∈vZ (kOf ks) n then 1 else 0):=by show _=_;unfold IF;rw[hn];show(if(vZ (kOf ks) n).length<2 then _ else _)=_;rw[Ae h]
 have HS:Hid (∀s∈vZ (kOf ks) n,s<n):=fun s hs=>(JV.1 hs).1;have Y:=make_u8 n mz;clear ha hn;generalize vZ (kOf ks) n=S at *;have h2:S.length=0∨S.length=1:=mz
 rcases h2 with h2|h2
 ·obtain rfl:S= []:=Gr h2;clear h2 h;simp only[List.length_nil]at C;have t2:decide (wrap64 ((2:Int) ^ L)<0)=false:=t1;clear t1;go_enter func275,ntmps275;go_wp2_with fail;refine C.out.mono ?_;rintro e w1 ⟨A1,c1,rfl,z,y⟩;go_wp2_with fail;go_ret2;refine NQ hE.out (by rw[Bw,hV.out]) (cs:=madeCells #[.int .u8 0] n) ?_ (Blk.made _ _ _) rfl (mZ y.size y) y.size;have:=U8s.made n;simpa using this
 ·obtain⟨s,rfl⟩:∃s,S= [s]:=List.length_eq_one_iff.1 h2;clear h2 h;simp only[List.length_cons,List.length_nil,Nat.zero_add]at C;have t2:decide (wrap64 ((2:Int) ^ L)<1)=false:=t1;clear t1;have hs:=HS.out s pI;go_enter func275,ntmps275;go_wp2_with fail;refine C.out.mono ?_;rintro e w1 ⟨A1,c1,rfl,z,y⟩;obtain⟨b,U,x,rfl,N,hx,c0⟩:=CF z pI (i:=0) mz;simp at hx;subst hx;have E:=y.size;have bl:=Blk.made w1 5 (madeCells #[.int .u8 0] n);have hU:=U8s.made n;have d0:=bl.cell s;rw[hU.2 s hs]at d0;have f0:=bl.frozen s;have HU:Hid (U8s (fun i=>if i∈ [s]then 1 else 0) n ((madeCells #[.int .u8 0] n).setIfInBounds s (.int .u8 1))):=hU.set (v:=1) pI (fun j hj=>by simp[hj]);have J:=y;clear hU;have x2:(0:Int)<=(s:Int):=by omega
  have x3:(s:Int)<(n:Int):=mz
  rw[Bj]at c0;go_wp2_with fail;go_ret2;exact NQ hE.out (by rw[Bw,hV.out]) HU.out (Blk.made _ _ _) rfl (mZ E J) E
def RowsAt(w:World)(base:Nat)(k:Nat->Nat)(S:List Nat)(lf v:Value)(vals:List Value):Prop:=
 OwnIt w base lf (lv k S)/\w.ownsRow base 399 1 v vals.length vals/\∀i x,vals[i]? =some x->OwnIt w base x (rowN (lv k S) i)
theorem OwnIt.kept{v:Value}{X:List It}(h:OwnIt w base v X)(hk:∀g,v.ownBlock=some g->w'.heap[g]? =w.heap[g]?):OwnIt w' base v X:=eZ h hk
theorem RowsAt.kept{k:Nat->Nat}{v:Value}(h:RowsAt w base k S lf v vals)(hk:∀g,base<=g->g<w.heap.size->w'.heap[g]? =w.heap[g]?):RowsAt w' base k S lf v vals:=by
 obtain⟨h1,h2,h3⟩:=h;refine⟨h1.kept (fun g hg=> ?_),eZ h2 (fun g hg=> ?_),fun i x hx=>(h3 i x hx).kept (fun g hg=> ?_)⟩
 ·have:=Am h1 g hg;exact hk g this.1 this.2
 ·have:=Am h2 g hg;exact hk g this.1 this.2
 ·have:=Am (h3 i x hx) g hg;exact hk g this.1 this.2
theorem RowsAt.push{k:Nat->Nat}{v v' x:Value}(h:RowsAt w base k S lf v vals)(hx:OwnIt w base x (rowN (lv k S) vals.length))
 (ho:w'.ownsRow base 399 1 v' (vals.length+1) (vals++ [x]))(hg:w.grownBy w' v.ownBlock):RowsAt w' base k S lf v' (vals++ [x]):=by
 obtain⟨h1,h2,h3⟩:=h
 have keep:∀ (y:Value) (X:List It),OwnIt w base y X->OwnIt w' base y X:=fun y X hy=>hy.kept fun g hgy=>by
  refine hg.block g (Am hy g hgy).2 ?_;rcases EZ hy h2 ip with h0|h0
  ·rw[h0]at hgy;cases hgy
  ·rw[<-hgy];exact h0
 refine⟨keep _ _ h1,by simpa using ho,fun i y hy=> ?_⟩;rw[List.getElem?_append]at hy;split at hy
 ·exact keep y _ (h3 i y hy)
 ·have hi:i-vals.length< [x].length:=(CE.1 hy).1;have hm:=Bg hy;simp at hm hi;subst hm;have:i=vals.length:=by omega
  rw[this];exact keep y _ hx
theorem RowsAt.at_{k:Nat->Nat}{v:Value}(h:RowsAt w base k S lf v vals){i:Nat}(hi:i<vals.length):
 ∃g j A c,v= .slice (some ⟨g,0,none⟩) vals.length j/\base<=g/\g<w.heap.size/\w.cell? ⟨g,i,none⟩=some (.slice A (rowN (lv k S) i).length c)/\OwnIt w base (.slice A (rowN (lv k S) i).length c) (rowN (lv k S) i):=by
 obtain⟨h1,h2,h3⟩:=h;have hv:vals[i]? =some vals[i]:=AD hi;have ho:=h3 i _ hv;obtain⟨A,c,hs⟩:=ho.shape;rcases h2.2 with ⟨_,h0⟩|⟨g,j,cur,z,hb,hh,G,E,J,y⟩
 ·omega
 ·refine⟨g,j,A,c,z,hb,Blk.lt hh,?_,by rw[hs]at ho;exact ho⟩;have h4:vals[i]? =cur[i]? :=by have h5:(cur.toList.take (vals.length*1))[i]? =vals[i]? :=(by rw[y]);rw[<-h5,Gq,Ae mz];simp
  rw[Blk.cell (t:=399) hh,<-h4,hv,hs]
theorem OwnIt.cells{X:List It}(h:OwnIt w base (.slice A X.length c) X)(h0:0<X.length):
 ∃g,A=some ⟨g,0,none⟩/\base<=g/\g<w.heap.size/\X.length<=c/\c<=maxLen/\∀i x,X[i]? =some x->w.cell? ⟨g,i*2,none⟩=some (.int .u64 (x.1:Nat))/\w.cell? ⟨g,i*2+1,none⟩=some (.bool (Cx x)):=by
 rcases h.2 with ⟨_,h1⟩|⟨g,J,cur,hv,hb,hh,G,E,M,y⟩
 ·omega
 ·injection hv with e1 e2 e3;subst e1 e3;refine⟨g,rfl,hb,Blk.lt hh,G,E,fun i x hx=> ?_⟩;have hi:i<X.length:=(CE.1 hx).1;have hg:X.getD i (0,[])=x:=by rw[Ar,hx];rfl
  have z:∀j,j<2->w.cell? ⟨g,i*2+j,none⟩=some (itF X i j):=fun j hj=>by rw[Blk.cell (t:=404) hh,<-MY X i j hi hj,<-y,Gq,Ae mz];simp
  have k0:=z 0 mz;have k1:=z 1 mz;rw[itF,Ae rfl,hg]at k0;rw[itF,Ab mz,hg]at k1;exact⟨k0,k1⟩
def Jd(k:Nat->Nat)(S:List Nat):Nat->Nat->Nat->Nat
 |0,_,_=>0
 |R+1,t,s=>BP k S R t s
def Om(k:Nat->Nat)(S:List Nat)(R t:Nat):Prop:=R=0∨t<=(rowN (lv k S) (R-1)).length
theorem lH{k:Nat->Nat}(R t s:Nat)(ht:t<=(rowN (lv k S) R).length):
 Jd k S (R+1) t s=(if s∈S.take (nl (rowN (lv k S) R) t)then 1 else 0)+Jd k S R (2*(t-nl (rowN (lv k S) R) t)) s/\Om k S R (2*(t-nl (rowN (lv k S) R) t)):=by
 rcases R with _|R
 ·exact⟨rfl, .inl rfl⟩
 ·obtain⟨n,q,h1,h2,h3,h4,_⟩:=row_take R t ht;refine⟨rfl, .inr ?_⟩;rw[h4,Nat.add_sub_cancel];rw[show t-n=q by omega];exact h3
def MX(k:Nat->Nat)(S:List Nat)(L:Nat)(R t:Nat)(f:Nat->Nat):Prop:=∀s,BP k S (L-1) (2*S.length-2) s=f s+Jd k S R t s
def InAt(S:List Nat)(f0 f:Nat->Nat)(m:Nat):Prop:=∀s,f s=f0 s+if s∈S.take m then 1 else 0
theorem InAt.step{f0 f:Nat->Nat}(hS:S.Nodup)(h:InAt S f0 f m)(hs:S[m]? =some s):InAt S f0 (fun j=>if j=s then f s+1 else f j) (m+1)/\f s=f0 s:=by
 have y:m<S.length:=(CE.1 hs).1;have i:S.take (m+1)=S.take m++ [s]:=by rw[Cm,hs];rfl
 have hn:s ∉ S.take m:=by intro hm;have h2:=hS.sublist (List.take_sublist (m+1) S);rw[i,List.nodup_append]at h2;exact h2.2.2 s hm s pI rfl
 have h1:=h s;rw[Ab hn]at h1;refine⟨fun j=> ?_,mz⟩;show(if j=s then f s+1 else f j)=_;rw[i];by_cases e:j=s
 ·subst e;rw[Ae rfl,Ae pI];omega
 ·rw[Ab e,h j];simp[e]
theorem lM(X:List It)(i:Nat):nl X i<=i:=by unfold nl;have:=List.countP_le_length (p:=Cx) (l:=X.take i);rw[Bd]at this;omega
theorem run_head{P:Program}{t e:TypeId}(ht:P.underlying t=some (.slice e))(hs:∀w,(sizeOf e).run P w= .ok s w)(A:Option Addr)(len i:Nat)(kh:IntKind)(h:Int)(m:Nat)(hh:h=m)(hm:m<=i)(w:World):
 (Instr.slice t (.slice A len i) none (some (.int kh h)) none).run P w= .ok (.slice (AW A 0 i s) m i) w:=by
 subst hh;have he:P.elem t=e:=pS
 rw[run_slice_h w t A len i oW kh (m:Int) mz mz,he,hs];rfl
end Lens
namespace Lens
open Go.RowKit Mem Own Srt Canon
theorem mB:(prog.info? 399).map (fun i=>(i.zero,i.size,i.bytes))=some (some (.slice none 0 0),1,24):=mr
def lenOf:Value->Nat
 | .slice _ n _=>n
 |_=>0
structure Syms (ks:List Nat) (n:Nat) (S:List Nat):Prop where
 sorted:S.Pairwise (Lt (kOf ks))
 nodup:S.Nodup
 below:∀s∈S,s<n
 small:∀s∈S,kOf ks s<=4294967295
 two:2<=S.length
 few:S.length<=300
 le:S.length<=n
theorem Ox(h:Syms ks n S){r:Nat}(hr:r<=14):(∀y∈rowN (lv (kOf ks) S) r,y.2≠ []/\y.1<=70368744161280)/\S.length<=(rowN (lv (kOf ks) S) r).length/\(rowN (lv (kOf ks) S) r).length<=2*S.length:=by
 have h2:=h.two;refine⟨fun y hy=>⟨PD r y hy,?_⟩,?_,?_⟩
 ·have h1:=Pt h.small r y hy;have h3:2 ^ r<=2 ^ 14:=Cl mz hr;have h4:2 ^ r*4294967295<=2 ^ 14*4294967295:=Gp _ h3;omega
 ·rcases r with _|r
  ·rw[Lp];exact Aq _
  ·rw[PR];omega
 ·have h3:=Py (k:=kOf ks) (S:=S) mz r;generalize (S.length-1) / 2 ^ r=d at h3;omega
theorem iQ(h:Syms ks n S)(hR:R<=14)(ht:t<=(rowN (lv (kOf ks) S) R).length):t-nl (rowN (lv (kOf ks) S) R) t<=S.length:=by
 rcases R with _|R
 ·rw[Lp]at ht;rw[Nl t ht];omega
 ·obtain⟨n',q,h1,h2,h3,h4,_⟩:=row_take R t ht;have h5:=(Ox h (r:=R) mz).2.2;rw[h4];omega
theorem gU{k:Nat->Nat}{f:Nat->Nat}(h:MX k S L R t f)(hL:1<=L)(s:Nat):f s<=L:=by have h1:=h s;have h2:=Rk (k:=k) (S:=S) (L-1) (2*S.length-2) s;omega
theorem lC(w:World)(A:Option Addr)(n c L:Nat)(ks:List Nat)(hn:ks.length=n)(hN:n<=300)(ba:1<=L)(cw:L<=15)(h:2<=(vZ (kOf ks) n).length)(hp:(vZ (kOf ks) n).length<=2 ^ L)(bp:∀x∈ks,x<4294967296)(ha:Row w w A n 1 (jZ .u32 ks)):
 Calls prog 275 #[.slice A n c,L] w (IV ks L w):=by
 have hE:Hid (Ej ks L=0):=pD
 have C:=Pj w A n c ks hn mz ha;unfold My at C;have HN:=hid hn;rw[hn]at C;have g1:=ig ((300:Int)<n)
 have g2:=ig (300<n)
 have g3:=ig ((L:Int)<1)
 have g4:=ig ((15:Int)<L)
 have g5:=ig (L<1)
 have g6:=ig (15<L)
 have t1:decide (wrap64 ((2:Int) ^ L)<((vZ (kOf ks) n).length:Int))=false:=by rw[O6 cw];exact Bi (by rw[Int.ofNat_lt];omega)
 have hV:Hid (IF ks L=(List.range n).map (BP (kOf ks) (vZ (kOf ks) n) (L-1) (2*(vZ (kOf ks) n).length-2))):=by show _=_;unfold IF;rw[hn];show(if(vZ (kOf ks) n).length<2 then _ else _)=_;rw[Ab mz]
 have HS:Hid (Syms ks n (vZ (kOf ks) n)):=by
  refine⟨Jb _ _,fG _ _,fun s hs=>(JV.1 hs).1,fun s hs=> ?_,h,by have:=NX (kOf ks) n;omega,NX (kOf ks) n⟩;have bu:=(JV.1 hs).1;have:kOf ks s=ks[s]' mz:=by simp[kOf,List.getD_eq_getElem?_getD,List.getElem?_eq_getElem (show s<ks.length by omega)]
  rw[this];have:=bp _ (Fo (show s<ks.length by omega));omega
 have bg:Hid (2*(vZ (kOf ks) n).length-2<=(rowN (lv (kOf ks) (vZ (kOf ks) n)) (L-1)).length):=SO ba mz hp;have cq:=make_u8 n mz;have HA:=hid ha;have cL:=hid bp;obtain⟨j0,cP,c7,cu,cv⟩:=info_parts mB;clear ha hn hp bp;generalize vZ (kOf ks) n=S at *;obtain⟨q,hq⟩:∃q,S.length=q:=⟨_,rfl⟩;have HQ:=hid hq;have di:q<=300:=by have:=HS.out.few;omega
 have cA:q<=n:=by have:=HS.out.le;omega
 rw[hq]at C t1 h;have CC:=hid C;have q1:((q:Int)==1)=false:=pQ
 have q2:=ig ((q:Int)<2)
 have q3:=ig (q<2)
 clear hq C;go_enter func275,ntmps275;go_wp2_with fail;refine CC.out.mono ?_;rintro e w1 ⟨A1,c1,rfl,G,bb⟩;have ct:=bb.size;go_wp2_with fail;have bk:Blk (w1.alloc (.cells (madeCells #[.int .u8 0] n) 5)) w1 5 _:=Blk.made _ _ _;have aw:Below w w (w1.alloc (.cells (madeCells #[.int .u8 0] n) 5)):=mZ ct bb;have a9:=G.alloc (Aq _) (.cells (madeCells #[.int .u8 0] n) 5);have cF:=bk.lt;generalize w1.alloc (.cells (madeCells #[.int .u8 0] n) 5)=w2 at *;have bm:=hid a9;have a6:=aw.size;clear G a9 bb CC cq t1;refine(nC w2 A A1 n c q c1 ks S HN.out HQ.out mz cA HS.out.below cL.out ((HA.out.below aw).mono a6) (bm.out.mono mz)).mono ?_;rintro e w3 ⟨v3,rfl,M,bd⟩;obtain⟨A3,c3,rfl⟩:=M.shape;have am:(lv (kOf ks) S).length=q:=by rw[GH,HQ.out]
 have ak:=bd.size
 have au:RowsAt (w3.alloc (.cells #[.slice A3 (lv (kOf ks) S).length c3] 399)) w2 (kOf ks) S (.slice A3 (lv (kOf ks) S).length c3) (.slice (some ⟨w3,0,none⟩) 1 1) [.slice A3 (lv (kOf ks) S).length c3]:=by
  have ho:OwnIt (w3.alloc (.cells #[.slice A3 (lv (kOf ks) S).length c3] 399)) w2 (.slice A3 (lv (kOf ks) S).length c3) (lv (kOf ks) S):=
   OwnIt.kept M (fun g hg=>Ed w3 _ g (Am M g hg).2)
  refine⟨ho,⟨rfl, .inr ⟨w3.heap.size,1,#[.slice A3 (lv (kOf ks) S).length c3],rfl,ak,heap_alloc_new w3 _,Aq _,qg,rfl,rfl⟩⟩,fun i x hx=> ?_⟩;rcases i with _|i
  ·simp at hx;subst hx;exact ho
  ·simp at hx
 have aj:Below w2 w2 (w3.alloc (.cells #[.slice A3 (lv (kOf ks) S).length c3] 399)):=mZ ak bd;rw[am]at *;have an:=hid au;clear au am M;go_wp2_with fail;go_loopw [9] (fun v wr=>∃ (r:Nat) (g bj:Nat) (vals:List Value),1<=r/\r<=L/\v= .slice (some ⟨g,0,none⟩) r bj/\Hid (vals.length=r)/\Hid (RowsAt wr w2 (kOf ks) S (.slice A3 q c3) v vals)/\Below w2 w2 wr) (fun v _=>L-(lenOf v))
 case atStart=>exact⟨1,w3.heap.size,1,[.slice A3 q c3],mz,ba,rfl,by show _=_;rfl,an,aj⟩
 case round=>as_aux_lemma=>
  clear aj an bd;obtain⟨r,g,bj,vals,dh,a9,rfl,aa,hR,bel⟩:=hrel;have b9:=bel.size;by_cases ag:r<L
  ·have cr:r-1<vals.length:=(by rw[aa.out];omega);obtain⟨g',a5,Ai,ci,hv,hg,b1,y,E⟩:=hR.out.at_ cr;injection hv with e1 e2 e3;injection e1 with e1;injection e1 with e1;subst e1;have Z:=Ox HS.out (r:=r-1) mz;rw[HQ.out]at Z;have b3:rowN (lv (kOf ks) S) vals.length=mrg (lv (kOf ks) S) (DY (rowN (lv (kOf ks) S) (r-1))):=(by rw[aa.out];obtain⟨r',rfl⟩:∃r',r=r'+1:=⟨r-1,mz⟩;rfl);have ah:=hR.out.1;have a0:(lv (kOf ks) S).length=q:=(by rw[GH,HQ.out]);have ac:Row wr wr A3 q 2 (itF (lv (kOf ks) S)):=(by have h1:=ah;rw[<-a0]at h1;have h2:=h1.row;rw[a0]at h2;exact h2);have U:=E.row;obtain⟨m,hm⟩:=ii ((rowN (lv (kOf ks) S) (r-1)).length);rw[<-hm]at y E U Z;have CN:=hid (next_any wr A3 Ai q c3 m ci 70368744161280 (lv (kOf ks) S) (rowN (lv (kOf ks) S) (r-1)) a0 hm.symm mz mz Nr Z.1 mz ac U);have cf:=hid b3;have x0:(0:Int)<=(r:Int)-1:=mz;have x1:(r:Int)-1<(r:Int):=mz;have x2:((r:Int)-1).toNat=r-1:=mz;have x3:IntKind.i64.wrap ((r:Int)-1)=(r:Int)-1:=Aw _ mz;clear hm Z b3 ah ac U E a0 e2 e3;clear x2 x3;go_wp2_with fail;refine CN.out.mono ?_;rintro e w5 ⟨v5,rfl,J,ay⟩;obtain⟨A5,c5,rfl⟩:=J.shape;have c9:=ay.size;rw[<-cf.out]at J;obtain⟨m5,bc⟩:=ii ((rowN (lv (kOf ks) S) vals.length).length);have cg:=hR.out.kept (w':=w5) (fun g _ ag=>ay.block g ag);have bf:RowsAt (w5.alloc (.cells #[.slice A5 m5 c5] 399)) w2 (kOf ks) S (.slice A3 q c3) (.slice (some ⟨g,0,none⟩) r bj) vals:=cg.kept (fun g _ ag=>Ed w5 _ g ag);have z:OwnIt w5 w2 (.slice A5 (rowN (lv (kOf ks) S) vals.length).length c5) (rowN (lv (kOf ks) S) vals.length):=kZ J b9;rw[<-bc]at z;have bx:OwnIt (w5.alloc (.cells #[.slice A5 m5 c5] 399)) w2 (.slice A5 m5 c5) (rowN (lv (kOf ks) S) vals.length):=z.kept (fun g hg=>Ed w5 _ g (Am z g hg).2);have G:=bf.2.1;rw[aa.out]at G;have al:Below w2 w2 (w5.alloc (.cells #[.slice A5 m5 c5] 399)):=mZ mz (uZ ay b9 bel);have e5:(mrg (lv (kOf ks) S) (DY (rowN (lv (kOf ks) S) (r-1)))).length=m5:=(by rw[bc,cf.out]);rw[e5];have cy:=hid bf;have cl:=hid bx;have a4:=hid G;have cC:=hid al;clear e5 bc J z cg bf bx G al y CN ay;go_wp2_with(at_builtin;refine iZ rfl (.tmp 57) (.tmp 66) 401 rfl w2 399 j0 _ 1 24 underlying401 cP c7 cu cv rfl ip _ _ _ nc a4.out _ 1 1 [.slice A5 m5 c5] nc (Src.of_blk (Blk.made _ _ _) 1 1 1 rfl) mp qg mz pQ ?_;intro v6 w6 Y ce dc);go_roundw
   case rel=>go_light;obtain⟨g6,a3,bh⟩:=IS Y;subst bh;have be:=cy.out.push cl.out (by rw[aa.out];exact Y) ce;refine⟨r+1,g6,a3,vals++ [.slice A5 m5 c5],mz,mz,rfl,?_,hid be,cC.out.grown ce pQ (fun k hk=>(Am a4.out k hk).1)⟩;show _=_;rw[Aj,aa.out];rfl
   case measure=>go_light;obtain⟨g6,a3,bh⟩:=IS Y;subst bh;simp[lenOf];omega
  ·obtain rfl:L=r:=by omega
   have ax:Blk wr w1 5 (madeCells #[.int .u8 0] n):=bk.below bel cF;have aq:Row wr w1 A1 q 1 (jZ .i64 S):=bm.out.below (bel.mono mz);have b7:Below w w wr:=aw.trans (bel.mono a6);obtain⟨w6,rfl⟩:=ii wr;have bn:=hid aq;have c8:=hid b7;have cd:Hid (MX (kOf ks) S L L (2*q-2) (fun _=>0)):=(by intro s;obtain⟨L',rfl⟩:∃L',L=L'+1:=⟨L-1,mz⟩;rw[HQ.out,Jd,Nat.add_sub_cancel];show _=0+_;omega);have b6:Hid (Om (kOf ks) S L (2*q-2)):=(by have:=bg.out;rw[HQ.out]at this;exact .inr this);have bq:Hid (U8s (fun _=>0) n (madeCells #[.int .u8 0] n)):=U8s.made n;have cc:∃R',L=R'+1/\Value.int .i64 ((L:Int)-1)= .int .i64 (R':Nat):=⟨L-1,mz,AE (Value.int .i64) mz⟩;have cT:g<w6.heap.size/\w2.heap.size<=g:=(by obtain⟨g',a5,Ai,ci,hv,hg,b1,_⟩:=hR.out.at_ (i:=0) (by rw[aa.out];omega);injection hv with e1;injection e1 with e1;injection e1 with e1;omega);have b1:=ax.lt;have cB:=hid cc;clear aq b7 bm bk aw ak cc;go_wp2_with fail;go_loopw [10,11] (fun tv rv wr=>∃ (R t:Nat) (f:Nat->Nat) (cs:Array Value),R<=L/\t<=2*q/\tv= .int .i64 t/\((R=0/\rv= .int .i64 (-1))∨(∃R',R=R'+1/\rv= .int .i64 (R':Nat)))/\Hid (Om (kOf ks) S R t)/\Hid (MX (kOf ks) S L R t f)/\Hid (U8s f n cs)/\Blk wr w1 5 cs/\Hid (Kept (fun b=>b<w6.heap.size/\b≠w1.heap.size) w6 wr)) (fun _ rv _=>(intOf rv+1).toNat)
   case atStart=>exact⟨L,2*q-2,_,_,Aq _,mz,AE (Value.int .i64) mz, .inr cB.out,b6,cd,bq,ax,Kept.refl _ _⟩
   case round=>as_aux_lemma=>
    clear b6 cd bq ax;obtain⟨R,t,f,cs,dl,ht,rfl,cE,hT,hC,hU,bl,hK⟩:=hrel;have dm:=hK.out.size;rcases cE with ⟨rfl,rfl⟩|⟨R',rfl,rfl⟩
    ·go_wp2_with fail;go_ret2;refine NQ hE.out (f:=f) ?_ hU.out bl rfl (c8.out.trans (hK.out.below (fun b hb=>⟨mz,mz⟩))) mz;rw[Bw,hV.out];refine Kf fun s _=> ?_;have:=hC.out s;rw[Jd]at this;omega
    ·obtain⟨g',a5,Ai,ci,hv,dp,de,y,E⟩:=hR.out.at_ (i:=R') (by rw[aa.out];omega);injection hv with e1 e2 e3;injection e1 with e1;injection e1 with e1;subst e1;have Z:=(Ox HS.out (r:=R') mz).2;rw[HQ.out]at Z;obtain⟨gx,rfl,dj,a1,cH,dn,ab⟩:=E.cells (by omega)
     have bi:t<=(rowN (lv (kOf ks) S) R').length:=by
      rcases hT.out with h0|h0
      ·omega
      ·rwa [Nat.add_sub_cancel]at h0
     have af:=fun s=>lH (k:=kOf ks) (S:=S) R' t s bi;have ar:=hid af;have az:=hid ab;have b4:=(Pq (k:=kOf ks) (S:=S) R' t bi).1;obtain⟨m,hm⟩:=ii ((rowN (lv (kOf ks) S) R').length);rw[<-hm]at y Z cH bi;have HM:=hid hm.symm;have d0:wr.cell? ⟨g,R',none⟩=some (.slice (some ⟨gx,0,none⟩) m ci):=(World.cell?_of_block (a:=⟨g,R',none⟩) (hK.out.block g ⟨cT.1,mz⟩)).trans y
     have p1:∀w,(Instr.slice 399 (.slice (some ⟨gx,0,none⟩) m ci) none (some (.int .i64 (t:Int))) none).run prog w= .ok (.slice (some ⟨gx,0,none⟩) t ci) w:=by
      intro w;rw[run_head (P:=prog) underlying399 Tryz.sizeOf404 _ m ci .i64 (t:Int) t rfl mz w];unfold AW;split
      ·rfl
      ·simp[Gh]
     have bC:Hid (InAt S f f (nl (rowN (lv (kOf ks) S) R') 0)):=(by intro s;rw[RP];simp);have x0:(0:Int)<=(R':Int):=mz;have x1:(R':Int)<(L:Int):=mz;clear hm af ab E y e2 e3 hT;obtain⟨wp,rfl⟩:=ii wr;go_wp2_with fail;go_loopw [12,86] (fun nv iv wr=>∃ (i:Nat) (f':Nat->Nat) (ae:Array Value),i<=t/\nv= .int .i64 (nl (rowN (lv (kOf ks) S) R') i:Nat)/\iv= .int .i64 i/\Hid (InAt S f f' (nl (rowN (lv (kOf ks) S) R') i))/\Hid (U8s f' n ae)/\Blk wr w1 5 ae/\Hid (Kept (fun b=>b<w6.heap.size/\b≠w1.heap.size) w6 wr)) (fun _ i _=>t-(intOf i).toNat)
     case atStart=>exact⟨0,f,cs,mz,by rw[RP];rfl,rfl,bC,hU,bl,hK⟩
     case round=>as_aux_lemma=>
      clear bl hU hK bC d0 p1;obtain⟨i,f',ae,hi,rfl,rfl,hI,hU,bl,hK⟩:=hrel;have dd:=hK.out.size;by_cases ag:i<t
      ·obtain⟨x,hx⟩:∃x,(rowN (lv (kOf ks) S) R')[i]? =some x:=⟨_,AD (by rw[HM.out];omega)⟩;obtain⟨e0,e1⟩:=az.out i x hx;have c0:wr.cell? ⟨gx,i*2,none⟩=_:=(World.cell?_of_block (a:=⟨gx,i*2,none⟩) (hK.out.block gx ⟨a1,mz⟩)).trans e0;have c1:wr.cell? ⟨gx,i*2+1,none⟩=_:=(World.cell?_of_block (a:=⟨gx,i*2+1,none⟩) (hK.out.block gx ⟨a1,mz⟩)).trans e1;have Q:=Zh _ i x hx;have c4:=(Pq (k:=kOf ks) (S:=S) R' (i+1) (by rw[HM.out];omega)).1;rw[HQ.out]at c4;generalize rowN (lv (kOf ks) S) R'=X at *;obtain⟨xa,xs⟩:=x;obtain⟨lb,b0⟩:=ii (Cx (xa,xs));rw[<-b0]at c1 Q;simp only at c0;obtain⟨N,bS⟩:=ii (nl X i);rw[<-bS]at hI Q ⊢;have x2:(0:Int)<=(i:Int):=mz;have x3:(i:Int)<(t:Int):=mz;have dk:gx<wr.heap.size:=mz;clear hx e0 e1 bS b0;cases lb
       ·rw[Ab pI,Bj]at Q;have ai:=hid Q;clear Q;go_wp2_with fail;go_roundw
        case rel=>go_light;exact⟨i+1,f',ae,mz,by rw[ai.out];rfl,jp,by rw[ai.out];exact hI,hU,bl.alloc _,hK.out.alloc (fun b hb=>by have:=hb.1;omega) _⟩
        case measure=>exact jo
       ·rw[Ae rfl]at Q;have cx:N<q:=mz;obtain⟨b,bt,s,rfl,df,hs,d0⟩:=CF bn.out HQ.out cx;have d1:wr.cell? ⟨b,bt+N,none⟩=_:=(World.cell?_of_block (a:=⟨b,bt+N,none⟩) (hK.out.block b ⟨mz,mz⟩)).trans d0;have bu:=HS.out.below s (Bg hs);have ax:=bl.lt;have c2:=bl.cell s;rw[hU.out.2 s bu]at c2;have f2:=bl.frozen s;obtain⟨bN,c6⟩:=hI.out.step HS.out.nodup hs;have cm:=gU hC.out ba s;have b8:=hU.out.set (g:=fun j=>if j=s then f' s+1 else f' j) (i:=s) (v:=f' s+1) pI (fun j hj=>by simp[hj]);have cp:f' s<=15:=mz;have ai:=hid Q;have ar:=hid bN;have cS:=hid b8;obtain⟨fs,av⟩:=ii (f' s);rw[<-av]at c2 cp;have co:=hid av;have s1:IntKind.u8.wrap ((fs:Int)+1)=(fs:Int)+1:=(by rw[IntKind.wrap_u8];omega);have y0:(0:Int)<=(N:Int):=mz;have y1:(N:Int)<(q:Int):=mz;have y2:(0:Int)<=(s:Int):=mz;have y3:(s:Int)<(n:Int):=mz;have dg:b<wr.heap.size:=mz;clear Q bN b8 c6 cm av hs d0;go_wp2_with fail;go_roundw
        case rel=>
         go_light;refine⟨i+1,_,ae.setIfInBounds s (.int .u8 ((f' s+1:Nat):Int)),mz,by rw[ai.out];go_num,jp,by rw[ai.out];exact ar,cS,?_,?_⟩
         ·rw[<-co.out];exact(bl.set s _).alloc _
         ·exact(hK.out.set (p:=⟨w1.heap.size,s,none⟩) (fun hb=>hb.2 rfl) _).alloc (fun b hb=>by have:=hb.1;simp;omega) _
        case measure=>exact jo
      ·obtain rfl:i=t:=by omega
       have hE2:Hid (∀s,f s+Jd (kOf ks) S (R'+1) i s=f' s+Jd (kOf ks) S R' (2*(i-nl (rowN (lv (kOf ks) S) R') i)) s):=(by intro s;have h1:=(ar.out s).1;have h2:=hI.out s;omega);have ca:=(ar.out 0).2;have da:=lM (rowN (lv (kOf ks) S) R') i;have cG:=iQ HS.out (R:=R') (t:=i) mz (by rw[HM.out];omega);rw[HQ.out]at cG;generalize nl (rowN (lv (kOf ks) S) R') i=N at *;have cz:=hid ca;have cX:Hid (MX (kOf ks) S L R' (2*(i-N)) f'):=by intro s;rw[hC.out s,hE2.out s]
       have b5:(R'=0/\Value.int .i64 ((R':Int)-1)= .int .i64 (-1))∨(∃R2,R'=R2+1/\Value.int .i64 ((R':Int)-1)= .int .i64 (R2:Nat)):=by
        rcases R' with _|R2
        ·exact .inl ⟨rfl,rfl⟩
        ·exact .inr ⟨R2,rfl,AE (Value.int .i64) mz⟩
       have cj:=hid b5;clear ca b5 hC hI ar hE2;go_wp2_with fail;go_roundw
       case rel=>go_light;exact⟨R',2*(i-N),f',ae,mz,mz,AE (Value.int .i64) mz,cj.out,cz,cX,hU,bl,hK⟩
       case measure=>go_light;simp[intOf]
theorem fR(w:World)(A:Option Addr)(n c:Nat)(ks:List Nat)(i:Int)(hn:ks.length=n)(hN:n<=9223372036854775807)(y: -9223372036854775808<=i)(z:i<=9223372036854775807)(j:∀x∈ks,x<4294967296)(ha:Row w w A n 1 (jZ .u32 ks)):
 Calls prog 275 #[.slice A n c,i] w (IV ks i w):=by
 by_cases h:n>300∨i<1∨i>15
 ·exact k7 w A n c ks i hn hN y z h
 ·obtain⟨L,rfl⟩:∃L:Nat,i=L:=⟨i.toNat,mz⟩;by_cases h1:2 ^ L<(vZ (kOf ks) n).length
  ·exact mF w A n c L ks hn mz mz mz h1 ha
  ·by_cases h2:(vZ (kOf ks) n).length<2
   ·exact jG w A n c L ks hn mz mz mz h2 ha
   ·exact lC w A n c L ks hn mz mz mz mz mz j ha
end Lens
end Go.Proofs.YtfgdoknipbpfhaaGreatDoor
