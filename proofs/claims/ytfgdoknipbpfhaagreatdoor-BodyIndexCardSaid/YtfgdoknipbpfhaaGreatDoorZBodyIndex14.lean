/- Plain: the best matc -/
import Derived.Test.YtfgdoknipbpfhaaGreatDoorZBodyIndex3
import Derived.Test.YtfgdoknipbpfhaaGreatDoorZBodyIndex13
import Derived.Maps.OwnSet
import Derived.DeepKeys4
import Derived.Deep.AppendLies
import Derived.Lib.MinMax
namespace Go.Proofs.YtfgdoknipbpfhaaGreatDoor
open Go.Proofs.Tryz
open Go.Lib (hid)
variable{most q:Nat}{out:List Nat}
namespace Lz
end Lz
namespace Lz
open Go.RowKit Mem Own Canon
end Lz
namespace Lz
open Go.RowKit Go.Maps Mem Own
end Lz
namespace Lz
open Go.RowKit Go.Maps Mem Own Canon
theorem own_cells{w:World}{base n g c i:Nat}{e:TypeId}{xs:List Value}(h:w.ownsRow base e 1 (.slice (some ⟨g,0,none⟩) n c) n xs)(hi:i<n):w.cell? ⟨g,i,none⟩=xs[i]? /\w.frozen? ⟨g,i,none⟩=false/\base<=g:=by
 rcases h.2 with ⟨hv,_⟩|⟨g',E,cur,hv,hb,hg,h1,h2,h3,h4⟩
 ·cases hv
 ·injection hv with e1 e2 e3;injection e1 with e1;injection e1 with e1;subst e1 e3;have j:Blk w g e cur:=hg;refine⟨?_,j.frozen i,hb⟩;rw[j.cell i,<-h4,List.getElem?_take_of_lt nB];simp
end Lz
namespace Lz
open Go.RowKit Go.Maps Mem Own Canon
end Lz
namespace Lz
open Go.RowKit Go.Maps Mem Own Canon
open Toks (Tk)
open Huff (Dp Jw MO)
end Lz
namespace Lz
open Go.RowKit Mem Own Canon
open Toks (Tk Bd Qi)
theorem U7:∀ (n d:Nat) (out:List Nat),Ec out (n+1) d=Ec out n d++ [(Ec out n d).getD ((Ec out n d).length-d) 0]
 |0,_,_=>rfl
 |n+1,d,out=>by rw[Ec,U7 n d];rfl
theorem jA{t:Tk}(hl:0<=t.lit/\t.lit<=255)(h:Bd t.lit t.len t.dist=true):
 (∃x:Nat,x<=255/\t=⟨(x:Int),0,0⟩)∨∃L D:Nat,3<=L/\L<=257/\1<=D/\D<=4095/\t=⟨0,(L:Int),(D:Int)⟩:=by
 obtain⟨lit,len,dist⟩:=t;simp only at hl h;unfold Bd at h;split at h
 ·rename_i h0;have h1:=of_decide_eq_true h;subst h0 h1;exact .inl ⟨lit.toNat,nB,by rw[Int.toNat_of_nonneg hl.1]⟩
 ·have h1:=of_decide_eq_true h;refine .inr ⟨len.toNat,dist.toNat,nB,nB,nB,nB,?_⟩;rw[Int.toNat_of_nonneg nB,Int.toNat_of_nonneg nB,h1.1]
theorem iK{x:Nat}(hq:out.length=q)(_h:q<=most):G5 most out ⟨(x:Int),0,0⟩=if most-q<1 then 6 else 0:=by
 unfold G5;rw[Ag (show Bd (x:Int) 0 0=true from rfl),hq,Ae (show ¬(q:Int)<0 by omega)];by_cases h:most-q<1
 ·rw[Ag (show(most:Int)-(q:Int)<max 1 0 by omega),Ag h]
 ·rw[Ae (show ¬(most:Int)-(q:Int)<max 1 0 by omega),Ae h]
theorem Zn{L D:Nat}(hq:out.length=q)(_h:q<=most)(h1:3<=L)(h2:L<=257)(h3:1<=D)(h4:D<=4095):G5 most out ⟨0,(L:Int),(D:Int)⟩=if q<D then 8 else if most-q<L then 6 else 0:=by
 have hm:Bd 0 (L:Int) (D:Int)=true:=by unfold Bd;rw[Ae nB];exact AQ ⟨rfl,nB,nB,nB,nB⟩
 unfold G5;rw[Ag hm,hq];show(if(q:Int)<(D:Int)then 8 else if(most:Int)-(q:Int)<max 1 (L:Int)then 6 else 0)=_;by_cases h:q<D
 ·rw[Ag nB,Ag h]
 ·rw[Ae nB,Ae h];by_cases h':most-q<L
  ·rw[Ag nB,Ag h']
  ·rw[Ae nB,Ae h']
def LR(R:List Nat×Int)(w:World)(e:Ending)(w':World):Prop:=
 ∃v,e= .returned (.tuple #[v,R.2])/\w'.ownsRow w 5 1 v R.1.length (bZ .u8 R.1)/\Below w w w'
set_option maxHeartbeats 1000000 in
set_option maxRecDepth 100000 in
theorem eM(w:World)(A:Option Addr)(n c:Nat)(ts:List Tk)(most:Nat)(a3:most<=1000000)(hn:ts.length=n)(hN:n<=1000000)(af:∀t∈ts,(0<=t.lit/\t.lit<=255)/\Bd t.lit t.len t.dist=true)(ha:Row w w A n 3 (Toks.G7 ts)):
 Calls prog 300 #[.slice A n c,most] w (LR (FQ ts most) w):=by
 obtain⟨j0,aw,am,ar,av⟩:=info_parts CW;have hP:FQ ts most=Fu most [] ts:=Ae nB;rw[hP];obtain⟨R,hR⟩:=jc (Fu most [] ts);rw[<-hR];obtain⟨R1,R2⟩:=R;unfold LR;have g0:=jb ((most:Int)<0)
 have HR:=hid hR;have HA:=hid ha;have HN:=hid hn;have ay:=hid af;clear hP hR ha hn af;go_enter func300,ntmps300;go_wp2_with fail;go_loopw [6,13] (fun u i wr=>∃ (k q:Nat) (out:List Nat),k<=n/\q<=most/\i= .int .i64 k/\Hid (out.length=q)/\Hid (wr.ownsRow w 5 1 u q (bZ .u8 out))/\Hid (Fu most out (ts.drop k)=(R1,R2))/\Below w w wr) (fun _ i _=>n-(intOf i).toNat)
 case atStart=>exact⟨0,0,[],nB,nB,rfl,rfl,AE _ _ _ _,HR.out.symm,Ak _ _⟩
 case round=>
  obtain⟨k,q,out,hk,hq,rfl,HQ,HO,HP,hb⟩:=hrel;have hz:=hb.size;obtain⟨va,vc,rfl⟩:=aZ HO.out;by_cases ac:k<n
  ·obtain⟨ob,bb,rfl,ak,G⟩:=HA.out nB;have U:k<ts.length:=(by rw[HN.out];exact ac);have c0:=(hb.cell (p:=⟨ob,_,none⟩) ak).trans (G k 0 ac nB);have c1:=(hb.cell (p:=⟨ob,_,none⟩) ak).trans (G k 1 ac nB);have c2:=(hb.cell (p:=⟨ob,_,none⟩) ak).trans (G k 2 ac nB);simp only[Toks.G7,List.getD_eq_getElem?_getD,List.getElem?_eq_getElem U,Option.getD_some,Nat.add_zero,<-Nat.add_assoc]at c0 c1 c2;have hp:=HP.out;rw[Dx U,Fu]at hp;obtain⟨hl,hm⟩:=ay.out _ (GI U);have HM:=fun wx=>Qi ts[k] wx;rw[hm]at HM;have a6:=jA hl hm;generalize ts[k]=t at *;have x0:(0:Int)<=(k:Int):=nB;have x1:(k:Int)<(n:Int):=nB;rcases a6 with ⟨x,hx,rfl⟩|⟨L,D,a4,hL,a5,hD,rfl⟩
   ·rw[iK HQ.out hq]at hp;simp only[Toks.Tk.val_mk]at HM c0 c1 c2;have HM:=hid HM;have g1:=jb ((q:Int)<0);have a1:max (1:Int) 0=1:=ji;have s1:IntKind.i64.wrap ((most:Int)-(q:Int))=((most-q:Nat):Int):=nX;by_cases J:most-q<1
    ·rw[Ag J,Ae pR]at hp;injection hp with e1 e2;subst e1 e2;have g2:=ja (((most-q:Nat):Int)<1);have g3:=ja (most-q<1);generalize Q:most-q=dm at *;have aq:dm=0:=nB;subst aq;clear Q hm hl HP;clear G U;go_wp2_with fail;refine(HM.out _).mono ?_;rintro e w2 ⟨rfl,E⟩;have kk:=fun o=>E.cell (p:=⟨wr.heap.size,o,none⟩) pR;have b1:=(kk 1).trans rfl;have M:Hid (Below w w w2):=(mZ hz hb).trans (E.mono p5);have b2:=(kk 2).trans rfl;clear kk;go_wp2_with fail;go_ret2;exact⟨_,rfl,AE _ _ _ _,M.out⟩
    ·rw[Ae J,Ag rfl,Ag rfl,Br]at hp;obtain⟨dm,Q⟩:=jc (most-q);rw[<-Q]at s1 J;have g2:=jb ((dm:Int)<1);have g3:=jb (dm<1);have ag:=hid hp;have aj:q+1<=most:=nB;clear Q hm hl HP hp J;clear G U;go_wp2_with fail;refine(HM.out _).mono ?_;rintro e w2 ⟨rfl,E⟩;have kk:=fun o=>E.cell (p:=⟨wr.heap.size,o,none⟩) pR;have b1:=(kk 1).trans rfl;have M:Hid (Below w w w2):=(mZ hz hb).trans (E.mono p5);have b2:=(kk 2).trans rfl;have b0:=(kk 0).trans rfl;have aa:=hid (eZ (HO.out.alloc (.cells #[.int .u8 x,jd,jd] 280)) (fun y hy=>E.block y (by have:=(Ai HO.out y hy).2;simp;omega)));have an:=M.out.size;clear kk;go_wp2_with(at_builtin;refine fZ rfl (.tmp 39) (.tmp 42) 28 rfl w 5 j0 _ 1 1 underlying28 aw am ar av rfl ji _ _ _ nC (aa.out.alloc _) _ 1 1 [.int .u8 x] nC (Src.of_blk (Blk.made _ _ _) 1 1 1 rfl) mY qn nB p5 ?_;intro v4 w4 Z ab au);go_roundw
     case measure=>exact ld
     case rel=>
      go_light;refine⟨k+1,q+1,out++ [x],nB,aj,lj,?_,?_,ag.out,?_⟩
      ·show _=_;rw[Aj,HQ.out];rfl
      ·show World.ownsRow _ _ _ _ _ _ _;rw[show bZ .u8 (out++ [x])=bZ .u8 out++ [.int .u8 x] by simp[bZ]];exact Z
      ·exact(mZ an M.out).grown ab p5 (fun y hy=>(Ai aa.out y hy).1)
   ·rw[Zn HQ.out hq a4 hL a5 hD]at hp;simp only[Toks.Tk.val_mk]at HM c0 c1 c2;have HM:=hid HM;have a1:max (1:Int) (L:Int)=(L:Int):=nB;have ba:((L:Int)==0)=false:=oJ;have s1:IntKind.i64.wrap ((most:Int)-(q:Int))=((most-q:Nat):Int):=nX;by_cases ae:q<D
    ·rw[Ag ae,Ae pR]at hp;injection hp with e1 e2;subst e1 e2;have g1:=ja ((q:Int)<D);have az:=ja (q<D);clear hm hl HP;clear G U;go_wp2_with fail;refine(HM.out _).mono ?_;rintro e w2 ⟨rfl,E⟩;have kk:=fun o=>E.cell (p:=⟨wr.heap.size,o,none⟩) pR;have b1:=(kk 1).trans rfl;have M:Hid (Below w w w2):=(mZ hz hb).trans (E.mono p5);have b2:=(kk 2).trans rfl;clear kk;go_wp2_with fail;go_ret2;exact⟨_,rfl,AE _ _ _ _,M.out⟩
    ·rw[Ae ae]at hp;have g1:=jb ((q:Int)<D);have az:=jb (q<D);obtain⟨dm,Q⟩:=jc (most-q);rw[<-Q]at s1 hp;by_cases J:dm<L
     ·rw[Ag J,Ae pR]at hp;injection hp with e1 e2;subst e1 e2;have g2:=ja ((dm:Int)<L);have g3:=ja (dm<L);clear hm hl HP Q;clear G U;go_wp2_with fail;refine(HM.out _).mono ?_;rintro e w2 ⟨rfl,E⟩;have kk:=fun o=>E.cell (p:=⟨wr.heap.size,o,none⟩) pR;have b1:=(kk 1).trans rfl;have M:Hid (Below w w w2):=(mZ hz hb).trans (E.mono p5);have b2:=(kk 2).trans rfl;clear kk;go_wp2_with fail;go_ret2;exact⟨_,rfl,AE _ _ _ _,M.out⟩
     ·rw[Ae J,Ag rfl,Ae (by show ¬(L:Int)=0;omega)]at hp
      replace hp:Fu most (Ec out ((L:Int)).toNat ((D:Int)).toNat) (ts.drop (k+1))=(R1,R2):=hp
      rw[Br,Br]at hp;have g2:=jb ((dm:Int)<L);have g3:=jb (dm<L);have ag:=hid hp;have aj:q+L<=most:=nB;clear Q hm hl HP hp J;clear G U;go_wp2_with fail;refine(HM.out _).mono ?_;rintro e w2 ⟨rfl,E⟩;have kk:=fun o=>E.cell (p:=⟨wr.heap.size,o,none⟩) pR;have b1:=(kk 1).trans rfl;have M:Hid (Below w w w2):=(mZ hz hb).trans (E.mono p5);have b2:=(kk 2).trans rfl;have aa:=hid (eZ (HO.out.alloc (.cells #[.int .u8 0,L,D] 280)) (fun y hy=>E.block y (by have:=(Ai HO.out y hy).2;simp;omega)));have al:Hid (Blk w2 wr 280 #[.int .u8 0,L,D]):=(Blk.made wr _ _).step E;have an:=M.out.size;generalize wr.heap.size=pb at *;clear kk E HO hb c0 c1 c2 HM b1 b2;have b1:=al.out.iy 1;have b2:=al.out.iy 2;go_wp2_with fail;go_loopw [6,46] (fun u i wx=>∃j:Nat,j<=L/\i= .int .i64 j/\Hid (wx.ownsRow w 5 1 u (q+j) (bZ .u8 (Ec out j D)))/\Hid (Blk wx pb 280 #[.int .u8 0,L,D])/\Hid (Below w w wx)) (fun _ i _=>L-(intOf i).toNat)
      case atStart=>exact⟨0,nB,rfl,aa.out,al.out,M.out⟩
      case round=>
       obtain⟨j,hj,rfl,Y,N,ai⟩:=hrel;have a9:=ai.out.size;by_cases bc:j<L
       ·obtain⟨g,cg,rfl,_⟩:=Y.out.form nB;have ax:(Ec out j D).length=q+j:=(by rw[ME,HQ.out]);obtain⟨I,hI⟩:=jc (q+j-D);have ah:=U7 j D out;rw[ax,<-hI]at ah;have hy:(bZ .u8 (Ec out j D))[I]? =some (.int .u8 ((Ec out j D).getD I 0:Nat)):=(by simp[bZ,List.getD_eq_getElem?_getD,List.getElem?_eq_getElem (show I<(Ec out j D).length by omega)]);have c9:wr.cell? ⟨g,I,none⟩=some (.int .u8 ((Ec out j D).getD I 0:Nat)):=(by have h:=Y.out.cellAt I nB;rw[h];exact hy);generalize (Ec out j D).getD I 0=y at *;have k1:=N.out.iy 1;have k2:=N.out.iy 2;have s2:IntKind.i64.wrap (((q+j:Nat):Int)-(D:Int))=(I:Int):=nX;have s3:IntKind.i64.wrap ((q:Int)+(j:Int)-(D:Int))=(I:Int):=nX;have y2:(0:Int)<=(I:Int):=nB;have y3:(I:Int)<((q+j:Nat):Int):=nB;have a0:=hid ah;clear ax hI ah hy b1 b2;go_wp2_with(at_builtin;refine fZ rfl (.tmp 48) (.tmp 57) 28 rfl w 5 j0 _ 1 1 underlying28 aw am ar av rfl ji _ _ _ nC (Y.out.alloc _) _ 1 1 [.int .u8 y] nC (Src.of_blk (Blk.made _ _ _) 1 1 1 rfl) mY qn nB p5 ?_;intro v4 w4 Z ab au);go_roundw
        case measure=>exact ld
        case rel=>
         go_light;refine⟨j+1,nB,lj,?_,?_,?_⟩
         ·show World.ownsRow _ _ _ _ _ _ _;rw[a0.out,show bZ .u8 (Ec out j D++ [y])=bZ .u8 (Ec out j D)++ [.int .u8 y] by simp[bZ]];exact Z
         ·exact(N.out.alloc _).grown ab (fun e=>iZ Y.out N.out ji e.symm)
         ·exact(mZ a9 ai.out).grown ab p5 (fun y hy=>(Ai Y.out y hy).1)
       ·obtain rfl:j=L:=by omega
        have k1:=N.out.iy 1;obtain⟨A5,c5,rfl⟩:=aZ Y.out;clear b1 b2;go_wp2_with fail;go_roundw
        case measure=>exact ld
        case rel=>go_light;exact⟨k+1,q+j,Ec out j D,nB,aj,lj,by show _=_;rw[ME,HQ.out],Y.out,ag.out,ai.out⟩
  ·obtain rfl:k=n:=by omega
   have hp:=HP.out;rw[CF oz,Fu]at hp;injection hp with e1 e2;subst e1 e2;clear HP;go_wp2_with fail;go_ret2;refine⟨_,rfl,?_,hb⟩;rw[HQ.out];exact HO.out
end Lz
end Go.Proofs.YtfgdoknipbpfhaaGreatDoor
