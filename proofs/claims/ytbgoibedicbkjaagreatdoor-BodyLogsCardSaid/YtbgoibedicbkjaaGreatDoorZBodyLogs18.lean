/- The walks of package -/
import Derived.Test.YtbgoibedicbkjaaGreatDoorZBodyLogs14
import Derived.Deep.RegionWith
import Derived.Laws.MakeOwn
import Derived.Maps.OwnSet
import Derived.DeepKeys4
namespace Go.Proofs.YtbgoibedicbkjaaGreatDoor
open Go.Lib (hid)
set_option maxHeartbeats 1000000
namespace Toks
open Go.RowKit Mem
def tkd:Tk:=⟨0,0,0⟩
def Hm(ts:List Tk):Nat->Nat->Value:=fun i j=>match j with
 |0=> .int .u8 (ts.getD i tkd).lit
 |1=> .int .i64 (ts.getD i tkd).len
 |_=> .int .i64 (ts.getD i tkd).dist
end Toks
namespace Huff
open Go.RowKit Mem
open Go.Proofs.YtbgoibedicbkjaaGreatDoor.Toks (Tk)
def CG(ts:List Tk):List Value:=ts.flatMap fun t=> [.int .u8 t.lit, .int .i64 t.len, .int .i64 t.dist]
theorem Im(ts:List Tk)(t:Tk):CG (ts++ [t])=CG ts++ [.int .u8 t.lit, .int .i64 t.len, .int .i64 t.dist]:=by simp[CG]
theorem Kw:(Tryz.prog.info? 252).map (fun i=>(i.zero,i.size,i.bytes))=some (some (.agg #[.int .u8 0, .int .i64 0, .int .i64 0]),3,24):=by kernel_rfl
def tkd:Tk:=⟨0,0,0⟩
def tkF(ts:List Tk):Nat->Nat->Value:=fun i j=>match j with
 |0=> .int .u8 (ts.getD i tkd).lit
 |1=> .int .i64 (ts.getD i tkd).len
 |_=> .int .i64 (ts.getD i tkd).dist
theorem K0:∀ (ts:List Tk) (i j:Nat),i<ts.length->j<3->(CG ts)[i*3+j]? =some (tkF ts i j)
 | [],i,j,h,_=>by simp at h
 |t :: ts,0,j,_,hj=>by
  obtain rfl|rfl|rfl:j=0∨j=1∨j=2:=by omega
  all_goals rfl
 |t :: ts,i+1,j,h,hj=>by have:=K0 ts i j (by simpa using h) hj;show(_ :: _ :: _ :: CG ts)[(i+1)*3+j]? =_;rw[show(i+1)*3+j=(i*3+j)+1+1+1 by omega,List.getElem?_cons_succ,List.getElem?_cons_succ,List.getElem?_cons_succ,this];rfl
end Huff
namespace Block
open Go.RowKit Mem
open Go.Proofs.YtbgoibedicbkjaaGreatDoor.Huff (CG K0 tkF)
open Go.Proofs.YtbgoibedicbkjaaGreatDoor.Toks (Tk)
theorem VV(ts:List Tk)(i j:Nat):tkF ts i j=Toks.Hm ts i j:=by
 match j with
 |0=>rfl
 |1=>rfl
 |_+2=>rfl
theorem Ia{w:World}{base c:Nat}{A:Option Addr}{ts:List Tk}(h:w.ownsRow base 252 3 (.slice A ts.length c) ts.length (CG ts)):Row w w.heap.size A ts.length 3 (Toks.Hm ts):=
 Row.of_own h rfl fun i j hi hj=>by rw[<-VV ts i j];exact K0 ts i j hi hj
end Block
namespace Lz
end Lz
namespace Lz
open Go.RowKit Mem Own Canon
end Lz
namespace Lz
open Go.RowKit Go.Maps Mem Own
end Lz
namespace Lz
open Go.RowKit Go.Maps Mem Own Canon
section
variable {w w':World} {cb mb base:Nat} {l:List Nat} {n m:Nat} {D:DataW Unit} {pv:Value} {ps:List Int}
end
theorem own_cells{w:World}{base n g c i:Nat}{e:TypeId}{xs:List Value}(h:w.ownsRow base e 1 (.slice (some ⟨g,0,none⟩) n c) n xs)(hi:i<n):w.cell? ⟨g,i,none⟩=xs[i]? /\w.frozen? ⟨g,i,none⟩=false/\base<=g:=by
 rcases h.2 with ⟨hv,_⟩|⟨g',y,cur,hv,hb,hg,h1,h2,h3,h4⟩
 ·cases hv
 ·injection hv with e1 e2 e3;injection e1 with e1;injection e1 with e1;subst e1 e3;have j:Blk w g e cur:=hg;refine⟨?_,j.frozen i,hb⟩;rw[j.cell i,<-h4,List.getElem?_take_of_lt (by omega)];simp
end Lz
namespace Lz
open Go.RowKit Go.Maps Mem Own Canon
end Lz
namespace Lz
open Go.RowKit Go.Maps Mem Own Canon
open Go.Proofs.YtbgoibedicbkjaaGreatDoor.Toks (Tk)
open Go.Proofs.YtbgoibedicbkjaaGreatDoor.Huff (CG Im Kw)
section
variable {w0 w w':World} {cb mb:Nat} {l:List Nat} {at_ k:Nat} {D:DataW Unit} {pv vt:Value} {ts:List Tk}
end
end Lz
namespace Lz
open Go.RowKit Mem Own Canon
open Go.Proofs.YtbgoibedicbkjaaGreatDoor.Toks (Tk By QH)
theorem LD:∀ (n d:Nat) (out:List Nat),Bi out (n+1) d=Bi out n d++ [(Bi out n d).getD ((Bi out n d).length-d) 0]
 |0,_,_=>rfl
 |n+1,d,out=>by rw[Bi,LD n d];rfl
theorem Q6{t:Tk}(hl:0<=t.lit/\t.lit<=255)(h:By t.lit t.len t.dist=true):
 (∃x:Nat,x<=255/\t=⟨(x:Int),0,0⟩)∨∃L D:Nat,3<=L/\L<=257/\1<=D/\D<=4095/\t=⟨0,(L:Int),(D:Int)⟩:=by
 obtain⟨lit,len,dist⟩:=t;simp only at hl h;unfold By at h;split at h
 ·rename_i h0;have h1:=of_decide_eq_true h;subst h0 h1;exact .inl ⟨lit.toNat,by omega,by rw[Int.toNat_of_nonneg hl.1]⟩
 ·have h1:=of_decide_eq_true h;refine .inr ⟨len.toNat,dist.toNat,by omega,by omega,by omega,by omega,?_⟩;rw[Int.toNat_of_nonneg (by omega),Int.toNat_of_nonneg (by omega),h1.1]
theorem Vw{most q x:Nat}{out:List Nat}(hq:out.length=q)(_h:q<=most):Gw most out ⟨(x:Int),0,0⟩=if most-q<1 then 6 else 0:=by
 unfold Gw;rw[Ab (show By (x:Int) 0 0=true from rfl),hq,Aa (show ¬(q:Int)<0 by omega)];by_cases h:most-q<1
 ·rw[Ab (show(most:Int)-(q:Int)<max 1 0 by omega),Ab h]
 ·rw[Aa (show ¬(most:Int)-(q:Int)<max 1 0 by omega),Aa h]
theorem Wo{most q L D:Nat}{out:List Nat}(hq:out.length=q)(_h:q<=most)(h1:3<=L)(h2:L<=257)(h3:1<=D)(h4:D<=4095):Gw most out ⟨0,(L:Int),(D:Int)⟩=if q<D then 8 else if most-q<L then 6 else 0:=by
 have hm:By 0 (L:Int) (D:Int)=true:=by unfold By;rw[Aa (by omega)];exact Aw ⟨rfl,by omega,by omega,by omega,by omega⟩
 unfold Gw;rw[Ab hm,hq];show(if(q:Int)<(D:Int)then 8 else if(most:Int)-(q:Int)<max 1 (L:Int)then 6 else 0)=_;by_cases h:q<D
 ·rw[Ab (by omega),Ab h]
 ·rw[Aa (by omega),Aa h];by_cases h':most-q<L
  ·rw[Ab (by omega),Ab h']
  ·rw[Aa (by omega),Aa h']
def G8(R:List Nat×Int)(w:World)(e:Ending)(w':World):Prop:=
 ∃v,e= .returned (.tuple #[v, .int .i64 R.2])/\w'.ownsRow w.heap.size 5 1 v R.1.length (cZ .u8 R.1)/\Below w.heap.size w w'
set_option maxRecDepth 100000 in
theorem T4(w:World)(A:Option Addr)(n c:Nat)(ts:List Tk)(most:Nat)(az:most<=1000000)(hn:ts.length=n)(hN:n<=1000000)(ae:∀t∈ts,(0<=t.lit/\t.lit<=255)/\By t.lit t.len t.dist=true)(ha:Row w w.heap.size A n 3 (Toks.Hm ts)):
 Calls Tryz.prog 247 #[.slice A n c, .int .i64 most] w (G8 (El ts most) w):=by
 obtain⟨j0,ax,aw,au,al⟩:=info_parts Cr;have hP:El ts most=Dg most [] ts:=Aa (by omega);rw[hP];obtain⟨R,hR⟩:∃R,R=Dg most [] ts:=⟨_,rfl⟩;rw[<-hR];obtain⟨R1,R2⟩:=R;unfold G8;have g0:decide ((most:Int)<0)=false:=by simp
 have HR:=hid hR;have HA:=hid ha;have HN:=hid hn;have ar:=hid ae;clear hP hR ha hn ae;go_enter Tryz.func247,Tryz.ntmps247;go_wp2_with fail;go_loopw [6,13] (fun u i wr=>∃ (k q:Nat) (out:List Nat),k<=n/\q<=most/\i= .int .i64 k/\Hid (out.length=q)/\Hid (wr.ownsRow w.heap.size 5 1 u q (cZ .u8 out))/\Hid (Dg most out (ts.drop k)=(R1,R2))/\Below w.heap.size w wr) (fun _ i _=>n-(intOf i).toNat)
 case atStart=>exact⟨0,0,[],by omega,by omega,rfl,rfl,Am _ _ _ _,HR.out.symm,Ag _ _⟩
 case round=>
  obtain⟨k,q,out,hk,hq,rfl,HQ,HO,HP,hb⟩:=hrel;have hz:=hb.size;obtain⟨va,vc,rfl⟩:=aZ HO.out;by_cases aa:k<n
  ·obtain⟨ob,aG,rfl,af,E⟩:=HA.out (by omega);have N:k<ts.length:=(by rw[HN.out];exact aa);have c0:=(hb.cell (p:=⟨ob,_,none⟩) af).trans (E k 0 aa (by omega));have c1:=(hb.cell (p:=⟨ob,_,none⟩) af).trans (E k 1 aa (by omega));have c2:=(hb.cell (p:=⟨ob,_,none⟩) af).trans (E k 2 aa (by omega));simp only[Toks.Hm,List.getD_eq_getElem?_getD,List.getElem?_eq_getElem N,Option.getD_some,Nat.add_zero,<-Nat.add_assoc]at c0 c1 c2;have hp:=HP.out;rw[CC N,Dg]at hp;obtain⟨hl,hm⟩:=ar.out _ (Hr N);have HM:=fun wx=>QH ts[k] wx;rw[hm]at HM;have ay:=Q6 hl hm;generalize ts[k]=t at *;have x0:(0:Int)<=(k:Int):=(by omega);have x1:(k:Int)<(n:Int):=(by omega);rcases ay with ⟨x,hx,rfl⟩|⟨L,D,aB,hL,aF,hD,rfl⟩
   ·rw[Vw HQ.out hq]at hp;simp only[Toks.Tk.val_mk]at HM c0 c1 c2;have HM:=hid HM;have g1:decide ((q:Int)<0)=false:=(by simp);have aC:max (1:Int) 0=1:=(by decide);have s1:IntKind.i64.wrap ((most:Int)-(q:Int))=((most-q:Nat):Int):=(by rw[Ak _ (by omega)];omega);by_cases G:most-q<1
    ·rw[Ab G,Aa (by simp)]at hp;injection hp with e1 e2;subst e1 e2;have g2:decide (((most-q:Nat):Int)<1)=true:=(by simp;omega);have g3:decide (most-q<1)=true:=(by simp;omega);generalize Q:most-q=dm at *;have aq:dm=0:=(by omega);subst aq;clear Q hm hl HP;clear E N;go_wp2_with fail;refine(HM.out _).mono ?_;rintro e w2 ⟨rfl,z⟩;have kk:=fun o=>z.cell (p:=⟨wr.heap.size,o,none⟩) (by simp);have b1:=(kk 1).trans rfl;have J:Hid (Below w.heap.size w w2):=(kZ hz hb).trans (z.mono (by simp;omega));have b2:=(kk 2).trans rfl;clear kk;go_wp2_with fail;go_ret2;exact⟨_,rfl,Am _ _ _ _,J.out⟩
    ·rw[Aa G,Ab rfl,Ab rfl,Cl]at hp;obtain⟨dm,Q⟩:∃dm,dm=most-q:=⟨_,rfl⟩;rw[<-Q]at s1 G;have g2:decide ((dm:Int)<1)=false:=(by simp;omega);have g3:decide (dm<1)=false:=(by simp;omega);have ai:=hid hp;have ak:q+1<=most:=(by omega);clear Q hm hl HP hp G;clear E N;go_wp2_with fail;refine(HM.out _).mono ?_;rintro e w2 ⟨rfl,z⟩;have kk:=fun o=>z.cell (p:=⟨wr.heap.size,o,none⟩) (by simp);have b1:=(kk 1).trans rfl;have J:Hid (Below w.heap.size w w2):=(kZ hz hb).trans (z.mono (by simp;omega));have b2:=(kk 2).trans rfl;have b0:=(kk 0).trans rfl;have Z:=hid (dZ (HO.out.alloc (.cells #[.int .u8 x, .int .i64 0, .int .i64 0] 252)) (fun y hy=>z.block y (by have:=(Ae HO.out y hy).2;simp;omega)));have av:=J.out.size;clear kk;go_wp2_with(at_builtin;refine gZ rfl (.tmp 39) (.tmp 42) 22 rfl w.heap.size 5 j0 _ 1 1 Tryz.underlying22 ax aw au al rfl (by decide) _ _ _ (by rfl) (Z.out.alloc _) _ 1 1 [.int .u8 x] (by rfl) (Src.of_blk (Blk.made _ _ _) 1 1 1 rfl) (by intro u hu;simp at hu;rcases hu with rfl;rfl) (by unfold maxLen;omega) (by omega) (by simp;omega) ?_;intro v4 w4 Y ab am);go_roundw
     case measure=>go_light;simp[intOf];omega
     case rel=>
      go_light;refine⟨k+1,q+1,out++ [x],by omega,ak,by go_num,?_,?_,ai.out,?_⟩
      ·show _=_;rw[Ai,HQ.out];rfl
      ·show World.ownsRow _ _ _ _ _ _ _;rw[show cZ .u8 (out++ [x])=cZ .u8 out++ [.int .u8 x] by simp[cZ]];exact Y
      ·exact(kZ av J.out).grown ab (by simp;omega) (fun y hy=>(Ae Z.out y hy).1)
   ·rw[Wo HQ.out hq aB hL aF hD]at hp;simp only[Toks.Tk.val_mk]at HM c0 c1 c2;have HM:=hid HM;have aC:max (1:Int) (L:Int)=(L:Int):=(by omega);have aI:((L:Int)==0)=false:=(by rw[Fj];intro h;simp at h;omega);have s1:IntKind.i64.wrap ((most:Int)-(q:Int))=((most-q:Nat):Int):=(by rw[Ak _ (by omega)];omega);by_cases ac:q<D
    ·rw[Ab ac,Aa (by simp)]at hp;injection hp with e1 e2;subst e1 e2;have g1:decide ((q:Int)<(D:Int))=true:=(by simp;omega);have aE:decide (q<D)=true:=(by simp;omega);clear hm hl HP;clear E N;go_wp2_with fail;refine(HM.out _).mono ?_;rintro e w2 ⟨rfl,z⟩;have kk:=fun o=>z.cell (p:=⟨wr.heap.size,o,none⟩) (by simp);have b1:=(kk 1).trans rfl;have J:Hid (Below w.heap.size w w2):=(kZ hz hb).trans (z.mono (by simp;omega));have b2:=(kk 2).trans rfl;clear kk;go_wp2_with fail;go_ret2;exact⟨_,rfl,Am _ _ _ _,J.out⟩
    ·rw[Aa ac]at hp;have g1:decide ((q:Int)<(D:Int))=false:=(by simp;omega);have aE:decide (q<D)=false:=(by simp;omega);obtain⟨dm,Q⟩:∃dm,dm=most-q:=⟨_,rfl⟩;rw[<-Q]at s1 hp;by_cases G:dm<L
     ·rw[Ab G,Aa (by simp)]at hp;injection hp with e1 e2;subst e1 e2;have g2:decide ((dm:Int)<(L:Int))=true:=(by simp;omega);have g3:decide (dm<L)=true:=(by simp;omega);clear hm hl HP Q;clear E N;go_wp2_with fail;refine(HM.out _).mono ?_;rintro e w2 ⟨rfl,z⟩;have kk:=fun o=>z.cell (p:=⟨wr.heap.size,o,none⟩) (by simp);have b1:=(kk 1).trans rfl;have J:Hid (Below w.heap.size w w2):=(kZ hz hb).trans (z.mono (by simp;omega));have b2:=(kk 2).trans rfl;clear kk;go_wp2_with fail;go_ret2;exact⟨_,rfl,Am _ _ _ _,J.out⟩
     ·rw[Aa G,Ab rfl,Aa (by show ¬(L:Int)=0;omega)]at hp
      replace hp:Dg most (Bi out ((L:Int)).toNat ((D:Int)).toNat) (ts.drop (k+1))=(R1,R2):=hp
      rw[Cl,Cl]at hp;have g2:decide ((dm:Int)<(L:Int))=false:=(by simp;omega);have g3:decide (dm<L)=false:=(by simp;omega);have ai:=hid hp;have ak:q+L<=most:=(by omega);clear Q hm hl HP hp G;clear E N;go_wp2_with fail;refine(HM.out _).mono ?_;rintro e w2 ⟨rfl,z⟩;have kk:=fun o=>z.cell (p:=⟨wr.heap.size,o,none⟩) (by simp);have b1:=(kk 1).trans rfl;have J:Hid (Below w.heap.size w w2):=(kZ hz hb).trans (z.mono (by simp;omega));have b2:=(kk 2).trans rfl;have Z:=hid (dZ (HO.out.alloc (.cells #[.int .u8 0, .int .i64 L, .int .i64 D] 252)) (fun y hy=>z.block y (by have:=(Ae HO.out y hy).2;simp;omega)));have ah:Hid (Blk w2 wr.heap.size 252 #[.int .u8 0, .int .i64 L, .int .i64 D]):=(Blk.made wr _ _).step z;have av:=J.out.size;generalize wr.heap.size=pb at *;clear kk z HO hb c0 c1 c2 HM b1 b2;have b1:=ah.out.cell 1;have b2:=ah.out.cell 2;simp only[List.getElem?_toArray,List.getElem?_cons_zero,List.getElem?_cons_succ]at b1 b2;go_wp2_with fail;go_loopw [6,46] (fun u i wx=>∃j:Nat,j<=L/\i= .int .i64 j/\Hid (wx.ownsRow w.heap.size 5 1 u (q+j) (cZ .u8 (Bi out j D)))/\Hid (Blk wx pb 252 #[.int .u8 0, .int .i64 L, .int .i64 D])/\Hid (Below w.heap.size w wx)) (fun _ i _=>L-(intOf i).toNat)
      case atStart=>exact⟨0,by omega,rfl,Z.out,ah.out,J.out⟩
      case round=>
       obtain⟨j,hj,rfl,U,M,aj⟩:=hrel;have aD:=aj.out.size;by_cases aH:j<L
       ·obtain⟨g,cg,rfl,_⟩:=U.out.form (by omega);have an:(Bi out j D).length=q+j:=(by rw[G3,HQ.out]);obtain⟨I,hI⟩:∃I,I=q+j-D:=⟨_,rfl⟩;have ag:=LD j D out;rw[an,<-hI]at ag;have hy:(cZ .u8 (Bi out j D))[I]? =some (.int .u8 ((Bi out j D).getD I 0:Nat)):=(by simp[cZ,List.getD_eq_getElem?_getD,List.getElem?_eq_getElem (show I<(Bi out j D).length by omega)]);have c9:wr.cell? ⟨g,I,none⟩=some (.int .u8 ((Bi out j D).getD I 0:Nat)):=(by have h:=U.out.cellAt I (by omega);rw[h];exact hy);generalize (Bi out j D).getD I 0=y at *;have k1:=M.out.cell 1;have k2:=M.out.cell 2;simp only[List.getElem?_toArray,List.getElem?_cons_zero,List.getElem?_cons_succ]at k1 k2;have s2:IntKind.i64.wrap (((q+j:Nat):Int)-(D:Int))=(I:Int):=(by rw[Ak _ (by omega)];omega);have s3:IntKind.i64.wrap ((q:Int)+(j:Int)-(D:Int))=(I:Int):=(by rw[Ak _ (by omega)];omega);have y2:(0:Int)<=(I:Int):=(by omega);have y3:(I:Int)<((q+j:Nat):Int):=(by omega);have aA:=hid ag;clear an hI ag hy b1 b2;go_wp2_with(at_builtin;refine gZ rfl (.tmp 48) (.tmp 57) 22 rfl w.heap.size 5 j0 _ 1 1 Tryz.underlying22 ax aw au al rfl (by decide) _ _ _ (by rfl) (U.out.alloc _) _ 1 1 [.int .u8 y] (by rfl) (Src.of_blk (Blk.made _ _ _) 1 1 1 rfl) (by intro u hu;simp at hu;rcases hu with rfl;rfl) (by unfold maxLen;omega) (by omega) (by simp;omega) ?_;intro v4 w4 Y ab am);go_roundw
        case measure=>go_light;simp[intOf];omega
        case rel=>
         go_light;refine⟨j+1,by omega,by go_num,?_,?_,?_⟩
         ·show World.ownsRow _ _ _ _ _ _ _;rw[aA.out,show cZ .u8 (Bi out j D++ [y])=cZ .u8 (Bi out j D)++ [.int .u8 y] by simp[cZ]];exact Y
         ·exact(M.out.alloc _).grown ab (fun e=>fZ U.out M.out (by decide) e.symm)
         ·exact(kZ aD aj.out).grown ab (by simp;omega) (fun y hy=>(Ae U.out y hy).1)
       ·obtain rfl:j=L:=by omega
        have k1:=M.out.cell 1;simp only[List.getElem?_toArray,List.getElem?_cons_zero,List.getElem?_cons_succ]at k1;obtain⟨A5,c5,rfl⟩:=aZ U.out;clear b1 b2;go_wp2_with fail;go_roundw
        case measure=>go_light;simp[intOf];omega
        case rel=>go_light;exact⟨k+1,q+j,Bi out j D,by omega,ak,by go_num,by show _=_;rw[G3,HQ.out],U.out,ai.out,aj.out⟩
  ·obtain rfl:k=n:=by omega
   have hp:=HP.out;rw[Ce (by rw[HN.out];exact Aj _),Dg]at hp;injection hp with e1 e2;subst e1 e2;clear HP;go_wp2_with fail;go_ret2;refine⟨_,rfl,?_,hb⟩;rw[HQ.out];exact HO.out
end Lz
namespace Toks
open Go.RowKit Mem
theorem Sh(sym:Int)(h0:0<=sym)(h1:sym<256):Cq ⟨sym,0,0,0⟩=⟨sym,0,0⟩/\CT ⟨sym,0,0,0⟩=0:=by
 have hl:GW ⟨sym,0,0,0⟩=true:=by simp[GW];omega
 unfold Cq CT;rw[Ab hl,Ab hl];exact⟨rfl,rfl⟩
theorem MG(p:Pc)(a1:257<=p.sym)(a2:p.sym<265)(a3:0<=p.dist)(a4:p.dist<12)(a5:0<=p.len/\p.len<pw (p.sym-257))(a6:0<=p.far/\p.far<pw p.dist):
 Cq p=⟨0,2+pw (p.sym-257)+p.len,pw p.dist+p.far⟩/\CT p=0:=by
 have hl:GW p=false:=by simp[GW];omega
 have hm:IZ p=true:=by simp only[IZ,decide_eq_true_eq];omega
 unfold Cq CT;simp[hl,hm]
theorem VF(p:Pc)(h:¬(0<=p.sym/\p.sym<256/\p.len=0/\p.dist=0/\p.far=0))
 (h':¬(257<=p.sym/\p.sym<265/\0<=p.dist/\p.dist<12/\0<=p.len/\p.len<pw (p.sym-257)/\0<=p.far/\p.far<pw p.dist)):Cq p=⟨0,0,0⟩/\CT p=7:=by
 have hl:GW p=false:=by unfold GW;simpa using h
 have hm:IZ p=false:=by unfold IZ;simpa using h'
 unfold Cq CT;simp[hl,hm]
theorem Pw(p:Pc):∃a b c e,Cq p=⟨a,b,c⟩/\CT p=e/\
 Hid (((0<=p.sym/\p.sym<256/\p.len=0/\p.dist=0/\p.far=0)->a=p.sym/\b=0/\c=0/\e=0)/\
  ((257<=p.sym/\p.sym<265/\0<=p.dist/\p.dist<12/\0<=p.len/\p.len<pw (p.sym-257)/\0<=p.far/\p.far<pw p.dist)->
    a=0/\b=2+pw (p.sym-257)+p.len/\c=pw p.dist+p.far/\e=0)/\
  (¬(0<=p.sym/\p.sym<256/\p.len=0/\p.dist=0/\p.far=0)->
   ¬(257<=p.sym/\p.sym<265/\0<=p.dist/\p.dist<12/\0<=p.len/\p.len<pw (p.sym-257)/\0<=p.far/\p.far<pw p.dist)->
    a=0/\b=0/\c=0/\e=7)):=by
 refine⟨(Cq p).lit,(Cq p).len,(Cq p).dist,CT p,rfl,rfl,?_⟩;refine⟨fun h=> ?_,fun h=> ?_,fun h h'=> ?_⟩
 ·obtain⟨sym,len,dist,far⟩:=p;obtain⟨h1,h2,rfl,rfl,rfl⟩:=h;obtain⟨e1,e2⟩:=Sh sym h1 h2;rw[e1,e2];exact⟨rfl,rfl,rfl,rfl⟩
 ·obtain⟨e1,e2⟩:=MG p h.1 h.2.1 h.2.2.1 h.2.2.2.1 ⟨h.2.2.2.2.1,h.2.2.2.2.2.1⟩ ⟨h.2.2.2.2.2.2.1,h.2.2.2.2.2.2.2⟩;rw[e1,e2];exact⟨rfl,rfl,rfl,rfl⟩
 ·obtain⟨e1,e2⟩:=VF p h h';rw[e1,e2];exact⟨rfl,rfl,rfl,rfl⟩
theorem UY(p:Pc)(w:World)(h0: -9223372036854775808<=p.sym)(h1:p.sym<=9223372036854775807):
 Calls Tryz.prog 286 #[p.val] w fun e w'=>e= .returned (.tuple #[(Cq p).val, .int .i64 (CT p)])/\Below w.heap.size w w':=by
 obtain⟨a,b,c,e,ht,he,HJ⟩:=Pw p;rw[ht,he,Tk.val_mk];clear ht he;obtain⟨sym,len,dist,far⟩:=p;simp only at h0 h1 HJ;rw[Pc.val_mk];go_enter Tryz.func286,Tryz.ntmps286;go_wp2_with(go_at_call 289;refine(Wx _ _ _ (by omega) (by omega)).mono ?_;rintro e w' ⟨rfl,rfl⟩)
 all_goals first
  |(refine AN (v:= .tuple #[.agg #[.int .u8 a, .int .i64 b, .int .i64 c], .int .i64 e]) ?_ rfl ⟨rfl,?_⟩
    ·have HK:=HJ.out;go_light;simp[results,Tryz.results286,go_sem];omega
    ·(repeat (with_reducible first|exact Ag _ _|assumption|refine Aq ?_ |refine below_drewN ?_ _|refine qZ ?_ |refine bZ ?_ |refine eZ (by assumption) ?_ |refine belA ?_ |refine rZ (by assumption) ?_)))
  |skip
 have f1:0<=len/\len<pw (sym-257):=by assumption
 have f2:0<=far/\far<pw dist:=by assumption
 go_region;all_goals go_wp2
 all_goals
  refine AN (v:= .tuple #[.agg #[.int .u8 a, .int .i64 b, .int .i64 c], .int .i64 e]) ?_ rfl ⟨rfl,?_⟩
  ·have HK:=HJ.out;go_light;obtain⟨p1,h⟩:=Mh (sym-257) (by omega);obtain⟨p2,i⟩:=Mh dist (by omega);simp only[p1,p2];rw[IC (2+pw (sym-257)) ⟨by omega,by omega⟩,IC (2+pw (sym-257)+len) ⟨by omega,by omega⟩,IC (pw dist+far) ⟨by omega,by omega⟩];simp[results,Tryz.results286,go_sem];omega
  ·(repeat (with_reducible first|exact Ag _ _|assumption|refine Aq ?_ |refine below_drewN ?_ _|refine qZ ?_ |refine bZ ?_ |refine eZ (by assumption) ?_ |refine belA ?_ |refine rZ (by assumption) ?_))
theorem R6(b:Int)(h2:b<=12):1<=pw b/\pw b<=4096:=by have hm:=Mo b 12 h2;rw[S0]at hm;exact⟨Q8 b,hm⟩
theorem Vq(b:Int)(w:World)(h1:0<=b)(h2:b<=60):
 Calls Tryz.prog 219 #[.int .i64 b] w fun e w'=>e= .returned (.int .i64 (pw b))/\w'=w:=
 (Nz b w h1 h2).mono fun _ _ h=>⟨h.1,h.2.symm⟩
theorem RR(p:Pc)(w:World)(h0: -9223372036854775808<=p.sym)(h1:p.sym<=9223372036854775807)(k0: -9223372036854775808<=p.len)(k1:p.len<=9223372036854775807):
 Calls Tryz.prog 183 #[p.val] w fun e w'=>e= .returned (.tuple #[(Cq p).val, .int .i64 (CT p)])/\Below w.heap.size w w':=by
 obtain⟨a,b,c,e,ht,he,HJ⟩:=Pw p;rw[ht,he,Tk.val_mk];clear ht he;obtain⟨sym,len,dist,far⟩:=p;simp only at h0 h1 k0 k1 HJ;rw[Pc.val_mk];go_enter Tryz.func183,Tryz.ntmps183;go_wp2_with(go_at_call 219;refine(Nz _ _ (by omega) (by omega)).mono ?_;rintro e w' ⟨rfl,rfl⟩)
 all_goals first
  |(exfalso;omega)
  |(refine AN (v:= .tuple #[.agg #[.int .u8 a, .int .i64 b, .int .i64 c], .int .i64 e]) ?_ rfl ⟨rfl,?_⟩
    ·have HK:=HJ.out;go_light;simp[results,Tryz.results183,go_sem]
     try simp only[beq_iff_eq,beq_eq_false_iff_ne,ne_eq]at *
     omega
    ·(repeat (with_reducible first|exact Ag _ _|assumption|refine Aq ?_ |refine below_drewN ?_ _|refine qZ ?_ |refine bZ ?_ |refine eZ (by assumption) ?_ |refine belA ?_ |refine rZ (by assumption) ?_)))
  |skip
 have p1:=R6 (sym-257) (by omega);have p2:=R6 dist (by omega);go_quiet ((go_at_call 219;exact B0 (Vq _ _ (by omega) (by omega))))
 go_wp2
 all_goals
  refine AN (v:= .tuple #[.agg #[.int .u8 a, .int .i64 b, .int .i64 c], .int .i64 e]) ?_ rfl ⟨rfl,?_⟩
  ·have HK:=HJ.out;go_light;simp[results,Tryz.results183,go_sem];omega
  ·(repeat (with_reducible first|exact Ag _ _|assumption|refine Aq ?_ |refine below_drewN ?_ _|refine qZ ?_ |refine bZ ?_ |refine eZ (by assumption) ?_ |refine belA ?_ |refine rZ (by assumption) ?_))
end Toks
end Go.Proofs.YtbgoibedicbkjaaGreatDoor
