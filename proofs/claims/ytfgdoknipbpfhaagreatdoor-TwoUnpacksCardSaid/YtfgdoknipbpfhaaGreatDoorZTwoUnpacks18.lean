/- The walks of package -/
import Derived.Test.YtfgdoknipbpfhaaGreatDoorZTwoUnpacks14
import Derived.Deep.RegionWith
import Derived.Laws.MakeOwn
import Derived.Maps.OwnSet
import Derived.DeepKeys4
namespace Go.Proofs.YtfgdoknipbpfhaaGreatDoor
open Go.Proofs.Tryz
open Go.Lib (hid)
set_option maxHeartbeats 1000000
variable{w:World}{base c most q:Nat}{out:List Nat}
namespace Toks
open Go.RowKit Mem
def tkd:Tk:=⟨0,0,0⟩
def Im(ts:List Tk):Nat->Nat->Value:=fun i j=>match j with
 |0=> .int .u8 (ts.getD i tkd).lit
 |1=> .int .i64 (ts.getD i tkd).len
 |_=> .int .i64 (ts.getD i tkd).dist
end Toks
namespace Huff
open Go.RowKit Mem
open Toks (Tk)
def CW(ts:List Tk):List Value:=ts.flatMap fun t=> [.int .u8 t.lit, .int .i64 t.len, .int .i64 t.dist]
theorem IU(ts:List Tk)(t:Tk):CW (ts++ [t])=CW ts++ [.int .u8 t.lit, .int .i64 t.len, .int .i64 t.dist]:=by simp[CW]
theorem Lq:(prog.info? 280).map (fun i=>(i.zero,i.size,i.bytes))=some (some (.agg #[.int .u8 0,iT,iT]),3,24):=kG
def tkd:Tk:=⟨0,0,0⟩
def tkF(ts:List Tk):Nat->Nat->Value:=fun i j=>match j with
 |0=> .int .u8 (ts.getD i tkd).lit
 |1=> .int .i64 (ts.getD i tkd).len
 |_=> .int .i64 (ts.getD i tkd).dist
theorem LP:∀ (ts:List Tk) (i j:Nat),i<ts.length->j<3->(CW ts)[i*3+j]? =some (tkF ts i j)
 | [],i,j,h,_=>by simp at h
 |t :: ts,0,j,_,hj=>by
  obtain rfl|rfl|rfl:j=0∨j=1∨j=2:=kR
  all_goals rfl
 |t :: ts,i+1,j,h,hj=>by have:=LP ts i j nz hj;show(_ :: _ :: _ :: CW ts)[(i+1)*3+j]? =_;rw[show(i+1)*3+j=(i*3+j)+1+1+1 by omega,List.getElem?_cons_succ,List.getElem?_cons_succ,List.getElem?_cons_succ,this];rfl
end Huff
namespace Block
open Go.RowKit Mem
open Huff (CW LP tkF)
open Toks (Tk)
theorem UG(ts:List Tk)(i j:Nat):tkF ts i j=Toks.Im ts i j:=by
 match j with
 |0=>rfl
 |1=>rfl
 |_+2=>rfl
theorem IF{A:Option Addr}{ts:List Tk}(h:w.ownsRow base 280 3 (.slice A ts.length c) ts.length (CW ts)):Row w w A ts.length 3 (Toks.Im ts):=
 Row.of_own h rfl fun i j hi hj=>by rw[<-UG ts i j];exact LP ts i j hi hj
end Block
namespace Lz
end Lz
namespace Lz
open Go.RowKit Mem Own Canon
end Lz
namespace Lz
open Go.RowKit Go.Maps Mem Own
end Lz
namespace Lz
open Go.RowKit Go.Maps Mem Own Canon
theorem own_cells{n g i:Nat}{e:TypeId}{xs:List Value}(h:w.ownsRow base e 1 (.slice (some ⟨g,0,none⟩) n c) n xs)(hi:i<n):w.cell? ⟨g,i,none⟩=xs[i]? /\w.frozen? ⟨g,i,none⟩=false/\base<=g:=by
 rcases h.2 with ⟨hv,_⟩|⟨g',y,cur,hv,hb,hg,h1,h2,h3,h4⟩
 ·cases hv
 ·injection hv with e1 e2 e3;injection e1 with e1;injection e1 with e1;subst e1 e3;have j:Blk w g e cur:=hg;refine⟨?_,j.frozen i,hb⟩;rw[j.cell i,<-h4,List.getElem?_take_of_lt kR];simp
end Lz
namespace Lz
open Go.RowKit Go.Maps Mem Own Canon
end Lz
namespace Lz
open Go.RowKit Go.Maps Mem Own Canon
open Toks (Tk)
open Huff (CW IU Lq)
end Lz
namespace Lz
open Go.RowKit Mem Own Canon
open Toks (Tk BS RC)
theorem Lk:∀ (n d:Nat) (out:List Nat),Bw out (n+1) d=Bw out n d++ [(Bw out n d).getD ((Bw out n d).length-d) 0]
 |0,_,_=>rfl
 |n+1,d,out=>by rw[Bw,Lk n d];rfl
theorem Oq{t:Tk}(hl:0<=t.lit/\t.lit<=255)(h:BS t.lit t.len t.dist=true):
 (∃x:Nat,x<=255/\t=⟨(x:Int),0,0⟩)∨∃L D:Nat,3<=L/\L<=257/\1<=D/\D<=4095/\t=⟨0,(L:Int),(D:Int)⟩:=by
 obtain⟨lit,len,dist⟩:=t;simp only at hl h;unfold BS at h;split at h
 ·rename_i h0;have h1:=of_decide_eq_true h;subst h0 h1;exact .inl ⟨lit.toNat,kR,by rw[Int.toNat_of_nonneg hl.1]⟩
 ·have h1:=of_decide_eq_true h;refine .inr ⟨len.toNat,dist.toNat,kR,kR,kR,kR,?_⟩;rw[Int.toNat_of_nonneg kR,Int.toNat_of_nonneg kR,h1.1]
theorem Wz{x:Nat}(hq:out.length=q)(_h:q<=most):G5 most out ⟨(x:Int),0,0⟩=if most-q<1 then 6 else 0:=by
 unfold G5;rw[Ab (show BS (x:Int) 0 0=true from rfl),hq,Aa (show ¬(q:Int)<0 by omega)];by_cases h:most-q<1
 ·rw[Ab (show(most:Int)-(q:Int)<max 1 0 by omega),Ab h]
 ·rw[Aa (show ¬(most:Int)-(q:Int)<max 1 0 by omega),Aa h]
theorem X3{L D:Nat}(hq:out.length=q)(_h:q<=most)(h1:3<=L)(h2:L<=257)(h3:1<=D)(h4:D<=4095):G5 most out ⟨0,(L:Int),(D:Int)⟩=if q<D then 8 else if most-q<L then 6 else 0:=by
 have hm:BS 0 (L:Int) (D:Int)=true:=by unfold BS;rw[Aa kR];exact Aw ⟨rfl,kR,kR,kR,kR⟩
 unfold G5;rw[Ab hm,hq];show(if(q:Int)<(D:Int)then 8 else if(most:Int)-(q:Int)<max 1 (L:Int)then 6 else 0)=_;by_cases h:q<D
 ·rw[Ab kR,Ab h]
 ·rw[Aa kR,Aa h];by_cases h':most-q<L
  ·rw[Ab kR,Ab h']
  ·rw[Aa kR,Aa h']
def Ia(R:List Nat×Int)(w:World)(e:Ending)(w':World):Prop:=
 ∃v,e= .returned (.tuple #[v,R.2])/\w'.ownsRow w 5 1 v R.1.length (cZ .u8 R.1)/\aO w w'
set_option maxRecDepth 100000 in
theorem ZW(w:World)(A:Option Addr)(n c:Nat)(ts:List Tk)(most:Nat)(aU:most<=1000000)(hn:ts.length=n)(hN:n<=1000000)(ac:∀t∈ts,(0<=t.lit/\t.lit<=255)/\BS t.lit t.len t.dist=true)(ha:Row w w A n 3 (Toks.Im ts)):
 Calls prog 300 #[.slice A n c,most] w (Ia (EN ts most) w):=by
 obtain⟨j0,ar,ax,aq,av⟩:=info_parts Ct;have hP:EN ts most=Ei most [] ts:=Aa kR;rw[hP];obtain⟨R,hR⟩:=iS (Ei most [] ts);rw[<-hR];obtain⟨R1,R2⟩:=R;unfold Ia;have g0:=iR ((most:Int)<0)
 have HR:=hid hR;have HA:=hid ha;have HN:=hid hn;have an:=hid ac;clear hP hR ha hn ac;go_enter func300,ntmps300;go_wp2_with fail;go_loopw [6,13] (fun u i wr=>∃ (k q:Nat) (out:List Nat),k<=n/\q<=most/\i= .int .i64 k/\Hid (out.length=q)/\Hid (wr.ownsRow w 5 1 u q (cZ .u8 out))/\Hid (Ei most out (ts.drop k)=(R1,R2))/\aO w wr) (fun _ i _=>n-(intOf i).toNat)
 case atStart=>exact⟨0,0,[],kR,kR,rfl,rfl,Aq _ _ _ _,HR.out.symm,Ag _ _⟩
 case round=>
  obtain⟨k,q,out,hk,hq,rfl,HQ,HO,HP,hb⟩:=hrel;have hz:=hb.size;obtain⟨va,vc,rfl⟩:=aZ HO.out;by_cases ab:k<n
  ·obtain⟨ob,aV,rfl,ai,E⟩:=HA.out kR;have N:k<ts.length:=(by rw[HN.out];exact ab);have c0:=(hb.cell (p:=⟨ob,_,none⟩) ai).trans (E k 0 ab kR);have c1:=(hb.cell (p:=⟨ob,_,none⟩) ai).trans (E k 1 ab kR);have c2:=(hb.cell (p:=⟨ob,_,none⟩) ai).trans (E k 2 ab kR);simp only[Toks.Im,List.getD_eq_getElem?_getD,List.getElem?_eq_getElem N,Option.getD_some,Nat.add_zero,<-Nat.add_assoc]at c0 c1 c2;have hp:=HP.out;rw[CU N,Ei]at hp;obtain⟨hl,hm⟩:=an.out _ (Hi N);have HM:=fun wx=>RC ts[k] wx;rw[hm]at HM;have aT:=Oq hl hm;generalize ts[k]=t at *;have x0:(0:Int)<=(k:Int):=kR;have x1:(k:Int)<(n:Int):=kR;rcases aT with ⟨x,hx,rfl⟩|⟨L,D,ay,hL,az,hD,rfl⟩
   ·rw[Wz HQ.out hq]at hp;simp only[Toks.Tk.val_mk]at HM c0 c1 c2;have HM:=hid HM;have g1:=iR ((q:Int)<0);have aQ:max (1:Int) 0=1:=iX;have s1:IntKind.i64.wrap ((most:Int)-(q:Int))=((most-q:Nat):Int):=lD;by_cases G:most-q<1
    ·rw[Ab G,Aa mY]at hp;injection hp with e1 e2;subst e1 e2;have g2:=iQ (((most-q:Nat):Int)<1);have g3:=iQ (most-q<1);generalize M:most-q=dm at *;have aw:dm=0:=kR;subst aw;clear M hm hl HP;clear E N;go_wp2_with fail;refine(HM.out _).mono ?_;rintro e w2 ⟨rfl,z⟩;have kk:=fun o=>z.cell (p:=⟨wr.heap.size,o,none⟩) mY;have b1:=(kk 1).trans rfl;have J:Hid (aO w w2):=(lZ hz hb).trans (z.mono ni);have b2:=(kk 2).trans rfl;clear kk;go_wp2_with fail;go_ret2;exact⟨_,rfl,Aq _ _ _ _,J.out⟩
    ·rw[Aa G,Ab rfl,Ab rfl,CA]at hp;obtain⟨dm,M⟩:=iS (most-q);rw[<-M]at s1 G;have g2:=iR ((dm:Int)<1);have g3:=iR (dm<1);have ak:=hid hp;have af:q+1<=most:=kR;clear M hm hl HP hp G;clear E N;go_wp2_with fail;refine(HM.out _).mono ?_;rintro e w2 ⟨rfl,z⟩;have kk:=fun o=>z.cell (p:=⟨wr.heap.size,o,none⟩) mY;have b1:=(kk 1).trans rfl;have J:Hid (aO w w2):=(lZ hz hb).trans (z.mono ni);have b2:=(kk 2).trans rfl;have b0:=(kk 0).trans rfl;have aa:=hid (dZ (HO.out.alloc (.cells #[.int .u8 x,iT,iT] 280)) (fun y hy=>z.block y (by have:=(Ae HO.out y hy).2;simp;omega)));have am:=J.out.size;clear kk;go_wp2_with(at_builtin;refine gZ rfl (.tmp 39) (.tmp 42) 28 rfl w 5 j0 _ 1 1 underlying28 ar ax aq av rfl iX _ _ _ kU (aa.out.alloc _) _ 1 1 [.int .u8 x] kU (Src.of_blk (Blk.made _ _ _) 1 1 1 rfl) kw nI kR ni ?_;intro v4 w4 U Z au);go_roundw
     case measure=>exact jw
     case rel=>
      go_light;refine⟨k+1,q+1,out++ [x],kR,af,jx,?_,?_,ak.out,?_⟩
      ·show _=_;rw[Aj,HQ.out];rfl
      ·show World.ownsRow _ _ _ _ _ _ _;rw[show cZ .u8 (out++ [x])=cZ .u8 out++ [.int .u8 x] by simp[cZ]];exact U
      ·exact(lZ am J.out).grown Z ni (fun y hy=>(Ae aa.out y hy).1)
   ·rw[X3 HQ.out hq ay hL az hD]at hp;simp only[Toks.Tk.val_mk]at HM c0 c1 c2;have HM:=hid HM;have aQ:max (1:Int) (L:Int)=(L:Int):=kR;have aX:((L:Int)==0)=false:=lI;have s1:IntKind.i64.wrap ((most:Int)-(q:Int))=((most-q:Nat):Int):=lD;by_cases ae:q<D
    ·rw[Ab ae,Aa mY]at hp;injection hp with e1 e2;subst e1 e2;have g1:=iQ ((q:Int)<D);have aR:=iQ (q<D);clear hm hl HP;clear E N;go_wp2_with fail;refine(HM.out _).mono ?_;rintro e w2 ⟨rfl,z⟩;have kk:=fun o=>z.cell (p:=⟨wr.heap.size,o,none⟩) mY;have b1:=(kk 1).trans rfl;have J:Hid (aO w w2):=(lZ hz hb).trans (z.mono ni);have b2:=(kk 2).trans rfl;clear kk;go_wp2_with fail;go_ret2;exact⟨_,rfl,Aq _ _ _ _,J.out⟩
    ·rw[Aa ae]at hp;have g1:=iR ((q:Int)<D);have aR:=iR (q<D);obtain⟨dm,M⟩:=iS (most-q);rw[<-M]at s1 hp;by_cases G:dm<L
     ·rw[Ab G,Aa mY]at hp;injection hp with e1 e2;subst e1 e2;have g2:=iQ ((dm:Int)<L);have g3:=iQ (dm<L);clear hm hl HP M;clear E N;go_wp2_with fail;refine(HM.out _).mono ?_;rintro e w2 ⟨rfl,z⟩;have kk:=fun o=>z.cell (p:=⟨wr.heap.size,o,none⟩) mY;have b1:=(kk 1).trans rfl;have J:Hid (aO w w2):=(lZ hz hb).trans (z.mono ni);have b2:=(kk 2).trans rfl;clear kk;go_wp2_with fail;go_ret2;exact⟨_,rfl,Aq _ _ _ _,J.out⟩
     ·rw[Aa G,Ab rfl,Aa (by show ¬(L:Int)=0;omega)]at hp
      replace hp:Ei most (Bw out ((L:Int)).toNat ((D:Int)).toNat) (ts.drop (k+1))=(R1,R2):=hp
      rw[CA,CA]at hp;have g2:=iR ((dm:Int)<L);have g3:=iR (dm<L);have ak:=hid hp;have af:q+L<=most:=kR;clear M hm hl HP hp G;clear E N;go_wp2_with fail;refine(HM.out _).mono ?_;rintro e w2 ⟨rfl,z⟩;have kk:=fun o=>z.cell (p:=⟨wr.heap.size,o,none⟩) mY;have b1:=(kk 1).trans rfl;have J:Hid (aO w w2):=(lZ hz hb).trans (z.mono ni);have b2:=(kk 2).trans rfl;have aa:=hid (dZ (HO.out.alloc (.cells #[.int .u8 0,L,D] 280)) (fun y hy=>z.block y (by have:=(Ae HO.out y hy).2;simp;omega)));have ag:Hid (Blk w2 wr 280 #[.int .u8 0,L,D]):=(Blk.made wr _ _).step z;have am:=J.out.size;generalize wr.heap.size=pb at *;clear kk z HO hb c0 c1 c2 HM b1 b2;have b1:=ag.out.iO 1;have b2:=ag.out.iO 2;go_wp2_with fail;go_loopw [6,46] (fun u i wx=>∃j:Nat,j<=L/\i= .int .i64 j/\Hid (wx.ownsRow w 5 1 u (q+j) (cZ .u8 (Bw out j D)))/\Hid (Blk wx pb 280 #[.int .u8 0,L,D])/\Hid (aO w wx)) (fun _ i _=>L-(intOf i).toNat)
      case atStart=>exact⟨0,kR,rfl,aa.out,ag.out,J.out⟩
      case round=>
       obtain⟨j,hj,rfl,Y,Q,aj⟩:=hrel;have aS:=aj.out.size;by_cases aW:j<L
       ·obtain⟨g,cg,rfl,_⟩:=Y.out.form kR;have al:(Bw out j D).length=q+j:=(by rw[Ik,HQ.out]);obtain⟨I,hI⟩:=iS (q+j-D);have ah:=Lk j D out;rw[al,<-hI]at ah;have hy:(cZ .u8 (Bw out j D))[I]? =some (.int .u8 ((Bw out j D).getD I 0:Nat)):=(by simp[cZ,List.getD_eq_getElem?_getD,List.getElem?_eq_getElem (show I<(Bw out j D).length by omega)]);have c9:wr.cell? ⟨g,I,none⟩=some (.int .u8 ((Bw out j D).getD I 0:Nat)):=(by have h:=Y.out.cellAt I kR;rw[h];exact hy);generalize (Bw out j D).getD I 0=y at *;have k1:=Q.out.iO 1;have k2:=Q.out.iO 2;have s2:IntKind.i64.wrap (((q+j:Nat):Int)-(D:Int))=(I:Int):=lD;have s3:IntKind.i64.wrap ((q:Int)+(j:Int)-(D:Int))=(I:Int):=lD;have y2:(0:Int)<=(I:Int):=kR;have y3:(I:Int)<((q+j:Nat):Int):=kR;have aP:=hid ah;clear al hI ah hy b1 b2;go_wp2_with(at_builtin;refine gZ rfl (.tmp 48) (.tmp 57) 28 rfl w 5 j0 _ 1 1 underlying28 ar ax aq av rfl iX _ _ _ kU (Y.out.alloc _) _ 1 1 [.int .u8 y] kU (Src.of_blk (Blk.made _ _ _) 1 1 1 rfl) kw nI kR ni ?_;intro v4 w4 U Z au);go_roundw
        case measure=>exact jw
        case rel=>
         go_light;refine⟨j+1,kR,jx,?_,?_,?_⟩
         ·show World.ownsRow _ _ _ _ _ _ _;rw[aP.out,show cZ .u8 (Bw out j D++ [y])=cZ .u8 (Bw out j D)++ [.int .u8 y] by simp[cZ]];exact U
         ·exact(Q.out.alloc _).grown Z (fun e=>fZ Y.out Q.out iX e.symm)
         ·exact(lZ aS aj.out).grown Z ni (fun y hy=>(Ae Y.out y hy).1)
       ·obtain rfl:j=L:=by omega
        have k1:=Q.out.iO 1;obtain⟨A5,c5,rfl⟩:=aZ Y.out;clear b1 b2;go_wp2_with fail;go_roundw
        case measure=>exact jw
        case rel=>go_light;exact⟨k+1,q+j,Bw out j D,kR,af,jx,by show _=_;rw[Ik,HQ.out],Y.out,ak.out,aj.out⟩
  ·obtain rfl:k=n:=by omega
   have hp:=HP.out;rw[Cw lQ,Ei]at hp;injection hp with e1 e2;subst e1 e2;clear HP;go_wp2_with fail;go_ret2;refine⟨_,rfl,?_,hb⟩;rw[HQ.out];exact HO.out
end Lz
namespace Toks
open Go.RowKit Mem
theorem Pb(sym:Int)(h0:0<=sym)(h1:sym<256):CH ⟨sym,0,0,0⟩=⟨sym,0,0⟩/\Dv ⟨sym,0,0,0⟩=0:=by
 have hl:Hm ⟨sym,0,0,0⟩=true:=by simp[Hm];omega
 unfold CH Dv;rw[Ab hl,Ab hl];exact⟨rfl,rfl⟩
theorem Ns(p:Pc)(a1:257<=p.sym)(a2:p.sym<265)(a3:0<=p.dist)(a4:p.dist<12)(a5:0<=p.len/\p.len<pw (p.sym-257))(a6:0<=p.far/\p.far<pw p.dist):
 CH p=⟨0,2+pw (p.sym-257)+p.len,pw p.dist+p.far⟩/\Dv p=0:=by
 have hl:Hm p=false:=by simp[Hm];omega
 have hm:Js p=true:=by simp only[Js,decide_eq_true_eq];omega
 unfold CH Dv;simp[hl,hm]
theorem Us(p:Pc)(h:¬(0<=p.sym/\p.sym<256/\p.len=0/\p.dist=0/\p.far=0))
 (h':¬(257<=p.sym/\p.sym<265/\0<=p.dist/\p.dist<12/\0<=p.len/\p.len<pw (p.sym-257)/\0<=p.far/\p.far<pw p.dist)):CH p=⟨0,0,0⟩/\Dv p=7:=by
 have hl:Hm p=false:=by unfold Hm;simpa using h
 have hm:Js p=false:=by unfold Js;simpa using h'
 unfold CH Dv;simp[hl,hm]
theorem Qw(p:Pc):∃a b c e,CH p=⟨a,b,c⟩/\Dv p=e/\
 Hid (((0<=p.sym/\p.sym<256/\p.len=0/\p.dist=0/\p.far=0)->a=p.sym/\b=0/\c=0/\e=0)/\
  ((257<=p.sym/\p.sym<265/\0<=p.dist/\p.dist<12/\0<=p.len/\p.len<pw (p.sym-257)/\0<=p.far/\p.far<pw p.dist)->
    a=0/\b=2+pw (p.sym-257)+p.len/\c=pw p.dist+p.far/\e=0)/\
  (¬(0<=p.sym/\p.sym<256/\p.len=0/\p.dist=0/\p.far=0)->
   ¬(257<=p.sym/\p.sym<265/\0<=p.dist/\p.dist<12/\0<=p.len/\p.len<pw (p.sym-257)/\0<=p.far/\p.far<pw p.dist)->
    a=0/\b=0/\c=0/\e=7)):=by
 refine⟨(CH p).lit,(CH p).len,(CH p).dist,Dv p,rfl,rfl,?_⟩;refine⟨fun h=> ?_,fun h=> ?_,fun h h'=> ?_⟩
 ·obtain⟨sym,len,dist,far⟩:=p;obtain⟨h1,h2,rfl,rfl,rfl⟩:=h;obtain⟨e1,e2⟩:=Pb sym h1 h2;rw[e1,e2];exact⟨rfl,rfl,rfl,rfl⟩
 ·obtain⟨e1,e2⟩:=Ns p h.1 h.2.1 h.2.2.1 h.2.2.2.1 ⟨h.2.2.2.2.1,h.2.2.2.2.2.1⟩ ⟨h.2.2.2.2.2.2.1,h.2.2.2.2.2.2.2⟩;rw[e1,e2];exact⟨rfl,rfl,rfl,rfl⟩
 ·obtain⟨e1,e2⟩:=Us p h h';rw[e1,e2];exact⟨rfl,rfl,rfl,rfl⟩
theorem V1(p:Pc)(w:World)(h0: -9223372036854775808<=p.sym)(h1:p.sym<=9223372036854775807):
 Calls prog 367 #[p.val] w fun e w'=>e= .returned (.tuple #[(CH p).val, .int .i64 (Dv p)])/\aO w w':=by
 obtain⟨a,b,c,e,ht,he,HJ⟩:=Qw p;rw[ht,he,Tk.val_mk];clear ht he;obtain⟨sym,len,dist,far⟩:=p;simp only at h0 h1 HJ;rw[Pc.val_mk];go_enter func367,ntmps367;go_wp2_with(go_at_call 375;refine(XF _ _ _ kR kR).mono ?_;rintro e w' ⟨rfl,rfl⟩)
 all_goals first
  |(refine AV (v:= .tuple #[.agg #[.int .u8 a,b,c],e]) ?_ rfl ⟨rfl,?_⟩
    ·have HK:=HJ.out;go_light;simp[results,results367,go_sem];omega
    ·(repeat (with_reducible first|exact Ag _ _|assumption|refine Ak ?_ |refine below_drewN ?_ _|refine qZ ?_ |refine bZ ?_ |refine eZ iV ?_ |refine belA ?_ |refine rZ iV ?_)))
  |skip
 have f1:0<=len/\len<pw (sym-257):=iV
 have f2:0<=far/\far<pw dist:=iV
 go_region;all_goals go_wp2
 all_goals
  refine AV (v:= .tuple #[.agg #[.int .u8 a,b,c],e]) ?_ rfl ⟨rfl,?_⟩
  ·have HK:=HJ.out;go_light;obtain⟨p1,i⟩:=NI (sym-257) kR;obtain⟨p2,h⟩:=NI dist kR;simp only[p1,p2];rw[I8 (2+pw (sym-257)) ⟨kR,kR⟩,I8 (2+pw (sym-257)+len) ⟨kR,kR⟩,I8 (pw dist+far) ⟨kR,kR⟩];simp[results,results367,go_sem];omega
  ·(repeat (with_reducible first|exact Ag _ _|assumption|refine Ak ?_ |refine below_drewN ?_ _|refine qZ ?_ |refine bZ ?_ |refine eZ iV ?_ |refine belA ?_ |refine rZ iV ?_))
theorem OZ(b:Int)(h2:b<=12):1<=pw b/\pw b<=4096:=by have hm:=NS b 12 h2;rw[Zj]at hm;exact⟨Si b,hm⟩
theorem Ud(b:Int)(w:World)(h1:0<=b)(h2:b<=60):
 Calls prog 308 #[b] w fun e w'=>e= .returned (.int .i64 (pw b))/\w'=w:=
 (PI b w h1 h2).mono fun _ _ h=>⟨h.1,h.2.symm⟩
theorem OM(p:Pc)(w:World)(h0: -9223372036854775808<=p.sym)(h1:p.sym<=9223372036854775807)(k0: -9223372036854775808<=p.len)(k1:p.len<=9223372036854775807):
 Calls prog 268 #[p.val] w fun e w'=>e= .returned (.tuple #[(CH p).val, .int .i64 (Dv p)])/\aO w w':=by
 obtain⟨a,b,c,e,ht,he,HJ⟩:=Qw p;rw[ht,he,Tk.val_mk];clear ht he;obtain⟨sym,len,dist,far⟩:=p;simp only at h0 h1 k0 k1 HJ;rw[Pc.val_mk];go_enter func268,ntmps268;go_wp2_with(go_at_call 308;refine(PI _ _ kR kR).mono ?_;rintro e w' ⟨rfl,rfl⟩)
 all_goals first
  |(exfalso;omega)
  |(refine AV (v:= .tuple #[.agg #[.int .u8 a,b,c],e]) ?_ rfl ⟨rfl,?_⟩
    ·have HK:=HJ.out;go_light;simp[results,results268,go_sem]
     try simp only[beq_iff_eq,beq_eq_false_iff_ne,ne_eq]at *
     omega
    ·(repeat (with_reducible first|exact Ag _ _|assumption|refine Ak ?_ |refine below_drewN ?_ _|refine qZ ?_ |refine bZ ?_ |refine eZ iV ?_ |refine belA ?_ |refine rZ iV ?_)))
  |skip
 have p1:=OZ (sym-257) kR;have p2:=OZ dist kR;go_quiet ((go_at_call 308;exact Cq (Ud _ _ kR kR)))
 go_wp2
 all_goals
  refine AV (v:= .tuple #[.agg #[.int .u8 a,b,c],e]) ?_ rfl ⟨rfl,?_⟩
  ·have HK:=HJ.out;go_light;simp[results,results268,go_sem];omega
  ·(repeat (with_reducible first|exact Ag _ _|assumption|refine Ak ?_ |refine below_drewN ?_ _|refine qZ ?_ |refine bZ ?_ |refine eZ iV ?_ |refine belA ?_ |refine rZ iV ?_))
end Toks
end Go.Proofs.YtfgdoknipbpfhaaGreatDoor
