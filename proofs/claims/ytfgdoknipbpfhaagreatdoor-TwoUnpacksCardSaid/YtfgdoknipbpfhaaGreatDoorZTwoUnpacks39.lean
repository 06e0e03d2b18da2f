/- The walk of the refe -/
import Derived.Test.YtfgdoknipbpfhaaGreatDoorZTwoUnpacks37
import Derived.Test.YtfgdoknipbpfhaaGreatDoorZTwoUnpacks38
import Derived.Test.YtfgdoknipbpfhaaGreatDoorZTwoUnpacks31
namespace Go.Proofs.YtfgdoknipbpfhaaGreatDoor
open Go.Proofs.Tryz
open Go.Lib (hid)
variable{w w' w3 wr:World}{base c cv gx k r:Nat}{u vL vT vc vf vl vt:Value}{vals:List Value}{A Av:Option Addr}{F i:List (List Nat)}{er:Int}{C L T:List Nat}
namespace Idx
open Go.RowKit Mem Own Canon Sift
open NumPut Recs Crc Block
open Ef Nums
theorem LsAt.set{b:Nat}{j:List (List Nat)}{cs:Array Value}(h:LsAt w base vL vals j)(y:Blk w b 53 cs)(k:Nat)(u:Value):LsAt (w.setCell ⟨b,k,none⟩ u) base vL vals j:=
 ⟨sZ h.l (fZ h.l y iX) _,fun i v ids hv hi=>sZ (h.r i v ids hv hi) (fZ (h.r i v ids hv hi) y iX) _⟩
theorem cut_none{m:Nat}(i:A=none->m=0/\c=0):xZ A k c 1=none->m-k=0/\c-k=0:=fun h=>by
 have hA:A=none:=by
  unfold xZ at h;split at h
  ·exact h
  ·cases A with
   |none=>rfl
   |some x=>cases h
 have:=i hA;omega
structure RIx (w wr:World) (gx:Nat) (vT:Value) (ts:List Str) (Av:Option Addr) (k cv:Nat) (vals:List Value) (acc:List (List Nat)):Prop where
 bx:Blk wr gx 53 #[vT, .slice Av k cv]
 br:Blk wr w 53 #[(),()]
 ls:LsAt wr w (.slice Av k cv) vals acc
 ot:wr.ownsRow w 9 1 vT ts.length (AD ts)
 bel:aO w wr
 ne:w.heap.size<gx
theorem RIx.step{ts:List Str}(h:RIx w wr gx vT ts Av k cv vals i)(hb:aO wr w'):RIx w w' gx vT ts Av k cv vals i:=
 ⟨h.bx.step hb,h.br.step hb,h.ls.step hb,dZ h.ot (fun y hy=>hb.block y (Ae h.ot y hy).2),h.bel.trans (hb.mono h.bel.size),h.ne⟩
theorem RIx.add{w7:World}{ts:List Str}{A7:Option Addr}{c7:Nat}{j:List Nat}(h:RIx w wr gx vT ts Av k cv vals i)(hu:wr.ownsRow w 3 1 u j.length (cZ .i64 j))(hk:i.length=k)(hg:wr.grownBy w7 (Value.slice Av k cv).ownBlock)(z:w7.ownsRow w 37 1 (.slice A7 (k+1) c7) (k+1) (vals++ [u])):
 RIx w (w7.setCell ⟨gx,1,none⟩ (.slice A7 (k+1) c7)) gx vT ts A7 (k+1) c7 (vals++ [u]) (i++ [j]):=by
 have b7:=h.bx.grown hg (Br (fZ h.ls.l h.bx iX));have r7:=h.br.grown hg (Br (fZ h.ls.l h.br iX));have G:=h.ne;have E:=h.ls.add hu hg (by rw[hk];exact z);exact⟨by simpa using b7.set 1 (.slice A7 (k+1) c7),r7.far (by show _≠gx;omega) _,E.set b7 1 _,sZ (own_far h.ot h.ls.l iX hg) (fZ (own_far h.ot h.ls.l iX hg) b7 iX) _,kZ mJ (h.bel.grown hg h.bel.size (fun y hy=>(Ae h.ls.l y hy).1)),h.ne⟩
set_option maxHeartbeats 4000000 in
set_option maxRecDepth 100000 in
theorem Pw(w:World)(A:Option Addr)(m c size bound:Nat)(ls:List Nat)(hm:ls.length=m)(a8:m<=100000)(h8:∀x∈ls,x<=255)(hc:m<=c)(Z:A=none->m=0/\c=0)(ha:Row w w A m 1 (jZ .u8 ls))(a0:1<=size)(a4:size<=64)(hb:bound<=20000):
 Calls prog 223 #[.int .i64 (size:Nat), .int .i64 (bound:Nat), .slice A m c] w (JI w (ixR size bound ls)):=by
 obtain⟨j0,ba,bg,a5,bc⟩:=info_parts QQ;have az:Hid (∀wx,aO w wx->Row wx wx A m 1 (jZ .u8 ls)):=fun wx h=>(ha.below h).mono h.size;have D0:=hid (fun wx (h:aO w wx)=>Yz wx A m c size ls hm a8 h8 Z (az.out wx h) a0 a4);have bA:=iR ((size:Int)<1)
 have bi:=iR (size<1)
 have bn:=iR ((64:Int)<size)
 have bj:=iR (64<size)
 have bk:=iR ((bound:Int)<0)
 have bl:=iR ((20000:Int)<bound)
 have a3:=iR (20000<bound)
 obtain⟨R,hR⟩:=iS (ixR size bound ls);rw[<-hR];unfold ixR at hR;obtain⟨aU,aV⟩:=Mc (size:=size) h8;generalize Ee size ls=T at *;obtain⟨ts,t1,te⟩:=T;simp only at hR aU aV;unfold MD at D0;simp only at D0;rw[hm]at aU;have bf:=hid hb;have H8:=hid h8;have HM:=hid hm;have a7:=hid Z;have aY:=hid ha;have HR:=hid hR;unfold JI;clear hR ha h8 Z hm az;go_enter func223,ntmps223;go_wp2_with fail;have ak:aO w (w.alloc (.cells #[(),()] 53)):=bZ (Ag _ _);have aP:Blk (w.alloc (.cells #[(),()] 53)) w 53 #[(),()]:=Blk.made _ _ _;have bp:w.heap.size+1<=(w.alloc (.cells #[(),()] 53)).heap.size:=mY
 have D1:=hid (D0.out _ ak);generalize w.alloc (.cells #[(),()] 53)=w1 at *;have ay:=hid ak;have aR:=hid aP;clear ak aP D0;refine D1.out.mono ?_;rintro e w2 ⟨vT,rfl,ah,ag⟩;have aq:Hid (aO w w2):=ay.out.trans (ag.mono kR);have E:=hid (aR.out.step ag);have z2:=ag.size;have al:=hid ah;obtain⟨n,hn⟩:=iS ts.length;rw[<-hn]at ah aV;obtain⟨At,ct,rfl⟩:=aZ ah;have a1:=hid hn;clear ag ah hn D1 ay aR;by_cases ht:te=0
 ·subst ht;have hr:=HR.out;rw[Aa (show ¬((0:Int)≠0) from fun h=>h rfl),<-a1.out]at hr;obtain⟨L,hL⟩:=iS (lsR bound (ls.drop t1) n 0 []);rw[<-hL]at hr;unfold ixF at hr;have af:=hid hr;have aS:Hid (lsR bound (ls.drop t1) (n-0) 0 []=L):=hL.symm;clear hr hL HR;go_wp2_with fail;have au:aO w2 (w2.alloc (.cells #[.slice At n ct,()] 53)):=bZ (Ag _ _);have aw:Hid (RIx w (w2.alloc (.cells #[.slice At n ct,()] 53)) w2 (.slice At n ct) ts none 0 0 [] []):=⟨Blk.made _ _ _,E.out.step au,LsAt.nil _ _,iZ ((al.out).alloc _) kR,aq.out.trans (au.mono kR),kR⟩;generalize bh:w2.heap.size=gx at *;generalize w2.alloc (.cells #[.slice At n ct,()] 53)=w3 at *;have bq:w.heap.size<gx:=by omega
  clear au E al aq bh z2;go_loopw [12,9] (fun iv av wr=>∃ (k r cv:Nat) (Av:Option Addr) (G:List (List Nat)) (vals:List Value),k<=n/\t1+r<=m/\iv= .int .i64 k/\av= .int .i64 ((t1+r:Nat):Int)/\Hid (G.length=k)/\Hid (RIx w wr gx (.slice At n ct) ts Av k cv vals G)/\Hid (lsR bound (ls.drop t1) (n-k) r G=L)) (fun iv _ _=>n-(intOf iv).toNat)
  case atStart=>exact⟨0,0,0,none,[],[],kR,kR,rfl,i5,rfl,aw.out,aS.out⟩
  case round=>
   obtain⟨k,r,cv,Av,G,vals,hk,hr,rfl,rfl,HL,HI,HG⟩:=hrel;obtain⟨a,hA⟩:=iS (t1+r);rw[<-hA]at hr ⊢;have Y:=hid hA;clear hA aw aS;have zr:=HI.out.bel.size;by_cases bu:k<n
   ·have gk:=iQ ((k:Int)<n);have bm:=iQ (k<n);have hG:=HG.out;rw[show n-k=(n-(k+1))+1 by omega,lsR,List.drop_drop,<-Y.out]at hG;have aj:∀x∈ls.drop a,x<=255:=fun x hx=>H8.out x (Be hx);have N:(ls.drop a).length=m-a:=(by rw[AK,HM.out]);have ar:=Cv (HM.out ▸ aY.out:Row w w A ls.length 1 (jZ .u8 ls)) (by have:=HM.out;omega:a<=ls.length) (by have:=HM.out;omega:ls.length<=c);rw[HM.out]at ar;have DR:=YO wr (xZ A a c 1) (m-a) (c-a) bound (ls.drop a) N kR aj kR (cut_none a7.out) ((ar.below HI.out.bel).mono zr) bf.out;have ks:=fun wx=>EM (P:=prog) (t:=28) (s:=1) underlying28 (fun _=>by kernel_rfl) A m c .i64 (a:Int) a rfl hr wx;have aX:=Q9 (bound:=bound) aj;rw[N]at aX;unfold Mx at DR;generalize efR bound (ls.drop a)=T at *;obtain⟨aW,t2,ae⟩:=T;simp only at hG aX DR;generalize xZ A a c 1=A2 at *;generalize c-a=c2 at *;have bB:m-a+a=m:=kR;generalize m-a=m2 at *;have U:=hid hG;have DR:=hid DR;clear hG HG aj N ar;go_wp2_with fail;refine DR.out.mono ?_;rintro e w4 ⟨v4,rfl,ac,an⟩;have j:=hid (HI.out.step an);have ax:=hid (iZ ac zr);obtain⟨Q,hQ⟩:=iS aW.length;rw[<-hQ]at ac;obtain⟨A4,c4,rfl⟩:=aZ ac;have HQ:=hid hQ;have k0:=j.out.br.iO 0;have k1:=j.out.br.iO 1;have f0:=j.out.br.frozen 0;have f1:=j.out.br.frozen 1;have q1:=j.out.bx.iO 1;have z4:=an.size;clear ac an hQ DR HI;by_cases ab:ae=0
    ·subst ab;have hG:=U.out;rw[Aa (show ¬((0:Int)≠0) from fun h=>h rfl),<-HQ.out]at hG;by_cases h0:Q=0
     ·have gz:((Q:Int)==0)=true:=(by rw[h0];rfl);have HF:Hid (R=(([],[]),2)):=(by rw[Ab h0]at hG;have h:=af.out;rw[<-hG]at h;rw[show R=_ from h];exact Ab (show(2:Int)≠0 by decide));have HX:=hid j.out.br;have z:=hid j.out.bel;clear h0 hG U;go_wp2_with fail;rw[HF.out];refine AV (v:= .tuple #[.agg #[(),()], .int .i64 2]) ?_ rfl ⟨_,_,[],rfl,Jr _ _,?_⟩
      ·have i:=(HX.out.set 0 (.slice none 0 0)).set 1 (.slice none 0 0);have e0:=i.cell 0;have e1:=i.cell 1;simp at e0 e1;simp[results,results223,go_sem,e0,e1]
      ·exact kZ (Ai _) (kZ (Ai _) z.out)
     ·have gz:((Q:Int)==0)=false:=lH;rw[Aa h0]at hG;have sa:IntKind.i64.wrap ((a:Int)+(t2:Int))=((a+t2:Nat):Int):=lD;have bb:=hid hG;have be:Hid (w4.ownsRow w 37 1 (.slice Av k cv) k vals):=(by have h:=j.out.ls.l;rw[HL.out]at h;exact h);have bt:=j.out.bel.size;clear h0 hG U k0 k1 f0 f1;go_wp2_with(at_builtin;refine gZ rfl (.tmp 68) (.tmp 70) 51 rfl w 37 j0 _ 1 24 underlying51 ba bg a5 bc rfl iX _ _ _ kU (be.out.alloc _) _ 1 1 [.slice A4 Q c4] kU (Src.of_blk (Blk.made_at _ _ _ mY) 1 1 1 rfl) kw nI kR ni ?_;intro v7 w7 J am aT;obtain⟨A7,c7,rfl⟩:=aZ J;have aa:=j.out.step (bZ (o:= .cells #[.slice A4 Q c4] 37) (Ag w4 w4));have b7:=aa.bx.grown am (Br (fZ aa.ls.l aa.bx iX));have p1:=b7.iO 1;have r1:=b7.frozen 1;have a9:=hid (aa.add (dZ ax.out (fun y hy=>(Ca w4 _ y (Ae ax.out y hy).2))) HL.out am J);clear aa J am aT b7);go_roundw
      case measure=>exact jw
      case rel=>go_light;exact⟨k+1,r+t2,c7,A7,G++ [aW],vals++ [Value.slice A4 Q c4],kR,by have:=Y.out;omega,i5,by(have h:=Y.out);first|rfl|(refine AI (Value.int .i64) ?_;omega)|go_num,mO,a9.out,bb.out⟩
    ·have gE:(ae != 0)=true:=ny;have HF:Hid (R=(([],[]),ae)):=(by have h:=U.out;rw[Ab ab]at h;have h2:=af.out;rw[<-h]at h2;rw[show R=_ from h2];exact Ab ab);have HX:=hid j.out.br;have z:=hid j.out.bel;obtain⟨er,M⟩:∃er:Int,er=ae:=⟨_,rfl⟩;have ai:=M;subst M;clear ab U;clear ai;go_wp2_with fail;rw[HF.out];refine AV (v:= .tuple #[.agg #[(),()], .int .i64 er]) ?_ rfl ⟨_,_,[],rfl,Jr _ _,?_⟩
     ·have i:=(HX.out.set 0 (.slice none 0 0)).set 1 (.slice none 0 0);have e0:=i.cell 0;have e1:=i.cell 1;simp at e0 e1;simp[results,results223,go_sem,e0,e1]
     ·exact kZ (Ai _) (kZ (Ai _) z.out)
   ·obtain rfl:k=n:=by omega
    have gk:=iR ((k:Int)<k);have hG:=HG.out;rw[Fj,lsR,AK,HM.out]at hG;have k0:=HI.out.br.iO 0;have k1:=HI.out.br.iO 1;have f0:=HI.out.br.frozen 0;have f1:=HI.out.br.frozen 1;have q0:=HI.out.bx.iO 0;have q1:=HI.out.bx.iO 1;by_cases aQ:a<m
    ·have gl:=iQ ((a:Int)<m);have a6:=iQ (a<m);have HF:Hid (R=(([],[]),2)):=(by rw[Ab (by have:=Y.out;omega)]at hG;have h:=af.out;rw[<-hG]at h;rw[show R=_ from h];exact Ab (show(2:Int)≠0 by decide));have HX:=hid HI.out.br;have z:=hid HI.out.bel;clear aQ hG HG q0 q1;go_wp2_with fail;rw[HF.out];refine AV (v:= .tuple #[.agg #[(),()], .int .i64 2]) ?_ rfl ⟨_,_,[],rfl,Jr _ _,?_⟩
     ·have i:=(HX.out.set 0 (.slice none 0 0)).set 1 (.slice none 0 0);have e0:=i.cell 0;have e1:=i.cell 1;simp at e0 e1;simp[results,results223,go_sem,e0,e1]
     ·exact kZ (Ai _) (kZ (Ai _) z.out)
    ·have gl:=iR ((a:Int)<m);have a6:=iR (a<m);have HF:Hid (R=((ts,G),0)):=(by rw[Aa (by have:=Y.out;omega)]at hG;have h:=af.out;rw[<-hG]at h;rw[show R=_ from h];exact Aa (fun h=>h rfl));clear aQ hG HG;go_wp2_with fail;rw[HF.out];refine AV (v:= .tuple #[.agg #[.slice At k ct, .slice Av k cv],iT]) ?_ rfl ⟨_,_,vals,rfl,?_,?_⟩
     ·have i:=(HI.out.br.set 0 (.slice At k ct)).set 1 (.slice Av k cv);have e0:=i.cell 0;have e1:=i.cell 1;simp at e0 e1;simp[results,results223,go_sem,e0,e1]
     ·have bd:IxAt wr w (.slice At k ct) (.slice Av k cv) vals ts G:=⟨HI.out.ot,HI.out.ls.l,HI.out.ls.r⟩;exact(bd.set HI.out.br 0 _).set (HI.out.br.set 0 _) 1 _
     ·exact kZ (Ai _) (kZ (Ai _) HI.out.bel)
 ·have gE:(te != 0)=true:=by simpa using ht
  have HF:Hid (R=(([],[]),te)):=by have h:=HR.out;rw[Ab ht]at h;exact h
  have k0:=E.out.iO 0;have k1:=E.out.iO 1;have f0:=E.out.frozen 0;have f1:=E.out.frozen 1;have HX:=E;have z:=aq;obtain⟨er,M⟩:∃er:Int,er=te:=⟨_,rfl⟩;have ai:=M;subst M;clear ht HR al;clear ai;go_wp2_with fail;rw[HF.out];refine AV (v:= .tuple #[.agg #[(),()], .int .i64 er]) ?_ rfl ⟨_,_,[],rfl,Jr _ _,?_⟩
  ·have i:=(HX.out.set 0 (.slice none 0 0)).set 1 (.slice none 0 0);have e0:=i.cell 0;have e1:=i.cell 1;simp at e0 e1;simp[results,results223,go_sem,e0,e1]
  ·exact kZ (Ai _) (kZ (Ai _) z.out)
end Idx
namespace Body
open Go.RowKit Mem Own Canon Nums Crc Recs
open Opts
open Idx (Str IxAt)
theorem Om(ls:List Nat){a x:Nat}(h:a+x<=r):((ls.take r).drop a).take x=(ls.drop a).take x:=by rw[List.drop_take,List.take_take,Nat.min_eq_left kR]
theorem UL{g i at_:Nat}{bs:List Nat}(h:RCur w g base bs A c at_ er)(hb:i<=base):RCur w g i bs A c at_ er:=⟨h.blk,iZ h.own hb,h.le,AY hb h.lo⟩
theorem Ty{zb rb:Bool}(h:zb=decide (0∈C))(hr:rb=decide (r=0)):(zb || rb)=decide (0∈C++ [r]):=by
 rw[h,hr,<-Bool.decide_or,decide_eq_decide,BN,Dw];constructor
 ·rintro(h|h)
  ·exact .inl h
  ·exact .inr h.symm
 ·rintro(h|h)
  ·exact .inl h
  ·exact .inr h.symm
def zero6:List Value:= [.slice none 0 0, .slice none 0 0, .slice none 0 0, .slice none 0 0, .slice none 0 0, .slice none 0 0]
def Hl(w:World)(base:Nat)(v:Value)(b:List Nat):Prop:=∃A n c,v= .slice A n c/\n<=c/\b.length=n/\(A=none->n=0/\c=0)/\Row w base A n 1 (jZ .u8 b)
structure RbI (w3 wr:World) (gx g:Nat) (D:List Nat) (B:Option Addr) (d at_:Nat) (er:Int) (C S:List Nat) (vc vs:Value):Prop where
 cur:RCur wr g w3 D B d at_ er
 bx:Blk wr gx 138 #[vc,(),(),(),(),()]
 oc:wr.ownsRow w3 3 1 vc C.length (cZ .i64 C)
 os:wr.ownsRow w3 3 1 vs S.length (cZ .i64 S)
 ap:∀y,vc.ownBlock=some y->vs.ownBlock≠some y
 bel:aO w3 wr
 lo:w3.heap.size<=gx
section
variable {w3 wr w2 w5:World} {gx g:Nat} {D:List Nat} {B:Option Addr} {d at_ a2:Nat} {er e2:Int} {C S:List Nat} {vc vs v5:Value} {x:Nat} {o:Obj}
theorem RbI.call(h:RbI w3 wr gx g D B d at_ er C S vc vs)(j:RCur w2 g w3 D B d a2 e2)(i:Kept (AW g wr) wr w2):RbI w3 w2 gx g D B d a2 e2 C S vc vs:=
 have z:=h.cur.lo;have hz:=h.bel.size
 ⟨j,(i.block gx ⟨h.bx.lt,fun e=>Blk.apart h.bx h.cur.blk iX e⟩).trans h.bx,dZ h.oc (fun y hy=>i.block y ⟨(Ae h.oc y hy).2,fun e=>fZ h.oc h.cur.blk iX (e ▸ hy)⟩),dZ h.os (fun y hy=>i.block y ⟨(Ae h.os y hy).2,fun e=>fZ h.os h.cur.blk iX (e ▸ hy)⟩),h.ap,h.bel.trans (i.below fun y hy=>⟨kR,kR⟩),h.lo⟩
theorem RbI.count(h:RbI w3 wr gx g D B d at_ er C S vc vs)(hg:(wr.alloc o).grownBy w5 vc.ownBlock)(i:w5.ownsRow w3 3 1 v5 (C.length+1) (cZ .i64 C++ [.int .i64 (x:Nat)]))(z:v5.ownBlock=vc.ownBlock∨v5.ownBlock=some (wr.alloc o).heap.size):RbI w3 (w5.setCell ⟨gx,0,none⟩ v5) gx g D B d at_ er (C++ [x]) S v5 vs:=by
 have E:=h.lo;have hz:=h.bel.size;have b5:=(h.bx.alloc o).grown hg (Br (fZ h.oc h.bx iX));have c1:=h.cur.step (bZ (o:=o) (Ag _ _));have j:=h.oc.alloc o;have c5:RCur w5 g w3 D B d at_ er:=⟨c1.blk.grown hg (Br (fZ j c1.blk iX)),own_far c1.own j iX hg,c1.le,c1.lo⟩;have o1:=h.os.alloc o;have o5:w5.ownsRow w3 3 1 vs S.length (cZ .i64 S):=dZ o1 (fun y hy=>hg.block y (Ae o1 y hy).2 (fun e=>h.ap y e.symm hy));refine⟨⟨c5.blk.far (fun e=>Blk.apart b5 c5.blk iX e.symm) _,sZ c5.own (fZ c5.own b5 iX) _,c5.le,c5.lo⟩,by simpa using b5.set 0 v5,?_,sZ o5 (fZ o5 b5 iX) _,?_,?_,h.lo⟩
 ·rw[Aj,show cZ .i64 (C++ [x])=cZ .i64 C++ [.int .i64 (x:Nat)] by simp[cZ]];exact sZ i (fZ i b5 iX) _
 ·intro y hy hh;rcases z with e|e
  ·exact h.ap y (by rw[<-e];exact hy) hh
  ·rw[e]at hy;injection hy with hy;have:=(Ae h.os y hh).2;simp at hy;omega
 ·exact kZ mJ ((lZ hz h.bel).grown hg ni (fun y hy=>(Ae j y hy).1))
theorem RbI.size(h:RbI w3 wr gx g D B d at_ er C S vc vs)(hg:(wr.alloc o).grownBy w5 vs.ownBlock)(j:w5.ownsRow w3 3 1 v5 (S.length+1) (cZ .i64 S++ [.int .i64 (x:Nat)]))(z:v5.ownBlock=vs.ownBlock∨v5.ownBlock=some (wr.alloc o).heap.size):RbI w3 w5 gx g D B d at_ er C (S++ [x]) vc v5:=by
 have E:=h.lo;have hz:=h.bel.size;have i:=h.os.alloc o;have b5:=(h.bx.alloc o).grown hg (Br (fZ h.os h.bx iX));have c1:=h.cur.step (bZ (o:=o) (Ag _ _));have o1:=h.oc.alloc o;refine⟨⟨c1.blk.grown hg (Br (fZ i c1.blk iX)),own_far c1.own i iX hg,c1.le,c1.lo⟩,b5,dZ o1 (fun y hy=>hg.block y (Ae o1 y hy).2 (fun e=>h.ap y hy e.symm)),?_,?_,(lZ hz h.bel).grown hg ni (fun y hy=>(Ae i y hy).1),h.lo⟩
 ·rw[Aj,show cZ .i64 (S++ [x])=cZ .i64 S++ [.int .i64 (x:Nat)] by simp[cZ]];exact j
 ·intro y hy hh;rcases z with e|e
  ·exact h.ap y hy (by rw[<-e];exact hh)
  ·rw[e]at hh;injection hh with hh;have:=(Ae h.oc y hy).2;simp at hh;omega
end
structure RbJ (w w3 wr:World) (gx:Nat) (C S:List Nat) (vc vs vf:Value) (fv:List Value) (F:List (List Nat)):Prop where
 bx:Blk wr gx 138 #[vc,vf,(),(),(),()]
 oc:wr.ownsRow w3 3 1 vc C.length (cZ .i64 C)
 os:wr.ownsRow w3 3 1 vs S.length (cZ .i64 S)
 ofr:wr.ownsRow w3 28 1 vf F.length fv
 fin:∀ (i:Nat) v b,fv[i]? =some v->F[i]? =some b->Hl w w v b
 bel:aO w3 wr
 lo:w3.heap.size<=gx
theorem RbJ.add{w5:World}{S:List Nat}{vs v5:Value}{fv:List Value}{b:List Nat}{o:Obj}(h:RbJ w w3 wr gx C S vc vs vf fv F)(hu:Hl w w u b)(hg:(wr.alloc o).grownBy w5 vf.ownBlock)(j:w5.ownsRow w3 28 1 v5 (F.length+1) (fv++ [u])):RbJ w w3 (w5.setCell ⟨gx,1,none⟩ v5) gx C S vc vs v5 (fv++ [u]) (F++ [b]):=by
 have M:=h.lo;have hz:=h.bel.size;have z:=h.ofr.alloc o;have b5:=(h.bx.alloc o).grown hg (Br (fZ h.ofr h.bx iX));have J:=own_far (h.oc.alloc o) z iX hg;have E:=own_far (h.os.alloc o) z iX hg;have G:fv.length=F.length:=by have:=h.ofr.1;omega
 refine⟨by simpa using b5.set 1 v5,sZ J (fZ J b5 iX) _,sZ E (fZ E b5 iX) _,?_,?_,kZ mJ ((lZ hz h.bel).grown hg ni (fun y hy=>(Ae z y hy).1)),h.lo⟩
 ·rw[Aj];exact sZ j (fZ j b5 iX) _
 ·intro i v is hv hi;by_cases L:i<F.length
  ·rw[Hj kR]at hv;rw[Hj L]at hi;exact h.fin i v is hv hi
  ·rw[JU kR]at hv;rw[JU kR]at hi;have h0:i-F.length=0:=(by have:=(Ch.1 hi).1;simp at this;omega);rw[G,h0]at hv;rw[h0]at hi;simp at hv hi;subst hv hi;exact hu
def RBodyAt2(w w3 w':World)(vc vf vt vl vT vL:Value)(C T L:List Nat)(X:List Str×List (List Nat))(F:List (List Nat)):Prop:=
 ∃vals fv,w'.ownsRow w3 3 1 vc C.length (cZ .i64 C)/\w'.ownsRow w3 28 1 vf F.length fv/\(∀ (i:Nat) u b,fv[i]? =some u->F[i]? =some b->Hl w w u b)/\
  w'.ownsRow w3 41 1 vt T.length (cZ .u64 T)/\w'.ownsRow w3 5 1 vl L.length (cZ .u8 L)/\IxAt w' w3 vT vL vals X.1 X.2
theorem RBodyAt2.shape{X:List Str×List (List Nat)}(h:RBodyAt2 w w3 w' vc vf vt vl vT vL C T L X F):∃A n c,vc= .slice A n c:=by obtain⟨vals,fv,h1,_⟩:=h;obtain⟨A,c,e⟩:=aZ h1;exact⟨A,_,c,e⟩
def SY(w w':World)(v:Value)(C T L:List Nat)(X:List Str×List (List Nat))(F:List (List Nat)):Prop:=
 ∃vc vf vt vl vT vL vals fv,v= .agg #[vc,vf,vt,vl,vT,vL]/\w'.ownsRow w 3 1 vc C.length (cZ .i64 C)/\w'.ownsRow w 28 1 vf F.length fv/\(∀ (i:Nat) u b,fv[i]? =some u->F[i]? =some b->Hl w w u b)/\
  w'.ownsRow w 41 1 vt T.length (cZ .u64 T)/\w'.ownsRow w 5 1 vl L.length (cZ .u8 L)/\IxAt w' w vT vL vals X.1 X.2
def Nw(o:Opt)(ls:List Nat)(w:World)(e:Ending)(w':World):Prop:=
 aO w w'/\∃v,e= .returned (.tuple #[v, .int .i64 (BO o ls)])/\(BO o ls≠0->v= .agg zero6.toArray)/\
  (BO o ls=0->SY w w' v (Bj (wZ ls)) (AU (oN ls) (vZ (Bm ls))).1 (AU (oN ls) (vZ (Bm ls))).2.1 (Idx.ixR o.bucket.toNat (oN ls) (vZ (Cx ls))).1 (Bv (By (wZ ls)) (ls.take (Ci ls))))
theorem RBodyAt2.done{w2:World}{r1:Nat}{X:List Str×List (List Nat)}(h:RBodyAt2 w w3 w' vc vf vt vl vT vL C T L X F)(hk:Kept (fun x=>x<w'.heap.size/\x≠r1) w' w2)(hr:r1<w3.heap.size)(hw:w.heap.size<=w3.heap.size):SY w w2 (.agg #[vc,vf,vt,vl,vT,vL]) C T L X F:=by obtain⟨vals,fv,h1,h2,h3,h4,h5,h6⟩:=h;have far:∀ {n:Nat} {e:TypeId} {v:Value} {xs:List Value},w'.ownsRow w3 e 1 v n xs->w2.ownsRow w e 1 v n xs:=fun ho=>iZ (dZ ho fun y hy=>hk.block y ⟨(Ae ho y hy).2,by have:=(Ae ho y hy).1;omega⟩) hw;exact⟨vc,vf,vt,vl,vT,vL,vals,fv,rfl,far h1,far h2,h3,far h4,far h5,⟨far h6.t,far h6.l,fun i v ids hv hi=>far (h6.r i v ids hv hi)⟩⟩
theorem VW{o:Opt}{ls:List Nat}(hE:BO o ls=er)(i:er≠0)(hb:aO w w'):Nw o ls w (.returned (.tuple #[.agg #[(),(),(),(),(),()],er])) w':=by subst hE;exact⟨hb,_,rfl,fun _=>rfl,fun h=>absurd h i⟩
end Body
end Go.Proofs.YtfgdoknipbpfhaaGreatDoor
