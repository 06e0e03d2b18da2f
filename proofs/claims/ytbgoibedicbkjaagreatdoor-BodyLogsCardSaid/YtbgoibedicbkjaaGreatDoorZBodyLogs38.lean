/- The walk of the refe -/
import Derived.Test.YtbgoibedicbkjaaGreatDoorZBodyLogs36
import Derived.Test.YtbgoibedicbkjaaGreatDoorZBodyLogs37
import Derived.Test.YtbgoibedicbkjaaGreatDoorZBodyLogs31
namespace Go.Proofs.YtbgoibedicbkjaaGreatDoor
open Go.Lib (hid)
namespace Idx
open Go.RowKit Mem Own Canon Sift
open NumPut Recs Go.Proofs.YtbgoibedicbkjaaGreatDoor Crc Block
open Ef Nums
theorem LsAt.set{w:World}{base b:Nat}{vL:Value}{vals:List Value}{y:List (List Nat)}{cs:Array Value}(h:LsAt w base vL vals y)(j:Blk w b 36 cs)(k:Nat)(u:Value):LsAt (w.setCell ⟨b,k,none⟩ u) base vL vals y:=
 ⟨wZ h.l (fZ h.l j (by decide)) _,fun i v ids hv hi=>wZ (h.r i v ids hv hi) (fZ (h.r i v ids hv hi) j (by decide)) _⟩
theorem cut_none{A:Option Addr}{m c k:Nat}(i:A=none->m=0/\c=0):vZ A k c 1=none->m-k=0/\c-k=0:=fun h=>by
 have hA:A=none:=by
  unfold vZ at h;split at h
  ·exact h
  ·cases A with
   |none=>rfl
   |some x=>cases h
 have:=i hA;omega
structure RIx (w wr:World) (gx:Nat) (vT:Value) (ts:List Str) (Av:Option Addr) (k cv:Nat) (vals:List Value) (acc:List (List Nat)):Prop where
 bx:Blk wr gx 36 #[vT, .slice Av k cv]
 br:Blk wr w.heap.size 36 #[.slice none 0 0, .slice none 0 0]
 ls:LsAt wr w.heap.size (.slice Av k cv) vals acc
 ot:wr.ownsRow w.heap.size 9 1 vT ts.length (tZ ts)
 bel:Below w.heap.size w wr
 ne:w.heap.size<gx
theorem RIx.step{w wr w':World}{gx:Nat}{vT:Value}{ts:List Str}{Av:Option Addr}{k cv:Nat}{vals:List Value}{i:List (List Nat)}(h:RIx w wr gx vT ts Av k cv vals i)(hb:Below wr.heap.size wr w'):RIx w w' gx vT ts Av k cv vals i:=
 ⟨h.bx.step hb,h.br.step hb,h.ls.step hb,dZ h.ot (fun y hy=>hb.block y (Ae h.ot y hy).2),h.bel.trans (hb.mono h.bel.size),h.ne⟩
theorem RIx.add{w wr w7:World}{gx:Nat}{vT:Value}{ts:List Str}{Av A7:Option Addr}{k cv c7:Nat}{vals:List Value}{j:List (List Nat)}{u:Value}{i:List Nat}(h:RIx w wr gx vT ts Av k cv vals j)(hu:wr.ownsRow w.heap.size 3 1 u i.length (cZ .i64 i))(hk:j.length=k)(hg:wr.grownBy w7 (Value.slice Av k cv).ownBlock)(z:w7.ownsRow w.heap.size 30 1 (.slice A7 (k+1) c7) (k+1) (vals++ [u])):
 RIx w (w7.setCell ⟨gx,1,none⟩ (.slice A7 (k+1) c7)) gx vT ts A7 (k+1) c7 (vals++ [u]) (j++ [i]):=by
 have b7:=h.bx.grown hg (Bg (fZ h.ls.l h.bx (by decide)));have r7:=h.br.grown hg (Bg (fZ h.ls.l h.br (by decide)));have G:=h.ne;have E:=h.ls.add hu hg (by rw[hk];exact z);exact⟨by simpa using b7.set 1 (.slice A7 (k+1) c7),r7.far (by show _≠gx;omega) _,E.set b7 1 _,wZ (own_far h.ot h.ls.l (by decide) hg) (fZ (own_far h.ot h.ls.l (by decide) hg) b7 (by decide)) _,nZ (by show _<=gx;omega) (h.bel.grown hg h.bel.size (fun y hy=>(Ae h.ls.l y hy).1)),h.ne⟩
set_option maxHeartbeats 4000000 in
set_option maxRecDepth 100000 in
theorem QF(w:World)(A:Option Addr)(m c size bound:Nat)(ls:List Nat)(hm:ls.length=m)(aT:m<=100000)(h8:∀x∈ls,x<=255)(hc:m<=c)(N:A=none->m=0/\c=0)(ha:Row w w.heap.size A m 1 (iZ .u8 ls))(aQ:1<=size)(aN:size<=64)(hb:bound<=20000):
 Calls Tryz.prog 72 #[.int .i64 (size:Nat), .int .i64 (bound:Nat), .slice A m c] w (I4 w (ixR size bound ls)):=by
 obtain⟨j0,a0,aY,aS,aJ⟩:=info_parts ON;have aE:Hid (∀wx,Below w.heap.size w wx->Row wx wx.heap.size A m 1 (iZ .u8 ls)):=fun wx h=>(ha.below h).mono h.size;have D0:=hid (fun wx (h:Below w.heap.size w wx)=>V7 wx A m c size ls hm aT h8 N (aE.out wx h) aQ aN);have a7:decide ((size:Int)<1)=false:=by simp;omega
 have a6:decide (size<1)=false:=by simp;omega
 have bd:decide ((64:Int)<(size:Int))=false:=by simp;omega
 have a5:decide (64<size)=false:=by simp;omega
 have a3:decide ((bound:Int)<0)=false:=by simp
 have a4:decide ((20000:Int)<(bound:Int))=false:=by simp;omega
 have aV:decide (20000<bound)=false:=by simp;omega
 obtain⟨R,hR⟩:∃R,R=ixR size bound ls:=⟨_,rfl⟩;rw[<-hR];unfold ixR at hR;obtain⟨aB,aC⟩:=Lx (size:=size) h8;generalize Dq size ls=T at *;obtain⟨ts,t1,te⟩:=T;simp only at hR aB aC;unfold Mj at D0;simp only at D0;rw[hm]at aB;have aW:=hid hb;have H8:=hid h8;have HM:=hid hm;have aX:=hid N;have aR:=hid ha;have HR:=hid hR;unfold I4;clear hR ha h8 N hm aE;go_enter Tryz.func72,Tryz.ntmps72;go_wp2_with fail;have aq:Below w.heap.size w (w.alloc (.cells #[.slice none 0 0, .slice none 0 0] 36)):=bZ (Ag _ _);have aG:Blk (w.alloc (.cells #[.slice none 0 0, .slice none 0 0] 36)) w.heap.size 36 #[.slice none 0 0, .slice none 0 0]:=Blk.made _ _ _;have bb:w.heap.size+1<=(w.alloc (.cells #[.slice none 0 0, .slice none 0 0] 36)).heap.size:=by simp
 have D1:=hid (D0.out _ aq);generalize w.alloc (.cells #[.slice none 0 0, .slice none 0 0] 36)=w1 at *;have aw:=hid aq;have aH:=hid aG;clear aq aG D0;refine D1.out.mono ?_;rintro e w2 ⟨vT,rfl,ac,ae⟩;have al:Hid (Below w.heap.size w w2):=aw.out.trans (ae.mono (by omega));have E:=hid (aH.out.step ae);have z2:=ae.size;have am:=hid ac;obtain⟨n,hn⟩:∃n,n=ts.length:=⟨_,rfl⟩;rw[<-hn]at ac aC;obtain⟨At,ct,rfl⟩:=aZ ac;have aU:=hid hn;clear ae ac hn D1 aw aH;by_cases ht:te=0
 ·subst ht;have hr:=HR.out;rw[Aa (show ¬((0:Int)≠0) from fun h=>h rfl),<-aU.out]at hr;obtain⟨L,hL⟩:∃L,L=lsR bound (ls.drop t1) n 0 []:=⟨_,rfl⟩;rw[<-hL]at hr;unfold ixF at hr;have ag:=hid hr;have az:Hid (lsR bound (ls.drop t1) (n-0) 0 []=L):=hL.symm;clear hr hL HR;go_wp2_with fail;have aj:Below w2.heap.size w2 (w2.alloc (.cells #[.slice At n ct, .slice none 0 0] 36)):=bZ (Ag _ _);have aF:Hid (RIx w (w2.alloc (.cells #[.slice At n ct, .slice none 0 0] 36)) w2.heap.size (.slice At n ct) ts none 0 0 [] []):=⟨Blk.made _ _ _,E.out.step aj,LsAt.nil _ _,jZ ((am.out).alloc _) (by omega),al.out.trans (aj.mono (by omega)),by omega⟩;generalize aO:w2.heap.size=gx at *;generalize w2.alloc (.cells #[.slice At n ct, .slice none 0 0] 36)=w3 at *;have bc:w.heap.size<gx:=by omega
  clear aj E am al aO z2;go_loopw [12,9] (fun iv av wr=>∃ (k r cv:Nat) (Av:Option Addr) (J:List (List Nat)) (vals:List Value),k<=n/\t1+r<=m/\iv= .int .i64 k/\av= .int .i64 ((t1+r:Nat):Int)/\Hid (J.length=k)/\Hid (RIx w wr gx (.slice At n ct) ts Av k cv vals J)/\Hid (lsR bound (ls.drop t1) (n-k) r J=L)) (fun iv _ _=>n-(intOf iv).toNat)
  case atStart=>exact⟨0,0,0,none,[],[],by omega,by omega,rfl,by first|rfl|go_num,rfl,aF.out,az.out⟩
  case round=>
   obtain⟨k,r,cv,Av,J,vals,hk,hr,rfl,rfl,HL,HI,HG⟩:=hrel;obtain⟨a,hA⟩:∃a,a=t1+r:=⟨_,rfl⟩;rw[<-hA]at hr ⊢;have aa:=hid hA;clear hA aF az;have zr:=HI.out.bel.size;by_cases ba:k<n
   ·have gk:decide ((k:Int)<(n:Int))=true:=(by simp;omega);have a9:decide (k<n)=true:=(by simp;omega);have hG:=HG.out;rw[show n-k=(n-(k+1))+1 by omega,lsR,List.drop_drop,<-aa.out]at hG;have au:∀x∈ls.drop a,x<=255:=fun x hx=>H8.out x (Bb hx);have M:(ls.drop a).length=m-a:=(by rw[AQ,HM.out]);have ar:=Ct (HM.out ▸ aR.out:Row w w.heap.size A ls.length 1 (iZ .u8 ls)) (by have:=HM.out;omega:a<=ls.length) (by have:=HM.out;omega:ls.length<=c);rw[HM.out]at ar;have DR:=Wn wr (vZ A a c 1) (m-a) (c-a) bound (ls.drop a) M (by omega) au (by omega) (cut_none aX.out) ((ar.below HI.out.bel).mono zr) aW.out;have ks:=fun wx=>EG (P:=Tryz.prog) (t:=22) (s:=1) Tryz.underlying22 (fun _=>by kernel_rfl) A m c .i64 (a:Int) a rfl hr wx;have ax:=QG (bound:=bound) au;rw[M]at ax;unfold MM at DR;generalize efR bound (ls.drop a)=T at *;obtain⟨aD,t2,ah⟩:=T;simp only at hG ax DR;generalize vZ A a c 1=A2 at *;generalize c-a=c2 at *;have a8:m-a+a=m:=(by omega);generalize m-a=m2 at *;have ab:=hid hG;have DR:=hid DR;clear hG HG au M ar;go_wp2_with fail;refine DR.out.mono ?_;rintro e w4 ⟨v4,rfl,af,an⟩;have j:=hid (HI.out.step an);have aI:=hid (jZ af zr);obtain⟨Q,hQ⟩:∃Q,Q=aD.length:=⟨_,rfl⟩;rw[<-hQ]at af;obtain⟨A4,c4,rfl⟩:=aZ af;have HQ:=hid hQ;have k0:=j.out.br.cell 0;have k1:=j.out.br.cell 1;have f0:=j.out.br.frozen 0;have f1:=j.out.br.frozen 1;have q1:=j.out.bx.cell 1;simp only[List.getElem?_toArray,List.getElem?_cons_zero,List.getElem?_cons_succ]at k0 k1 q1;have z4:=an.size;clear af an hQ DR HI;by_cases Z:ah=0
    ·subst Z;have hG:=ab.out;rw[Aa (show ¬((0:Int)≠0) from fun h=>h rfl),<-HQ.out]at hG;by_cases h0:Q=0
     ·have gz:((Q:Int)==0)=true:=(by rw[h0];rfl);have HF:Hid (R=(([],[]),2)):=(by rw[Ab h0]at hG;have h:=ag.out;rw[<-hG]at h;rw[show R=_ from h];exact Ab (show(2:Int)≠0 by decide));have HX:=hid j.out.br;have G:=hid j.out.bel;clear h0 hG ab;go_wp2_with fail;rw[HF.out];refine AN (v:= .tuple #[.agg #[.slice none 0 0, .slice none 0 0], .int .i64 2]) ?_ rfl ⟨_,_,[],rfl,IL _ _,?_⟩
      ·have i:=(HX.out.set 0 (.slice none 0 0)).set 1 (.slice none 0 0);have e0:=i.cell 0;have e1:=i.cell 1;simp at e0 e1;simp[results,Tryz.results72,go_sem,e0,e1]
      ·exact nZ (Aj _) (nZ (Aj _) G.out)
     ·have gz:((Q:Int)==0)=false:=(by rw[Dd];omega);rw[Aa h0]at hG;have sa:IntKind.i64.wrap ((a:Int)+(t2:Int))=((a+t2:Nat):Int):=(by rw[Ak _ (by omega)];omega);have a1:=hid hG;have aP:Hid (w4.ownsRow w.heap.size 30 1 (.slice Av k cv) k vals):=(by have h:=j.out.ls.l;rw[HL.out]at h;exact h);have be:=j.out.bel.size;clear h0 hG ab k0 k1 f0 f1;go_wp2_with(at_builtin;refine gZ rfl (.tmp 68) (.tmp 70) 34 rfl w.heap.size 30 j0 _ 1 24 Tryz.underlying34 a0 aY aS aJ rfl (by decide) _ _ _ (by rfl) (aP.out.alloc _) _ 1 1 [.slice A4 Q c4] (by rfl) (Src.of_blk (Blk.made_at _ _ _ (by simp)) 1 1 1 rfl) (by intro u hu;simp at hu;rcases hu with rfl;rfl) (by unfold maxLen;omega) (by omega) (by simp;omega) ?_;intro v7 w7 z ai aA;obtain⟨A7,c7,rfl⟩:=aZ z;have Y:=j.out.step (bZ (o:= .cells #[.slice A4 Q c4] 30) (Ag w4.heap.size w4));have b7:=Y.bx.grown ai (Bg (fZ Y.ls.l Y.bx (by decide)));have p1:=b7.cell 1;have r1:=b7.frozen 1;simp only[List.getElem?_toArray,List.getElem?_cons_zero,List.getElem?_cons_succ]at p1;have aK:=hid (Y.add (dZ aI.out (fun y hy=>(BI w4 _ y (Ae aI.out y hy).2))) HL.out ai z);clear Y z ai aA b7);go_roundw
      case measure=>go_light;simp[intOf];omega
      case rel=>go_light;exact⟨k+1,r+t2,c7,A7,J++ [aD],vals++ [Value.slice A4 Q c4],by omega,by have:=aa.out;omega,by first|rfl|go_num,by(have h:=aa.out);first|rfl|(refine AJ (Value.int .i64) ?_;omega)|go_num,by show _=_;rw[Ai,HL.out];rfl,aK.out,a1.out⟩
    ·have gE:(ah != 0)=true:=(by simpa using Z);have HF:Hid (R=(([],[]),ah)):=(by have h:=ab.out;rw[Ab Z]at h;have h2:=ag.out;rw[<-h]at h2;rw[show R=_ from h2];exact Ab Z);have HX:=hid j.out.br;have G:=hid j.out.bel;obtain⟨er,U⟩:∃er:Int,er=ah:=⟨_,rfl⟩;have ak:=U;subst U;clear Z ab;clear ak;go_wp2_with fail;rw[HF.out];refine AN (v:= .tuple #[.agg #[.slice none 0 0, .slice none 0 0], .int .i64 er]) ?_ rfl ⟨_,_,[],rfl,IL _ _,?_⟩
     ·have i:=(HX.out.set 0 (.slice none 0 0)).set 1 (.slice none 0 0);have e0:=i.cell 0;have e1:=i.cell 1;simp at e0 e1;simp[results,Tryz.results72,go_sem,e0,e1]
     ·exact nZ (Aj _) (nZ (Aj _) G.out)
   ·obtain rfl:k=n:=by omega
    have gk:decide ((k:Int)<(k:Int))=false:=(by simp);have hG:=HG.out;rw[EL,lsR,AQ,HM.out]at hG;have k0:=HI.out.br.cell 0;have k1:=HI.out.br.cell 1;have f0:=HI.out.br.frozen 0;have f1:=HI.out.br.frozen 1;have q0:=HI.out.bx.cell 0;have q1:=HI.out.bx.cell 1;simp only[List.getElem?_toArray,List.getElem?_cons_zero,List.getElem?_cons_succ]at k0 k1 q0 q1;by_cases ay:a<m
    ·have gl:decide ((a:Int)<(m:Int))=true:=(by simp;omega);have aL:decide (a<m)=true:=(by simp;omega);have HF:Hid (R=(([],[]),2)):=(by rw[Ab (by have:=aa.out;omega)]at hG;have h:=ag.out;rw[<-hG]at h;rw[show R=_ from h];exact Ab (show(2:Int)≠0 by decide));have HX:=hid HI.out.br;have G:=hid HI.out.bel;clear ay hG HG q0 q1;go_wp2_with fail;rw[HF.out];refine AN (v:= .tuple #[.agg #[.slice none 0 0, .slice none 0 0], .int .i64 2]) ?_ rfl ⟨_,_,[],rfl,IL _ _,?_⟩
     ·have i:=(HX.out.set 0 (.slice none 0 0)).set 1 (.slice none 0 0);have e0:=i.cell 0;have e1:=i.cell 1;simp at e0 e1;simp[results,Tryz.results72,go_sem,e0,e1]
     ·exact nZ (Aj _) (nZ (Aj _) G.out)
    ·have gl:decide ((a:Int)<(m:Int))=false:=(by simp;omega);have aL:decide (a<m)=false:=(by simp;omega);have HF:Hid (R=((ts,J),0)):=(by rw[Aa (by have:=aa.out;omega)]at hG;have h:=ag.out;rw[<-hG]at h;rw[show R=_ from h];exact Aa (fun h=>h rfl));clear ay hG HG;go_wp2_with fail;rw[HF.out];refine AN (v:= .tuple #[.agg #[.slice At k ct, .slice Av k cv], .int .i64 0]) ?_ rfl ⟨_,_,vals,rfl,?_,?_⟩
     ·have i:=(HI.out.br.set 0 (.slice At k ct)).set 1 (.slice Av k cv);have e0:=i.cell 0;have e1:=i.cell 1;simp at e0 e1;simp[results,Tryz.results72,go_sem,e0,e1]
     ·have aM:IxAt wr w.heap.size (.slice At k ct) (.slice Av k cv) vals ts J:=⟨HI.out.ot,HI.out.ls.l,HI.out.ls.r⟩;exact(aM.set HI.out.br 0 _).set (HI.out.br.set 0 _) 1 _
     ·exact nZ (Aj _) (nZ (Aj _) HI.out.bel)
 ·have gE:(te != 0)=true:=by simpa using ht
  have HF:Hid (R=(([],[]),te)):=by have h:=HR.out;rw[Ab ht]at h;exact h
  have k0:=E.out.cell 0;have k1:=E.out.cell 1;have f0:=E.out.frozen 0;have f1:=E.out.frozen 1;simp only[List.getElem?_toArray,List.getElem?_cons_zero,List.getElem?_cons_succ]at k0 k1;have HX:=E;have G:=al;obtain⟨er,U⟩:∃er:Int,er=te:=⟨_,rfl⟩;have ak:=U;subst U;clear ht HR am;clear ak;go_wp2_with fail;rw[HF.out];refine AN (v:= .tuple #[.agg #[.slice none 0 0, .slice none 0 0], .int .i64 er]) ?_ rfl ⟨_,_,[],rfl,IL _ _,?_⟩
  ·have i:=(HX.out.set 0 (.slice none 0 0)).set 1 (.slice none 0 0);have e0:=i.cell 0;have e1:=i.cell 1;simp at e0 e1;simp[results,Tryz.results72,go_sem,e0,e1]
  ·exact nZ (Aj _) (nZ (Aj _) G.out)
end Idx
namespace Body
open Go.RowKit Mem Own Canon Nums Crc Recs
open Opts
open Go.Proofs.YtbgoibedicbkjaaGreatDoor.Idx (Str IxAt)
theorem RD(ls:List Nat){r a x:Nat}(h:a+x<=r):((ls.take r).drop a).take x=(ls.drop a).take x:=by rw[List.drop_take,List.take_take,Nat.min_eq_left (by omega)]
theorem UC{w:World}{g base i c at_:Nat}{bs:List Nat}{A:Option Addr}{er:Int}(h:RCur w g base bs A c at_ er)(hb:i<=base):RCur w g i bs A c at_ er:=⟨h.blk,jZ h.own hb,h.le,AV hb h.lo⟩
theorem Rr{C:List Nat}{r:Nat}{zb rb:Bool}(h:zb=decide (0∈C))(hr:rb=decide (r=0)):(zb || rb)=decide (0∈C++ [r]):=by
 rw[h,hr,<-Bool.decide_or,decide_eq_decide,BH,Df];constructor
 ·rintro(h|h)
  ·exact .inl h
  ·exact .inr h.symm
 ·rintro(h|h)
  ·exact .inl h
  ·exact .inr h.symm
def zero6:List Value:= [.slice none 0 0, .slice none 0 0, .slice none 0 0, .slice none 0 0, .slice none 0 0, .slice none 0 0]
def G1(w:World)(base:Nat)(v:Value)(b:List Nat):Prop:=∃A n c,v= .slice A n c/\n<=c/\b.length=n/\(A=none->n=0/\c=0)/\Row w base A n 1 (iZ .u8 b)
structure RbI (w3 wr:World) (gx g:Nat) (D:List Nat) (B:Option Addr) (d at_:Nat) (er:Int) (C S:List Nat) (vc vs:Value):Prop where
 cur:RCur wr g w3.heap.size D B d at_ er
 bx:Blk wr gx 38 #[vc, .slice none 0 0, .slice none 0 0, .slice none 0 0, .slice none 0 0, .slice none 0 0]
 oc:wr.ownsRow w3.heap.size 3 1 vc C.length (cZ .i64 C)
 os:wr.ownsRow w3.heap.size 3 1 vs S.length (cZ .i64 S)
 ap:∀y,vc.ownBlock=some y->vs.ownBlock≠some y
 bel:Below w3.heap.size w3 wr
 lo:w3.heap.size<=gx
section
variable {w3 wr w2 w5:World} {gx g:Nat} {D:List Nat} {B:Option Addr} {d at_ a2:Nat} {er e2:Int} {C S:List Nat} {vc vs v5:Value} {x:Nat} {o:Obj}
theorem RbI.call(h:RbI w3 wr gx g D B d at_ er C S vc vs)(j:RCur w2 g w3.heap.size D B d a2 e2)(i:Kept (uZ g wr) wr w2):RbI w3 w2 gx g D B d a2 e2 C S vc vs:=
 have z:=h.cur.lo;have hz:=h.bel.size
 ⟨j,(i.block gx ⟨h.bx.lt,fun e=>Blk.apart h.bx h.cur.blk (by decide) e⟩).trans h.bx,dZ h.oc (fun y hy=>i.block y ⟨(Ae h.oc y hy).2,fun e=>fZ h.oc h.cur.blk (by decide) (e ▸ hy)⟩),dZ h.os (fun y hy=>i.block y ⟨(Ae h.os y hy).2,fun e=>fZ h.os h.cur.blk (by decide) (e ▸ hy)⟩),h.ap,h.bel.trans (i.below fun y hy=>⟨by omega,by omega⟩),h.lo⟩
theorem RbI.count(h:RbI w3 wr gx g D B d at_ er C S vc vs)(hg:(wr.alloc o).grownBy w5 vc.ownBlock)(i:w5.ownsRow w3.heap.size 3 1 v5 (C.length+1) (cZ .i64 C++ [.int .i64 (x:Nat)]))(z:v5.ownBlock=vc.ownBlock∨v5.ownBlock=some (wr.alloc o).heap.size):RbI w3 (w5.setCell ⟨gx,0,none⟩ v5) gx g D B d at_ er (C++ [x]) S v5 vs:=by
 have E:=h.lo;have hz:=h.bel.size;have b5:=(h.bx.alloc o).grown hg (Bg (fZ h.oc h.bx (by decide)));have c1:=h.cur.step (bZ (o:=o) (Ag _ _));have j:=h.oc.alloc o;have c5:RCur w5 g w3.heap.size D B d at_ er:=⟨c1.blk.grown hg (Bg (fZ j c1.blk (by decide))),own_far c1.own j (by decide) hg,c1.le,c1.lo⟩;have o1:=h.os.alloc o;have o5:w5.ownsRow w3.heap.size 3 1 vs S.length (cZ .i64 S):=dZ o1 (fun y hy=>hg.block y (Ae o1 y hy).2 (fun e=>h.ap y e.symm hy));refine⟨⟨c5.blk.far (fun e=>Blk.apart b5 c5.blk (by decide) e.symm) _,wZ c5.own (fZ c5.own b5 (by decide)) _,c5.le,c5.lo⟩,by simpa using b5.set 0 v5,?_,wZ o5 (fZ o5 b5 (by decide)) _,?_,?_,h.lo⟩
 ·rw[Ai,show cZ .i64 (C++ [x])=cZ .i64 C++ [.int .i64 (x:Nat)] by simp[cZ]];exact wZ i (fZ i b5 (by decide)) _
 ·intro y hy hh;rcases z with e|e
  ·exact h.ap y (by rw[<-e];exact hy) hh
  ·rw[e]at hy;injection hy with hy;have:=(Ae h.os y hh).2;simp at hy;omega
 ·exact nZ (by show _<=gx;omega) ((kZ hz h.bel).grown hg (by simp;omega) (fun y hy=>(Ae j y hy).1))
theorem RbI.size(h:RbI w3 wr gx g D B d at_ er C S vc vs)(hg:(wr.alloc o).grownBy w5 vs.ownBlock)(j:w5.ownsRow w3.heap.size 3 1 v5 (S.length+1) (cZ .i64 S++ [.int .i64 (x:Nat)]))(z:v5.ownBlock=vs.ownBlock∨v5.ownBlock=some (wr.alloc o).heap.size):RbI w3 w5 gx g D B d at_ er C (S++ [x]) vc v5:=by
 have E:=h.lo;have hz:=h.bel.size;have i:=h.os.alloc o;have b5:=(h.bx.alloc o).grown hg (Bg (fZ h.os h.bx (by decide)));have c1:=h.cur.step (bZ (o:=o) (Ag _ _));have o1:=h.oc.alloc o;refine⟨⟨c1.blk.grown hg (Bg (fZ i c1.blk (by decide))),own_far c1.own i (by decide) hg,c1.le,c1.lo⟩,b5,dZ o1 (fun y hy=>hg.block y (Ae o1 y hy).2 (fun e=>h.ap y hy e.symm)),?_,?_,(kZ hz h.bel).grown hg (by simp;omega) (fun y hy=>(Ae i y hy).1),h.lo⟩
 ·rw[Ai,show cZ .i64 (S++ [x])=cZ .i64 S++ [.int .i64 (x:Nat)] by simp[cZ]];exact j
 ·intro y hy hh;rcases z with e|e
  ·exact h.ap y hy (by rw[<-e];exact hh)
  ·rw[e]at hh;injection hh with hh;have:=(Ae h.oc y hy).2;simp at hh;omega
end
structure RbJ (w w3 wr:World) (gx:Nat) (C S:List Nat) (vc vs vf:Value) (fv:List Value) (F:List (List Nat)):Prop where
 bx:Blk wr gx 38 #[vc,vf, .slice none 0 0, .slice none 0 0, .slice none 0 0, .slice none 0 0]
 oc:wr.ownsRow w3.heap.size 3 1 vc C.length (cZ .i64 C)
 os:wr.ownsRow w3.heap.size 3 1 vs S.length (cZ .i64 S)
 ofr:wr.ownsRow w3.heap.size 22 1 vf F.length fv
 fin:∀ (i:Nat) v b,fv[i]? =some v->F[i]? =some b->G1 w w.heap.size v b
 bel:Below w3.heap.size w3 wr
 lo:w3.heap.size<=gx
theorem RbJ.add{w w3 wr w5:World}{gx:Nat}{C S:List Nat}{vc vs vf v5 u:Value}{fv:List Value}{F:List (List Nat)}{b:List Nat}{o:Obj}(h:RbJ w w3 wr gx C S vc vs vf fv F)(hu:G1 w w.heap.size u b)(hg:(wr.alloc o).grownBy w5 vf.ownBlock)(j:w5.ownsRow w3.heap.size 22 1 v5 (F.length+1) (fv++ [u])):RbJ w w3 (w5.setCell ⟨gx,1,none⟩ v5) gx C S vc vs v5 (fv++ [u]) (F++ [b]):=by
 have M:=h.lo;have hz:=h.bel.size;have z:=h.ofr.alloc o;have b5:=(h.bx.alloc o).grown hg (Bg (fZ h.ofr h.bx (by decide)));have J:=own_far (h.oc.alloc o) z (by decide) hg;have G:=own_far (h.os.alloc o) z (by decide) hg;have E:fv.length=F.length:=by have:=h.ofr.1;omega
 refine⟨by simpa using b5.set 1 v5,wZ J (fZ J b5 (by decide)) _,wZ G (fZ G b5 (by decide)) _,?_,?_,nZ (by show _<=gx;omega) ((kZ hz h.bel).grown hg (by simp;omega) (fun y hy=>(Ae z y hy).1)),h.lo⟩
 ·rw[Ai];exact wZ j (fZ j b5 (by decide)) _
 ·intro i v is hv hi;by_cases L:i<F.length
  ·rw[GT (by omega)]at hv;rw[GT L]at hi;exact h.fin i v is hv hi
  ·rw[Jp (by omega)]at hv;rw[Jp (by omega)]at hi;have h0:i-F.length=0:=(by have:=(BO.1 hi).1;simp at this;omega);rw[E,h0]at hv;rw[h0]at hi;simp at hv hi;subst hv hi;exact hu
def RBodyAt2(w w3 w':World)(vc vf vt vl vT vL:Value)(C T L:List Nat)(X:List Str×List (List Nat))(F:List (List Nat)):Prop:=
 ∃vals fv,w'.ownsRow w3.heap.size 3 1 vc C.length (cZ .i64 C)/\w'.ownsRow w3.heap.size 22 1 vf F.length fv/\(∀ (i:Nat) u b,fv[i]? =some u->F[i]? =some b->G1 w w.heap.size u b)/\
  w'.ownsRow w3.heap.size 57 1 vt T.length (cZ .u64 T)/\w'.ownsRow w3.heap.size 5 1 vl L.length (cZ .u8 L)/\IxAt w' w3.heap.size vT vL vals X.1 X.2
theorem RBodyAt2.shape{w w3 w':World}{vc vf vt vl vT vL:Value}{C T L:List Nat}{X:List Str×List (List Nat)}{F:List (List Nat)}(h:RBodyAt2 w w3 w' vc vf vt vl vT vL C T L X F):∃A n c,vc= .slice A n c:=by obtain⟨vals,fv,h1,_⟩:=h;obtain⟨A,c,e⟩:=aZ h1;exact⟨A,_,c,e⟩
def Rz(w w':World)(v:Value)(C T L:List Nat)(X:List Str×List (List Nat))(F:List (List Nat)):Prop:=
 ∃vc vf vt vl vT vL vals fv,v= .agg #[vc,vf,vt,vl,vT,vL]/\w'.ownsRow w.heap.size 3 1 vc C.length (cZ .i64 C)/\w'.ownsRow w.heap.size 22 1 vf F.length fv/\(∀ (i:Nat) u b,fv[i]? =some u->F[i]? =some b->G1 w w.heap.size u b)/\
  w'.ownsRow w.heap.size 57 1 vt T.length (cZ .u64 T)/\w'.ownsRow w.heap.size 5 1 vl L.length (cZ .u8 L)/\IxAt w' w.heap.size vT vL vals X.1 X.2
def RW(o:Opt)(ls:List Nat)(w:World)(e:Ending)(w':World):Prop:=
 Below w.heap.size w w'/\∃v,e= .returned (.tuple #[v, .int .i64 (CA o ls)])/\(CA o ls≠0->v= .agg zero6.toArray)/\
  (CA o ls=0->Rz w w' v (Bt (AE ls)) (Bk (oN ls) (AI (Cb ls))).1 (Bk (oN ls) (AI (Cb ls))).2.1 (Idx.ixR o.bucket.toNat (oN ls) (AI (EU ls))).1 (BJ (Cd (AE ls)) (ls.take (CR ls))))
theorem RBodyAt2.done{w w3 w' w2:World}{r1:Nat}{vc vf vt vl vT vL:Value}{C T L:List Nat}{X:List Str×List (List Nat)}{F:List (List Nat)}(h:RBodyAt2 w w3 w' vc vf vt vl vT vL C T L X F)(hk:Kept (fun x=>x<w'.heap.size/\x≠r1) w' w2)(hr:r1<w3.heap.size)(hw:w.heap.size<=w3.heap.size):Rz w w2 (.agg #[vc,vf,vt,vl,vT,vL]) C T L X F:=by obtain⟨vals,fv,h1,h2,h3,h4,h5,h6⟩:=h;have far:∀ {n:Nat} {e:TypeId} {v:Value} {xs:List Value},w'.ownsRow w3.heap.size e 1 v n xs->w2.ownsRow w.heap.size e 1 v n xs:=fun ho=>jZ (dZ ho fun y hy=>hk.block y ⟨(Ae ho y hy).2,by have:=(Ae ho y hy).1;omega⟩) hw;exact⟨vc,vf,vt,vl,vT,vL,vals,fv,rfl,far h1,far h2,h3,far h4,far h5,⟨far h6.t,far h6.l,fun i v ids hv hi=>far (h6.r i v ids hv hi)⟩⟩
theorem EP{o:Opt}{ls:List Nat}{w w':World}{er:Int}(hE:CA o ls=er)(i:er≠0)(hb:Below w.heap.size w w'):RW o ls w (.returned (.tuple #[.agg #[.slice none 0 0, .slice none 0 0, .slice none 0 0, .slice none 0 0, .slice none 0 0, .slice none 0 0], .int .i64 er])) w':=by subst hE;exact⟨hb,_,rfl,fun _=>rfl,fun h=>absurd h i⟩
end Body
end Go.Proofs.YtbgoibedicbkjaaGreatDoor
