/- Compares of any two  -/
import Derived.Test.YtbgoibedicbkjaaGreatDoorZBodyLogs29
import Derived.Test.YtbgoibedicbkjaaGreatDoorZBodyLogs35
namespace Go.Proofs.YtbgoibedicbkjaaGreatDoor
open Go.Lib (hid)
set_option maxHeartbeats 2000000
set_option maxRecDepth 100000
namespace Idx
open Go.RowKit Mem Own Canon Sift
open NumPut Recs
theorem VN(w:World)(A B:Option Addr)(n m c d:Nat)(la lb:List Nat)(hn:la.length=n)(hm:lb.length=m)(hN:n<=3000000000)(hM:m<=3000000000)(ha:Row w w.heap.size A n 1 (iZ .i64 la))(hb:Row w w.heap.size B m 1 (iZ .i64 lb)):
 Calls Tryz.prog 126 #[.slice A n c, .slice B m d] w fun e w'=>e= .returned (.bool (decide (la=lb)))/\∃q,w'=w.drewN q:=by
 by_cases he:n=m
 ·subst he;have HA:=hid ha;have HB:=hid hb;have HN:=hid hn;have HM:=hid hm;have z1:((n:Int) != (n:Int))=false:=by simp
  clear ha hb hn hm;go_enter Tryz.func126,Tryz.ntmps126;go_wp2_with fail;go_loopw [13] (fun i wx=>∃k:Nat,k<=n/\i= .int .i64 k/\Hid (decide (la.drop k=lb.drop k)=decide (la=lb))/\Hid (∃q,wx=w.drewN q)) (fun i _=>n-(intOf i).toNat)
  case atStart=>exact⟨0,by omega,rfl,rfl,0,rfl⟩
  case round=>
   obtain⟨k,hk,rfl,hE,HQ⟩:=hrel;have y:Hid (∀nq,∃q,wr.drewN nq=w.drewN q):=fun nq=>by obtain⟨q,hq⟩:=HQ.out;exact⟨_,by rw[hq];exact CL _ _ _⟩
   by_cases h:k<n
   ·have G:Row wr w.heap.size A n 1 (iZ .i64 la):=(by obtain⟨q,hq⟩:=HQ.out;rw[hq];exact HA.out);have J:Row wr w.heap.size B n 1 (iZ .i64 lb):=(by obtain⟨q,hq⟩:=HQ.out;rw[hq];exact HB.out);obtain⟨b1,o1,x1,rfl,Q,z,M⟩:=Ci G HN.out h;obtain⟨b2,o2,x2,rfl,L,E,N⟩:=Ci J HM.out h;have he:=hE.out;rw[Crc.M0 (by rw[HN.out];exact h) (by rw[HM.out];exact h),Ar,Ar,z,E]at he;simp only[Option.getD_some]at he;have y0:(0:Int)<=(k:Int):=(by omega);have y1:(k:Int)<(n:Int):=(by omega);have gk:decide ((k:Int)<(n:Int))=true:=(by simp;omega);clear z E hE G J HQ;by_cases j:x1=x2
    ·subst j;rw[Aw rfl,Bool.true_and]at he;have HE:=hid he;have e1:((x1:Int) != (x1:Int))=false:=(by simp);clear he;go_wp2_with fail;go_quiet (fail);go_wp2_with fail;go_roundw
     case measure=>go_light;simp[intOf];omega
     case rel=>go_light;exact⟨k+1,by omega,by first|rfl|go_num,HE.out,y.out _⟩
    ·rw[Az j,Hw]at he;have HE:=hid he;have e1:((x1:Int) != (x2:Int))=true:=(by rw[bne_iff_ne];omega);clear he j;go_wp2_with fail;go_quiet (fail);go_wp2_with fail;go_ret;exact⟨Do HE.out,y.out _⟩
   ·obtain rfl:k=n:=by omega
    have gk:decide ((k:Int)<(k:Int))=false:=(by simp);have he:=hE.out;rw[Ce (by rw[HN.out];exact Aj _),Ce (by rw[HM.out];exact Aj _)]at he;have HE:=hid he;clear he hE y;go_wp2_with fail;go_ret;exact⟨Do (by rw[<-HE.out];rfl),HQ.out⟩
 ·have hR:decide (la=lb)=false:=Az fun e=>by rw[e]at hn;omega
  have z1:((n:Int) != (m:Int))=true:=by rw[bne_iff_ne];omega
  rw[hR];clear hR hn hm ha hb he;go_enter Tryz.func126,Tryz.ntmps126;go_wp2_with fail;go_ret;exact⟨rfl,0,rfl⟩
theorem YN(w:World)(A B:Option Addr)(n m c d:Nat)(la lb:List Nat)(hn:la.length=n)(hm:lb.length=m)(hN:n<=3000000000)(hM:m<=3000000000)(ha:Row w w.heap.size A n 1 (iZ .i64 la))(hb:Row w w.heap.size B m 1 (iZ .i64 lb)):
 Calls Tryz.prog 11 #[.slice A n c, .slice B m d] w fun e w'=>e= .returned (.bool (decide (la=lb)))/\∃q,w'=w.drewN q:=by
 by_cases he:n=m
 ·subst he;have HA:=hid ha;have HB:=hid hb;have HN:=hid hn;have HM:=hid hm;have z1:((n:Int) != (n:Int))=false:=by simp
  clear ha hb hn hm;go_enter Tryz.func11,Tryz.ntmps11;go_wp2_with fail;go_loopw [5] (fun i wx=>∃k:Nat,k<=n/\i= .int .i64 k/\Hid (decide (la.drop k=lb.drop k)=decide (la=lb))/\Hid (∃q,wx=w.drewN q)) (fun i _=>n-(intOf i).toNat)
  case atStart=>exact⟨0,by omega,rfl,rfl,0,rfl⟩
  case round=>
   obtain⟨k,hk,rfl,hE,HQ⟩:=hrel;have y:Hid (∀nq,∃q,wr.drewN nq=w.drewN q):=fun nq=>by obtain⟨q,hq⟩:=HQ.out;exact⟨_,by rw[hq];exact CL _ _ _⟩
   by_cases h:k<n
   ·have G:Row wr w.heap.size A n 1 (iZ .i64 la):=(by obtain⟨q,hq⟩:=HQ.out;rw[hq];exact HA.out);have J:Row wr w.heap.size B n 1 (iZ .i64 lb):=(by obtain⟨q,hq⟩:=HQ.out;rw[hq];exact HB.out);obtain⟨b1,o1,x1,rfl,Q,z,M⟩:=Ci G HN.out h;obtain⟨b2,o2,x2,rfl,L,E,N⟩:=Ci J HM.out h;have he:=hE.out;rw[Crc.M0 (by rw[HN.out];exact h) (by rw[HM.out];exact h),Ar,Ar,z,E]at he;simp only[Option.getD_some]at he;have y0:(0:Int)<=(k:Int):=(by omega);have y1:(k:Int)<(n:Int):=(by omega);have gk:decide ((k:Int)<(n:Int))=true:=(by simp;omega);clear z E hE G J HQ;by_cases j:x1=x2
    ·subst j;rw[Aw rfl,Bool.true_and]at he;have HE:=hid he;have e1:((x1:Int) != (x1:Int))=false:=(by simp);clear he;go_wp2_with fail;go_quiet (fail);go_wp2_with fail;go_roundw
     case measure=>go_light;simp[intOf];omega
     case rel=>go_light;exact⟨k+1,by omega,by first|rfl|go_num,HE.out,y.out _⟩
    ·rw[Az j,Hw]at he;have HE:=hid he;have e1:((x1:Int) != (x2:Int))=true:=(by rw[bne_iff_ne];omega);clear he j;go_wp2_with fail;go_quiet (fail);go_wp2_with fail;go_ret;exact⟨Do HE.out,y.out _⟩
   ·obtain rfl:k=n:=by omega
    have gk:decide ((k:Int)<(k:Int))=false:=(by simp);have he:=hE.out;rw[Ce (by rw[HN.out];exact Aj _),Ce (by rw[HM.out];exact Aj _)]at he;have HE:=hid he;clear he hE y;go_wp2_with fail;go_ret;exact⟨Do (by rw[<-HE.out];rfl),HQ.out⟩
 ·have hR:decide (la=lb)=false:=Az fun e=>by rw[e]at hn;omega
  have z1:((n:Int) != (m:Int))=true:=by rw[bne_iff_ne];omega
  rw[hR];clear hR hn hm ha hb he;go_enter Tryz.func11,Tryz.ntmps11;go_wp2_with fail;go_ret;exact⟨rfl,0,rfl⟩
theorem Vx(w:World)(A A2:Option Addr)(n n2 c c2:Nat)(ls ms:List Str)(hn:ls.length=n)(G:ms.length=n2)(hN:n<=3000000000)(ha:Row w w.heap.size A n 1 (Ec ls))(aa:Row w w.heap.size A2 n2 1 (Ec ms)):
 Calls Tryz.prog 124 #[.slice A n c, .slice A2 n2 c2] w fun e w'=>e= .returned (.bool (decide (ls=ms)))/\∃q,w'=w.drewN q:=by
 have HN:=hid hn;have Z:=hid G
 have HY:Hid (n=n2->(∀i,i<n->ls.getD i []=ms.getD i [])->decide (ls=ms)=true):=fun he h=>Aw (List.ext_getElem (by omega) fun i h1 h2=>by
  have:=h i (by omega)
  rwa [Ar,Ar,AD h1,AD h2]at this)
 have z:Hid (∀ (i:Nat) x y,ls[i]? =some x->ms[i]? =some y->x≠y->decide (ls=ms)=false):=fun i x y hx hy hne=>Az fun e=>by rw[e,hy]at hx;injection hx with hx;exact hne hx.symm
 have E:Hid (n≠n2->decide (ls=ms)=false):=fun hne=>Az fun e=>by rw[e]at hn;omega
 generalize decide (ls=ms)=R at *;clear hn G;by_cases he:n=n2
 ·subst he;have z1:((n:Int) != (n:Int))=false:=by simp
  have Y:(n != n)=false:=by simp
  clear E;go_enter Tryz.func124,Tryz.ntmps124;go_wp2_with fail;go_loopw [13] (fun iv wx=>∃k:Nat,k<=n/\iv= .int .i64 k/\Hid (∀i,i<k->ls.getD i []=ms.getD i [])/\Hid (∃q,wx=w.drewN q)) (fun iv _=>n-(intOf iv).toNat)
  case atStart=>exact⟨0,by omega,rfl,fun i h=>absurd h (by omega),0,rfl⟩
  case round=>
   obtain⟨k,hk,rfl,HS,HQ⟩:=hrel;by_cases M:k<n
   ·have gk:decide ((k:Int)<(n:Int))=true:=(by simp;omega);have U:decide (k<n)=true:=(by simp;omega);have x0:(0:Int)<=(k:Int):=(by omega);have x1:(k:Int)<(n:Int):=(by omega);have x2:(k:Int)<(n:Int):=(by omega);have N:Row wr w.heap.size A n 1 (Ec ls):=(by obtain⟨q,hq⟩:=HQ.out;rw[hq];exact ha);have L:Row wr w.heap.size A2 n 1 (Ec ms):=(by obtain⟨q,hq⟩:=HQ.out;rw[hq];exact aa);obtain⟨b,ae,x,rfl,_,hx,ck⟩:=Row.str N HN.out M;obtain⟨b2,ab,y,rfl,_,hy,ac⟩:=Row.str L Z.out (show k<n by omega);have J:Hid (∀nq,∃q,wr.drewN nq=w.drewN q):=fun nq=>by obtain⟨q,hq⟩:=HQ.out;exact⟨_,by rw[hq];exact CL _ _ _⟩
    by_cases j:x=y
    ·have ge:((bs x).toList==(bs y).toList)=true:=by rw[str_eq];simpa using j
     have Q:Hid (∀i,i<k+1->ls.getD i []=ms.getD i []):=fun i h=>by
      by_cases e:i<k
      ·exact HS.out i e
      ·obtain rfl:i=k:=by omega
       rw[Ar,Ar,hx,hy,j]
     clear HS hx hy j HQ;go_wp2_with fail;go_quiet (fail);go_wp2_with fail;go_roundw
     case measure=>go_light;simp[intOf];omega
     case rel=>go_light;exact⟨k+1,by omega,by first|rfl|go_num,Q.out,J.out _⟩
    ·have ge:((bs x).toList==(bs y).toList)=false:=(by rw[str_eq];simpa using j);obtain rfl:=z.out k x y hx hy j;clear HS HY z hx hy j HQ;go_wp2_with fail;go_quiet (fail);go_wp2_with fail;go_ret;exact⟨rfl,J.out _⟩
   ·obtain rfl:k=n:=by omega
    have gk:decide ((k:Int)<(k:Int))=false:=(by simp);have U:decide (k<k)=false:=(by simp);obtain rfl:=HY.out (by first|rfl|trivial) HS.out;clear HS HY z M;go_wp2_with fail;go_ret;exact⟨rfl,HQ.out⟩
 ·have z1:((n:Int) != (n2:Int))=true:=by simp;omega
  have Y:(n != n2)=true:=by simpa using he
  obtain rfl:=E.out he;clear HY z E he;go_enter Tryz.func124,Tryz.ntmps124;go_wp2_with fail;go_ret;exact⟨rfl,0,rfl⟩
theorem QN{la lb:List (List Nat)}{k:Nat}{x y:List Nat}(h:la[k]? =some x)(h':lb[k]? =some y):decide (la.drop k=lb.drop k)=(decide (x=y)&&decide (la.drop (k+1)=lb.drop (k+1))):=by obtain⟨h1,e1⟩:=BO.1 h;obtain⟨h2,e2⟩:=BO.1 h';rw[ID,CD,decide_eq_true_eq,decide_eq_true_eq,decide_eq_true_eq,CC h1,CC h2,List.cons.injEq,e1,e2]
theorem Vg(w:World)(A B:Option Addr)(n m c d p1 p2:Nat)(va vb:List Value)(la lb:List (List Nat))(hn:la.length=n)(hm:lb.length=m)(hN:n<=3000000000)(hM:m<=3000000000)(E:∀l∈la,l.length<=2000000)(z:∀l∈lb,l.length<=2000000)(h1:w.ownsRow p1 30 1 (.slice A n c) n va)(h2:w.ownsRow p2 30 1 (.slice B m d) m vb)
 (r1:∀ (i:Nat) v ids,va[i]? =some v->la[i]? =some ids->w.ownsRow p1 3 1 v ids.length (cZ .i64 ids))(r2:∀ (i:Nat) v ids,vb[i]? =some v->lb[i]? =some ids->w.ownsRow p2 3 1 v ids.length (cZ .i64 ids)):
 Calls Tryz.prog 125 #[.slice A n c, .slice B m d, .func (.func 126) #[] #[]] w fun e w'=>e= .returned (.bool (decide (la=lb)))/\∃q,w'=w.drewN q:=by
 have hK:∀j wx,(callFunc 126 j).run Tryz.prog wx= .ok (.enter 126 j) wx:=by intro j wx;simp[callFunc,go_sem,Tryz.func126];rfl
 by_cases he:n=m
 ·subst he;have L:va.length=n:=by have:=h1.1;omega
  have J:vb.length=n:=by have:=h2.1;omega
  have HV:Hid (∀ (wx:World) i q,wx=w.drewN q->i<n->∃g1 g2 C1 k1 e1 C2 k2 e2 x y,A=some ⟨g1,0,none⟩/\B=some ⟨g2,0,none⟩/\wx.cell? ⟨g1,i,none⟩=some (.slice C1 k1 e1)/\wx.cell? ⟨g2,i,none⟩=some (.slice C2 k2 e2)/\la[i]? =some x/\lb[i]? =some y/\Calls Tryz.prog 126 #[.slice C1 k1 e1, .slice C2 k2 e2] wx fun e w'=>e= .returned (.bool (decide (x=y)))/\∃q,w'=wx.drewN q):=fun wx i q hq hi=>by obtain⟨x,gx⟩:∃x,la[i]? =some x:=⟨_,AD (by omega)⟩;obtain⟨y,gy⟩:∃y,lb[i]? =some y:=⟨_,AD (by omega)⟩;obtain⟨u,gu⟩:∃u,va[i]? =some u:=⟨_,AD (by omega)⟩;obtain⟨v,gv⟩:∃v,vb[i]? =some v:=⟨_,AD (by omega)⟩;have o1:=r1 i u x gu gx;have o2:=r2 i v y gv gy;obtain⟨C1,e1,rfl⟩:=aZ o1;obtain⟨C2,e2,rfl⟩:=aZ o2;obtain⟨g1,c1,hA1,_,_⟩:=h1.form (by omega);injection hA1 with q1 q2 q3;subst q1;obtain⟨g2,c2,hA2,_,_⟩:=h2.form (by omega);injection hA2 with q1 q2 q3;subst q1;subst hq;exact⟨g1,g2,C1,_,e1,C2,_,e2,x,y,rfl,rfl,(h1.cellAt i (by omega)).trans gu,(h2.cellAt i (by omega)).trans gv,gx,gy,VN _ C1 C2 _ _ e1 e2 x y rfl rfl (by have:=E x (BF gx);omega) (by have:=z y (BF gy);omega) (Ef.own_row (dZ (w':=w.drewN q) o1 (fun _ _=>rfl)) rfl) (Ef.own_row (dZ (w':=w.drewN q) o2 (fun _ _=>rfl)) rfl)⟩
  have HN:=hid hn;have HM:=hid hm;have z1:((n:Int) != (n:Int))=false:=by simp
  clear h1 h2 r1 r2 E z hn hm L J;go_enter Tryz.func125,Tryz.ntmps125;go_wp2_with fail;go_loopw [17] (fun i wx=>∃k:Nat,k<=n/\i= .int .i64 k/\Hid (decide (la.drop k=lb.drop k)=decide (la=lb))/\Hid (∃q,wx=w.drewN q)) (fun i _=>n-(intOf i).toNat)
  case atStart=>exact⟨0,by omega,rfl,rfl,0,rfl⟩
  case round=>
   obtain⟨k,hk,rfl,hE,HQ⟩:=hrel;by_cases M:k<n
   ·obtain⟨q,hq⟩:=HQ.out;obtain⟨g1,g2,C1,k1,e1,C2,k2,e2,x,y,rfl,rfl,x1,x2,gx,gy,D⟩:=HV.out wr k q hq M;have he:=hE.out;rw[QN gx gy]at he;have G:Hid (∀nq,∃q,wr.drewN nq=w.drewN q):=fun nq=>⟨_,by rw[hq];exact CL _ _ _⟩;have y0:(0:Int)<=(k:Int):=(by omega);have y1:(k:Int)<(n:Int):=(by omega);have gk:decide ((k:Int)<(n:Int))=true:=(by simp;omega);clear hE HQ hq gx gy HV;by_cases h:x=y
    ·rw[Aw h,Bool.true_and]at he;rw[Aw h]at D;have HE:=hid he;have D:=hid D;clear he h;go_wp2_with fail;refine D.out.mono ?_;rintro e w2 ⟨rfl,nq,rfl⟩;clear D x1 x2;go_wp2_with fail;go_roundw
     case measure=>go_light;simp[intOf];omega
     case rel=>go_light;exact⟨k+1,by omega,by first|rfl|go_num,HE.out,G.out _⟩
    ·rw[Az h,Hw]at he;rw[Az h]at D;have HE:=hid he;have D:=hid D;clear he h;go_wp2_with fail;refine D.out.mono ?_;rintro e w2 ⟨rfl,nq,rfl⟩;clear D x1 x2;go_wp2_with fail;go_ret;exact⟨Do HE.out,G.out _⟩
   ·obtain rfl:k=n:=by omega
    have gk:decide ((k:Int)<(k:Int))=false:=(by simp);have he:=hE.out;rw[Ce (by rw[HN.out];exact Aj _),Ce (by rw[HM.out];exact Aj _)]at he;have HE:=hid he;clear he hE HV;go_wp2_with fail;go_ret;exact⟨Do (by rw[<-HE.out];rfl),HQ.out⟩
 ·have hR:decide (la=lb)=false:=Az fun e=>by rw[e]at hn;omega
  have z1:((n:Int) != (m:Int))=true:=by rw[bne_iff_ne];omega
  rw[hR];clear hR hn hm h1 h2 r1 r2 E z he;go_enter Tryz.func125,Tryz.ntmps125;go_wp2_with fail;go_ret;exact⟨rfl,0,rfl⟩
def eqX(X Y:List Str×List (List Nat)):Bool:=decide (X.1=Y.1)&&decide (X.2=Y.2)
theorem Qq(w:World)(p1 p2:Nat)(vT vL J Q:Value)(vals j:List Value)(X Y:List Str×List (List Nat))(h1:IxAt w p1 vT vL vals X.1 X.2)(h2:IxAt w p2 J Q j Y.1 Y.2)(ac:X.1.length<=2000000)(af:X.2.length<=2000000)(U:∀l∈X.2,l.length<=2000000)(ae:Y.2.length<=2000000)(ab:∀l∈Y.2,l.length<=2000000):
 Calls Tryz.prog 73 #[.agg #[vT,vL], .agg #[J,Q]] w fun e w'=>e= .returned (.bool (eqX X Y))/\Below w.heap.size w w':=by
 unfold eqX;have t1:=h1.t;have t2:=h2.t;have l1:=h1.l;have l2:=h2.l;obtain⟨n,hn⟩:∃n,n=X.1.length:=⟨_,rfl⟩;obtain⟨m,hm⟩:∃m,m=X.2.length:=⟨_,rfl⟩;obtain⟨n2,E⟩:∃n,n=Y.1.length:=⟨_,rfl⟩;obtain⟨m2,G⟩:∃m,m=Y.2.length:=⟨_,rfl⟩;rw[<-hn]at t1 ac;rw[<-E]at t2;rw[<-hm]at l1 af;rw[<-G]at l2 ae;obtain⟨A1,c1,rfl⟩:=aZ t1;obtain⟨A2,c2,rfl⟩:=aZ t2;obtain⟨B1,d1,rfl⟩:=aZ l1;obtain⟨B2,d2,rfl⟩:=aZ l2;have DS:=hid (fun wx (hb:Below w.heap.size w wx)=>Vx wx A1 A2 n n2 c1 c2 X.1 Y.1 hn.symm E.symm (by omega) (((Ic (by rw[hn]at t1;exact t1)).below hb).mono hb.size |> fun h=>by rw[<-hn]at h;exact h) (((Ic (by rw[E]at t2;exact t2)).below hb).mono hb.size |> fun h=>by rw[<-E]at h;exact h));have far:∀ {wx:World} {b s n:Nat} {e:TypeId} {v:Value} {xs:List Value},Below w.heap.size w wx->w.ownsRow b e s v n xs->wx.ownsRow b e s v n xs:=fun hb ho=>dZ ho fun y hy=>hb.block y (Ae ho y hy).2;have DF:=hid (fun wx (hb:Below w.heap.size w wx)=>Vg wx B1 B2 m m2 d1 d2 p1 p2 vals j X.2 Y.2 hm.symm G.symm (by omega) (by omega) U ab (far hb l1) (far hb l2) (fun i v ids a b=>far hb (h1.r i v ids a b)) (fun i v ids a b=>far hb (h2.r i v ids a b)));generalize decide (X.1=Y.1)=R1 at *;generalize decide (X.2=Y.2)=R2 at *;clear h1 h2 t1 t2 l1 l2 hn hm E G far U ab;go_enter Tryz.func73,Tryz.ntmps73;go_wp2_with fail;have L:Blk ((w.alloc (.cells #[.slice A1 n c1, .slice B1 m d1] 36)).alloc (.cells #[.slice A2 n2 c2, .slice B2 m2 d2] 36)) w.heap.size 36 #[.slice A1 n c1, .slice B1 m d1]:=(Blk.made _ _ _).alloc _;have M:Blk ((w.alloc (.cells #[.slice A1 n c1, .slice B1 m d1] 36)).alloc (.cells #[.slice A2 n2 c2, .slice B2 m2 d2] 36)) (w.heap.size+1) 36 #[.slice A2 n2 c2, .slice B2 m2 d2]:=Blk.made_at _ _ _ (by simp);have Z:Below w.heap.size w ((w.alloc (.cells #[.slice A1 n c1, .slice B1 m d1] 36)).alloc (.cells #[.slice A2 n2 c2, .slice B2 m2 d2] 36)):=by(repeat (with_reducible first|exact Ag _ _|assumption|refine Aq ?_ |refine below_drewN ?_ _|refine qZ ?_ |refine bZ ?_ |refine eZ (by assumption) ?_ |refine belA ?_ |refine rZ (by assumption) ?_))
 generalize (w.alloc (.cells #[.slice A1 n c1, .slice B1 m d1] 36)).alloc (.cells #[.slice A2 n2 c2, .slice B2 m2 d2] 36)=w2 at *;have N:=hid L;have aa:=hid M;have z:=hid Z;have D:=hid (DS.out w2 z.out);clear L M Z DS;cases R1
 ·refine D.out.mono ?_;rintro e w3 ⟨rfl,q0,rfl⟩;go_wp2_with fail;go_ret;exact⟨rfl,below_drewN z.out q0⟩
 ·refine D.out.mono ?_;rintro e w3 ⟨rfl,q0,rfl⟩;have k1:=(N.out.drewN q0).cell 1;have k2:=(aa.out.drewN q0).cell 1;simp only[List.getElem?_toArray,List.getElem?_cons_zero,List.getElem?_cons_succ]at k1 k2;have D2:=hid (DF.out (w2.drewN q0) (below_drewN z.out q0));clear D N aa DF;go_wp2_with fail;refine D2.out.mono ?_;rintro e w4 ⟨rfl,q1,rfl⟩;go_wp2_with fail;go_ret;exact⟨by first|rfl|exact Do (by simp),by first|exact below_drewN z.out _|(rw[CL];exact below_drewN z.out _)⟩
end Idx
namespace Idx
open Go.RowKit Mem Own Canon Sift
open NumPut Recs
theorem QD(w:World)(p1 p2:Nat)(vT vL Q ac:Value)(vals z:List Value)(X Y:List Str×List (List Nat))(h1:IxAt w p1 vT vL vals X.1 X.2)(h2:IxAt w p2 Q ac z Y.1 Y.2)(av:X.1.length<=2000000)(an:X.2.length<=2000000)(aj:∀l∈X.2,l.length<=2000000)(ax:Y.2.length<=2000000)(ah:∀l∈Y.2,l.length<=2000000):
 Calls Tryz.prog 13 #[.agg #[vT,vL], .agg #[Q,ac]] w fun e w'=>e= .returned (.bool (eqX X Y))/\Below w.heap.size w w':=by
 unfold eqX;have t1:=h1.t;have t2:=h2.t;have l1:=h1.l;have l2:=h2.l;obtain⟨n,hn⟩:∃n,n=X.1.length:=⟨_,rfl⟩;obtain⟨m,hm⟩:∃m,m=X.2.length:=⟨_,rfl⟩;obtain⟨n2,E⟩:∃n,n=Y.1.length:=⟨_,rfl⟩;obtain⟨m2,L⟩:∃m,m=Y.2.length:=⟨_,rfl⟩;rw[<-hn]at t1 av;rw[<-E]at t2;rw[<-hm]at l1 an;rw[<-L]at l2 ax;obtain⟨A1,c1,rfl⟩:=aZ t1;obtain⟨A2,c2,rfl⟩:=aZ t2;obtain⟨B1,d1,rfl⟩:=aZ l1;obtain⟨B2,d2,rfl⟩:=aZ l2;have DS:=hid (fun wx (hb:Below w.heap.size w wx)=>Xn wx A1 A2 n n2 c1 c2 X.1 Y.1 hn.symm E.symm (by omega) (((Ic (by rw[hn]at t1;exact t1)).below hb).mono hb.size |> fun h=>by rw[<-hn]at h;exact h) (((Ic (by rw[E]at t2;exact t2)).below hb).mono hb.size |> fun h=>by rw[<-E]at h;exact h));have am:=h1.len;have al:=h2.len;have far:∀ {wx:World} {b s n:Nat} {e:TypeId} {v:Value} {xs:List Value},Below w.heap.size w wx->w.ownsRow b e s v n xs->wx.ownsRow b e s v n xs:=fun hb ho=>dZ ho fun y hy=>hb.block y (Ae ho y hy).2;have HV:Hid (m=m2->∀ (wx:World) i,Below w.heap.size w wx->i<m->∃g1 g2 C1 k1 e1 C2 k2 e2 x y,B1=some ⟨g1,0,none⟩/\B2=some ⟨g2,0,none⟩/\wx.cell? ⟨g1,i,none⟩=some (.slice C1 k1 e1)/\wx.cell? ⟨g2,i,none⟩=some (.slice C2 k2 e2)/\X.2[i]? =some x/\Y.2[i]? =some y/\∀q0,Calls Tryz.prog 11 #[.slice C1 k1 e1, .slice C2 k2 e2] (wx.drewN q0) fun e w'=>e= .returned (.bool (decide (x=y)))/\∃q,w'=(wx.drewN q0).drewN q):=fun N wx i hb hi=>by obtain⟨x,gx⟩:∃x,X.2[i]? =some x:=⟨_,AD (by omega)⟩;obtain⟨y,gy⟩:∃y,Y.2[i]? =some y:=⟨_,AD (by omega)⟩;obtain⟨u,gu⟩:∃u,vals[i]? =some u:=⟨_,AD (by omega)⟩;obtain⟨v,gv⟩:∃v,z[i]? =some v:=⟨_,AD (by omega)⟩;have o1:=far hb (h1.r i u x gu gx);have o2:=far hb (h2.r i v y gv gy);obtain⟨C1,e1,rfl⟩:=aZ o1;obtain⟨C2,e2,rfl⟩:=aZ o2;have m1:=far hb l1;have au:=far hb l2;obtain⟨g1,c1,hA1,_,_⟩:=l1.form (by omega);injection hA1 with q1 q2 q3;subst q1;obtain⟨g2,c2,hA2,_,_⟩:=l2.form (by omega);injection hA2 with q1 q2 q3;subst q1;exact⟨g1,g2,C1,_,e1,C2,_,e2,x,y,rfl,rfl,(m1.cellAt i (by omega)).trans gu,(au.cellAt i (by omega)).trans gv,gx,gy,fun q0=>YN _ C1 C2 _ _ e1 e2 x y rfl rfl (by have:=aj x (BF gx);omega) (by have:=ah y (BF gy);omega) (Ef.own_row (dZ (w':=wx.drewN q0) o1 (fun _ _=>rfl)) rfl) (Ef.own_row (dZ (w':=wx.drewN q0) o2 (fun _ _=>rfl)) rfl)⟩
 have HM:=hid hm;have ab:=hid L;generalize decide (X.1=Y.1)=R1 at *;clear h1 h2 t1 t2 l1 l2 hn hm E L far aj ah am al;go_enter Tryz.func13,Tryz.ntmps13;go_wp2_with fail;have U:Blk ((w.alloc (.cells #[.slice A1 n c1, .slice B1 m d1] 36)).alloc (.cells #[.slice A2 n2 c2, .slice B2 m2 d2] 36)) w.heap.size 36 #[.slice A1 n c1, .slice B1 m d1]:=(Blk.made _ _ _).alloc _;have Z:Blk ((w.alloc (.cells #[.slice A1 n c1, .slice B1 m d1] 36)).alloc (.cells #[.slice A2 n2 c2, .slice B2 m2 d2] 36)) (w.heap.size+1) 36 #[.slice A2 n2 c2, .slice B2 m2 d2]:=Blk.made_at _ _ _ (by simp);have ae:Below w.heap.size w ((w.alloc (.cells #[.slice A1 n c1, .slice B1 m d1] 36)).alloc (.cells #[.slice A2 n2 c2, .slice B2 m2 d2] 36)):=by(repeat (with_reducible first|exact Ag _ _|assumption|refine Aq ?_ |refine below_drewN ?_ _|refine qZ ?_ |refine bZ ?_ |refine eZ (by assumption) ?_ |refine belA ?_ |refine rZ (by assumption) ?_))
 generalize (w.alloc (.cells #[.slice A1 n c1, .slice B1 m d1] 36)).alloc (.cells #[.slice A2 n2 c2, .slice B2 m2 d2] 36)=w2 at *;have ai:=hid U;have af:=hid Z;have G:=hid ae;have D:=hid (DS.out w2 G.out);clear U Z ae DS;cases R1
 ·refine D.out.mono ?_;rintro e w3 ⟨rfl,q0,rfl⟩;clear HV D;go_wp2_with fail;go_ret;exact⟨rfl,below_drewN G.out q0⟩
 ·refine D.out.mono ?_;rintro e w3 ⟨rfl,q0,J⟩;have aa:Hid (Below w.heap.size w w3):=by rw[J];exact below_drewN G.out q0
  have ak:Hid (Blk w3 w.heap.size 36 #[.slice A1 n c1, .slice B1 m d1]):=by rw[J];exact ai.out.drewN q0
  have ag:Hid (Blk w3 (w.heap.size+1) 36 #[.slice A2 n2 c2, .slice B2 m2 d2]):=by rw[J];exact af.out.drewN q0
  have k1:=ak.out.cell 1;have k2:=ag.out.cell 1;simp only[List.getElem?_toArray,List.getElem?_cons_zero,List.getElem?_cons_succ]at k1 k2;clear J D ai af G;by_cases N:m=m2
  ·subst N;have gm:((m:Int) != (m:Int))=false:=(by simp);have HW:=hid (HV.out (by first|rfl|trivial));clear HV;go_wp2_with fail;go_loopw [5] (fun iv wr=>∃i:Nat,i<=m/\iv= .int .i64 i/\Hid (decide (X.2.drop i=Y.2.drop i)=decide (X.2=Y.2))/\Hid (∃q,wr=w3.drewN q)) (fun iv _=>m-(intOf iv).toNat)
   case atStart=>exact⟨0,by omega,rfl,rfl,0,rfl⟩
   case round=>
    obtain⟨i,hi,rfl,hE,HQ⟩:=hrel;clear k1 k2;have M:Hid (Below w.heap.size w wr):=(by obtain⟨q,hq⟩:=HQ.out;rw[hq];exact below_drewN aa.out q);have aq:Hid (Blk wr w.heap.size 36 #[.slice A1 n c1, .slice B1 m d1]):=(by obtain⟨q,hq⟩:=HQ.out;rw[hq];exact ak.out.drewN q);have aw:Hid (Blk wr (w.heap.size+1) 36 #[.slice A2 n2 c2, .slice B2 m d2]):=(by obtain⟨q,hq⟩:=HQ.out;rw[hq];exact ag.out.drewN q);have ay:Hid (∀q2,∃q,wr.drewN q2=w3.drewN q):=fun q2=>by obtain⟨q,hq⟩:=HQ.out;exact⟨q+q2,by rw[hq,CL]⟩
    have k1:=aq.out.cell 1;have k2:=aw.out.cell 1;simp only[List.getElem?_toArray,List.getElem?_cons_zero,List.getElem?_cons_succ]at k1 k2;by_cases az:i<m
    ·have gi:decide ((i:Int)<(m:Int))=true:=(by simp;omega);have aB:decide (i<m)=true:=(by simp;omega);obtain⟨g1,g2,C1,aA,e1,C2,aC,e2,x,y,rfl,rfl,x1,x2,gx,gy,D⟩:=HW.out wr i M.out az;have he:=hE.out;rw[QN gx gy]at he;have y0:(0:Int)<=(i:Int):=(by omega);have y1:(i:Int)<(m:Int):=(by omega);clear hE HQ gx gy HW;by_cases j:x=y
     ·rw[Aw j,Bool.true_and]at he;rw[Aw j]at D;have HE:=hid he;have D:=hid D;clear he j;go_wp2_with fail;go_quiet ((go_at_call 11;exact Calls.quiet_of (D.out _)));go_wp2_with fail;go_roundw
      case measure=>go_light;simp[intOf];omega
      case rel=>go_light;exact⟨i+1,by omega,by first|rfl|go_num,HE.out,ay.out _⟩
     ·rw[Az j,Hw]at he;rw[Az j]at D;have HE:=hid he;have D:=hid D;clear he j;go_wp2_with fail;go_quiet ((go_at_call 11;exact Calls.quiet_of (D.out _)));go_wp2_with fail;go_ret;exact⟨Do HE.out,below_drewN M.out _⟩
    ·obtain rfl:i=m:=by omega
     have gi:decide ((i:Int)<(i:Int))=false:=(by simp);have he:=hE.out;rw[Ce (Nat.le_of_eq HM.out.symm),Ce (Nat.le_of_eq ab.out.symm)]at he;have HE:=hid he;clear he hE HW;go_wp2_with fail;go_ret;exact⟨Do (by rw[<-HE.out];rfl),M.out⟩
  ·have hR:decide (X.2=Y.2)=false:=Az fun e=>by have a:=HM.out;have b:=ab.out;rw[e]at a;omega
   have gm:((m:Int) != (m2:Int))=true:=(by rw[bne_iff_ne];omega);have ar:=hid hR;clear hR N HV;go_wp2_with fail;go_ret;exact⟨Do ar.out.symm,aa.out⟩
end Idx
end Go.Proofs.YtbgoibedicbkjaaGreatDoor
