/- Compares of any two  -/
import Derived.Test.YtfgdoknipbpfhaaGreatDoorZTwoUnpacks29
import Derived.Test.YtfgdoknipbpfhaaGreatDoorZTwoUnpacks36
namespace Go.Proofs.YtfgdoknipbpfhaaGreatDoor
open Go.Proofs.Tryz
open Go.Lib (hid)
set_option maxHeartbeats 2000000
set_option maxRecDepth 100000
namespace Idx
open Go.RowKit Mem Own Canon Sift
open NumPut Recs
theorem WQ(w:World)(A B:Option Addr)(n m c d:Nat)(la lb:List Nat)(hn:la.length=n)(hm:lb.length=m)(hN:n<=3000000000)(hM:m<=3000000000)(ha:Row w w A n 1 (jZ .i64 la))(hb:Row w w B m 1 (jZ .i64 lb)):
 Calls prog 127 #[.slice A n c, .slice B m d] w fun e w'=>e= .returned (.bool (decide (la=lb)))/\∃q,w'=w.drewN q:=by
 by_cases he:n=m
 ·subst he;have HA:=hid ha;have HB:=hid hb;have HN:=hid hn;have HM:=hid hm;have z1:((n:Int) != (n:Int))=false:=by simp
  clear ha hb hn hm;go_enter func127,ntmps127;go_wp2_with fail;go_loopw [13] (fun i wx=>∃k:Nat,k<=n/\i= .int .i64 k/\Hid (decide (la.drop k=lb.drop k)=decide (la=lb))/\Hid (∃q,wx=w.drewN q)) (fun i _=>n-(intOf i).toNat)
  case atStart=>exact⟨0,kR,rfl,rfl,0,rfl⟩
  case round=>
   obtain⟨k,hk,rfl,hE,HQ⟩:=hrel;have y:Hid (∀nq,∃q,wr.drewN nq=w.drewN q):=fun nq=>kO
   by_cases h:k<n
   ·have z:Row wr w A n 1 (jZ .i64 la):=(by obtain⟨q,hq⟩:=HQ.out;rw[hq];exact HA.out);have E:Row wr w B n 1 (jZ .i64 lb):=(by obtain⟨q,hq⟩:=HQ.out;rw[hq];exact HB.out);obtain⟨b1,o1,x1,rfl,L,J,M⟩:=CD z HN.out h;obtain⟨b2,o2,x2,rfl,N,G,Q⟩:=CD E HM.out h;have he:=hE.out;rw[Crc.MQ (by rw[HN.out];exact h) (by rw[HM.out];exact h),Ar,Ar,J,G]at he;simp only[Option.getD_some]at he;have y0:(0:Int)<=(k:Int):=kR;have y1:(k:Int)<(n:Int):=kR;have gk:=iQ ((k:Int)<n);clear J G hE z E HQ;by_cases j:x1=x2
    ·subst j;rw[Aw rfl,Bool.true_and]at he;have HE:=hid he;have e1:((x1:Int) != (x1:Int))=false:=mY;clear he;go_wp2_with fail;go_quiet (fail);go_wp2_with fail;go_roundw
     case measure=>exact jw
     case rel=>exact jk
    ·rw[Az j,IB]at he;have HE:=hid he;have e1:((x1:Int) != (x2:Int))=true:=l7;clear he j;go_wp2_with fail;go_quiet (fail);go_wp2_with fail;go_ret;exact⟨El HE.out,y.out _⟩
   ·obtain rfl:k=n:=by omega
    have gk:=iR ((k:Int)<k);have he:=hE.out;rw[Cw lQ,Cw lP]at he;have HE:=hid he;clear he hE y;go_wp2_with fail;go_ret;exact⟨El kV,HQ.out⟩
 ·have hR:decide (la=lb)=false:=Az fun e=>by rw[e]at hn;omega
  have z1:((n:Int) != (m:Int))=true:=l7
  rw[hR];clear hR hn hm ha hb he;go_enter func127,ntmps127;go_wp2_with fail;go_ret;exact⟨rfl,0,rfl⟩
theorem Yt(w:World)(A B:Option Addr)(n m c d:Nat)(la lb:List Nat)(hn:la.length=n)(hm:lb.length=m)(hN:n<=3000000000)(hM:m<=3000000000)(ha:Row w w A n 1 (jZ .i64 la))(hb:Row w w B m 1 (jZ .i64 lb)):
 Calls prog 35 #[.slice A n c, .slice B m d] w fun e w'=>e= .returned (.bool (decide (la=lb)))/\∃q,w'=w.drewN q:=by
 by_cases he:n=m
 ·subst he;have HA:=hid ha;have HB:=hid hb;have HN:=hid hn;have HM:=hid hm;have z1:((n:Int) != (n:Int))=false:=by simp
  clear ha hb hn hm;go_enter func35,ntmps35;go_wp2_with fail;go_loopw [5] (fun i wx=>∃k:Nat,k<=n/\i= .int .i64 k/\Hid (decide (la.drop k=lb.drop k)=decide (la=lb))/\Hid (∃q,wx=w.drewN q)) (fun i _=>n-(intOf i).toNat)
  case atStart=>exact⟨0,kR,rfl,rfl,0,rfl⟩
  case round=>
   obtain⟨k,hk,rfl,hE,HQ⟩:=hrel;have y:Hid (∀nq,∃q,wr.drewN nq=w.drewN q):=fun nq=>kO
   by_cases h:k<n
   ·have z:Row wr w A n 1 (jZ .i64 la):=(by obtain⟨q,hq⟩:=HQ.out;rw[hq];exact HA.out);have E:Row wr w B n 1 (jZ .i64 lb):=(by obtain⟨q,hq⟩:=HQ.out;rw[hq];exact HB.out);obtain⟨b1,o1,x1,rfl,L,J,M⟩:=CD z HN.out h;obtain⟨b2,o2,x2,rfl,N,G,Q⟩:=CD E HM.out h;have he:=hE.out;rw[Crc.MQ (by rw[HN.out];exact h) (by rw[HM.out];exact h),Ar,Ar,J,G]at he;simp only[Option.getD_some]at he;have y0:(0:Int)<=(k:Int):=kR;have y1:(k:Int)<(n:Int):=kR;have gk:=iQ ((k:Int)<n);clear J G hE z E HQ;by_cases j:x1=x2
    ·subst j;rw[Aw rfl,Bool.true_and]at he;have HE:=hid he;have e1:((x1:Int) != (x1:Int))=false:=mY;clear he;go_wp2_with fail;go_quiet (fail);go_wp2_with fail;go_roundw
     case measure=>exact jw
     case rel=>exact jk
    ·rw[Az j,IB]at he;have HE:=hid he;have e1:((x1:Int) != (x2:Int))=true:=l7;clear he j;go_wp2_with fail;go_quiet (fail);go_wp2_with fail;go_ret;exact⟨El HE.out,y.out _⟩
   ·obtain rfl:k=n:=by omega
    have gk:=iR ((k:Int)<k);have he:=hE.out;rw[Cw lQ,Cw lP]at he;have HE:=hid he;clear he hE y;go_wp2_with fail;go_ret;exact⟨El kV,HQ.out⟩
 ·have hR:decide (la=lb)=false:=Az fun e=>by rw[e]at hn;omega
  have z1:((n:Int) != (m:Int))=true:=l7
  rw[hR];clear hR hn hm ha hb he;go_enter func35,ntmps35;go_wp2_with fail;go_ret;exact⟨rfl,0,rfl⟩
theorem WA(w:World)(A A2:Option Addr)(n n2 c c2:Nat)(ls ms:List Str)(hn:ls.length=n)(G:ms.length=n2)(hN:n<=3000000000)(ha:Row w w A n 1 (Eo ls))(U:Row w w A2 n2 1 (Eo ms)):
 Calls prog 125 #[.slice A n c, .slice A2 n2 c2] w fun e w'=>e= .returned (.bool (decide (ls=ms)))/\∃q,w'=w.drewN q:=by
 have HN:=hid hn;have aa:=hid G
 have HY:Hid (n=n2->(∀i,i<n->ls.getD i []=ms.getD i [])->decide (ls=ms)=true):=fun he h=>Aw (List.ext_getElem kR fun i h1 h2=>by
  have:=h i kR
  rwa [Ar,Ar,AE h1,AE h2]at this)
 have z:Hid (∀ (i:Nat) x y,ls[i]? =some x->ms[i]? =some y->x≠y->decide (ls=ms)=false):=fun i x y hx hy hne=>Az fun e=>l8
 have E:Hid (n≠n2->decide (ls=ms)=false):=fun hne=>Az fun e=>by rw[e]at hn;omega
 generalize decide (ls=ms)=R at *;clear hn G;by_cases he:n=n2
 ·subst he;have z1:((n:Int) != (n:Int))=false:=by simp
  have Y:(n != n)=false:=mY
  clear E;go_enter func125,ntmps125;go_wp2_with fail;go_loopw [13] (fun iv wx=>∃k:Nat,k<=n/\iv= .int .i64 k/\Hid (∀i,i<k->ls.getD i []=ms.getD i [])/\Hid (∃q,wx=w.drewN q)) (fun iv _=>n-(intOf iv).toNat)
  case atStart=>exact⟨0,kR,rfl,fun i h=>absurd h kR,0,rfl⟩
  case round=>
   obtain⟨k,hk,rfl,HS,HQ⟩:=hrel;by_cases M:k<n
   ·have gk:=iQ ((k:Int)<n);have N:=iQ (k<n);have x0:(0:Int)<=(k:Int):=kR;have x1:(k:Int)<(n:Int):=kR;have x2:(k:Int)<(n:Int):=kR;have Q:Row wr w A n 1 (Eo ls):=(by obtain⟨q,hq⟩:=HQ.out;rw[hq];exact ha);have L:Row wr w A2 n 1 (Eo ms):=(by obtain⟨q,hq⟩:=HQ.out;rw[hq];exact U);obtain⟨b,ac,x,rfl,_,hx,ck⟩:=Row.str Q HN.out M;obtain⟨b2,ab,y,rfl,_,hy,ae⟩:=Row.str L aa.out (show k<n by omega);have J:Hid (∀nq,∃q,wr.drewN nq=w.drewN q):=fun nq=>by obtain⟨q,hq⟩:=HQ.out;exact⟨_,mj⟩
    by_cases j:x=y
    ·have ge:((bs x).toList==(bs y).toList)=true:=by rw[str_eq];simpa using j
     have Z:Hid (∀i,i<k+1->ls.getD i []=ms.getD i []):=fun i h=>by
      by_cases e:i<k
      ·exact HS.out i e
      ·obtain rfl:i=k:=by omega
       rw[Ar,Ar,hx,hy,j]
     clear HS hx hy j HQ;go_wp2_with fail;go_quiet (fail);go_wp2_with fail;go_roundw
     case measure=>exact jw
     case rel=>exact jl
    ·have ge:((bs x).toList==(bs y).toList)=false:=(by rw[str_eq];simpa using j);obtain rfl:=z.out k x y hx hy j;clear HS HY z hx hy j HQ;go_wp2_with fail;go_quiet (fail);go_wp2_with fail;go_ret;exact⟨rfl,J.out _⟩
   ·obtain rfl:k=n:=by omega
    have gk:=iR ((k:Int)<k);have N:=iR (k<k);obtain rfl:=HY.out i7 HS.out;clear HS HY z M;go_wp2_with fail;go_ret;exact⟨rfl,HQ.out⟩
 ·have z1:((n:Int) != (n2:Int))=true:=by simp;omega
  have Y:(n != n2)=true:=nB
  obtain rfl:=E.out he;clear HY z E he;go_enter func125,ntmps125;go_wp2_with fail;go_ret;exact⟨rfl,0,rfl⟩
theorem OD{la lb:List (List Nat)}{k:Nat}{x y:List Nat}(h:la[k]? =some x)(h':lb[k]? =some y):decide (la.drop k=lb.drop k)=(decide (x=y)&&decide (la.drop (k+1)=lb.drop (k+1))):=by obtain⟨h1,e1⟩:=Ch.1 h;obtain⟨h2,e2⟩:=Ch.1 h';rw[I9,CV,decide_eq_true_eq,decide_eq_true_eq,decide_eq_true_eq,CU h1,CU h2,List.cons.injEq,e1,e2]
theorem Wj(w:World)(A B:Option Addr)(n m c d p1 p2:Nat)(va vb:List Value)(la lb:List (List Nat))(hn:la.length=n)(hm:lb.length=m)(hN:n<=3000000000)(hM:m<=3000000000)(E:∀l∈la,l.length<=2000000)(z:∀l∈lb,l.length<=2000000)(h1:w.ownsRow p1 37 1 (.slice A n c) n va)(h2:w.ownsRow p2 37 1 (.slice B m d) m vb)
 (r1:∀ (i:Nat) v ids,va[i]? =some v->la[i]? =some ids->w.ownsRow p1 3 1 v ids.length (cZ .i64 ids))(r2:∀ (i:Nat) v ids,vb[i]? =some v->lb[i]? =some ids->w.ownsRow p2 3 1 v ids.length (cZ .i64 ids)):
 Calls prog 126 #[.slice A n c, .slice B m d, .func (.func 127) #[] #[]] w fun e w'=>e= .returned (.bool (decide (la=lb)))/\∃q,w'=w.drewN q:=by
 have hK:∀j wx,(callFunc 127 j).run prog wx= .ok (.enter 127 j) wx:=by intro j wx;simp[callFunc,go_sem,func127];rfl
 by_cases he:n=m
 ·subst he;have L:va.length=n:=by have:=h1.1;omega
  have M:vb.length=n:=by have:=h2.1;omega
  have HV:Hid (∀ (wx:World) i q,wx=w.drewN q->i<n->∃g1 g2 C1 k1 e1 C2 k2 e2 x y,A=some ⟨g1,0,none⟩/\B=some ⟨g2,0,none⟩/\wx.cell? ⟨g1,i,none⟩=some (.slice C1 k1 e1)/\wx.cell? ⟨g2,i,none⟩=some (.slice C2 k2 e2)/\la[i]? =some x/\lb[i]? =some y/\Calls prog 127 #[.slice C1 k1 e1, .slice C2 k2 e2] wx fun e w'=>e= .returned (.bool (decide (x=y)))/\∃q,w'=wx.drewN q):=fun wx i q hq hi=>by obtain⟨x,gx⟩:∃x,la[i]? =some x:=⟨_,AE kR⟩;obtain⟨y,gy⟩:∃y,lb[i]? =some y:=⟨_,AE kR⟩;obtain⟨u,gu⟩:∃u,va[i]? =some u:=⟨_,AE kR⟩;obtain⟨v,gv⟩:∃v,vb[i]? =some v:=⟨_,AE kR⟩;have o1:=r1 i u x gu gx;have o2:=r2 i v y gv gy;obtain⟨C1,e1,rfl⟩:=aZ o1;obtain⟨C2,e2,rfl⟩:=aZ o2;obtain⟨g1,c1,hA1,_,_⟩:=h1.form kR;injection hA1 with q1 q2 q3;subst q1;obtain⟨g2,c2,hA2,_,_⟩:=h2.form kR;injection hA2 with q1 q2 q3;subst q1;subst hq;exact⟨g1,g2,C1,_,e1,C2,_,e2,x,y,rfl,rfl,(h1.cellAt i kR).trans gu,(h2.cellAt i kR).trans gv,gx,gy,WQ _ C1 C2 _ _ e1 e2 x y rfl rfl (by have:=E x (BP gx);omega) (by have:=z y (BP gy);omega) (Ef.own_row (dZ (w':=w.drewN q) o1 (fun _ _=>rfl)) rfl) (Ef.own_row (dZ (w':=w.drewN q) o2 (fun _ _=>rfl)) rfl)⟩
  have HN:=hid hn;have HM:=hid hm;have z1:((n:Int) != (n:Int))=false:=mY
  clear h1 h2 r1 r2 E z hn hm L M;go_enter func126,ntmps126;go_wp2_with fail;go_loopw [17] (fun i wx=>∃k:Nat,k<=n/\i= .int .i64 k/\Hid (decide (la.drop k=lb.drop k)=decide (la=lb))/\Hid (∃q,wx=w.drewN q)) (fun i _=>n-(intOf i).toNat)
  case atStart=>exact⟨0,kR,rfl,rfl,0,rfl⟩
  case round=>
   obtain⟨k,hk,rfl,hE,HQ⟩:=hrel;by_cases J:k<n
   ·obtain⟨q,hq⟩:=HQ.out;obtain⟨g1,g2,C1,k1,e1,C2,k2,e2,x,y,rfl,rfl,x1,x2,gx,gy,D⟩:=HV.out wr k q hq J;have he:=hE.out;rw[OD gx gy]at he;have G:Hid (∀nq,∃q,wr.drewN nq=w.drewN q):=fun nq=>⟨_,mj⟩;have y0:(0:Int)<=(k:Int):=kR;have y1:(k:Int)<(n:Int):=kR;have gk:=iQ ((k:Int)<n);clear hE HQ hq gx gy HV;by_cases h:x=y
    ·rw[Aw h,Bool.true_and]at he;rw[Aw h]at D;have HE:=hid he;have D:=hid D;clear he h;go_wp2_with fail;refine D.out.mono ?_;rintro e w2 ⟨rfl,nq,rfl⟩;clear D x1 x2;go_wp2_with fail;go_roundw
     case measure=>exact jw
     case rel=>go_light;exact⟨k+1,kR,i5,HE.out,G.out _⟩
    ·rw[Az h,IB]at he;rw[Az h]at D;have HE:=hid he;have D:=hid D;clear he h;go_wp2_with fail;refine D.out.mono ?_;rintro e w2 ⟨rfl,nq,rfl⟩;clear D x1 x2;go_wp2_with fail;go_ret;exact⟨El HE.out,G.out _⟩
   ·obtain rfl:k=n:=by omega
    have gk:=iR ((k:Int)<k);have he:=hE.out;rw[Cw lQ,Cw lP]at he;have HE:=hid he;clear he hE HV;go_wp2_with fail;go_ret;exact⟨El kV,HQ.out⟩
 ·have hR:decide (la=lb)=false:=Az fun e=>by rw[e]at hn;omega
  have z1:((n:Int) != (m:Int))=true:=l7
  rw[hR];clear hR hn hm h1 h2 r1 r2 E z he;go_enter func126,ntmps126;go_wp2_with fail;go_ret;exact⟨rfl,0,rfl⟩
def eqX(X Y:List Str×List (List Nat)):Bool:=decide (X.1=Y.1)&&decide (X.2=Y.2)
theorem SE(w:World)(p1 p2:Nat)(vT vL U Q:Value)(vals E:List Value)(X Y:List Str×List (List Nat))(h1:IxAt w p1 vT vL vals X.1 X.2)(h2:IxAt w p2 U Q E Y.1 Y.2)(af:X.1.length<=2000000)(ae:X.2.length<=2000000)(aa:∀l∈X.2,l.length<=2000000)(ac:Y.2.length<=2000000)(M:∀l∈Y.2,l.length<=2000000):
 Calls prog 65 #[.agg #[vT,vL], .agg #[U,Q]] w fun e w'=>e= .returned (.bool (eqX X Y))/\aO w w':=by
 unfold eqX;have t1:=h1.t;have t2:=h2.t;have l1:=h1.l;have l2:=h2.l;obtain⟨n,hn⟩:=iS X.1.length;obtain⟨m,hm⟩:=iS X.2.length;obtain⟨n2,j⟩:=iS Y.1.length;obtain⟨m2,G⟩:=iS Y.2.length;rw[<-hn]at t1 af;rw[<-j]at t2;rw[<-hm]at l1 ae;rw[<-G]at l2 ac;obtain⟨A1,c1,rfl⟩:=aZ t1;obtain⟨A2,c2,rfl⟩:=aZ t2;obtain⟨B1,d1,rfl⟩:=aZ l1;obtain⟨B2,d2,rfl⟩:=aZ l2;have DS:=hid (fun wx (hb:aO w wx)=>WA wx A1 A2 n n2 c1 c2 X.1 Y.1 hn.symm j.symm kR (((II (by rw[hn]at t1;exact t1)).below hb).mono hb.size |> fun h=>by rw[<-hn]at h;exact h) (((II (by rw[j]at t2;exact t2)).below hb).mono hb.size |> fun h=>by rw[<-j]at h;exact h));have far:∀ {wx:World} {b s n:Nat} {e:TypeId} {v:Value} {xs:List Value},aO w wx->w.ownsRow b e s v n xs->wx.ownsRow b e s v n xs:=fun hb ho=>dZ ho fun y hy=>hb.block y (Ae ho y hy).2;have DF:=hid (fun wx (hb:aO w wx)=>Wj wx B1 B2 m m2 d1 d2 p1 p2 vals E X.2 Y.2 hm.symm G.symm kR kR aa M (far hb l1) (far hb l2) (fun i v ids a b=>far hb (h1.r i v ids a b)) (fun i v ids a b=>far hb (h2.r i v ids a b)));generalize decide (X.1=Y.1)=R1 at *;generalize decide (X.2=Y.2)=R2 at *;clear h1 h2 t1 t2 l1 l2 hn hm j G far aa M;go_enter func65,ntmps65;go_wp2_with fail;have J:Blk ((w.alloc (.cells #[.slice A1 n c1, .slice B1 m d1] 53)).alloc (.cells #[.slice A2 n2 c2, .slice B2 m2 d2] 53)) w 53 #[.slice A1 n c1, .slice B1 m d1]:=(Blk.made _ _ _).alloc _;have ab:Blk ((w.alloc (.cells #[.slice A1 n c1, .slice B1 m d1] 53)).alloc (.cells #[.slice A2 n2 c2, .slice B2 m2 d2] 53)) (w.heap.size+1) 53 #[.slice A2 n2 c2, .slice B2 m2 d2]:=Blk.made_at _ _ _ mY;have Z:aO w ((w.alloc (.cells #[.slice A1 n c1, .slice B1 m d1] 53)).alloc (.cells #[.slice A2 n2 c2, .slice B2 m2 d2] 53)):=nJ
 generalize (w.alloc (.cells #[.slice A1 n c1, .slice B1 m d1] 53)).alloc (.cells #[.slice A2 n2 c2, .slice B2 m2 d2] 53)=w2 at *;have N:=hid J;have L:=hid ab;have z:=hid Z;have D:=hid (DS.out w2 z.out);clear J ab Z DS;cases R1
 ·refine D.out.mono ?_;rintro e w3 ⟨rfl,q0,rfl⟩;go_wp2_with fail;go_ret;exact⟨rfl,below_drewN z.out q0⟩
 ·refine D.out.mono ?_;rintro e w3 ⟨rfl,q0,rfl⟩;have k1:=(N.out.drewN q0).iO 1;have k2:=(L.out.drewN q0).iO 1;have D2:=hid (DF.out (w2.drewN q0) (below_drewN z.out q0));clear D N L DF;go_wp2_with fail;refine D2.out.mono ?_;rintro e w4 ⟨rfl,q1,rfl⟩;go_wp2_with fail;go_ret;exact⟨by first|rfl|exact El mY,by first|exact below_drewN z.out _|(rw[Dh];exact below_drewN z.out _)⟩
end Idx
namespace Idx
open Go.RowKit Mem Own Canon Sift
open NumPut Recs
theorem Ot(w:World)(p1 p2:Nat)(vT vL aj ab:Value)(vals E:List Value)(X Y:List Str×List (List Nat))(h1:IxAt w p1 vT vL vals X.1 X.2)(h2:IxAt w p2 aj ab E Y.1 Y.2)(al:X.1.length<=2000000)(aw:X.2.length<=2000000)(ae:∀l∈X.2,l.length<=2000000)(av:Y.2.length<=2000000)(ag:∀l∈Y.2,l.length<=2000000):
 Calls prog 21 #[.agg #[vT,vL], .agg #[aj,ab]] w fun e w'=>e= .returned (.bool (eqX X Y))/\aO w w':=by
 unfold eqX;have t1:=h1.t;have t2:=h2.t;have l1:=h1.l;have l2:=h2.l;obtain⟨n,hn⟩:=iS X.1.length;obtain⟨m,hm⟩:=iS X.2.length;obtain⟨n2,z⟩:=iS Y.1.length;obtain⟨m2,M⟩:=iS Y.2.length;rw[<-hn]at t1 al;rw[<-z]at t2;rw[<-hm]at l1 aw;rw[<-M]at l2 av;obtain⟨A1,c1,rfl⟩:=aZ t1;obtain⟨A2,c2,rfl⟩:=aZ t2;obtain⟨B1,d1,rfl⟩:=aZ l1;obtain⟨B2,d2,rfl⟩:=aZ l2;have DS:=hid (fun wx (hb:aO w wx)=>Zh wx A1 A2 n n2 c1 c2 X.1 Y.1 hn.symm z.symm kR (((II (by rw[hn]at t1;exact t1)).below hb).mono hb.size |> fun h=>by rw[<-hn]at h;exact h) (((II (by rw[z]at t2;exact t2)).below hb).mono hb.size |> fun h=>by rw[<-z]at h;exact h));have au:=h1.len;have ay:=h2.len;have far:∀ {wx:World} {b s n:Nat} {e:TypeId} {v:Value} {xs:List Value},aO w wx->w.ownsRow b e s v n xs->wx.ownsRow b e s v n xs:=fun hb ho=>dZ ho fun y hy=>hb.block y (Ae ho y hy).2;have HV:Hid (m=m2->∀ (wx:World) i,aO w wx->i<m->∃g1 g2 C1 k1 e1 C2 k2 e2 x y,B1=some ⟨g1,0,none⟩/\B2=some ⟨g2,0,none⟩/\wx.cell? ⟨g1,i,none⟩=some (.slice C1 k1 e1)/\wx.cell? ⟨g2,i,none⟩=some (.slice C2 k2 e2)/\X.2[i]? =some x/\Y.2[i]? =some y/\∀q0,Calls prog 35 #[.slice C1 k1 e1, .slice C2 k2 e2] (wx.drewN q0) fun e w'=>e= .returned (.bool (decide (x=y)))/\∃q,w'=(wx.drewN q0).drewN q):=fun N wx i hb hi=>by obtain⟨x,gx⟩:∃x,X.2[i]? =some x:=⟨_,AE kR⟩;obtain⟨y,gy⟩:∃y,Y.2[i]? =some y:=⟨_,AE kR⟩;obtain⟨u,gu⟩:∃u,vals[i]? =some u:=⟨_,AE kR⟩;obtain⟨v,gv⟩:∃v,E[i]? =some v:=⟨_,AE kR⟩;have o1:=far hb (h1.r i u x gu gx);have o2:=far hb (h2.r i v y gv gy);obtain⟨C1,e1,rfl⟩:=aZ o1;obtain⟨C2,e2,rfl⟩:=aZ o2;have m1:=far hb l1;have az:=far hb l2;obtain⟨g1,c1,hA1,_,_⟩:=l1.form kR;injection hA1 with q1 q2 q3;subst q1;obtain⟨g2,c2,hA2,_,_⟩:=l2.form kR;injection hA2 with q1 q2 q3;subst q1;exact⟨g1,g2,C1,_,e1,C2,_,e2,x,y,rfl,rfl,(m1.cellAt i kR).trans gu,(az.cellAt i kR).trans gv,gx,gy,fun q0=>Yt _ C1 C2 _ _ e1 e2 x y rfl rfl (by have:=ae x (BP gx);omega) (by have:=ag y (BP gy);omega) (Ef.own_row (dZ (w':=wx.drewN q0) o1 (fun _ _=>rfl)) rfl) (Ef.own_row (dZ (w':=wx.drewN q0) o2 (fun _ _=>rfl)) rfl)⟩
 have HM:=hid hm;have ak:=hid M;generalize decide (X.1=Y.1)=R1 at *;clear h1 h2 t1 t2 l1 l2 hn hm z M far ae ag au ay;go_enter func21,ntmps21;go_wp2_with fail;have Z:Blk ((w.alloc (.cells #[.slice A1 n c1, .slice B1 m d1] 53)).alloc (.cells #[.slice A2 n2 c2, .slice B2 m2 d2] 53)) w 53 #[.slice A1 n c1, .slice B1 m d1]:=(Blk.made _ _ _).alloc _;have af:Blk ((w.alloc (.cells #[.slice A1 n c1, .slice B1 m d1] 53)).alloc (.cells #[.slice A2 n2 c2, .slice B2 m2 d2] 53)) (w.heap.size+1) 53 #[.slice A2 n2 c2, .slice B2 m2 d2]:=Blk.made_at _ _ _ mY;have ac:aO w ((w.alloc (.cells #[.slice A1 n c1, .slice B1 m d1] 53)).alloc (.cells #[.slice A2 n2 c2, .slice B2 m2 d2] 53)):=nJ
 generalize (w.alloc (.cells #[.slice A1 n c1, .slice B1 m d1] 53)).alloc (.cells #[.slice A2 n2 c2, .slice B2 m2 d2] 53)=w2 at *;have aa:=hid Z;have ah:=hid af;have J:=hid ac;have D:=hid (DS.out w2 J.out);clear Z af ac DS;cases R1
 ·refine D.out.mono ?_;rintro e w3 ⟨rfl,q0,rfl⟩;clear HV D;go_wp2_with fail;go_ret;exact⟨rfl,below_drewN J.out q0⟩
 ·refine D.out.mono ?_;rintro e w3 ⟨rfl,q0,G⟩;have ai:Hid (aO w w3):=by rw[G];exact below_drewN J.out q0
  have U:Hid (Blk w3 w 53 #[.slice A1 n c1, .slice B1 m d1]):=by rw[G];exact aa.out.drewN q0
  have Q:Hid (Blk w3 (w.heap.size+1) 53 #[.slice A2 n2 c2, .slice B2 m2 d2]):=by rw[G];exact ah.out.drewN q0
  have k1:=U.out.iO 1;have k2:=Q.out.iO 1;clear G D aa ah J;by_cases N:m=m2
  ·subst N;have gm:((m:Int) != (m:Int))=false:=mY;have HW:=hid (HV.out i7);clear HV;go_wp2_with fail;go_loopw [5] (fun iv wr=>∃i:Nat,i<=m/\iv= .int .i64 i/\Hid (decide (X.2.drop i=Y.2.drop i)=decide (X.2=Y.2))/\Hid (∃q,wr=w3.drewN q)) (fun iv _=>m-(intOf iv).toNat)
   case atStart=>exact⟨0,kR,rfl,rfl,0,rfl⟩
   case round=>
    obtain⟨i,hi,rfl,hE,HQ⟩:=hrel;clear k1 k2;have L:Hid (aO w wr):=(by obtain⟨q,hq⟩:=HQ.out;rw[hq];exact below_drewN ai.out q);have ax:Hid (Blk wr w 53 #[.slice A1 n c1, .slice B1 m d1]):=(by obtain⟨q,hq⟩:=HQ.out;rw[hq];exact U.out.drewN q);have aq:Hid (Blk wr (w.heap.size+1) 53 #[.slice A2 n2 c2, .slice B2 m d2]):=(by obtain⟨q,hq⟩:=HQ.out;rw[hq];exact Q.out.drewN q);have an:Hid (∀q2,∃q,wr.drewN q2=w3.drewN q):=fun q2=>by obtain⟨q,hq⟩:=HQ.out;exact⟨q+q2,by rw[hq,Dh]⟩
    have k1:=ax.out.iO 1;have k2:=aq.out.iO 1;by_cases ar:i<m
    ·have gi:=iQ ((i:Int)<m);have aR:=iQ (i<m);obtain⟨g1,g2,C1,aQ,e1,C2,aP,e2,x,y,rfl,rfl,x1,x2,gx,gy,D⟩:=HW.out wr i L.out ar;have he:=hE.out;rw[OD gx gy]at he;have y0:(0:Int)<=(i:Int):=kR;have y1:(i:Int)<(m:Int):=kR;clear hE HQ gx gy HW;by_cases j:x=y
     ·rw[Aw j,Bool.true_and]at he;rw[Aw j]at D;have HE:=hid he;have D:=hid D;clear he j;go_wp2_with fail;go_quiet ((go_at_call 35;exact Calls.quiet_of (D.out _)));go_wp2_with fail;go_roundw
      case measure=>exact jw
      case rel=>go_light;exact⟨i+1,kR,i5,HE.out,an.out _⟩
     ·rw[Az j,IB]at he;rw[Az j]at D;have HE:=hid he;have D:=hid D;clear he j;go_wp2_with fail;go_quiet ((go_at_call 35;exact Calls.quiet_of (D.out _)));go_wp2_with fail;go_ret;exact⟨El HE.out,below_drewN L.out _⟩
    ·obtain rfl:i=m:=by omega
     have gi:=iR ((i:Int)<i);have he:=hE.out;rw[Cw (Nat.le_of_eq HM.out.symm),Cw (Nat.le_of_eq ak.out.symm)]at he;have HE:=hid he;clear he hE HW;go_wp2_with fail;go_ret;exact⟨El kV,L.out⟩
  ·have hR:decide (X.2=Y.2)=false:=Az fun e=>by have a:=HM.out;have b:=ak.out;rw[e]at a;omega
   have gm:((m:Int) != (m2:Int))=true:=l7;have am:=hid hR;clear hR N HV;go_wp2_with fail;go_ret;exact⟨El am.out.symm,ai.out⟩
end Idx
end Go.Proofs.YtfgdoknipbpfhaaGreatDoor
