/- All records of a bod -/
import Derived.Test.YtfgdoknipbpfhaaGreatDoorZBodyIndex45
namespace Go.Proofs.YtfgdoknipbpfhaaGreatDoor
open Go.Proofs.Tryz
open Go.Lib (hid)
set_option maxHeartbeats 4000000
set_option maxRecDepth 100000
section
namespace Idx
open Go.RowKit Mem Own Canon Sift
open NumPut Recs
theorem jV(w:World)(A B:Option Addr)(n m c d:Nat)(la lb:List Nat)(hn:la.length=n)(hm:lb.length=m)(hN:n<=3000000000)(hM:m<=3000000000)(ha:Row w w A n 1 (kZ .i64 la))(hb:Row w w B m 1 (kZ .i64 lb)):
 Calls prog 127 #[.slice A n c, .slice B m d] w fun e w'=>e= .returned (.bool (decide (la=lb)))/\∃q,w'=w.drewN q:=by
 by_cases he:n=m
 ·subst he;have HA:=hid ha;have HB:=hid hb;have HN:=hid hn;have HM:=hid hm;have z1:((n:Int) != (n:Int))=false:=by simp
  clear ha hb hn hm;go_enter func127,ntmps127;go_wp2_with fail;go_loopw [13] (fun i wx=>∃k:Nat,k<=n/\i= .int .i64 k/\Hid (decide (la.drop k=lb.drop k)=decide (la=lb))/\Hid (∃q,wx=w.drewN q)) (fun i _=>n-(intOf i).toNat)
  case atStart=>exact⟨0,nB,rfl,rfl,0,rfl⟩
  case round=>
   obtain⟨k,hk,rfl,hE,HQ⟩:=hrel;have j:Hid (∀nq,∃q,wr.drewN nq=w.drewN q):=fun nq=>nu
   by_cases h:k<n
   ·have M:Row wr w A n 1 (kZ .i64 la):=(by obtain⟨q,hq⟩:=HQ.out;rw[hq];exact HA.out);have L:Row wr w B n 1 (kZ .i64 lb):=(by obtain⟨q,hq⟩:=HQ.out;rw[hq];exact HB.out);obtain⟨b1,o1,x1,rfl,Q,G,U⟩:=Dg M HN.out h;obtain⟨b2,o2,x2,rfl,N,J,Y⟩:=Dg L HM.out h;have he:=hE.out;rw[Crc.P3 (by rw[HN.out];exact h) (by rw[HM.out];exact h),Aq,Aq,G,J]at he;simp only[Option.getD_some]at he;have y0:(0:Int)<=(k:Int):=nB;have y1:(k:Int)<(n:Int):=nB;have gk:=ja ((k:Int)<n);clear G J hE M L HQ;by_cases E:x1=x2
    ·subst E;rw[AQ rfl,Bool.true_and]at he;have HE:=hid he;have e1:((x1:Int) != (x1:Int))=false:=pR;clear he;go_wp2_with fail;go_quiet (fail);go_wp2_with fail;go_roundw
     case measure=>exact ld
     case rel=>exact ke
    ·rw[AV E,G0]at he;have HE:=hid he;have e1:((x1:Int) != (x2:Int))=true:=oX;clear he E;go_wp2_with fail;go_quiet (fail);go_wp2_with fail;go_ret;exact⟨Ff HE.out,j.out _⟩
   ·obtain rfl:k=n:=by omega
    have gk:=jb ((k:Int)<k);have he:=hE.out;rw[CF oz,CF oy]at he;have HE:=hid he;clear he hE j;go_wp2_with fail;go_ret;exact⟨Ff nD,HQ.out⟩
 ·have hR:decide (la=lb)=false:=AV fun e=>by rw[e]at hn;omega
  have z1:((n:Int) != (m:Int))=true:=oX
  rw[hR];clear hR hn hm ha hb he;go_enter func127,ntmps127;go_wp2_with fail;go_ret;exact⟨rfl,0,rfl⟩
theorem i6(w:World)(A B:Option Addr)(n m c d:Nat)(la lb:List Nat)(hn:la.length=n)(hm:lb.length=m)(hN:n<=3000000000)(hM:m<=3000000000)(ha:Row w w A n 1 (kZ .i64 la))(hb:Row w w B m 1 (kZ .i64 lb)):
 Calls prog 35 #[.slice A n c, .slice B m d] w fun e w'=>e= .returned (.bool (decide (la=lb)))/\∃q,w'=w.drewN q:=by
 by_cases he:n=m
 ·subst he;have HA:=hid ha;have HB:=hid hb;have HN:=hid hn;have HM:=hid hm;have z1:((n:Int) != (n:Int))=false:=by simp
  clear ha hb hn hm;go_enter func35,ntmps35;go_wp2_with fail;go_loopw [5] (fun i wx=>∃k:Nat,k<=n/\i= .int .i64 k/\Hid (decide (la.drop k=lb.drop k)=decide (la=lb))/\Hid (∃q,wx=w.drewN q)) (fun i _=>n-(intOf i).toNat)
  case atStart=>exact⟨0,nB,rfl,rfl,0,rfl⟩
  case round=>
   obtain⟨k,hk,rfl,hE,HQ⟩:=hrel;have j:Hid (∀nq,∃q,wr.drewN nq=w.drewN q):=fun nq=>nu
   by_cases h:k<n
   ·have M:Row wr w A n 1 (kZ .i64 la):=(by obtain⟨q,hq⟩:=HQ.out;rw[hq];exact HA.out);have L:Row wr w B n 1 (kZ .i64 lb):=(by obtain⟨q,hq⟩:=HQ.out;rw[hq];exact HB.out);obtain⟨b1,o1,x1,rfl,Q,G,U⟩:=Dg M HN.out h;obtain⟨b2,o2,x2,rfl,N,J,Y⟩:=Dg L HM.out h;have he:=hE.out;rw[Crc.P3 (by rw[HN.out];exact h) (by rw[HM.out];exact h),Aq,Aq,G,J]at he;simp only[Option.getD_some]at he;have y0:(0:Int)<=(k:Int):=nB;have y1:(k:Int)<(n:Int):=nB;have gk:=ja ((k:Int)<n);clear G J hE M L HQ;by_cases E:x1=x2
    ·subst E;rw[AQ rfl,Bool.true_and]at he;have HE:=hid he;have e1:((x1:Int) != (x1:Int))=false:=pR;clear he;go_wp2_with fail;go_quiet (fail);go_wp2_with fail;go_roundw
     case measure=>exact ld
     case rel=>exact ke
    ·rw[AV E,G0]at he;have HE:=hid he;have e1:((x1:Int) != (x2:Int))=true:=oX;clear he E;go_wp2_with fail;go_quiet (fail);go_wp2_with fail;go_ret;exact⟨Ff HE.out,j.out _⟩
   ·obtain rfl:k=n:=by omega
    have gk:=jb ((k:Int)<k);have he:=hE.out;rw[CF oz,CF oy]at he;have HE:=hid he;clear he hE j;go_wp2_with fail;go_ret;exact⟨Ff nD,HQ.out⟩
 ·have hR:decide (la=lb)=false:=AV fun e=>by rw[e]at hn;omega
  have z1:((n:Int) != (m:Int))=true:=oX
  rw[hR];clear hR hn hm ha hb he;go_enter func35,ntmps35;go_wp2_with fail;go_ret;exact⟨rfl,0,rfl⟩
theorem jB(w:World)(A A2:Option Addr)(n n2 c c2:Nat)(ls ms:List Str)(hn:ls.length=n)(N:ms.length=n2)(hN:n<=3000000000)(ha:Row w w A n 1 (Ei ls))(U:Row w w A2 n2 1 (Ei ms)):
 Calls prog 125 #[.slice A n c, .slice A2 n2 c2] w fun e w'=>e= .returned (.bool (decide (ls=ms)))/\∃q,w'=w.drewN q:=by
 have HN:=hid hn;have aa:=hid N
 have HY:Hid (n=n2->(∀i,i<n->ls.getD i []=ms.getD i [])->decide (ls=ms)=true):=fun he h=>AQ (List.ext_getElem nB fun i h1 h2=>by
  have:=h i nB
  rwa [Aq,Aq,AD h1,AD h2]at this)
 have E:Hid (∀ (i:Nat) x y,ls[i]? =some x->ms[i]? =some y->x≠y->decide (ls=ms)=false):=fun i x y hx hy hne=>AV fun e=>oY
 have G:Hid (n≠n2->decide (ls=ms)=false):=fun hne=>AV fun e=>by rw[e]at hn;omega
 generalize decide (ls=ms)=R at *;clear hn N;by_cases he:n=n2
 ·subst he;have z1:((n:Int) != (n:Int))=false:=by simp
  have Z:(n != n)=false:=pR
  clear G;go_enter func125,ntmps125;go_wp2_with fail;go_loopw [13] (fun iv wx=>∃k:Nat,k<=n/\iv= .int .i64 k/\Hid (∀i,i<k->ls.getD i []=ms.getD i [])/\Hid (∃q,wx=w.drewN q)) (fun iv _=>n-(intOf iv).toNat)
  case atStart=>exact⟨0,nB,rfl,fun i h=>absurd h nB,0,rfl⟩
  case round=>
   obtain⟨k,hk,rfl,HS,HQ⟩:=hrel;by_cases M:k<n
   ·have gk:=ja ((k:Int)<n);have Y:=ja (k<n);have x0:(0:Int)<=(k:Int):=nB;have x1:(k:Int)<(n:Int):=nB;have x2:(k:Int)<(n:Int):=nB;have ab:Row wr w A n 1 (Ei ls):=nw;have L:Row wr w A2 n 1 (Ei ms):=(by obtain⟨q,hq⟩:=HQ.out;rw[hq];exact U);obtain⟨b,af,x,rfl,_,hx,ck⟩:=Row.str ab HN.out M;obtain⟨b2,ac,y,rfl,_,hy,ae⟩:=Row.str L aa.out (show k<n by omega);have J:Hid (∀nq,∃q,wr.drewN nq=w.drewN q):=fun nq=>by obtain⟨q,hq⟩:=HQ.out;exact⟨_,ph⟩
    by_cases j:x=y
    ·have ge:((bs x).toList==(bs y).toList)=true:=by rw[str_eq];simpa using j
     have Q:Hid (∀i,i<k+1->ls.getD i []=ms.getD i []):=fun i h=>by
      by_cases e:i<k
      ·exact HS.out i e
      ·obtain rfl:i=k:=by omega
       rw[Aq,Aq,hx,hy,j]
     clear HS hx hy j HQ;go_wp2_with fail;go_quiet (fail);go_wp2_with fail;go_roundw
     case measure=>exact ld
     case rel=>exact kj
    ·have ge:((bs x).toList==(bs y).toList)=false:=(by rw[str_eq];simpa using j);obtain rfl:=E.out k x y hx hy j;clear HS HY E hx hy j HQ;go_wp2_with fail;go_quiet (fail);go_wp2_with fail;go_ret;exact⟨rfl,J.out _⟩
   ·obtain rfl:k=n:=by omega
    have gk:=jb ((k:Int)<k);have Y:=jb (k<k);obtain rfl:=HY.out jm HS.out;clear HS HY E M;go_wp2_with fail;go_ret;exact⟨rfl,HQ.out⟩
 ·have z1:((n:Int) != (n2:Int))=true:=by simp;omega
  have Z:(n != n2)=true:=qj
  obtain rfl:=G.out he;clear HY E G he;go_enter func125,ntmps125;go_wp2_with fail;go_ret;exact⟨rfl,0,rfl⟩
theorem UJ{la lb:List (List Nat)}{k:Nat}{x y:List Nat}(h:la[k]? =some x)(h':lb[k]? =some y):decide (la.drop k=lb.drop k)=(decide (x=y)&&decide (la.drop (k+1)=lb.drop (k+1))):=by obtain⟨h1,e1⟩:=BS.1 h;obtain⟨h2,e2⟩:=BS.1 h';rw[JI,Ch,decide_eq_true_eq,decide_eq_true_eq,decide_eq_true_eq,Dx h1,Dx h2,List.cons.injEq,e1,e2]
theorem iL(w:World)(A B:Option Addr)(n m c d p1 p2:Nat)(va vb:List Value)(la lb:List (List Nat))(hn:la.length=n)(hm:lb.length=m)(hN:n<=3000000000)(hM:m<=3000000000)(G:∀l∈la,l.length<=2000000)(E:∀l∈lb,l.length<=2000000)(h1:w.ownsRow p1 37 1 (.slice A n c) n va)(h2:w.ownsRow p2 37 1 (.slice B m d) m vb)
 (r1:∀ (i:Nat) v ids,va[i]? =some v->la[i]? =some ids->w.ownsRow p1 3 1 v ids.length (bZ .i64 ids))(r2:∀ (i:Nat) v ids,vb[i]? =some v->lb[i]? =some ids->w.ownsRow p2 3 1 v ids.length (bZ .i64 ids)):
 Calls prog 126 #[.slice A n c, .slice B m d, .func (.func 127) #[] #[]] w fun e w'=>e= .returned (.bool (decide (la=lb)))/\∃q,w'=w.drewN q:=by
 have hK:∀j wx,(callFunc 127 j).run prog wx= .ok (.enter 127 j) wx:=by intro j wx;simp[callFunc,go_sem,func127];rfl
 by_cases he:n=m
 ·subst he;have L:va.length=n:=by have:=h1.1;omega
  have N:vb.length=n:=by have:=h2.1;omega
  have HV:Hid (∀ (wx:World) i q,wx=w.drewN q->i<n->∃g1 g2 C1 k1 e1 C2 k2 e2 x y,A=some ⟨g1,0,none⟩/\B=some ⟨g2,0,none⟩/\wx.cell? ⟨g1,i,none⟩=some (.slice C1 k1 e1)/\wx.cell? ⟨g2,i,none⟩=some (.slice C2 k2 e2)/\la[i]? =some x/\lb[i]? =some y/\Calls prog 127 #[.slice C1 k1 e1, .slice C2 k2 e2] wx fun e w'=>e= .returned (.bool (decide (x=y)))/\∃q,w'=wx.drewN q):=fun wx i q hq hi=>by obtain⟨x,gx⟩:∃x,la[i]? =some x:=⟨_,AD nB⟩;obtain⟨y,gy⟩:∃y,lb[i]? =some y:=⟨_,AD nB⟩;obtain⟨u,gu⟩:∃u,va[i]? =some u:=⟨_,AD nB⟩;obtain⟨v,gv⟩:∃v,vb[i]? =some v:=⟨_,AD nB⟩;have o1:=r1 i u x gu gx;have o2:=r2 i v y gv gy;obtain⟨C1,e1,rfl⟩:=aZ o1;obtain⟨C2,e2,rfl⟩:=aZ o2;obtain⟨g1,c1,hA1,_,_⟩:=h1.form nB;injection hA1 with q1 q2 q3;subst q1;obtain⟨g2,c2,hA2,_,_⟩:=h2.form nB;injection hA2 with q1 q2 q3;subst q1;subst hq;exact⟨g1,g2,C1,_,e1,C2,_,e2,x,y,rfl,rfl,(h1.cellAt i nB).trans gu,(h2.cellAt i nB).trans gv,gx,gy,jV _ C1 C2 _ _ e1 e2 x y rfl rfl (by have:=G x (AY gx);omega) (by have:=E y (AY gy);omega) (Ef.own_row (eZ (w':=w.drewN q) o1 (fun _ _=>rfl)) rfl) (Ef.own_row (eZ (w':=w.drewN q) o2 (fun _ _=>rfl)) rfl)⟩
  have HN:=hid hn;have HM:=hid hm;have z1:((n:Int) != (n:Int))=false:=pR
  clear h1 h2 r1 r2 G E hn hm L N;go_enter func126,ntmps126;go_wp2_with fail;go_loopw [17] (fun i wx=>∃k:Nat,k<=n/\i= .int .i64 k/\Hid (decide (la.drop k=lb.drop k)=decide (la=lb))/\Hid (∃q,wx=w.drewN q)) (fun i _=>n-(intOf i).toNat)
  case atStart=>exact⟨0,nB,rfl,rfl,0,rfl⟩
  case round=>
   obtain⟨k,hk,rfl,hE,HQ⟩:=hrel;by_cases M:k<n
   ·obtain⟨q,hq⟩:=HQ.out;obtain⟨g1,g2,C1,k1,e1,C2,k2,e2,x,y,rfl,rfl,x1,x2,gx,gy,D⟩:=HV.out wr k q hq M;have he:=hE.out;rw[UJ gx gy]at he;have J:Hid (∀nq,∃q,wr.drewN nq=w.drewN q):=fun nq=>⟨_,ph⟩;have y0:(0:Int)<=(k:Int):=nB;have y1:(k:Int)<(n:Int):=nB;have gk:=ja ((k:Int)<n);clear hE HQ hq gx gy HV;by_cases h:x=y
    ·rw[AQ h,Bool.true_and]at he;rw[AQ h]at D;have HE:=hid he;have D:=hid D;clear he h;go_wp2_with fail;refine D.out.mono ?_;rintro e w2 ⟨rfl,nq,rfl⟩;clear D x1 x2;go_wp2_with fail;go_roundw
     case measure=>exact ld
     case rel=>go_light;exact⟨k+1,nB,jk,HE.out,J.out _⟩
    ·rw[AV h,G0]at he;rw[AV h]at D;have HE:=hid he;have D:=hid D;clear he h;go_wp2_with fail;refine D.out.mono ?_;rintro e w2 ⟨rfl,nq,rfl⟩;clear D x1 x2;go_wp2_with fail;go_ret;exact⟨Ff HE.out,J.out _⟩
   ·obtain rfl:k=n:=by omega
    have gk:=jb ((k:Int)<k);have he:=hE.out;rw[CF oz,CF oy]at he;have HE:=hid he;clear he hE HV;go_wp2_with fail;go_ret;exact⟨Ff nD,HQ.out⟩
 ·have hR:decide (la=lb)=false:=AV fun e=>by rw[e]at hn;omega
  have z1:((n:Int) != (m:Int))=true:=oX
  rw[hR];clear hR hn hm h1 h2 r1 r2 G E he;go_enter func126,ntmps126;go_wp2_with fail;go_ret;exact⟨rfl,0,rfl⟩
def eqX(X Y:List Str×List (List Nat)):Bool:=decide (X.1=Y.1)&&decide (X.2=Y.2)
theorem UP(w:World)(p1 p2:Nat)(vT vL Z L:Value)(vals j:List Value)(X Y:List Str×List (List Nat))(h1:IxAt w p1 vT vL vals X.1 X.2)(h2:IxAt w p2 Z L j Y.1 Y.2)(ag:X.1.length<=2000000)(af:X.2.length<=2000000)(U:∀l∈X.2,l.length<=2000000)(ae:Y.2.length<=2000000)(aa:∀l∈Y.2,l.length<=2000000):
 Calls prog 65 #[.agg #[vT,vL], .agg #[Z,L]] w fun e w'=>e= .returned (.bool (eqX X Y))/\Below w w w':=by
 unfold eqX;have t1:=h1.t;have t2:=h2.t;have l1:=h1.l;have l2:=h2.l;obtain⟨n,hn⟩:=jc X.1.length;obtain⟨m,hm⟩:=jc X.2.length;obtain⟨n2,G⟩:=jc Y.1.length;obtain⟨m2,J⟩:=jc Y.2.length;rw[<-hn]at t1 ag;rw[<-G]at t2;rw[<-hm]at l1 af;rw[<-J]at l2 ae;obtain⟨A1,c1,rfl⟩:=aZ t1;obtain⟨A2,c2,rfl⟩:=aZ t2;obtain⟨B1,d1,rfl⟩:=aZ l1;obtain⟨B2,d2,rfl⟩:=aZ l2;have DS:=hid (fun wx (hb:Below w w wx)=>jB wx A1 A2 n n2 c1 c2 X.1 Y.1 hn.symm G.symm nB (((Io (by rw[hn]at t1;exact t1)).below hb).mono hb.size |> fun h=>by rw[<-hn]at h;exact h) (((Io (by rw[G]at t2;exact t2)).below hb).mono hb.size |> fun h=>by rw[<-G]at h;exact h));have far:∀ {wx:World} {b s n:Nat} {e:TypeId} {v:Value} {xs:List Value},Below w w wx->w.ownsRow b e s v n xs->wx.ownsRow b e s v n xs:=fun hb ho=>eZ ho fun y hy=>hb.block y (Ai ho y hy).2;have DF:=hid (fun wx (hb:Below w w wx)=>iL wx B1 B2 m m2 d1 d2 p1 p2 vals j X.2 Y.2 hm.symm J.symm nB nB U aa (far hb l1) (far hb l2) (fun i v ids a b=>far hb (h1.r i v ids a b)) (fun i v ids a b=>far hb (h2.r i v ids a b)));generalize decide (X.1=Y.1)=R1 at *;generalize decide (X.2=Y.2)=R2 at *;clear h1 h2 t1 t2 l1 l2 hn hm G J far U aa;go_enter func65,ntmps65;go_wp2_with fail;have ac:Blk ((w.alloc (.cells #[.slice A1 n c1, .slice B1 m d1] 53)).alloc (.cells #[.slice A2 n2 c2, .slice B2 m2 d2] 53)) w 53 #[.slice A1 n c1, .slice B1 m d1]:=(Blk.made _ _ _).alloc _;have M:Blk ((w.alloc (.cells #[.slice A1 n c1, .slice B1 m d1] 53)).alloc (.cells #[.slice A2 n2 c2, .slice B2 m2 d2] 53)) (w.heap.size+1) 53 #[.slice A2 n2 c2, .slice B2 m2 d2]:=Blk.made_at _ _ _ pR;have Q:Below w w ((w.alloc (.cells #[.slice A1 n c1, .slice B1 m d1] 53)).alloc (.cells #[.slice A2 n2 c2, .slice B2 m2 d2] 53)):=qo
 generalize (w.alloc (.cells #[.slice A1 n c1, .slice B1 m d1] 53)).alloc (.cells #[.slice A2 n2 c2, .slice B2 m2 d2] 53)=w2 at *;have N:=hid ac;have ab:=hid M;have E:=hid Q;have D:=hid (DS.out w2 E.out);clear ac M Q DS;cases R1
 ·refine D.out.mono ?_;rintro e w3 ⟨rfl,q0,rfl⟩;go_wp2_with fail;go_ret;exact⟨rfl,below_drewN E.out q0⟩
 ·refine D.out.mono ?_;rintro e w3 ⟨rfl,q0,rfl⟩;have k1:=(N.out.drewN q0).iy 1;have k2:=(ab.out.drewN q0).iy 1;have D2:=hid (DF.out (w2.drewN q0) (below_drewN E.out q0));clear D N ab DF;go_wp2_with fail;refine D2.out.mono ?_;rintro e w4 ⟨rfl,q1,rfl⟩;go_wp2_with fail;go_ret;exact⟨by first|rfl|exact Ff pR,by first|exact below_drewN E.out _|(rw[EW];exact below_drewN E.out _)⟩
end Idx
namespace Idx
open Go.RowKit Mem Own Canon Sift
open NumPut Recs
theorem Po(w:World)(p1 p2:Nat)(vT vL aj U:Value)(vals E:List Value)(X Y:List Str×List (List Nat))(h1:IxAt w p1 vT vL vals X.1 X.2)(h2:IxAt w p2 aj U E Y.1 Y.2)(av:X.1.length<=2000000)(aq:X.2.length<=2000000)(ae:∀l∈X.2,l.length<=2000000)(am:Y.2.length<=2000000)(ak:∀l∈Y.2,l.length<=2000000):
 Calls prog 21 #[.agg #[vT,vL], .agg #[aj,U]] w fun e w'=>e= .returned (.bool (eqX X Y))/\Below w w w':=by
 unfold eqX;have t1:=h1.t;have t2:=h2.t;have l1:=h1.l;have l2:=h2.l;obtain⟨n,hn⟩:=jc X.1.length;obtain⟨m,hm⟩:=jc X.2.length;obtain⟨n2,G⟩:=jc Y.1.length;obtain⟨m2,N⟩:=jc Y.2.length;rw[<-hn]at t1 av;rw[<-G]at t2;rw[<-hm]at l1 aq;rw[<-N]at l2 am;obtain⟨A1,c1,rfl⟩:=aZ t1;obtain⟨A2,c2,rfl⟩:=aZ t2;obtain⟨B1,d1,rfl⟩:=aZ l1;obtain⟨B2,d2,rfl⟩:=aZ l2;have DS:=hid (fun wx (hb:Below w w wx)=>ZZ wx A1 A2 n n2 c1 c2 X.1 Y.1 hn.symm G.symm nB (((Io (by rw[hn]at t1;exact t1)).below hb).mono hb.size |> fun h=>by rw[<-hn]at h;exact h) (((Io (by rw[G]at t2;exact t2)).below hb).mono hb.size |> fun h=>by rw[<-G]at h;exact h));have ay:=h1.len;have a0:=h2.len;have far:∀ {wx:World} {b s n:Nat} {e:TypeId} {v:Value} {xs:List Value},Below w w wx->w.ownsRow b e s v n xs->wx.ownsRow b e s v n xs:=fun hb ho=>eZ ho fun y hy=>hb.block y (Ai ho y hy).2;have HV:Hid (m=m2->∀ (wx:World) i,Below w w wx->i<m->∃g1 g2 C1 k1 e1 C2 k2 e2 x y,B1=some ⟨g1,0,none⟩/\B2=some ⟨g2,0,none⟩/\wx.cell? ⟨g1,i,none⟩=some (.slice C1 k1 e1)/\wx.cell? ⟨g2,i,none⟩=some (.slice C2 k2 e2)/\X.2[i]? =some x/\Y.2[i]? =some y/\∀q0,Calls prog 35 #[.slice C1 k1 e1, .slice C2 k2 e2] (wx.drewN q0) fun e w'=>e= .returned (.bool (decide (x=y)))/\∃q,w'=(wx.drewN q0).drewN q):=fun M wx i hb hi=>by obtain⟨x,gx⟩:∃x,X.2[i]? =some x:=⟨_,AD nB⟩;obtain⟨y,gy⟩:∃y,Y.2[i]? =some y:=⟨_,AD nB⟩;obtain⟨u,gu⟩:∃u,vals[i]? =some u:=⟨_,AD nB⟩;obtain⟨v,gv⟩:∃v,E[i]? =some v:=⟨_,AD nB⟩;have o1:=far hb (h1.r i u x gu gx);have o2:=far hb (h2.r i v y gv gy);obtain⟨C1,e1,rfl⟩:=aZ o1;obtain⟨C2,e2,rfl⟩:=aZ o2;have m1:=far hb l1;have ar:=far hb l2;obtain⟨g1,c1,hA1,_,_⟩:=l1.form nB;injection hA1 with q1 q2 q3;subst q1;obtain⟨g2,c2,hA2,_,_⟩:=l2.form nB;injection hA2 with q1 q2 q3;subst q1;exact⟨g1,g2,C1,_,e1,C2,_,e2,x,y,rfl,rfl,(m1.cellAt i nB).trans gu,(ar.cellAt i nB).trans gv,gx,gy,fun q0=>i6 _ C1 C2 _ _ e1 e2 x y rfl rfl (by have:=ae x (AY gx);omega) (by have:=ak y (AY gy);omega) (Ef.own_row (eZ (w':=wx.drewN q0) o1 (fun _ _=>rfl)) rfl) (Ef.own_row (eZ (w':=wx.drewN q0) o2 (fun _ _=>rfl)) rfl)⟩
 have HM:=hid hm;have al:=hid N;generalize decide (X.1=Y.1)=R1 at *;clear h1 h2 t1 t2 l1 l2 hn hm G N far ae ak ay a0;go_enter func21,ntmps21;go_wp2_with fail;have ag:Blk ((w.alloc (.cells #[.slice A1 n c1, .slice B1 m d1] 53)).alloc (.cells #[.slice A2 n2 c2, .slice B2 m2 d2] 53)) w 53 #[.slice A1 n c1, .slice B1 m d1]:=(Blk.made _ _ _).alloc _;have ah:Blk ((w.alloc (.cells #[.slice A1 n c1, .slice B1 m d1] 53)).alloc (.cells #[.slice A2 n2 c2, .slice B2 m2 d2] 53)) (w.heap.size+1) 53 #[.slice A2 n2 c2, .slice B2 m2 d2]:=Blk.made_at _ _ _ pR;have aa:Below w w ((w.alloc (.cells #[.slice A1 n c1, .slice B1 m d1] 53)).alloc (.cells #[.slice A2 n2 c2, .slice B2 m2 d2] 53)):=qo
 generalize (w.alloc (.cells #[.slice A1 n c1, .slice B1 m d1] 53)).alloc (.cells #[.slice A2 n2 c2, .slice B2 m2 d2] 53)=w2 at *;have ai:=hid ag;have af:=hid ah;have L:=hid aa;have D:=hid (DS.out w2 L.out);clear ag ah aa DS;cases R1
 ·refine D.out.mono ?_;rintro e w3 ⟨rfl,q0,rfl⟩;clear HV D;go_wp2_with fail;go_ret;exact⟨rfl,below_drewN L.out q0⟩
 ·refine D.out.mono ?_;rintro e w3 ⟨rfl,q0,J⟩;have ac:Hid (Below w w w3):=by rw[J];exact below_drewN L.out q0
  have ab:Hid (Blk w3 w 53 #[.slice A1 n c1, .slice B1 m d1]):=by rw[J];exact ai.out.drewN q0
  have Z:Hid (Blk w3 (w.heap.size+1) 53 #[.slice A2 n2 c2, .slice B2 m2 d2]):=by rw[J];exact af.out.drewN q0
  have k1:=ab.out.iy 1;have k2:=Z.out.iy 1;clear J D ai af L;by_cases M:m=m2
  ·subst M;have gm:((m:Int) != (m:Int))=false:=pR;have HW:=hid (HV.out jm);clear HV;go_wp2_with fail;go_loopw [5] (fun iv wr=>∃i:Nat,i<=m/\iv= .int .i64 i/\Hid (decide (X.2.drop i=Y.2.drop i)=decide (X.2=Y.2))/\Hid (∃q,wr=w3.drewN q)) (fun iv _=>m-(intOf iv).toNat)
   case atStart=>exact⟨0,nB,rfl,rfl,0,rfl⟩
   case round=>
    obtain⟨i,hi,rfl,hE,HQ⟩:=hrel;clear k1 k2;have Q:Hid (Below w w wr):=(by obtain⟨q,hq⟩:=HQ.out;rw[hq];exact below_drewN ac.out q);have aw:Hid (Blk wr w 53 #[.slice A1 n c1, .slice B1 m d1]):=(by obtain⟨q,hq⟩:=HQ.out;rw[hq];exact ab.out.drewN q);have ax:Hid (Blk wr (w.heap.size+1) 53 #[.slice A2 n2 c2, .slice B2 m d2]):=(by obtain⟨q,hq⟩:=HQ.out;rw[hq];exact Z.out.drewN q);have an:Hid (∀q2,∃q,wr.drewN q2=w3.drewN q):=fun q2=>by obtain⟨q,hq⟩:=HQ.out;exact⟨q+q2,by rw[hq,EW]⟩
    have k1:=aw.out.iy 1;have k2:=ax.out.iy 1;by_cases az:i<m
    ·have gi:=ja ((i:Int)<m);have a1:=ja (i<m);obtain⟨g1,g2,C1,a4,e1,C2,a3,e2,x,y,rfl,rfl,x1,x2,gx,gy,D⟩:=HW.out wr i Q.out az;have he:=hE.out;rw[UJ gx gy]at he;have y0:(0:Int)<=(i:Int):=nB;have y1:(i:Int)<(m:Int):=nB;clear hE HQ gx gy HW;by_cases j:x=y
     ·rw[AQ j,Bool.true_and]at he;rw[AQ j]at D;have HE:=hid he;have D:=hid D;clear he j;go_wp2_with fail;go_quiet ((go_at_call 35;exact Calls.quiet_of (D.out _)));go_wp2_with fail;go_roundw
      case measure=>exact ld
      case rel=>go_light;exact⟨i+1,nB,jk,HE.out,an.out _⟩
     ·rw[AV j,G0]at he;rw[AV j]at D;have HE:=hid he;have D:=hid D;clear he j;go_wp2_with fail;go_quiet ((go_at_call 35;exact Calls.quiet_of (D.out _)));go_wp2_with fail;go_ret;exact⟨Ff HE.out,below_drewN Q.out _⟩
    ·obtain rfl:i=m:=by omega
     have gi:=jb ((i:Int)<i);have he:=hE.out;rw[CF (Nat.le_of_eq HM.out.symm),CF (Nat.le_of_eq al.out.symm)]at he;have HE:=hid he;clear he hE HW;go_wp2_with fail;go_ret;exact⟨Ff nD,Q.out⟩
  ·have hR:decide (X.2=Y.2)=false:=AV fun e=>by have a:=HM.out;have b:=al.out;rw[e]at a;omega
   have gm:((m:Int) != (m2:Int))=true:=oX;have au:=hid hR;clear hR M HV;go_wp2_with fail;go_ret;exact⟨Ff au.out.symm,ac.out⟩
end Idx
end
variable{C L T:List Nat}{F i:List (List Nat)}{cv gx k:Nat}{w w' wr:World}{vals:List Value}{vT:Value}{Av:Option Addr}
namespace Body
open Go.RowKit Mem Own Canon Nums Recs Opts
open Idx (Str IxAt eqX AW BP jZ)
def Ga(C T L:List Nat)(F:List (List Nat)):Nat->Nat->List Rec->List Rec×Int
 |0,_,acc=>(acc,0)
 |m+1,k,acc=>if Fv C F k≠0 then([],Fv C F k)else Ga C T L F m (k+1) (acc++GD C T L F k)
def nZ(l:List Rec):List Str×List (List Nat):=(AW (l.map jZ),(AW (l.map jZ)).map (BP (l.map jZ)))
def Mi(X:List Str×List (List Nat))(R:List Rec×Int):Int:=if R.2≠0 then R.2 else if DQ R.1≠0 then 6 else if eqX X (nZ R.1)=true then 0 else 15
def Hy(C T L:List Nat)(X:List Str×List (List Nat))(F:List (List Nat)):Int:=Mi X (Ga C T L F F.length 0 [])
def Ju(C T L:List Nat)(X:List Str×List (List Nat))(F:List (List Nat)):List Rec:=if Hy C T L X F=0 then(Ga C T L F F.length 0 []).1 else []
theorem WW(h:Fv C F k=0):(GD C T L F k).length=C.getD k 0:=by
 rw[show GD C T L F k=_ from Ag h,Ls];unfold Fv at h;split at h
 ·rename_i h1;exact absurd h h1
 ·split at h
  ·cases h
  ·split at h
   ·rename_i h1;exact absurd h h1
   ·split at h
    ·cases h
    ·rename_i h1;exact LM h1
theorem Pb(h:k<C.length):(C.take (k+1)).sum=(C.take k).sum+C.getD k 0:=by rw[<-List.take_append_getElem h,NG,Aq,AD h];simp
theorem PC{l:List Rec}(h:DQ l=0):(∀r∈l,r.source.size<=50000/\r.text.size<=50000)/\(nZ l).1.length<=2000000/\(nZ l).2.length<=2000000/\(∀x∈(nZ l).2,x.length<=2000000):=by
 have h1:=One.Hn h
 have hw:Bq l<=1048576/\l.length<=20000:=by
  unfold DQ at h;split at h
  ·cases h
  ·split at h
   ·cases h
   ·split at h
    ·cases h
    ·constructor<;>omega
 have a:=Lm (l.map jZ);have b:=Ke l;have c:(AW (l.map jZ)).length<=2000000:=nB
 refine⟨fun r hr=> ?_,c,?_,fun x hx=> ?_⟩
 ·have h2:=h1 r hr;unfold Cc at h2;simp at h2;omega
 ·unfold nZ;simp only;rw[Bk];exact c
 ·unfold nZ at hx;simp only at hx;obtain⟨u,_,rfl⟩:=Cl.1 hx;have:=Idx.LZ (l.map jZ) u;rw[Bk]at this;omega
def OJ(C T L:List Nat)(X:List Str×List (List Nat))(F:List (List Nat))(w:World)(e:Ending)(w':World):Prop:=
 ∃v,e= .returned (.tuple #[v, .int .i64 (Hy C T L X F)])/\w'.ownsRow w 43 4 v (Ju C T L X F).length (BX (Ju C T L X F))/\Below w w w'
theorem OC{X:List Str×List (List Nat)}{er:Int}(hE:Hy C T L X F=er)(h:er≠0)(hb:Below w w w'):OJ C T L X F w (.returned (.tuple #[(),er])) w':=by subst hE;refine⟨_,rfl,?_,hb⟩;rw[show Ju C T L X F= [] from Ae h];exact AE _ _ _ _
end Body
namespace Idx
open Go.RowKit Mem Own Canon Sift
open NumPut Recs Crc Block
open Ef Nums
theorem LsAt.set{base b:Nat}{vL:Value}{j:List (List Nat)}{cs:Array Value}(h:LsAt w base vL vals j)(E:Blk w b 53 cs)(k:Nat)(u:Value):LsAt (w.setCell ⟨b,k,none⟩ u) base vL vals j:=
 ⟨Cb h.l (iZ h.l E ji) _,fun i v ids hv hi=>Cb (h.r i v ids hv hi) (iZ (h.r i v ids hv hi) E ji) _⟩
structure RIx (w wr:World) (gx:Nat) (vT:Value) (ts:List Str) (Av:Option Addr) (k cv:Nat) (vals:List Value) (acc:List (List Nat)):Prop where
 bx:Blk wr gx 53 #[vT, .slice Av k cv]
 br:Blk wr w 53 #[(),()]
 ls:LsAt wr w (.slice Av k cv) vals acc
 ot:wr.ownsRow w 9 1 vT ts.length (AO ts)
 bel:Below w w wr
 ne:w.heap.size<gx
theorem RIx.step{ts:List Str}(h:RIx w wr gx vT ts Av k cv vals i)(hb:Below wr wr w'):RIx w w' gx vT ts Av k cv vals i:=
 ⟨h.bx.step hb,h.br.step hb,h.ls.step hb,eZ h.ot (fun y hy=>hb.block y (Ai h.ot y hy).2),h.bel.trans (hb.mono h.bel.size),h.ne⟩
theorem RIx.add{w7:World}{ts:List Str}{A7:Option Addr}{c7:Nat}{u:Value}{j:List Nat}(h:RIx w wr gx vT ts Av k cv vals i)(hu:wr.ownsRow w 3 1 u j.length (bZ .i64 j))(hk:i.length=k)(hg:wr.grownBy w7 (Value.slice Av k cv).ownBlock)(E:w7.ownsRow w 37 1 (.slice A7 (k+1) c7) (k+1) (vals++ [u])):
 RIx w (w7.setCell ⟨gx,1,none⟩ (.slice A7 (k+1) c7)) gx vT ts A7 (k+1) c7 (vals++ [u]) (i++ [j]):=by
 have b7:=h.bx.grown hg (By (iZ h.ls.l h.bx ji));have r7:=h.br.grown hg (By (iZ h.ls.l h.br ji));have J:=h.ne;have G:=h.ls.add hu hg (by rw[hk];exact E);exact⟨by simpa using b7.set 1 (.slice A7 (k+1) c7),r7.far (by show _≠gx;omega) _,G.set b7 1 _,Cb (own_far h.ot h.ls.l ji hg) (iZ (own_far h.ot h.ls.l ji hg) b7 ji) _,BN (by show _<=gx;omega) (h.bel.grown hg h.bel.size (fun y hy=>(Ai h.ls.l y hy).1)),h.ne⟩
end Idx
namespace Idx
open Go.RowKit Mem Own Canon Sift
open NumPut Recs Crc Block
open Ef Nums
def KW(w:World)(ts:List Str)(ls:List (List Nat))(e:Ending)(w':World):Prop:=
 ∃vT vL vals,e= .returned (.agg #[vT,vL])/\IxAt w' w vT vL vals ts ls/\Below w w w'
theorem No(w:World)(gb base:Nat)(vT vL:Value)(vals:List Value)(ts:List Str)(ls:List (List Nat))(c6:w.cell? ⟨gb,6,none⟩=some vT)(c7:w.cell? ⟨gb,7,none⟩=some vL)(h:IxAt w base vT vL vals ts ls)(az:ts.length<=1100000)(a0:ls.length<=1100000)(aw:∀l∈ls,l.length<=1100000)(a9:gb<w.heap.size):
 Calls prog 22 #[.pointer (some ⟨gb,0,none⟩)] w (KW w ts ls):=by
 obtain⟨j0,be,a4,bb,bd⟩:=info_parts Qn;have t1:=h.t;have l1:=h.l;obtain⟨n,hn⟩:=jc ts.length;obtain⟨m,hm⟩:=jc ls.length;rw[<-hn]at t1 az;rw[<-hm]at l1 a0;obtain⟨A1,c1,rfl⟩:=aZ t1;obtain⟨B1,d1,rfl⟩:=aZ l1;have DT:=hid (fun wx (hb:Below w w wx)=>UH wx base A1 n c1 (AO ts) nB (eZ t1 (fun y hy=>hb.block y (Ai t1 y hy).2)) (JR ts));have HV:Hid (∀i,i<m->∃C1 k1 e1 j,vals[i]? =some (.slice C1 k1 e1)/\ls[i]? =some j/\j.length=k1/\k1<=1100000):=fun i hi=>by have bq:=h.len;obtain⟨j,gi⟩:∃j,ls[i]? =some j:=⟨_,AD nB⟩;obtain⟨x1,g1⟩:∃x,vals[i]? =some x:=⟨_,AD nB⟩;obtain⟨C1,e1,rfl⟩:=aZ (h.r i _ j g1 gi);exact⟨C1,_,e1,j,g1,gi,rfl,aw j (AY gi)⟩
 have bc:=hid h;have av:=hid l1;have a3:=hid hn;have ar:=hid hm;unfold KW;clear h t1 hn hm aw;go_enter func22,ntmps22;go_wp2_with fail;have aa:Below w w (w.alloc (.cells #[(),()] 53)):=cZ (Ak _ _);have ac:Blk (w.alloc (.cells #[(),()] 53)) w 53 #[(),()]:=Blk.made _ _ _;have bp:w.heap.size+1<=(w.alloc (.cells #[(),()] 53)).heap.size:=pR
 generalize w.alloc (.cells #[(),()] 53)=w1 at *;have D1:=hid (DT.out _ aa);have ai:=hid aa;have am:=hid ac;clear aa ac DT;refine D1.out.mono ?_;rintro e w2 ⟨v,rfl,ho,N⟩;have M:Hid (Below w w w2):=ai.out.trans (N.mono nB);have au:=hid (am.out.step N);have ak:=hid ho;have z2:=N.size;obtain⟨A2,c2,rfl⟩:=aZ ho;have c7:w2.cell? ⟨gb,7,none⟩=some (.slice B1 m d1):=(M.out.cell (p:=⟨gb,7,none⟩) a9).trans c7;have bh:gb<w2.heap.size:=by have:=M.out.size;omega
 clear ho N D1 ai am c6;go_wp2_with fail;have Q:Below w2 w2 (w2.alloc (.cells #[.slice A2 n c2,()] 53)):=cZ (Ak _ _);have al:Hid (RIx w (w2.alloc (.cells #[.slice A2 n c2,()] 53)) w2 (.slice A2 n c2) ts none 0 0 [] []):=⟨Blk.made _ _ _,au.out.step Q,LsAt.nil _ _,lZ (by have h:=(ak.out).alloc (.cells #[.slice A2 n c2,()] 53);rw[a3.out]at h ⊢;exact h) nB,M.out.trans (Q.mono nB),nB⟩;generalize bg:w2.heap.size=gx at *;generalize w2.alloc (.cells #[.slice A2 n c2,()] 53)=w3 at *;have bu:w.heap.size<gx:=nB
 have c7:w3.cell? ⟨gb,7,none⟩=some (.slice B1 m d1):=(Q.cell (p:=⟨gb,7,none⟩) (by show gb<gx;omega)).trans c7;clear Q au ak M bg z2;go_loopw [22] (fun iv wr=>∃ (k cv:Nat) (Av:Option Addr) (vs:List Value),k<=m/\iv= .int .i64 k/\Hid (RIx w wr gx (.slice A2 n c2) ts Av k cv vs (ls.take k))) (fun iv _=>m-(intOf iv).toNat)
 case atStart=>exact⟨0,0,none,[],nB,jk,al.out⟩
 case round=>
  obtain⟨k,cv,Av,vs,hk,rfl,HI⟩:=hrel;clear al c7;have zr:=HI.out.bel.size;by_cases ba:k<m
  ·have gk:=ja ((k:Int)<m);have bt:=ja (k<m);obtain⟨C1,k1,e1,j,hv,hi,hl,bm⟩:=HV.out k ba;have ab:wr.ownsRow base 37 1 (.slice B1 m d1) m vals:=eZ av.out (fun y hy=>HI.out.bel.block y (Ai av.out y hy).2);obtain⟨gv,bk,a5,bi,_⟩:=ab.form nB;injection a5 with q1 q2 q3;subst q1 q3;clear q2;have ck:wr.cell? ⟨gv,k,none⟩=some (.slice C1 k1 e1):=(by rw[ab.cellAt k nB];exact hv);have bj:(0:Int)<=(k:Int):=nB;have bn:(k:Int)<(m:Int):=nB;have ag:Hid (wr.ownsRow base 3 1 (.slice C1 k1 e1) k1 (bZ .i64 j)):=(by have h:=bc.out.r k _ j hv hi;rw[hl]at h;exact eZ h (fun y hy=>HI.out.bel.block y (Ai h y hy).2));have DC:=hid (fun wx (hb:Below wr wr wx)=>ZA wx base C1 k1 e1 (bZ .i64 j) nB (eZ ag.out (fun y hy=>hb.block y (Ai ag.out y hy).2)) (qZ _ _));have a6:Hid (ls.take (k+1)=ls.take k++ [j]):=(by show _=_;rw[Ca,hi];rfl);have bf:=hid hl;have q1:=HI.out.bx.iy 1;have aq:Hid ((ls.take k).length=k):=(by show _=_;rw[Bc,<-ar.out];omega);have Y:Hid (wr.ownsRow w 37 1 (.slice Av k cv) k vs):=(by have h:=HI.out.ls.l;rw[aq.out]at h;exact h);clear ab hv hi hl;go_upto_region 7 with fail;go_region_law(first|(go_simp;go_at_call 62;(with_reducible refine(DC.out _ qo).mono ?_);rintro e w4 ⟨v4,rfl,Z,ae⟩;obtain⟨A4,c4,rfl⟩:=aZ Z;have E:Below wr wr w4:=dZ ae qo;have G:=HI.out.step E;have p1:=G.bx.cell 1;have L:Hid (w4.ownsRow w 37 1 (.slice Av k cv) k vs):=eZ Y.out (fun y hy=>E.block y (Ai Y.out y hy).2);have bl:=E.size;have p9:=(G.bx.alloc (.cells #[.slice A4 k1 c4] 37)).cell 1;simp only[List.getElem?_toArray,List.getElem?_cons_zero,List.getElem?_cons_succ]at p1 p9)|(refine Body.OE rfl (.tmp 27) (.tmp 30) 51 rfl w 37 j0 _ 1 24 underlying51 be a4 bb bd rfl ji (.slice Av k cv) k vs nC (by first|exact L.out.alloc _|exact(L.out.alloc _).drew) _ 1 1 [.slice A4 k1 c4] nC (Src.of_blk (Blk.made_at _ _ _ pR) 1 1 1 rfl) mY qn nB p5 ?_;intro A5 c5 w5 J U an;have b5:=(G.bx.alloc (.cells #[.slice A4 k1 c4] 37)).grown U (By (iZ L.out G.bx ji));have r1:=b5.iy 1;have s1:=b5.frozen 1))
   all_goals
    have aj:=G.step (cZ (o:= .cells #[.slice A4 k1 c4] 37) (Ak w4 w4));have ax:(w4.alloc (.cells #[.slice A4 k1 c4] 37)).ownsRow w 3 1 (.slice A4 k1 c4) j.length (bZ .i64 j):=(by rw[bf.out];exact lZ (Z.alloc _) (by simpa using zr));have a1:Hid (RIx w (w5.setCell ⟨gx,1,none⟩ (.slice A5 (k+1) c5)) gx (.slice A2 n c2) ts A5 (k+1) c5 (vs++ [.slice A4 k1 c4]) (ls.take (k+1))):=(by show RIx _ _ _ _ _ _ _ _ _ _;rw[a6.out];exact aj.add ax aq.out U J);clear aj ax J U an b5 r1 s1 p1 p9 Z ae E L HI DC Y G ck q1;generalize w5.setCell ⟨gx,1,none⟩ (.slice A5 (k+1) c5)=w6 at *;go_wp2_with fail;go_roundw
    case measure=>exact ld
    case rel=>go_light;exact⟨k+1,c5,A5,vs++ [Value.slice A4 k1 c4],nB,jk,a1.out⟩
  ·obtain rfl:k=m:=by omega
   have gk:=jb ((k:Int)<k);have k0:=HI.out.br.iy 0;have k1:=HI.out.br.iy 1;have f0:=HI.out.br.frozen 0;have f1:=HI.out.br.frozen 1;have q0:=HI.out.bx.iy 0;have q1:=HI.out.bx.iy 1;have ah:Hid (ls.take k=ls):=Bp (by rw[ar.out];exact Am _);go_wp2_with fail;refine Df (v:= .agg #[.slice A2 n c2, .slice Av k cv]) ?_ rfl ⟨_,_,vs,rfl,?_,?_⟩
   ·have af:=(HI.out.br.set 0 (.slice A2 n c2)).set 1 (.slice Av k cv);have e0:=af.cell 0;have e1:=af.cell 1;simp at e0 e1;simp[results,results22,go_sem,e0,e1]
   ·have ay:IxAt wr w (.slice A2 n c2) (.slice Av k cv) vs ts ls:=⟨HI.out.ot,by have h:=HI.out.ls.l;rw[ah.out]at h;exact h,by have h:=HI.out.ls.r;rw[ah.out]at h;exact h⟩;exact(ay.set HI.out.br 0 _).set (HI.out.br.set 0 _) 1 _
   ·exact BN (Am _) (BN (Am _) HI.out.bel)
end Idx
namespace Body
open Go.RowKit Mem Own Canon Nums Recs Opts
open Crc (Fy GO FB TabAt)
open Block (opE opO opA Ub Nd RN PF R9)
theorem gS(w:World)(gb n c k:Nat)(A:Option Addr)(C:List Nat)(hc:w.cell? ⟨gb,0,none⟩=some (.slice A n c))(hn:C.length=n)(hN:n<=1000000)(hs:C.sum<=1000000000)(hk:k<=n)(i:n<=c)(hA:∀a,A=some a->a.add 0=a)(ha:Row w w A n 1 (kZ .i64 C)):
 Calls prog 124 #[.pointer (some ⟨gb,0,none⟩), .int .i64 (k:Nat)] w fun e w'=>e= .returned (.int .i64 ((C.take k).sum:Nat))/\w'=w:=by
 have h:(C.take k).sum<=C.sum:=Body.K0 C k;have D:=hid (sum_any w A k c (C.take k) nY nB nB (GO ha hk));have ks:=fun wx=>FB (P:=prog) (t:=37) (s:=1) underlying37 (fun _=>by kernel_rfl) A n c .i64 (k:Int) k rfl nB hA wx;generalize (C.take k).sum=S at *;clear hn ha hs h hA;go_enter func124,ntmps124;go_wp2_with fail;refine D.out.mono ?_;rintro e w1 ⟨rfl,rfl⟩;go_wp2_with fail;go_ret;exact⟨rfl,rfl⟩
theorem iG(w:World)(base gb k:Nat)(C S T L:List Nat)(X:List Idx.Str×List (List Nat))(F:List (List Nat))(K:List Bool)(hk:k<F.length)(am:C.length=F.length)(hT:T.length=C.sum)(hL:L.length=C.sum)(hF:∀f∈F,f.length<=100000/\∀x∈f,x<=255)(hN:C.sum<=20000)(bg:F.length<=20000)(ht:TabAt w)(bm:BodyAt w base gb C S T L X F K):
 Calls prog 63 #[.pointer (some ⟨gb,0,none⟩), .int .i64 (k:Nat)] w (OV C T L F k w):=by
 obtain⟨vc,vs,p,q,vt,vl,vT,vL,vF,va,vals,fv,h0,h1,h2,h3,h4,h5,h6,h7⟩:=bm;have bf:fv.length=F.length:=by have:=h6.l.1;omega
 obtain⟨f,hf⟩:∃f,F[k]? =some f:=⟨_,AD hk⟩;obtain⟨u,hu⟩:∃u,fv[k]? =some u:=⟨_,AD nB⟩;have G:=h6.r k u f hu hf;have ai:F.getD k []=f:=by rw[Aq,hf];rfl
 obtain⟨cn,au⟩:∃cn,C[k]? =some cn:=⟨_,AD nB⟩;have ax:C.getD k 0=cn:=by rw[Aq,au];rfl
 have bF:(C.take k).sum+cn<=C.sum:=by rw[<-ax];exact XP k
 have ac:=hF f (AY hf);have M:=h6.l;have E:=hid (show Fv C F k=if opE f≠0 then opE f else if opA f<f.length then 2 else if(Gy (opO f)).2≠0 then(Gy (opO f)).2 else if(Gy (opO f)).1.length≠cn then 2 else 0 by unfold Fv;rw[ai,ax]);have Q:Hid (Fv C F k=0->GD C T L F k=Ep T L (C.take k).sum (Gy (opO f)).1):=fun h=>by unfold GD;rw[Ag h,ai]
 obtain⟨nf,a6⟩:=jc F.length;obtain⟨kc,ab⟩:=jc C.length;obtain⟨nt,az⟩:=jc T.length;obtain⟨nl,a9⟩:=jc L.length;obtain⟨n,hn⟩:=jc f.length;rw[<-a6]at M hk bg am;rw[<-ab]at h1 am;rw[<-az]at h3 hT;rw[<-a9]at h4 hL;rw[<-hn]at G;obtain⟨Ac,dC,rfl⟩:=aZ h1;obtain⟨At,ct,rfl⟩:=aZ h3;obtain⟨Al,cl,rfl⟩:=aZ h4;obtain⟨AF,dF,rfl⟩:=aZ M;obtain⟨Af,cf,rfl⟩:=aZ G;obtain⟨gF,bN,bt,bj,_⟩:=M.form nB;injection bt with q1 q2 q3;subst q1 q3;clear q2;obtain⟨gC,bM,bp,bq,_⟩:=h1.form nB;injection bp with q1 q2 q3;subst q1 q3;clear q2;have cF:=(M.cellAt k nB).trans hu;have cC:w.cell? ⟨gC,k,none⟩=some (.int .i64 (cn:Nat)):=by rw[h1.cellAt k nB];unfold bZ;rw[BR,au];rfl
 have HS:Hid (∀wx,Below w w wx->wx.cell? ⟨gb,8,none⟩=some (.slice (some ⟨gF,0,none⟩) nf dF)/\wx.cell? ⟨gF,k,none⟩=some (.slice Af n cf)/\wx.cell? ⟨gb,0,none⟩=some (.slice (some ⟨gC,0,none⟩) kc dC)/\wx.cell? ⟨gC,k,none⟩=some (.int .i64 (cn:Nat))/\wx.cell? ⟨gb,4,none⟩=some (.slice At nt ct)/\wx.cell? ⟨gb,5,none⟩=some (.slice Al nl cl)):=fun wx hb=>⟨(h0.step hb).cell 8,(hb.cell (p:=⟨gF,k,none⟩) (Ai M gF rfl).2).trans cF,(h0.step hb).cell 0,(hb.cell (p:=⟨gC,k,none⟩) (Ai h1 gC rfl).2).trans cC,(h0.step hb).cell 4,(h0.step hb).cell 5⟩;have aa:=ac.2;have bi:=PF aa;have a1:=R9 aa;have ba:=hid a1;have bc:Hid ((opO f).length<=100000):=by show _<=_;have:=ac.1;omega
 have U:=Ef.own_row G hn.symm;have D1:=hid (Ub w f Af n cf hn.symm (by have:=ac.1;omega) (Ew G).2 (Ew G).1 (fun h=>RN U nB) aa ht U);unfold Nd at D1;have DF:=hid (fun wx (hb:Below w w wx)=>gS wx gb kc dC k (some ⟨gC,0,none⟩) C (HS.out wx hb).2.2.1 ab.symm nB nB nB (Ew h1).2 (fun a ha=>by injection ha with ha;subst ha;rfl) (Ef.own_row (eZ h1 fun y hy=>hb.block y (Ai h1 y hy).2) ab.symm));have HT:Hid (∀wx i,Below w w wx->i<nt->∃g,At=some ⟨g,0,none⟩/\wx.cell? ⟨g,i,none⟩=some (.int .u64 (T.getD i 0:Nat))):=fun wx i hb hi=>by obtain⟨b,cX,hA,hg,_⟩:=h3.form nB;injection hA with q1 q2 q3;subst q1;have h:=h3.cellAt i nB;refine⟨b,rfl,(hb.cell (p:=⟨b,i,none⟩) (Ai h3 b rfl).2).trans (h.trans ?_)⟩;unfold bZ;rw[BR,Aq,AD nB];rfl
 have HL:Hid (∀wx i,Below w w wx->i<nl->∃g,Al=some ⟨g,0,none⟩/\wx.cell? ⟨g,i,none⟩=some (.int .u8 (L.getD i 0:Nat))):=fun wx i hb hi=>by obtain⟨b,cX,hA,hg,_⟩:=h4.form nB;injection hA with q1 q2 q3;subst q1;have h:=h4.cellAt i nB;refine⟨b,rfl,(hb.cell (p:=⟨b,i,none⟩) (Ai h4 b rfl).2).trans (h.trans ?_)⟩;unfold bZ;rw[BR,Aq,AD nB];rfl
 obtain⟨s1,s2,s3,s4,s5,s6⟩:=HS.out w (Ak _ _);have b1:(k:Int)<(nf:Int):=nB
 have bW:(k:Int)<(kc:Int):=nB
 have b4:(0:Int)<=(k:Int):=nB
 have Y:Hid ((C.take k).sum+cn<=nt/\(C.take k).sum+cn<=nl/\(C.take k).sum+cn<=20000):=by show _/\_;omega
 generalize (C.take k).sum=a0 at *;have ah:Hid (f.length=n):=hn.symm;clear h0 h1 h2 h3 h4 h5 h6 h7 M G hu hf ai au ax bF ac hn a6 ab az a9 aa bi a1 U cF cC hT hL hF hN ht bj bq bf am;go_enter func63,ntmps63;go_wp2_with fail;refine D1.out.mono ?_;rintro e w1 ⟨v1,rfl,J,N⟩;obtain⟨A1,c1,rfl⟩:=aZ J;have B1:=hid N;obtain⟨s1,s2,s3,s4,s5,s6⟩:=HS.out w1 N;have al:=N.size;by_cases j:opE f=0
 ·have hE:=E.out;rw[Ae (by simp[j])]at hE;rw[j];by_cases af:opA f<f.length
  ·rw[Ag af]at hE;have HE:=hid hE;have ga:decide ((opA f:Int)<(n:Int))=true:=pY;have be:decide (opA f<n)=true:=pY;generalize opA f=oa at *;clear E hE J N D1 DF j af HT HL Y Q HS;go_wp2_with fail;go_ret2;exact M8 HE.out ji B1.out
  ·rw[Ae af]at hE;have ga:decide ((opA f:Int)<(n:Int))=false:=pY;have be:decide (opA f<n)=false:=pY;have D2:=hid (dD w1 A1 _ c1 (opO f) rfl bc.out ba.out (Ew J).1 (Ef.own_row J rfl));unfold U0 at D2;generalize opA f=oa at *;generalize hR:Gy (opO f)=R at *;generalize (opO f).length=lo at *;obtain⟨R,re⟩:=R;simp only at hE D2;have HE:=hid hE;clear E hE J N D1 j af hR;go_wp2_with fail;refine D2.out.mono ?_;rintro e w2 ⟨v2,rfl,ae,ak⟩;obtain⟨m,hm⟩:=jc R.length;rw[<-hm]at ae;obtain⟨A2,c2,rfl⟩:=aZ ae;have B2:Hid (Below w w w2):=B1.out.trans (ak.mono al);obtain⟨s1,s2,s3,s4,s5,s6⟩:=HS.out w2 B2.out;have bd:Hid (w2.ownsRow w1 43 4 (.slice A2 m c2) m (BX R)):=ae;have bb:=hid ak;have HM:=hid hm;clear ae ak D2 hm;by_cases Z:re=0
   ·subst Z;by_cases a5:m=cn
    ·subst a5;have gm:((m:Int) != (m:Int))=false:=pR;have ay:Hid (Fv C F k=0):=(by have h:=HE.out;rw[Ae pR,Ae (by simp[HM.out])]at h;exact h);have a4:Hid (GD C T L F k=Ep T L a0 R):=Q.out ay.out;have D3:=hid (DF.out w2 B2.out);obtain⟨l1,l2,l3⟩:=Y.out;clear HE Q DF;go_wp2_with fail;refine D3.out.mono ?_;rintro e w3 ⟨rfl,rfl⟩;clear D3;go_wp2_with fail;go_loopw [67] (fun iv wr=>∃i:Nat,i<=m/\iv= .int .i64 i/\Hid (wr.ownsRow w1 43 4 (.slice A2 m c2) m (BX (FH T L a0 R i)))/\Hid (Below w1 w1 wr)) (fun iv _=>m-(intOf iv).toNat)
     case atStart=>exact⟨0,nB,rfl,by rw[lF];exact bd.out,bb.out⟩
     case round=>
      obtain⟨i,hi,rfl,HO,HB⟩:=hrel;have ag:Hid (Below w w wr):=B1.out.trans (HB.out.mono al);by_cases an:i<m
      ·obtain⟨gt,bl,bk⟩:=HT.out wr (a0+i) ag.out nB;obtain⟨gl,bh,bn⟩:=HL.out wr (a0+i) ag.out nB;subst bl bh;obtain⟨s1,s2,s3,s4,s5,s6⟩:=HS.out wr ag.out;have ho:=HO.out;obtain⟨gr,cX,bC,a3,_⟩:=ho.form nB;injection bC with q1 q2 q3;subst q1 q3;clear q2;have gk:=ja ((i:Int)<m);have bX:=ja (i<m);have b0:(0:Int)<=(i:Int):=nB;have bU:(i:Int)<(m:Int):=nB;have b3:IntKind.i64.wrap ((a0:Int)+(i:Int))=((a0+i:Nat):Int):=nX;have b5:(0:Int)<=((a0+i:Nat):Int):=nB;have bS:((a0+i:Nat):Int)<(nt:Int):=nB;have bO:((a0+i:Nat):Int)<(nl:Int):=nB;have ar:i<(FH T L a0 R i).length:=(by rw[Xj,<-HM.out];exact an);have k0:wr.cell? ⟨gr,i*4,none⟩=some (.int .u64 ((FH T L a0 R i).getD i GC).time):=(ho.cellAt (i*4) nB).trans (M0 _ i 0 ar nB);have k1:wr.cell? ⟨gr,i*4+1,none⟩=some (.int .u8 ((FH T L a0 R i).getD i GC).level):=(ho.cellAt (i*4+1) nB).trans (M0 _ i 1 ar nB);have f0:=ho.frozenAt (i*4);have f1:=ho.frozenAt (i*4+1);generalize ((FH T L a0 R i).getD i GC).time=z0 at k0;generalize ((FH T L a0 R i).getD i GC).level=z1 at k1;obtain⟨tv,av⟩:=jc (T.getD (a0+i) 0);obtain⟨lv,aw⟩:=jc (L.getD (a0+i) 0);rw[<-av]at bk;rw[<-aw]at bn;have bu:=hid av;have bG:=hid aw;clear ho HT HL av aw ar;go_wp2_with fail;go_region;go_wp2_with fail;go_roundw
       case measure=>exact ld
       case rel=>go_light;refine⟨i+1,nB,lj,?_,((HB.out.setCell (p:=⟨gr,i*4,none⟩) a3 _).setCell (p:=⟨gr,i*4+1,none⟩) a3 _).drew⟩;rw[bu.out,bG.out,<-jQ (by rw[<-HM.out];exact an)];exact(World.ownsRow.stored (World.ownsRow.stored HO.out (i*4) _).1 (i*4+1) _).1.drew
      ·obtain rfl:i=m:=by omega
       have gk:=jb ((i:Int)<i);clear HT HL HS an;go_wp2_with fail;go_ret2;have hz:FH T L a0 R i=Ep T L a0 R:=(by rw[HM.out];exact XC ..);refine⟨.slice A2 i c2,by rw[ay.out];rfl,?_,ag.out⟩;rw[a4.out,Ls,<-HM.out,<-hz];exact lZ HO.out al
    ·have gm:((m:Int) != (cn:Int))=true:=oX;have aj:Hid (Fv C F k=2):=(by have h:=HE.out;rw[Ae pR,Ag (by have:=HM.out;omega)]at h;exact h);clear HE DF a5 HT HL Y Q HS;go_wp2_with fail;go_ret2;exact M8 aj.out ji B2.out
   ·have gr:(re != 0)=true:=(by simpa using Z);have aj:Hid (Fv C F k=re):=(by have h:=HE.out;rw[Ag Z]at h;exact h);have aq:=hid Z;clear HE DF Z HT HL Y Q HS;go_wp2_with fail;go_ret2;exact M8 aj.out aq.out B2.out
 ·have hE:=E.out;rw[Ag j]at hE;have HE:=hid hE;have aq:=hid j;have gE:(opE f != 0)=true:=by simpa using j
  generalize opE f=oe at *;generalize opA f=oa at *;clear E hE J N D1 DF j HT HL Y Q HS;go_wp2_with fail;go_ret2;exact M8 HE.out aq.out B1.out
end Body
end Go.Proofs.YtfgdoknipbpfhaaGreatDoor
