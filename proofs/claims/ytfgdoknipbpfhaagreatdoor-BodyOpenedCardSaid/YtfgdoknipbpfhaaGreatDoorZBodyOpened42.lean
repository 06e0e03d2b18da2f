/- Compares of any two  -/
import Derived.Test.YtfgdoknipbpfhaaGreatDoorZBodyOpened41
namespace Go.Proofs.YtfgdoknipbpfhaaGreatDoor
open Go.Proofs.Tryz
open Go.Lib (hid)
set_option maxHeartbeats 1000000
set_option maxRecDepth 100000
namespace Idx
open Go.RowKit Mem Own Canon Sift
open NumPut Recs
theorem lF(w:World)(A B:Option Addr)(n m c d:Nat)(la lb:List Nat)(hn:la.length=n)(hm:lb.length=m)(hN:n<=3000000000)(hM:m<=3000000000)(ha:Row w w A n 1 (jZ .i64 la))(hb:Row w w B m 1 (jZ .i64 lb)):
 Calls prog 127 #[.slice A n c, .slice B m d] w fun e w'=>e= .returned (.bool (decide (la=lb)))/\∃q,w'=w.drewN q:=by
 by_cases he:n=m
 ·subst he;have HA:=hid ha;have HB:=hid hb;have HN:=hid hn;have HM:=hid hm;have z1:((n:Int) != (n:Int))=false:=by simp
  clear ha hb hn hm;go_enter func127,ntmps127;go_wp2_with fail;go_loopw [13] (fun i wx=>∃k:Nat,k<=n/\i= .int .i64 k/\Hid (decide (la.drop k=lb.drop k)=decide (la=lb))/\Hid (∃q,wx=w.drewN q)) (fun i _=>n-(intOf i).toNat)
  case atStart=>exact⟨0,mz,rfl,rfl,0,rfl⟩
  case round=>
   obtain⟨k,hk,rfl,hE,HQ⟩:=hrel;have y:Hid (∀nq,∃q,wr.drewN nq=w.drewN q):=fun nq=>my
   by_cases h:k<n
   ·have J:Row wr w A n 1 (jZ .i64 la):=(by obtain⟨q,hq⟩:=HQ.out;rw[hq];exact HA.out);have z:Row wr w B n 1 (jZ .i64 lb):=(by obtain⟨q,hq⟩:=HQ.out;rw[hq];exact HB.out);obtain⟨b1,o1,x1,rfl,Q,G,N⟩:=CF J HN.out h;obtain⟨b2,o2,x2,rfl,M,E,U⟩:=CF z HM.out h;have he:=hE.out;rw[Crc.SJ (by rw[HN.out];exact h) (by rw[HM.out];exact h),Ar,Ar,G,E]at he;simp only[Option.getD_some]at he;have y0:(0:Int)<=(k:Int):=mz;have y1:(k:Int)<(n:Int):=mz;have gk:=ic ((k:Int)<n);clear G E hE J z HQ;by_cases j:x1=x2
    ·subst j;rw[Be rfl,Bool.true_and]at he;have HE:=hid he;have e1:((x1:Int) != (x1:Int))=false:=pI;clear he;go_wp2_with fail;go_quiet (fail);go_wp2_with fail;go_roundw
     case measure=>exact jo
     case rel=>go_light;exact⟨k+1,mz,iu,HE.out,y.out _⟩
    ·rw[Bi j,I7]at he;have HE:=hid he;have e1:((x1:Int) != (x2:Int))=true:=oO;clear he j;go_wp2_with fail;go_quiet (fail);go_wp2_with fail;go_ret;exact⟨Hj HE.out,y.out _⟩
   ·obtain rfl:k=n:=by omega
    have gk:=ig ((k:Int)<k);have he:=hE.out;rw[Eb oq,Eb (by rw[HM.out];exact Aq _)]at he;have HE:=hid he;clear he hE y;go_wp2_with fail;go_ret;exact⟨Hj (by rw[<-HE.out];rfl),HQ.out⟩
 ·have hR:decide (la=lb)=false:=Bi fun e=>by rw[e]at hn;omega
  have z1:((n:Int) != (m:Int))=true:=oO
  rw[hR];clear hR hn hm ha hb he;go_enter func127,ntmps127;go_wp2_with fail;go_ret;exact⟨rfl,0,rfl⟩
theorem kF(w:World)(A A2:Option Addr)(n n2 c c2:Nat)(ls ms:List Str)(hn:ls.length=n)(G:ms.length=n2)(hN:n<=3000000000)(ha:Row w w A n 1 (Fu ls))(Y:Row w w A2 n2 1 (Fu ms)):
 Calls prog 125 #[.slice A n c, .slice A2 n2 c2] w fun e w'=>e= .returned (.bool (decide (ls=ms)))/\∃q,w'=w.drewN q:=by
 have HN:=hid hn;have aa:=hid G
 have HY:Hid (n=n2->(∀i,i<n->ls.getD i []=ms.getD i [])->decide (ls=ms)=true):=fun he h=>Be (List.ext_getElem mz fun i h1 h2=>by
  have:=h i mz
  rwa [Ar,Ar,AD h1,AD h2]at this)
 have z:Hid (∀ (i:Nat) x y,ls[i]? =some x->ms[i]? =some y->x≠y->decide (ls=ms)=false):=fun i x y hx hy hne=>Bi fun e=>by rw[e,hy]at hx;injection hx with hx;exact hne hx.symm
 have E:Hid (n≠n2->decide (ls=ms)=false):=fun hne=>Bi fun e=>by rw[e]at hn;omega
 generalize decide (ls=ms)=R at *;clear hn G;by_cases he:n=n2
 ·subst he;have z1:((n:Int) != (n:Int))=false:=by simp
  have ab:(n != n)=false:=pI
  clear E;go_enter func125,ntmps125;go_wp2_with fail;go_loopw [13] (fun iv wx=>∃k:Nat,k<=n/\iv= .int .i64 k/\Hid (∀i,i<k->ls.getD i []=ms.getD i [])/\Hid (∃q,wx=w.drewN q)) (fun iv _=>n-(intOf iv).toNat)
  case atStart=>exact⟨0,mz,rfl,fun i h=>absurd h mz,0,rfl⟩
  case round=>
   obtain⟨k,hk,rfl,HS,HQ⟩:=hrel;by_cases N:k<n
   ·have gk:=ic ((k:Int)<n);have Z:=ic (k<n);have x0:(0:Int)<=(k:Int):=mz;have x1:(k:Int)<(n:Int):=mz;have x2:(k:Int)<(n:Int):=mz;have U:Row wr w A n 1 (Fu ls):=(by obtain⟨q,hq⟩:=HQ.out;rw[hq];exact ha);have J:Row wr w A2 n 1 (Fu ms):=(by obtain⟨q,hq⟩:=HQ.out;rw[hq];exact Y);obtain⟨b,af,x,rfl,_,hx,ck⟩:=Row.str U HN.out N;obtain⟨b2,ac,y,rfl,_,hy,ae⟩:=Row.str J aa.out (show k<n by omega);have M:Hid (∀nq,∃q,wr.drewN nq=w.drewN q):=fun nq=>by obtain⟨q,hq⟩:=HQ.out;exact⟨_,oX⟩
    by_cases j:x=y
    ·have ge:((bs x).toList==(bs y).toList)=true:=by rw[str_eq];simpa using j
     have Q:Hid (∀i,i<k+1->ls.getD i []=ms.getD i []):=fun i h=>by
      by_cases e:i<k
      ·exact HS.out i e
      ·obtain rfl:i=k:=by omega
       rw[Ar,Ar,hx,hy,j]
     clear HS hx hy j HQ;go_wp2_with fail;go_quiet (fail);go_wp2_with fail;go_roundw
     case measure=>exact jo
     case rel=>go_light;exact⟨k+1,mz,iu,Q.out,M.out _⟩
    ·have ge:((bs x).toList==(bs y).toList)=false:=(by rw[str_eq];simpa using j);obtain rfl:=z.out k x y hx hy j;clear HS HY z hx hy j HQ;go_wp2_with fail;go_quiet (fail);go_wp2_with fail;go_ret;exact⟨rfl,M.out _⟩
   ·obtain rfl:k=n:=by omega
    have gk:=ig ((k:Int)<k);have Z:=ig (k<k);obtain rfl:=HY.out iy HS.out;clear HS HY z N;go_wp2_with fail;go_ret;exact⟨rfl,HQ.out⟩
 ·have z1:((n:Int) != (n2:Int))=true:=by simp;omega
  have ab:(n != n2)=true:=p7
  obtain rfl:=E.out he;clear HY z E he;go_enter func125,ntmps125;go_wp2_with fail;go_ret;exact⟨rfl,0,rfl⟩
theorem jL{la lb:List (List Nat)}{k:Nat}{x y:List Nat}(h:la[k]? =some x)(h':lb[k]? =some y):decide (la.drop k=lb.drop k)=(decide (x=y)&&decide (la.drop (k+1)=lb.drop (k+1))):=by obtain⟨h1,e1⟩:=CE.1 h;obtain⟨h2,e2⟩:=CE.1 h';rw[Kh,BX,decide_eq_true_eq,decide_eq_true_eq,decide_eq_true_eq,Df h1,Df h2,List.cons.injEq,e1,e2]
theorem iV(w:World)(A B:Option Addr)(n m c d p1 p2:Nat)(va vb:List Value)(la lb:List (List Nat))(hn:la.length=n)(hm:lb.length=m)(hN:n<=3000000000)(hM:m<=3000000000)(z:∀l∈la,l.length<=2000000)(E:∀l∈lb,l.length<=2000000)(h1:w.ownsRow p1 37 1 (.slice A n c) n va)(h2:w.ownsRow p2 37 1 (.slice B m d) m vb)
 (r1:∀ (i:Nat) v ids,va[i]? =some v->la[i]? =some ids->w.ownsRow p1 3 1 v ids.length (cZ .i64 ids))(r2:∀ (i:Nat) v ids,vb[i]? =some v->lb[i]? =some ids->w.ownsRow p2 3 1 v ids.length (cZ .i64 ids)):
 Calls prog 126 #[.slice A n c, .slice B m d, .func (.func 127) #[] #[]] w fun e w'=>e= .returned (.bool (decide (la=lb)))/\∃q,w'=w.drewN q:=by
 have hK:∀j wx,(callFunc 127 j).run prog wx= .ok (.enter 127 j) wx:=by intro j wx;simp[callFunc,go_sem,func127];rfl
 by_cases he:n=m
 ·subst he;have N:va.length=n:=by have:=h1.1;omega
  have M:vb.length=n:=by have:=h2.1;omega
  have HV:Hid (∀ (wx:World) i q,wx=w.drewN q->i<n->∃g1 g2 C1 k1 e1 C2 k2 e2 x y,A=some ⟨g1,0,none⟩/\B=some ⟨g2,0,none⟩/\wx.cell? ⟨g1,i,none⟩=some (.slice C1 k1 e1)/\wx.cell? ⟨g2,i,none⟩=some (.slice C2 k2 e2)/\la[i]? =some x/\lb[i]? =some y/\Calls prog 127 #[.slice C1 k1 e1, .slice C2 k2 e2] wx fun e w'=>e= .returned (.bool (decide (x=y)))/\∃q,w'=wx.drewN q):=fun wx i q hq hi=>by obtain⟨x,gx⟩:∃x,la[i]? =some x:=⟨_,AD mz⟩;obtain⟨y,gy⟩:∃y,lb[i]? =some y:=⟨_,AD mz⟩;obtain⟨u,gu⟩:∃u,va[i]? =some u:=⟨_,AD mz⟩;obtain⟨v,gv⟩:∃v,vb[i]? =some v:=⟨_,AD mz⟩;have o1:=r1 i u x gu gx;have o2:=r2 i v y gv gy;obtain⟨C1,e1,rfl⟩:=bZ o1;obtain⟨C2,e2,rfl⟩:=bZ o2;obtain⟨g1,c1,hA1,_,_⟩:=h1.form mz;injection hA1 with q1 q2 q3;subst q1;obtain⟨g2,c2,hA2,_,_⟩:=h2.form mz;injection hA2 with q1 q2 q3;subst q1;subst hq;exact⟨g1,g2,C1,_,e1,C2,_,e2,x,y,rfl,rfl,(h1.cellAt i mz).trans gu,(h2.cellAt i mz).trans gv,gx,gy,lF _ C1 C2 _ _ e1 e2 x y rfl rfl (by have:=z x (Bg gx);omega) (by have:=E y (Bg gy);omega) (Ef.own_row (eZ (w':=w.drewN q) o1 (fun _ _=>rfl)) rfl) (Ef.own_row (eZ (w':=w.drewN q) o2 (fun _ _=>rfl)) rfl)⟩
  have HN:=hid hn;have HM:=hid hm;have z1:((n:Int) != (n:Int))=false:=pI
  clear h1 h2 r1 r2 z E hn hm N M;go_enter func126,ntmps126;go_wp2_with fail;go_loopw [17] (fun i wx=>∃k:Nat,k<=n/\i= .int .i64 k/\Hid (decide (la.drop k=lb.drop k)=decide (la=lb))/\Hid (∃q,wx=w.drewN q)) (fun i _=>n-(intOf i).toNat)
  case atStart=>exact⟨0,mz,rfl,rfl,0,rfl⟩
  case round=>
   obtain⟨k,hk,rfl,hE,HQ⟩:=hrel;by_cases J:k<n
   ·obtain⟨q,hq⟩:=HQ.out;obtain⟨g1,g2,C1,k1,e1,C2,k2,e2,x,y,rfl,rfl,x1,x2,gx,gy,D⟩:=HV.out wr k q hq J;have he:=hE.out;rw[jL gx gy]at he;have G:Hid (∀nq,∃q,wr.drewN nq=w.drewN q):=fun nq=>⟨_,oX⟩;have y0:(0:Int)<=(k:Int):=mz;have y1:(k:Int)<(n:Int):=mz;have gk:=ic ((k:Int)<n);clear hE HQ hq gx gy HV;by_cases h:x=y
    ·rw[Be h,Bool.true_and]at he;rw[Be h]at D;have HE:=hid he;have D:=hid D;clear he h;go_wp2_with fail;refine D.out.mono ?_;rintro e w2 ⟨rfl,nq,rfl⟩;clear D x1 x2;go_wp2_with fail;go_roundw
     case measure=>exact jo
     case rel=>go_light;exact⟨k+1,mz,iu,HE.out,G.out _⟩
    ·rw[Bi h,I7]at he;rw[Bi h]at D;have HE:=hid he;have D:=hid D;clear he h;go_wp2_with fail;refine D.out.mono ?_;rintro e w2 ⟨rfl,nq,rfl⟩;clear D x1 x2;go_wp2_with fail;go_ret;exact⟨Hj HE.out,G.out _⟩
   ·obtain rfl:k=n:=by omega
    have gk:=ig ((k:Int)<k);have he:=hE.out;rw[Eb oq,Eb (by rw[HM.out];exact Aq _)]at he;have HE:=hid he;clear he hE HV;go_wp2_with fail;go_ret;exact⟨Hj (by rw[<-HE.out];rfl),HQ.out⟩
 ·have hR:decide (la=lb)=false:=Bi fun e=>by rw[e]at hn;omega
  have z1:((n:Int) != (m:Int))=true:=oO
  rw[hR];clear hR hn hm h1 h2 r1 r2 z E he;go_enter func126,ntmps126;go_wp2_with fail;go_ret;exact⟨rfl,0,rfl⟩
def eqX(X Y:List Str×List (List Nat)):Bool:=decide (X.1=Y.1)&&decide (X.2=Y.2)
theorem RU(w:World)(p1 p2:Nat)(vT vL U M:Value)(vals z:List Value)(X Y:List Str×List (List Nat))(h1:IxAt w p1 vT vL vals X.1 X.2)(h2:IxAt w p2 U M z Y.1 Y.2)(ae:X.1.length<=2000000)(ag:X.2.length<=2000000)(ac:∀l∈X.2,l.length<=2000000)(af:Y.2.length<=2000000)(Z:∀l∈Y.2,l.length<=2000000):
 Calls prog 65 #[.agg #[vT,vL], .agg #[U,M]] w fun e w'=>e= .returned (.bool (eqX X Y))/\Below w w w':=by
 unfold eqX;have t1:=h1.t;have t2:=h2.t;have l1:=h1.l;have l2:=h2.l;obtain⟨n,hn⟩:=ii X.1.length;obtain⟨m,hm⟩:=ii X.2.length;obtain⟨n2,j⟩:=ii Y.1.length;obtain⟨m2,G⟩:=ii Y.2.length;rw[<-hn]at t1 ae;rw[<-j]at t2;rw[<-hm]at l1 ag;rw[<-G]at l2 af;obtain⟨A1,c1,rfl⟩:=bZ t1;obtain⟨A2,c2,rfl⟩:=bZ t2;obtain⟨B1,d1,rfl⟩:=bZ l1;obtain⟨B2,d2,rfl⟩:=bZ l2;have DS:=hid (fun wx (hb:Below w w wx)=>kF wx A1 A2 n n2 c1 c2 X.1 Y.1 hn.symm j.symm mz (((NT (by rw[hn]at t1;exact t1)).below hb).mono hb.size |> fun h=>by rw[<-hn]at h;exact h) (((NT (by rw[j]at t2;exact t2)).below hb).mono hb.size |> fun h=>by rw[<-j]at h;exact h));have far:∀ {wx:World} {b s n:Nat} {e:TypeId} {v:Value} {xs:List Value},Below w w wx->w.ownsRow b e s v n xs->wx.ownsRow b e s v n xs:=fun hb ho=>eZ ho fun y hy=>hb.block y (Am ho y hy).2;have DF:=hid (fun wx (hb:Below w w wx)=>iV wx B1 B2 m m2 d1 d2 p1 p2 vals z X.2 Y.2 hm.symm G.symm mz mz ac Z (far hb l1) (far hb l2) (fun i v ids a b=>far hb (h1.r i v ids a b)) (fun i v ids a b=>far hb (h2.r i v ids a b)));generalize decide (X.1=Y.1)=R1 at *;generalize decide (X.2=Y.2)=R2 at *;clear h1 h2 t1 t2 l1 l2 hn hm j G far ac Z;go_enter func65,ntmps65;go_wp2_with fail;have J:Blk ((w.alloc (.cells #[.slice A1 n c1, .slice B1 m d1] 53)).alloc (.cells #[.slice A2 n2 c2, .slice B2 m2 d2] 53)) w 53 #[.slice A1 n c1, .slice B1 m d1]:=(Blk.made _ _ _).alloc _;have aa:Blk ((w.alloc (.cells #[.slice A1 n c1, .slice B1 m d1] 53)).alloc (.cells #[.slice A2 n2 c2, .slice B2 m2 d2] 53)) (w.heap.size+1) 53 #[.slice A2 n2 c2, .slice B2 m2 d2]:=Blk.made_at _ _ _ pI;have Q:Below w w ((w.alloc (.cells #[.slice A1 n c1, .slice B1 m d1] 53)).alloc (.cells #[.slice A2 n2 c2, .slice B2 m2 d2] 53)):=qh
 generalize (w.alloc (.cells #[.slice A1 n c1, .slice B1 m d1] 53)).alloc (.cells #[.slice A2 n2 c2, .slice B2 m2 d2] 53)=w2 at *;have ab:=hid J;have N:=hid aa;have E:=hid Q;have D:=hid (DS.out w2 E.out);clear J aa Q DS;cases R1
 ·refine D.out.mono ?_;rintro e w3 ⟨rfl,q0,rfl⟩;go_wp2_with fail;go_ret;exact⟨rfl,below_drewN E.out q0⟩
 ·refine D.out.mono ?_;rintro e w3 ⟨rfl,q0,rfl⟩;have k1:=(ab.out.drewN q0).ia 1;have k2:=(N.out.drewN q0).ia 1;have D2:=hid (DF.out (w2.drewN q0) (below_drewN E.out q0));clear D ab N DF;go_wp2_with fail;refine D2.out.mono ?_;rintro e w4 ⟨rfl,q1,rfl⟩;go_wp2_with fail;go_ret;exact⟨by first|rfl|exact Hj pI,by first|exact below_drewN E.out _|(rw[FT];exact below_drewN E.out _)⟩
end Idx
end Go.Proofs.YtfgdoknipbpfhaaGreatDoor
