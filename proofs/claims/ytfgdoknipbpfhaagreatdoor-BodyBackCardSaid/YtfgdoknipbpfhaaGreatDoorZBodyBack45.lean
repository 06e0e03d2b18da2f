/- All records of a bod -/
import Derived.Test.YtfgdoknipbpfhaaGreatDoorZBodyBack43
namespace Go.Proofs.YtfgdoknipbpfhaaGreatDoor
open Go.Proofs.Tryz
open Go.Lib (hid)
set_option maxHeartbeats 4000000
set_option maxRecDepth 100000
section
namespace Idx
open Go.RowKit Mem Own Canon Sift
open NumPut Recs
theorem YY(w:World)(A B:Option Addr)(n m c d:Nat)(la lb:List Nat)(hn:la.length=n)(hm:lb.length=m)(hN:n<=3000000000)(hM:m<=3000000000)(ha:Row w w A n 1 (jZ .i64 la))(hb:Row w w B m 1 (jZ .i64 lb)):
 Calls prog 127 #[.slice A n c, .slice B m d] w fun e w'=>e= .returned (.bool (decide (la=lb)))/\∃q,w'=w.drewN q:=by
 by_cases he:n=m
 ·subst he;have HA:=hid ha;have HB:=hid hb;have HN:=hid hn;have HM:=hid hm;have z1:((n:Int) != (n:Int))=false:=by simp
  clear ha hb hn hm;go_enter func127,ntmps127;go_wp2_with fail;go_loopw [13] (fun i wx=>∃k:Nat,k<=n/\i= .int .i64 k/\Hid (decide (la.drop k=lb.drop k)=decide (la=lb))/\Hid (∃q,wx=w.drewN q)) (fun i _=>n-(intOf i).toNat)
  case atStart=>exact⟨0,nj,rfl,rfl,0,rfl⟩
  case round=>
   obtain⟨k,hk,rfl,hE,HQ⟩:=hrel;have y:Hid (∀nq,∃q,wr.drewN nq=w.drewN q):=fun nq=>ni
   by_cases h:k<n
   ·have J:Row wr w A n 1 (jZ .i64 la):=(by obtain⟨q,hq⟩:=HQ.out;rw[hq];exact HA.out);have G:Row wr w B n 1 (jZ .i64 lb):=(by obtain⟨q,hq⟩:=HQ.out;rw[hq];exact HB.out);obtain⟨b1,o1,x1,rfl,M,E,Q⟩:=CH J HN.out h;obtain⟨b2,o2,x2,rfl,N,z,L⟩:=CH G HM.out h;have he:=hE.out;rw[Crc.VS (by rw[HN.out];exact h) (by rw[HM.out];exact h),Am,Am,E,z]at he;simp only[Option.getD_some]at he;have y0:(0:Int)<=(k:Int):=nj;have y1:(k:Int)<(n:Int):=nj;have gk:=ic ((k:Int)<n);clear E z hE J G HQ;by_cases j:x1=x2
    ·subst j;rw[AK rfl,Bool.true_and]at he;have HE:=hid he;have e1:((x1:Int) != (x1:Int))=false:=qT;clear he;go_wp2_with fail;go_quiet (fail);go_wp2_with fail;go_roundw
     case measure=>exact jq
     case rel=>go_light;exact⟨k+1,nj,iw,HE.out,y.out _⟩
    ·rw[AU j,Jj]at he;have HE:=hid he;have e1:((x1:Int) != (x2:Int))=true:=qg;clear he j;go_wp2_with fail;go_quiet (fail);go_wp2_with fail;go_ret;exact⟨Gr HE.out,y.out _⟩
   ·obtain rfl:k=n:=by omega
    have gk:=ig ((k:Int)<k);have he:=hE.out;rw[DV pu,DV (by rw[HM.out];exact Ak _)]at he;have HE:=hid he;clear he hE y;go_wp2_with fail;go_ret;exact⟨Gr (by rw[<-HE.out];rfl),HQ.out⟩
 ·have hR:decide (la=lb)=false:=AU fun e=>by rw[e]at hn;omega
  have z1:((n:Int) != (m:Int))=true:=qg
  rw[hR];clear hR hn hm ha hb he;go_enter func127,ntmps127;go_wp2_with fail;go_ret;exact⟨rfl,0,rfl⟩
theorem YG(w:World)(A A2:Option Addr)(n n2 c c2:Nat)(ls ms:List Str)(hn:ls.length=n)(L:ms.length=n2)(hN:n<=3000000000)(ha:Row w w A n 1 (Ee ls))(U:Row w w A2 n2 1 (Ee ms)):
 Calls prog 125 #[.slice A n c, .slice A2 n2 c2] w fun e w'=>e= .returned (.bool (decide (ls=ms)))/\∃q,w'=w.drewN q:=by
 have HN:=hid hn;have aa:=hid L
 have HY:Hid (n=n2->(∀i,i<n->ls.getD i []=ms.getD i [])->decide (ls=ms)=true):=fun he h=>AK (List.ext_getElem nj fun i h1 h2=>by
  have:=h i nj
  rwa [Am,Am,Aw h1,Aw h2]at this)
 have z:Hid (∀ (i:Nat) x y,ls[i]? =some x->ms[i]? =some y->x≠y->decide (ls=ms)=false):=fun i x y hx hy hne=>AU fun e=>qh
 have E:Hid (n≠n2->decide (ls=ms)=false):=fun hne=>AU fun e=>by rw[e]at hn;omega
 generalize decide (ls=ms)=R at *;clear hn L;by_cases he:n=n2
 ·subst he;have z1:((n:Int) != (n:Int))=false:=by simp
  have Z:(n != n)=false:=qT
  clear E;go_enter func125,ntmps125;go_wp2_with fail;go_loopw [13] (fun iv wx=>∃k:Nat,k<=n/\iv= .int .i64 k/\Hid (∀i,i<k->ls.getD i []=ms.getD i [])/\Hid (∃q,wx=w.drewN q)) (fun iv _=>n-(intOf iv).toNat)
  case atStart=>exact⟨0,nj,rfl,fun i h=>absurd h nj,0,rfl⟩
  case round=>
   obtain⟨k,hk,rfl,HS,HQ⟩:=hrel;by_cases M:k<n
   ·have gk:=ic ((k:Int)<n);have Y:=ic (k<n);have x0:(0:Int)<=(k:Int):=nj;have x1:(k:Int)<(n:Int):=nj;have x2:(k:Int)<(n:Int):=nj;have Q:Row wr w A n 1 (Ee ls):=(by obtain⟨q,hq⟩:=HQ.out;rw[hq];exact ha);have J:Row wr w A2 n 1 (Ee ms):=(by obtain⟨q,hq⟩:=HQ.out;rw[hq];exact U);obtain⟨b,ac,x,rfl,_,hx,ck⟩:=Row.str Q HN.out M;obtain⟨b2,ab,y,rfl,_,hy,ae⟩:=Row.str J aa.out (show k<n by omega);have G:Hid (∀nq,∃q,wr.drewN nq=w.drewN q):=fun nq=>by obtain⟨q,hq⟩:=HQ.out;exact⟨_,qq⟩
    by_cases j:x=y
    ·have ge:((bs x).toList==(bs y).toList)=true:=by rw[str_eq];simpa using j
     have N:Hid (∀i,i<k+1->ls.getD i []=ms.getD i []):=fun i h=>by
      by_cases e:i<k
      ·exact HS.out i e
      ·obtain rfl:i=k:=by omega
       rw[Am,Am,hx,hy,j]
     clear HS hx hy j HQ;go_wp2_with fail;go_quiet (fail);go_wp2_with fail;go_roundw
     case measure=>exact jq
     case rel=>exact ji
    ·have ge:((bs x).toList==(bs y).toList)=false:=(by rw[str_eq];simpa using j);obtain rfl:=z.out k x y hx hy j;clear HS HY z hx hy j HQ;go_wp2_with fail;go_quiet (fail);go_wp2_with fail;go_ret;exact⟨rfl,G.out _⟩
   ·obtain rfl:k=n:=by omega
    have gk:=ig ((k:Int)<k);have Y:=ig (k<k);obtain rfl:=HY.out iz HS.out;clear HS HY z M;go_wp2_with fail;go_ret;exact⟨rfl,HQ.out⟩
 ·have z1:((n:Int) != (n2:Int))=true:=by simp;omega
  have Z:(n != n2)=true:=rA
  obtain rfl:=E.out he;clear HY z E he;go_enter func125,ntmps125;go_wp2_with fail;go_ret;exact⟨rfl,0,rfl⟩
theorem Ym{la lb:List (List Nat)}{k:Nat}{x y:List Nat}(h:la[k]? =some x)(h':lb[k]? =some y):decide (la.drop k=lb.drop k)=(decide (x=y)&&decide (la.drop (k+1)=lb.drop (k+1))):=by obtain⟨h1,e1⟩:=BW.1 h;obtain⟨h2,e2⟩:=BW.1 h';rw[KE,Cf,decide_eq_true_eq,decide_eq_true_eq,decide_eq_true_eq,Dg h1,Dg h2,List.cons.injEq,e1,e2]
theorem XZ(w:World)(A B:Option Addr)(n m c d p1 p2:Nat)(va vb:List Value)(la lb:List (List Nat))(hn:la.length=n)(hm:lb.length=m)(hN:n<=3000000000)(hM:m<=3000000000)(z:∀l∈la,l.length<=2000000)(E:∀l∈lb,l.length<=2000000)(h1:w.ownsRow p1 37 1 (.slice A n c) n va)(h2:w.ownsRow p2 37 1 (.slice B m d) m vb)
 (r1:∀ (i:Nat) v ids,va[i]? =some v->la[i]? =some ids->w.ownsRow p1 3 1 v ids.length (cZ .i64 ids))(r2:∀ (i:Nat) v ids,vb[i]? =some v->lb[i]? =some ids->w.ownsRow p2 3 1 v ids.length (cZ .i64 ids)):
 Calls prog 126 #[.slice A n c, .slice B m d, .func (.func 127) #[] #[]] w fun e w'=>e= .returned (.bool (decide (la=lb)))/\∃q,w'=w.drewN q:=by
 have hK:∀j wx,(callFunc 127 j).run prog wx= .ok (.enter 127 j) wx:=by intro j wx;simp[callFunc,go_sem,func127];rfl
 by_cases he:n=m
 ·subst he;have L:va.length=n:=by have:=h1.1;omega
  have J:vb.length=n:=by have:=h2.1;omega
  have HV:Hid (∀ (wx:World) i q,wx=w.drewN q->i<n->∃g1 g2 C1 k1 e1 C2 k2 e2 x y,A=some ⟨g1,0,none⟩/\B=some ⟨g2,0,none⟩/\wx.cell? ⟨g1,i,none⟩=some (.slice C1 k1 e1)/\wx.cell? ⟨g2,i,none⟩=some (.slice C2 k2 e2)/\la[i]? =some x/\lb[i]? =some y/\Calls prog 127 #[.slice C1 k1 e1, .slice C2 k2 e2] wx fun e w'=>e= .returned (.bool (decide (x=y)))/\∃q,w'=wx.drewN q):=fun wx i q hq hi=>by obtain⟨x,gx⟩:∃x,la[i]? =some x:=⟨_,Aw nj⟩;obtain⟨y,gy⟩:∃y,lb[i]? =some y:=⟨_,Aw nj⟩;obtain⟨u,gu⟩:∃u,va[i]? =some u:=⟨_,Aw nj⟩;obtain⟨v,gv⟩:∃v,vb[i]? =some v:=⟨_,Aw nj⟩;have o1:=r1 i u x gu gx;have o2:=r2 i v y gv gy;obtain⟨C1,e1,rfl⟩:=bZ o1;obtain⟨C2,e2,rfl⟩:=bZ o2;obtain⟨g1,c1,hA1,_,_⟩:=h1.form nj;injection hA1 with q1 q2 q3;subst q1;obtain⟨g2,c2,hA2,_,_⟩:=h2.form nj;injection hA2 with q1 q2 q3;subst q1;subst hq;exact⟨g1,g2,C1,_,e1,C2,_,e2,x,y,rfl,rfl,(h1.cellAt i nj).trans gu,(h2.cellAt i nj).trans gv,gx,gy,YY _ C1 C2 _ _ e1 e2 x y rfl rfl (by have:=z x (Be gx);omega) (by have:=E y (Be gy);omega) (Ef.own_row (eZ (w':=w.drewN q) o1 (fun _ _=>rfl)) rfl) (Ef.own_row (eZ (w':=w.drewN q) o2 (fun _ _=>rfl)) rfl)⟩
  have HN:=hid hn;have HM:=hid hm;have z1:((n:Int) != (n:Int))=false:=qT
  clear h1 h2 r1 r2 z E hn hm L J;go_enter func126,ntmps126;go_wp2_with fail;go_loopw [17] (fun i wx=>∃k:Nat,k<=n/\i= .int .i64 k/\Hid (decide (la.drop k=lb.drop k)=decide (la=lb))/\Hid (∃q,wx=w.drewN q)) (fun i _=>n-(intOf i).toNat)
  case atStart=>exact⟨0,nj,rfl,rfl,0,rfl⟩
  case round=>
   obtain⟨k,hk,rfl,hE,HQ⟩:=hrel;by_cases M:k<n
   ·obtain⟨q,hq⟩:=HQ.out;obtain⟨g1,g2,C1,k1,e1,C2,k2,e2,x,y,rfl,rfl,x1,x2,gx,gy,D⟩:=HV.out wr k q hq M;have he:=hE.out;rw[Ym gx gy]at he;have G:Hid (∀nq,∃q,wr.drewN nq=w.drewN q):=fun nq=>⟨_,qq⟩;have y0:(0:Int)<=(k:Int):=nj;have y1:(k:Int)<(n:Int):=nj;have gk:=ic ((k:Int)<n);clear hE HQ hq gx gy HV;by_cases h:x=y
    ·rw[AK h,Bool.true_and]at he;rw[AK h]at D;have HE:=hid he;have D:=hid D;clear he h;go_wp2_with fail;refine D.out.mono ?_;rintro e w2 ⟨rfl,nq,rfl⟩;clear D x1 x2;go_wp2_with fail;go_roundw
     case measure=>exact jq
     case rel=>go_light;exact⟨k+1,nj,iw,HE.out,G.out _⟩
    ·rw[AU h,Jj]at he;rw[AU h]at D;have HE:=hid he;have D:=hid D;clear he h;go_wp2_with fail;refine D.out.mono ?_;rintro e w2 ⟨rfl,nq,rfl⟩;clear D x1 x2;go_wp2_with fail;go_ret;exact⟨Gr HE.out,G.out _⟩
   ·obtain rfl:k=n:=by omega
    have gk:=ig ((k:Int)<k);have he:=hE.out;rw[DV pu,DV (by rw[HM.out];exact Ak _)]at he;have HE:=hid he;clear he hE HV;go_wp2_with fail;go_ret;exact⟨Gr (by rw[<-HE.out];rfl),HQ.out⟩
 ·have hR:decide (la=lb)=false:=AU fun e=>by rw[e]at hn;omega
  have z1:((n:Int) != (m:Int))=true:=qg
  rw[hR];clear hR hn hm h1 h2 r1 r2 z E he;go_enter func126,ntmps126;go_wp2_with fail;go_ret;exact⟨rfl,0,rfl⟩
def eqX(X Y:List Str×List (List Nat)):Bool:=decide (X.1=Y.1)&&decide (X.2=Y.2)
theorem QT(w:World)(p1 p2:Nat)(vT vL J Q:Value)(vals E:List Value)(X Y:List Str×List (List Nat))(h1:IxAt w p1 vT vL vals X.1 X.2)(h2:IxAt w p2 J Q E Y.1 Y.2)(ae:X.1.length<=2000000)(ac:X.2.length<=2000000)(L:∀l∈X.2,l.length<=2000000)(af:Y.2.length<=2000000)(M:∀l∈Y.2,l.length<=2000000):
 Calls prog 65 #[.agg #[vT,vL], .agg #[J,Q]] w fun e w'=>e= .returned (.bool (eqX X Y))/\Below w w w':=by
 unfold eqX;have t1:=h1.t;have t2:=h2.t;have l1:=h1.l;have l2:=h2.l;obtain⟨n,hn⟩:=ii X.1.length;obtain⟨m,hm⟩:=ii X.2.length;obtain⟨n2,z⟩:=ii Y.1.length;obtain⟨m2,G⟩:=ii Y.2.length;rw[<-hn]at t1 ae;rw[<-z]at t2;rw[<-hm]at l1 ac;rw[<-G]at l2 af;obtain⟨A1,c1,rfl⟩:=bZ t1;obtain⟨A2,c2,rfl⟩:=bZ t2;obtain⟨B1,d1,rfl⟩:=bZ l1;obtain⟨B2,d2,rfl⟩:=bZ l2;have DS:=hid (fun wx (hb:Below w w wx)=>YG wx A1 A2 n n2 c1 c2 X.1 Y.1 hn.symm z.symm nj (((Jo (by rw[hn]at t1;exact t1)).below hb).mono hb.size |> fun h=>by rw[<-hn]at h;exact h) (((Jo (by rw[z]at t2;exact t2)).below hb).mono hb.size |> fun h=>by rw[<-z]at h;exact h));have far:∀ {wx:World} {b s n:Nat} {e:TypeId} {v:Value} {xs:List Value},Below w w wx->w.ownsRow b e s v n xs->wx.ownsRow b e s v n xs:=fun hb ho=>eZ ho fun y hy=>hb.block y (Aj ho y hy).2;have DF:=hid (fun wx (hb:Below w w wx)=>XZ wx B1 B2 m m2 d1 d2 p1 p2 vals E X.2 Y.2 hm.symm G.symm nj nj L M (far hb l1) (far hb l2) (fun i v ids a b=>far hb (h1.r i v ids a b)) (fun i v ids a b=>far hb (h2.r i v ids a b)));generalize decide (X.1=Y.1)=R1 at *;generalize decide (X.2=Y.2)=R2 at *;clear h1 h2 t1 t2 l1 l2 hn hm z G far L M;go_enter func65,ntmps65;go_wp2_with fail;have N:Blk ((w.alloc (.cells #[.slice A1 n c1, .slice B1 m d1] 53)).alloc (.cells #[.slice A2 n2 c2, .slice B2 m2 d2] 53)) w 53 #[.slice A1 n c1, .slice B1 m d1]:=(Blk.made _ _ _).alloc _;have ab:Blk ((w.alloc (.cells #[.slice A1 n c1, .slice B1 m d1] 53)).alloc (.cells #[.slice A2 n2 c2, .slice B2 m2 d2] 53)) (w.heap.size+1) 53 #[.slice A2 n2 c2, .slice B2 m2 d2]:=Blk.made_at _ _ _ qT;have U:Below w w ((w.alloc (.cells #[.slice A1 n c1, .slice B1 m d1] 53)).alloc (.cells #[.slice A2 n2 c2, .slice B2 m2 d2] 53)):=rF
 generalize (w.alloc (.cells #[.slice A1 n c1, .slice B1 m d1] 53)).alloc (.cells #[.slice A2 n2 c2, .slice B2 m2 d2] 53)=w2 at *;have Z:=hid N;have aa:=hid ab;have j:=hid U;have D:=hid (DS.out w2 j.out);clear N ab U DS;cases R1
 ·refine D.out.mono ?_;rintro e w3 ⟨rfl,q0,rfl⟩;go_wp2_with fail;go_ret;exact⟨rfl,below_drewN j.out q0⟩
 ·refine D.out.mono ?_;rintro e w3 ⟨rfl,q0,rfl⟩;have k1:=(Z.out.drewN q0).ia 1;have k2:=(aa.out.drewN q0).ia 1;have D2:=hid (DF.out (w2.drewN q0) (below_drewN j.out q0));clear D Z aa DF;go_wp2_with fail;refine D2.out.mono ?_;rintro e w4 ⟨rfl,q1,rfl⟩;go_wp2_with fail;go_ret;exact⟨by first|rfl|exact Gr qT,by first|exact below_drewN j.out _|(rw[Fq];exact below_drewN j.out _)⟩
end Idx
end
variable{C L T:List Nat}{F:List (List Nat)}{cv gx k:Nat}{w w' wr:World}{vals:List Value}{vT:Value}{Av:Option Addr}
namespace Body
open Go.RowKit Mem Own Canon Nums Recs Opts
open Idx (Str IxAt eqX AQ BK kZ)
def FW(C T L:List Nat)(F:List (List Nat)):Nat->Nat->List Rec->List Rec×Int
 |0,_,acc=>(acc,0)
 |m+1,k,acc=>if Fc C F k≠0 then([],Fc C F k)else FW C T L F m (k+1) (acc++Gz C T L F k)
def Cw(l:List Rec):List Str×List (List Nat):=(AQ (l.map kZ),(AQ (l.map kZ)).map (BK (l.map kZ)))
def MJ(X:List Str×List (List Nat))(R:List Rec×Int):Int:=if R.2≠0 then R.2 else if CJ R.1≠0 then 6 else if eqX X (Cw R.1)=true then 0 else 15
def Hm(C T L:List Nat)(X:List Str×List (List Nat))(F:List (List Nat)):Int:=MJ X (FW C T L F F.length 0 [])
def Jw(C T L:List Nat)(X:List Str×List (List Nat))(F:List (List Nat)):List Rec:=if Hm C T L X F=0 then(FW C T L F F.length 0 []).1 else []
theorem nV(h:Fc C F k=0):(Gz C T L F k).length=C.getD k 0:=by
 rw[show Gz C T L F k=_ from Ab h,LB];unfold Fc at h;split at h
 ·rename_i h1;exact absurd h h1
 ·split at h
  ·cases h
  ·split at h
   ·rename_i h1;exact absurd h h1
   ·split at h
    ·cases h
    ·rename_i h1;exact LX h1
theorem O9(h:k<C.length):(C.take (k+1)).sum=(C.take k).sum+C.getD k 0:=by rw[<-List.take_append_getElem h,N3,Am,Aw h];simp
theorem OK{l:List Rec}(h:CJ l=0):(∀r∈l,r.source.size<=50000/\r.text.size<=50000)/\(Cw l).1.length<=2000000/\(Cw l).2.length<=2000000/\(∀x∈(Cw l).2,x.length<=2000000):=by
 have h1:=One.JA h
 have hw:Bm l<=1048576/\l.length<=20000:=by
  unfold CJ at h;split at h
  ·cases h
  ·split at h
   ·cases h
   ·split at h
    ·cases h
    ·constructor<;>omega
 have a:=Nq (l.map kZ);have b:=K8 l;have c:(AQ (l.map kZ)).length<=2000000:=nj
 refine⟨fun r hr=> ?_,c,?_,fun x hx=> ?_⟩
 ·have h2:=h1 r hr;unfold CE at h2;simp at h2;omega
 ·unfold Cw;simp only;rw[Bc];exact c
 ·unfold Cw at hx;simp only at hx;obtain⟨u,_,rfl⟩:=Co.1 hx;have:=Idx.Mw (l.map kZ) u;rw[Bc]at this;omega
def Pq(C T L:List Nat)(X:List Str×List (List Nat))(F:List (List Nat))(w:World)(e:Ending)(w':World):Prop:=
 ∃v,e= .returned (.tuple #[v, .int .i64 (Hm C T L X F)])/\w'.ownsRow w 43 4 v (Jw C T L X F).length (BZ (Jw C T L X F))/\Below w w w'
theorem Ph{X:List Str×List (List Nat)}{er:Int}(hE:Hm C T L X F=er)(h:er≠0)(hb:Below w w w'):Pq C T L X F w (.returned (.tuple #[(),er])) w':=by subst hE;refine⟨_,rfl,?_,hb⟩;rw[show Jw C T L X F= [] from Aa h];exact AE _ _ _ _
end Body
namespace Idx
open Go.RowKit Mem Own Canon Sift
open NumPut Recs Crc Block
open Ef Nums
theorem LsAt.set{base b:Nat}{vL:Value}{y:List (List Nat)}{cs:Array Value}(h:LsAt w base vL vals y)(j:Blk w b 53 cs)(k:Nat)(u:Value):LsAt (w.setCell ⟨b,k,none⟩ u) base vL vals y:=
 ⟨BR h.l (fZ h.l j ip) _,fun i v ids hv hi=>BR (h.r i v ids hv hi) (fZ (h.r i v ids hv hi) j ip) _⟩
structure RIx (w wr:World) (gx:Nat) (vT:Value) (ts:List Str) (Av:Option Addr) (k cv:Nat) (vals:List Value) (acc:List (List Nat)):Prop where
 bx:Blk wr gx 53 #[vT, .slice Av k cv]
 br:Blk wr w 53 #[(),()]
 ls:LsAt wr w (.slice Av k cv) vals acc
 ot:wr.ownsRow w 9 1 vT ts.length (zZ ts)
 bel:Below w w wr
 ne:w.heap.size<gx
theorem RIx.step{ts:List Str}{i:List (List Nat)}(h:RIx w wr gx vT ts Av k cv vals i)(hb:Below wr wr w'):RIx w w' gx vT ts Av k cv vals i:=
 ⟨h.bx.step hb,h.br.step hb,h.ls.step hb,eZ h.ot (fun y hy=>hb.block y (Aj h.ot y hy).2),h.bel.trans (hb.mono h.bel.size),h.ne⟩
theorem RIx.add{w7:World}{ts:List Str}{A7:Option Addr}{c7:Nat}{j:List (List Nat)}{u:Value}{i:List Nat}(h:RIx w wr gx vT ts Av k cv vals j)(hu:wr.ownsRow w 3 1 u i.length (cZ .i64 i))(hk:j.length=k)(hg:wr.grownBy w7 (Value.slice Av k cv).ownBlock)(z:w7.ownsRow w 37 1 (.slice A7 (k+1) c7) (k+1) (vals++ [u])):
 RIx w (w7.setCell ⟨gx,1,none⟩ (.slice A7 (k+1) c7)) gx vT ts A7 (k+1) c7 (vals++ [u]) (j++ [i]):=by
 have b7:=h.bx.grown hg (AZ (fZ h.ls.l h.bx ip));have r7:=h.br.grown hg (AZ (fZ h.ls.l h.br ip));have G:=h.ne;have E:=h.ls.add hu hg (by rw[hk];exact z);exact⟨by simpa using b7.set 1 (.slice A7 (k+1) c7),r7.far (by show _≠gx;omega) _,E.set b7 1 _,BR (own_far h.ot h.ls.l ip hg) (fZ (own_far h.ot h.ls.l ip hg) b7 ip) _,BF (by show _<=gx;omega) (h.bel.grown hg h.bel.size (fun y hy=>(Aj h.ls.l y hy).1)),h.ne⟩
end Idx
namespace Idx
open Go.RowKit Mem Own Canon Sift
open NumPut Recs Crc Block
open Ef Nums
def Kc(w:World)(ts:List Str)(ls:List (List Nat))(e:Ending)(w':World):Prop:=
 ∃vT vL vals,e= .returned (.agg #[vT,vL])/\IxAt w' w vT vL vals ts ls/\Below w w w'
theorem OC(w:World)(gb base:Nat)(vT vL:Value)(vals:List Value)(ts:List Str)(ls:List (List Nat))(c6:w.cell? ⟨gb,6,none⟩=some vT)(c7:w.cell? ⟨gb,7,none⟩=some vL)(h:IxAt w base vT vL vals ts ls)(a1:ts.length<=1100000)(a9:ls.length<=1100000)(av:∀l∈ls,l.length<=1100000)(a3:gb<w.heap.size):
 Calls prog 22 #[.pointer (some ⟨gb,0,none⟩)] w (Kc w ts ls):=by
 obtain⟨j0,bd,bc,a0,be⟩:=info_parts Sd;have t1:=h.t;have l1:=h.l;obtain⟨n,hn⟩:=ii ts.length;obtain⟨m,hm⟩:=ii ls.length;rw[<-hn]at t1 a1;rw[<-hm]at l1 a9;obtain⟨A1,c1,rfl⟩:=bZ t1;obtain⟨B1,d1,rfl⟩:=bZ l1;have DT:=hid (fun wx (hb:Below w w wx)=>Rp wx base A1 n c1 (zZ ts) nj (eZ t1 (fun y hy=>hb.block y (Aj t1 y hy).2)) (J4 ts));have HV:Hid (∀i,i<m->∃C1 k1 e1 j,vals[i]? =some (.slice C1 k1 e1)/\ls[i]? =some j/\j.length=k1/\k1<=1100000):=fun i hi=>by have bl:=h.len;obtain⟨j,gi⟩:∃j,ls[i]? =some j:=⟨_,Aw nj⟩;obtain⟨x1,g1⟩:∃x,vals[i]? =some x:=⟨_,Aw nj⟩;obtain⟨C1,e1,rfl⟩:=bZ (h.r i _ j g1 gi);exact⟨C1,_,e1,j,g1,gi,rfl,av j (Be gi)⟩
 have bb:=hid h;have aw:=hid l1;have a6:=hid hn;have ah:=hid hm;unfold Kc;clear h t1 hn hm av;go_enter func22,ntmps22;go_wp2_with fail;have Z:Below w w (w.alloc (.cells #[(),()] 53)):=aZ (Ae _ _);have ab:Blk (w.alloc (.cells #[(),()] 53)) w 53 #[(),()]:=Blk.made _ _ _;have bi:w.heap.size+1<=(w.alloc (.cells #[(),()] 53)).heap.size:=qT
 generalize w.alloc (.cells #[(),()] 53)=w1 at *;have D1:=hid (DT.out _ Z);have aq:=hid Z;have ai:=hid ab;clear Z ab DT;refine D1.out.mono ?_;rintro e w2 ⟨v,rfl,ho,M⟩;have J:Hid (Below w w w2):=aq.out.trans (M.mono nj);have ak:=hid (ai.out.step M);have aj:=hid ho;have z2:=M.size;obtain⟨A2,c2,rfl⟩:=bZ ho;have c7:w2.cell? ⟨gb,7,none⟩=some (.slice B1 m d1):=(J.out.cell (p:=⟨gb,7,none⟩) a3).trans c7;have bg:gb<w2.heap.size:=by have:=J.out.size;omega
 clear ho M D1 aq ai c6;go_wp2_with fail;have N:Below w2 w2 (w2.alloc (.cells #[.slice A2 n c2,()] 53)):=aZ (Ae _ _);have ae:Hid (RIx w (w2.alloc (.cells #[.slice A2 n c2,()] 53)) w2 (.slice A2 n c2) ts none 0 0 [] []):=⟨Blk.made _ _ _,ak.out.step N,LsAt.nil _ _,lZ (by have h:=(aj.out).alloc (.cells #[.slice A2 n c2,()] 53);rw[a6.out]at h ⊢;exact h) nj,J.out.trans (N.mono nj),nj⟩;generalize ax:w2.heap.size=gx at *;generalize w2.alloc (.cells #[.slice A2 n c2,()] 53)=w3 at *;have bn:w.heap.size<gx:=nj
 have c7:w3.cell? ⟨gb,7,none⟩=some (.slice B1 m d1):=(N.cell (p:=⟨gb,7,none⟩) (by show gb<gx;omega)).trans c7;clear N ak aj J ax z2;go_loopw [22] (fun iv wr=>∃ (k cv:Nat) (Av:Option Addr) (vs:List Value),k<=m/\iv= .int .i64 k/\Hid (RIx w wr gx (.slice A2 n c2) ts Av k cv vs (ls.take k))) (fun iv _=>m-(intOf iv).toNat)
 case atStart=>exact⟨0,0,none,[],nj,iw,ae.out⟩
 case round=>
  obtain⟨k,cv,Av,vs,hk,rfl,HI⟩:=hrel;clear ae c7;have zr:=HI.out.bel.size;by_cases az:k<m
  ·have gk:=ic ((k:Int)<m);have bh:=ic (k<m);obtain⟨C1,k1,e1,j,hv,hi,hl,bt⟩:=HV.out k az;have U:wr.ownsRow base 37 1 (.slice B1 m d1) m vals:=eZ aw.out (fun y hy=>HI.out.bel.block y (Aj aw.out y hy).2);obtain⟨gv,bp,bf,bj,_⟩:=U.form nj;injection bf with q1 q2 q3;subst q1 q3;clear q2;have ck:wr.cell? ⟨gv,k,none⟩=some (.slice C1 k1 e1):=(by rw[U.cellAt k nj];exact hv);have bq:(0:Int)<=(k:Int):=nj;have bm:(k:Int)<(m:Int):=nj;have au:Hid (wr.ownsRow base 3 1 (.slice C1 k1 e1) k1 (cZ .i64 j)):=(by have h:=bb.out.r k _ j hv hi;rw[hl]at h;exact eZ h (fun y hy=>HI.out.bel.block y (Aj h y hy).2));have DC:=hid (fun wx (hb:Below wr wr wx)=>gJ wx base C1 k1 e1 (cZ .i64 j) nj (eZ au.out (fun y hy=>hb.block y (Aj au.out y hy).2)) (Ct _ _));have ba:Hid (ls.take (k+1)=ls.take k++ [j]):=(by show _=_;rw[BN,hi];rfl);have a4:=hid hl;have q1:=HI.out.bx.ia 1;have an:Hid ((ls.take k).length=k):=(by show _=_;rw[Ba,<-ah.out];omega);have aa:Hid (wr.ownsRow w 37 1 (.slice Av k cv) k vs):=(by have h:=HI.out.ls.l;rw[an.out]at h;exact h);clear U hv hi hl;go_upto_region 7 with fail;go_region_law(first|(go_simp;go_at_call 62;(with_reducible refine(DC.out _ rF).mono ?_);rintro e w4 ⟨v4,rfl,Y,ac⟩;obtain⟨A4,c4,rfl⟩:=bZ Y;have z:Below wr wr w4:=dZ ac rF;have E:=HI.out.step z;have p1:=E.bx.cell 1;have L:Hid (w4.ownsRow w 37 1 (.slice Av k cv) k vs):=eZ aa.out (fun y hy=>z.block y (Aj aa.out y hy).2);have bk:=z.size;have p9:=(E.bx.alloc (.cells #[.slice A4 k1 c4] 37)).cell 1;simp only[List.getElem?_toArray,List.getElem?_cons_zero,List.getElem?_cons_succ]at p1 p9)|(refine Body.Qp rfl (.tmp 27) (.tmp 30) 51 rfl w 37 j0 _ 1 24 underlying51 bd bc a0 be rfl ip (.slice Av k cv) k vs nm (by first|exact L.out.alloc _|exact(L.out.alloc _).drew) _ 1 1 [.slice A4 k1 c4] nm (Src.of_blk (Blk.made_at _ _ _ qT) 1 1 1 rfl) mq rE nj rg ?_;intro A5 c5 w5 G Q am;have b5:=(E.bx.alloc (.cells #[.slice A4 k1 c4] 37)).grown Q (AZ (fZ L.out E.bx ip));have r1:=b5.ia 1;have s1:=b5.frozen 1))
   all_goals
    have al:=E.step (aZ (o:= .cells #[.slice A4 k1 c4] 37) (Ae w4 w4));have ag:(w4.alloc (.cells #[.slice A4 k1 c4] 37)).ownsRow w 3 1 (.slice A4 k1 c4) j.length (cZ .i64 j):=(by rw[a4.out];exact lZ (Y.alloc _) (by simpa using zr));have ay:Hid (RIx w (w5.setCell ⟨gx,1,none⟩ (.slice A5 (k+1) c5)) gx (.slice A2 n c2) ts A5 (k+1) c5 (vs++ [.slice A4 k1 c4]) (ls.take (k+1))):=(by show RIx _ _ _ _ _ _ _ _ _ _;rw[ba.out];exact al.add ag an.out Q G);clear al ag G Q am b5 r1 s1 p1 p9 Y ac z L HI DC aa E ck q1;generalize w5.setCell ⟨gx,1,none⟩ (.slice A5 (k+1) c5)=w6 at *;go_wp2_with fail;go_roundw
    case measure=>exact jq
    case rel=>go_light;exact⟨k+1,c5,A5,vs++ [Value.slice A4 k1 c4],nj,iw,ay.out⟩
  ·obtain rfl:k=m:=by omega
   have gk:=ig ((k:Int)<k);have k0:=HI.out.br.ia 0;have k1:=HI.out.br.ia 1;have f0:=HI.out.br.frozen 0;have f1:=HI.out.br.frozen 1;have q0:=HI.out.bx.ia 0;have q1:=HI.out.bx.ia 1;have af:Hid (ls.take k=ls):=Bw (by rw[ah.out];exact Ak _);go_wp2_with fail;refine CF (v:= .agg #[.slice A2 n c2, .slice Av k cv]) ?_ rfl ⟨_,_,vs,rfl,?_,?_⟩
   ·have ar:=(HI.out.br.set 0 (.slice A2 n c2)).set 1 (.slice Av k cv);have e0:=ar.cell 0;have e1:=ar.cell 1;simp at e0 e1;simp[results,results22,go_sem,e0,e1]
   ·have a5:IxAt wr w (.slice A2 n c2) (.slice Av k cv) vs ts ls:=⟨HI.out.ot,by have h:=HI.out.ls.l;rw[af.out]at h;exact h,by have h:=HI.out.ls.r;rw[af.out]at h;exact h⟩;exact(a5.set HI.out.br 0 _).set (HI.out.br.set 0 _) 1 _
   ·exact BF (Ak _) (BF (Ak _) HI.out.bel)
end Idx
namespace Body
open Go.RowKit Mem Own Canon Nums Recs Opts
open Crc (Fp GO Fv TabAt)
open Block (opE opO opA VU MF T5 Qy Ui)
theorem XA(w:World)(gb n c k:Nat)(A:Option Addr)(C:List Nat)(hc:w.cell? ⟨gb,0,none⟩=some (.slice A n c))(hn:C.length=n)(hN:n<=1000000)(hs:C.sum<=1000000000)(hk:k<=n)(i:n<=c)(hA:∀a,A=some a->a.add 0=a)(ha:Row w w A n 1 (jZ .i64 C)):
 Calls prog 124 #[.pointer (some ⟨gb,0,none⟩), .int .i64 (k:Nat)] w fun e w'=>e= .returned (.int .i64 ((C.take k).sum:Nat))/\w'=w:=by
 have h:(C.take k).sum<=C.sum:=Body.Lg C k;have D:=hid (sum_any w A k c (C.take k) pj nj nj (GO ha hk));have ks:=fun wx=>Fv (P:=prog) (t:=37) (s:=1) underlying37 (fun _=>by kernel_rfl) A n c .i64 (k:Int) k rfl nj hA wx;generalize (C.take k).sum=S at *;clear hn ha hs h hA;go_enter func124,ntmps124;go_wp2_with fail;refine D.out.mono ?_;rintro e w1 ⟨rfl,rfl⟩;go_wp2_with fail;go_ret;exact⟨rfl,rfl⟩
theorem W9(w:World)(base gb k:Nat)(C S T L:List Nat)(X:List Idx.Str×List (List Nat))(F:List (List Nat))(K:List Bool)(hk:k<F.length)(al:C.length=F.length)(hT:T.length=C.sum)(hL:L.length=C.sum)(hF:∀f∈F,f.length<=100000/\∀x∈f,x<=255)(hN:C.sum<=20000)(bp:F.length<=20000)(ht:TabAt w)(bc:BodyAt w base gb C S T L X F K):
 Calls prog 63 #[.pointer (some ⟨gb,0,none⟩), .int .i64 (k:Nat)] w (P0 C T L F k w):=by
 obtain⟨vc,vs,p,q,vt,vl,vT,vL,vF,va,vals,fv,h0,h1,h2,h3,h4,h5,h6,h7⟩:=bc;have bj:fv.length=F.length:=by have:=h6.l.1;omega
 obtain⟨f,hf⟩:∃f,F[k]? =some f:=⟨_,Aw hk⟩;obtain⟨u,hu⟩:∃u,fv[k]? =some u:=⟨_,Aw nj⟩;have G:=h6.r k u f hu hf;have am:F.getD k []=f:=by rw[Am,hf];rfl
 obtain⟨cn,ai⟩:∃cn,C[k]? =some cn:=⟨_,Aw nj⟩;have aj:C.getD k 0=cn:=by rw[Am,ai];rfl
 have bm:(C.take k).sum+cn<=C.sum:=by rw[<-aj];exact aM k
 have af:=hF f (Be hf);have N:=h6.l;have E:=hid (show Fc C F k=if opE f≠0 then opE f else if opA f<f.length then 2 else if(Gs (opO f)).2≠0 then(Gs (opO f)).2 else if(Gs (opO f)).1.length≠cn then 2 else 0 by unfold Fc;rw[am,aj]);have M:Hid (Fc C F k=0->Gz C T L F k=DY T L (C.take k).sum (Gs (opO f)).1):=fun h=>by unfold Gz;rw[Ab h,am]
 obtain⟨nf,az⟩:=ii F.length;obtain⟨kc,ac⟩:=ii C.length;obtain⟨nt,a6⟩:=ii T.length;obtain⟨nl,a4⟩:=ii L.length;obtain⟨n,hn⟩:=ii f.length;rw[<-az]at N hk bp al;rw[<-ac]at h1 al;rw[<-a6]at h3 hT;rw[<-a4]at h4 hL;rw[<-hn]at G;obtain⟨Ac,dC,rfl⟩:=bZ h1;obtain⟨At,ct,rfl⟩:=bZ h3;obtain⟨Al,cl,rfl⟩:=bZ h4;obtain⟨AF,dF,rfl⟩:=bZ N;obtain⟨Af,cf,rfl⟩:=bZ G;obtain⟨gF,b4,bi,bn,_⟩:=N.form nj;injection bi with q1 q2 q3;subst q1 q3;clear q2;obtain⟨gC,bS,bu,bh,_⟩:=h1.form nj;injection bu with q1 q2 q3;subst q1 q3;clear q2;have cF:=(N.cellAt k nj).trans hu;have cC:w.cell? ⟨gC,k,none⟩=some (.int .i64 (cn:Nat)):=by rw[h1.cellAt k nj];unfold cZ;rw[BI,ai];rfl
 have HS:Hid (∀wx,Below w w wx->wx.cell? ⟨gb,8,none⟩=some (.slice (some ⟨gF,0,none⟩) nf dF)/\wx.cell? ⟨gF,k,none⟩=some (.slice Af n cf)/\wx.cell? ⟨gb,0,none⟩=some (.slice (some ⟨gC,0,none⟩) kc dC)/\wx.cell? ⟨gC,k,none⟩=some (.int .i64 (cn:Nat))/\wx.cell? ⟨gb,4,none⟩=some (.slice At nt ct)/\wx.cell? ⟨gb,5,none⟩=some (.slice Al nl cl)):=fun wx hb=>⟨(h0.step hb).cell 8,(hb.cell (p:=⟨gF,k,none⟩) (Aj N gF rfl).2).trans cF,(h0.step hb).cell 0,(hb.cell (p:=⟨gC,k,none⟩) (Aj h1 gC rfl).2).trans cC,(h0.step hb).cell 4,(h0.step hb).cell 5⟩;have Z:=af.2;have bC:=Qy Z;have a5:=Ui Z;have a9:=hid a5;have bN:Hid ((opO f).length<=100000):=by show _<=_;have:=af.1;omega
 have Y:=Ef.own_row G hn.symm;have D1:=hid (VU w f Af n cf hn.symm (by have:=af.1;omega) (EA G).2 (EA G).1 (fun h=>T5 Y nj) Z ht Y);unfold MF at D1;have DF:=hid (fun wx (hb:Below w w wx)=>XA wx gb kc dC k (some ⟨gC,0,none⟩) C (HS.out wx hb).2.2.1 ac.symm nj nj nj (EA h1).2 (fun a ha=>by injection ha with ha;subst ha;rfl) (Ef.own_row (eZ h1 fun y hy=>hb.block y (Aj h1 y hy).2) ac.symm));have HT:Hid (∀wx i,Below w w wx->i<nt->∃g,At=some ⟨g,0,none⟩/\wx.cell? ⟨g,i,none⟩=some (.int .u64 (T.getD i 0:Nat))):=fun wx i hb hi=>by obtain⟨b,cX,hA,hg,_⟩:=h3.form nj;injection hA with q1 q2 q3;subst q1;have h:=h3.cellAt i nj;refine⟨b,rfl,(hb.cell (p:=⟨b,i,none⟩) (Aj h3 b rfl).2).trans (h.trans ?_)⟩;unfold cZ;rw[BI,Am,Aw nj];rfl
 have HL:Hid (∀wx i,Below w w wx->i<nl->∃g,Al=some ⟨g,0,none⟩/\wx.cell? ⟨g,i,none⟩=some (.int .u8 (L.getD i 0:Nat))):=fun wx i hb hi=>by obtain⟨b,cX,hA,hg,_⟩:=h4.form nj;injection hA with q1 q2 q3;subst q1;have h:=h4.cellAt i nj;refine⟨b,rfl,(hb.cell (p:=⟨b,i,none⟩) (Aj h4 b rfl).2).trans (h.trans ?_)⟩;unfold cZ;rw[BI,Am,Aw nj];rfl
 obtain⟨s1,s2,s3,s4,s5,s6⟩:=HS.out w (Ae _ _);have b9:(k:Int)<(nf:Int):=nj
 have b5:(k:Int)<(kc:Int):=nj
 have b6:(0:Int)<=(k:Int):=nj
 have U:Hid ((C.take k).sum+cn<=nt/\(C.take k).sum+cn<=nl/\(C.take k).sum+cn<=20000):=by show _/\_;omega
 generalize (C.take k).sum=a0 at *;have ag:Hid (f.length=n):=hn.symm;clear h0 h1 h2 h3 h4 h5 h6 h7 N G hu hf am ai aj bm af hn az ac a6 a4 Z bC a5 Y cF cC hT hL hF hN ht bn bh bj al;go_enter func63,ntmps63;go_wp2_with fail;refine D1.out.mono ?_;rintro e w1 ⟨v1,rfl,z,J⟩;obtain⟨A1,c1,rfl⟩:=bZ z;have B1:=hid J;obtain⟨s1,s2,s3,s4,s5,s6⟩:=HS.out w1 J;have ak:=J.size;by_cases j:opE f=0
 ·have hE:=E.out;rw[Aa (by simp[j])]at hE;rw[j];by_cases aa:opA f<f.length
  ·rw[Ab aa]at hE;have HE:=hid hE;have ga:decide ((opA f:Int)<(n:Int))=true:=rd;have bl:decide (opA f<n)=true:=rd;generalize opA f=oa at *;clear E hE z J D1 DF j aa HT HL U M HS;go_wp2_with fail;go_ret2;exact NU HE.out ip B1.out
  ·rw[Aa aa]at hE;have ga:decide ((opA f:Int)<(n:Int))=false:=rd;have bl:decide (opA f<n)=false:=rd;have D2:=hid (l6 w1 A1 _ c1 (opO f) rfl bN.out a9.out (EA z).1 (Ef.own_row z rfl));unfold Uo at D2;generalize opA f=oa at *;generalize hR:Gs (opO f)=R at *;generalize (opO f).length=lo at *;obtain⟨R,re⟩:=R;simp only at hE D2;have HE:=hid hE;clear E hE z J D1 j aa hR;go_wp2_with fail;refine D2.out.mono ?_;rintro e w2 ⟨v2,rfl,ab,au⟩;obtain⟨m,hm⟩:=ii R.length;rw[<-hm]at ab;obtain⟨A2,c2,rfl⟩:=bZ ab;have B2:Hid (Below w w w2):=B1.out.trans (au.mono ak);obtain⟨s1,s2,s3,s4,s5,s6⟩:=HS.out w2 B2.out;have bd:Hid (w2.ownsRow w1 43 4 (.slice A2 m c2) m (BZ R)):=ab;have be:=hid au;have HM:=hid hm;clear ab au D2 hm;by_cases Q:re=0
   ·subst Q;by_cases a1:m=cn
    ·subst a1;have gm:((m:Int) != (m:Int))=false:=qT;have ax:Hid (Fc C F k=0):=(by have h:=HE.out;rw[Aa qT,Aa (by simp[HM.out])]at h;exact h);have a3:Hid (Gz C T L F k=DY T L a0 R):=M.out ax.out;have D3:=hid (DF.out w2 B2.out);obtain⟨l1,l2,l3⟩:=U.out;clear HE M DF;go_wp2_with fail;refine D3.out.mono ?_;rintro e w3 ⟨rfl,rfl⟩;clear D3;go_wp2_with fail;go_loopw [67] (fun iv wr=>∃i:Nat,i<=m/\iv= .int .i64 i/\Hid (wr.ownsRow w1 43 4 (.slice A2 m c2) m (BZ (Fx T L a0 R i)))/\Hid (Below w1 w1 wr)) (fun iv _=>m-(intOf iv).toNat)
     case atStart=>exact⟨0,nj,rfl,by rw[Yi];exact bd.out,be.out⟩
     case round=>
      obtain⟨i,hi,rfl,HO,HB⟩:=hrel;have ae:Hid (Below w w wr):=B1.out.trans (HB.out.mono ak);by_cases aw:i<m
      ·obtain⟨gt,bg,ba⟩:=HT.out wr (a0+i) ae.out nj;obtain⟨gl,bt,bf⟩:=HL.out wr (a0+i) ae.out nj;subst bg bt;obtain⟨s1,s2,s3,s4,s5,s6⟩:=HS.out wr ae.out;have ho:=HO.out;obtain⟨gr,cX,bq,ay,_⟩:=ho.form nj;injection bq with q1 q2 q3;subst q1 q3;clear q2;have gk:=ic ((i:Int)<m);have b0:=ic (i<m);have b1:(0:Int)<=(i:Int):=nj;have b7:(i:Int)<(m:Int):=nj;have ca:IntKind.i64.wrap ((a0:Int)+(i:Int))=((a0+i:Nat):Int):=pi;have cc:(0:Int)<=((a0+i:Nat):Int):=nj;have b8:((a0+i:Nat):Int)<(nt:Int):=nj;have b3:((a0+i:Nat):Int)<(nl:Int):=nj;have ah:i<(Fx T L a0 R i).length:=(by rw[oT,<-HM.out];exact aw);have k0:wr.cell? ⟨gr,i*4,none⟩=some (.int .u64 ((Fx T L a0 R i).getD i Gx).time):=(ho.cellAt (i*4) nj).trans (Mp _ i 0 ah nj);have k1:wr.cell? ⟨gr,i*4+1,none⟩=some (.int .u8 ((Fx T L a0 R i).getD i Gx).level):=(ho.cellAt (i*4+1) nj).trans (Mp _ i 1 ah nj);have f0:=ho.frozenAt (i*4);have f1:=ho.frozenAt (i*4+1);generalize ((Fx T L a0 R i).getD i Gx).time=z0 at k0;generalize ((Fx T L a0 R i).getD i Gx).level=z1 at k1;obtain⟨tv,aq⟩:=ii (T.getD (a0+i) 0);obtain⟨lv,an⟩:=ii (L.getD (a0+i) 0);rw[<-aq]at ba;rw[<-an]at bf;have bk:=hid aq;have bb:=hid an;clear ho HT HL aq an ah;go_wp2_with fail;go_region;go_wp2_with fail;go_roundw
       case measure=>exact jq
       case rel=>go_light;refine⟨i+1,nj,jr,?_,((HB.out.setCell (p:=⟨gr,i*4,none⟩) ay _).setCell (p:=⟨gr,i*4+1,none⟩) ay _).drew⟩;rw[bk.out,bb.out,<-Xv (by rw[<-HM.out];exact aw)];exact(World.ownsRow.stored (World.ownsRow.stored HO.out (i*4) _).1 (i*4+1) _).1.drew
      ·obtain rfl:i=m:=by omega
       have gk:=ig ((i:Int)<i);clear HT HL HS aw;go_wp2_with fail;go_ret2;have hz:Fx T L a0 R i=DY T L a0 R:=(by rw[HM.out];exact pP ..);refine⟨.slice A2 i c2,by rw[ax.out];rfl,?_,ae.out⟩;rw[a3.out,LB,<-HM.out,<-hz];exact lZ HO.out ak
    ·have gm:((m:Int) != (cn:Int))=true:=qg;have av:Hid (Fc C F k=2):=(by have h:=HE.out;rw[Aa qT,Ab (by have:=HM.out;omega)]at h;exact h);clear HE DF a1 HT HL U M HS;go_wp2_with fail;go_ret2;exact NU av.out ip B2.out
   ·have gr:(re != 0)=true:=(by simpa using Q);have av:Hid (Fc C F k=re):=(by have h:=HE.out;rw[Ab Q]at h;exact h);have ar:=hid Q;clear HE DF Q HT HL U M HS;go_wp2_with fail;go_ret2;exact NU av.out ar.out B2.out
 ·have hE:=E.out;rw[Ab j]at hE;have HE:=hid hE;have ar:=hid j;have gE:(opE f != 0)=true:=by simpa using j
  generalize opE f=oe at *;generalize opA f=oa at *;clear E hE z J D1 DF j HT HL U M HS;go_wp2_with fail;go_ret2;exact NU HE.out ar.out B1.out
end Body
end Go.Proofs.YtfgdoknipbpfhaaGreatDoor
