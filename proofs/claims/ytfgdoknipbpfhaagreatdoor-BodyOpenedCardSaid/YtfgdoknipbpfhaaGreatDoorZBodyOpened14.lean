/- Plain: the best matc -/
import Derived.Test.YtfgdoknipbpfhaaGreatDoorZBodyOpened3
import Derived.Test.YtfgdoknipbpfhaaGreatDoorZBodyOpened13
import Derived.Maps.OwnSet
import Derived.DeepKeys4
import Derived.Deep.AppendLies
import Derived.Lib.MinMax
namespace Go.Proofs.YtfgdoknipbpfhaaGreatDoor
open Go.Proofs.Tryz
open Go.Lib (hid)
set_option maxHeartbeats 2000000
set_option maxRecDepth 100000
variable{l out:List Nat}{E b base c cb d g i m mb most n p q x y z:Nat}{w:World}{e:TypeId}{xs:List Value}{pv:Value}{ps:List Int}
namespace Lz
def BI(l:List Nat)(k:Nat×Nat×Nat):Nat->Option Nat
 |0=>none
 |n+1=>if n+3<=l.length/\BR l n=k then some n else BI l k n
theorem J3{l:List Nat}{k:Nat×Nat×Nat}:∀ {n p:Nat},BI l k n=some p->p<n/\p+3<=l.length/\BR l p=k/\∀q,p<q->q<n->q+3<=l.length->BR l q≠k
 |0,p,h=>by cases h
 |n+1,p,h=>by
  rw[BI]at h;split at h
  ·rename_i hc;injection h with h;subst h;exact⟨mz,hc.1,hc.2,fun q h1 h2=>mz⟩
  ·rename_i hc;obtain⟨h1,h2,h3,h4⟩:=J3 h;refine⟨mz,h2,h3,fun q hq1 hq2 hq3=> ?_⟩;by_cases e:q=n
   ·subst e;exact fun hk=>hc ⟨hq3,hk⟩
   ·exact h4 q hq1 mz hq3
theorem Qj{l:List Nat}{k:Nat×Nat×Nat}:∀ {n:Nat},BI l k n=none->∀q,q<n->q+3<=l.length->BR l q≠k
 |0,_,q,h,_=>mz
 |n+1,h,q,hq,h3=>by
  rw[BI]at h;split at h
  ·cases h
  ·rename_i hc;by_cases e:q=n
   ·subst e;exact fun hk=>hc ⟨h3,hk⟩
   ·exact Qj h q mz h3
def Iu:Option Nat->Int
 |some p=>(p:Nat)
 |none=> -1
def Iv(l:List Nat)(p:Nat):Int:=if p+3<=l.length then Iu (BI l (BR l p) p)else-1
def FZ(l:List Nat)(n:Nat):List Int:=(List.range n).map (Iv l)
theorem gK(l:List Nat)(n:Nat):(FZ l n).length=n:=by simp[FZ]
theorem bL(l:List Nat)(n:Nat):FZ l (n+1)=FZ l n++ [Iv l n]:=by simp[FZ,List.range_succ]
theorem iA(h:i<n):(FZ l n)[i]? =some (Iv l i):=by simp[FZ,h]
theorem Rc{at_:Nat}(nd:Nat×Nat)(h:alike l (at_-d) at_<3):norm (JJ l at_ nd d)=norm nd:=by
 unfold JJ;split
 ·rename_i i;unfold norm;rw[Ab (show ¬3<=(alike l (at_-d) at_,d).1 by show ¬3<=alike l (at_-d) at_;omega),Ab mz]
 ·rfl
theorem Uu{at_:Nat}(nd:Nat×Nat)(h:3<=alike l (at_-d) at_):norm (JJ l at_ nd d)=if(norm nd).1<alike l (at_-d) at_ then(alike l (at_-d) at_,d)else norm nd:=by
 unfold JJ norm;by_cases h3:3<=nd.1
 ·rw[Ae h3];by_cases i:nd.1<alike l (at_-d) at_
  ·rw[Ae i,Ae (show 3<=(alike l (at_-d) at_,d).1 from h)]
  ·rw[Ab i,Ae h3]
 ·rw[Ab h3,Ae (show nd.1<alike l (at_-d) at_ by omega),Ae (show 3<=(alike l (at_-d) at_,d).1 from h),Ae (show(0,0).1<alike l (at_-d) at_ by show 0<_;omega)]
theorem Mz{l:List Nat}{at_ D1:Nat}:∀ {D2:Nat},D1<=D2->(∀d,D1<d->d<=D2->alike l (at_-d) at_<3)->norm (ET l at_ D2)=norm (ET l at_ D1)
 |0,h,_=>by rw[show D1=0 by omega]
 |D2+1,h,hs=>by
  by_cases e:D1=D2+1
  ·rw[e]
  ·rw[ET,Rc _ (hs (D2+1) mz (Aq _))];exact Mz mz fun d h1 h2=>hs d h1 mz
theorem QV{l:List Nat}{at_ D1:Nat}(i:(norm (ET l at_ D1)).1=257):∀ {D2:Nat},D1<=D2->norm (ET l at_ D2)=norm (ET l at_ D1)
 |0,h=>by rw[show D1=0 by omega]
 |D2+1,h=>by
  by_cases e:D1=D2+1
  ·rw[e]
  ·have ih:=QV i (D2:=D2) mz;rw[ET];by_cases h3:3<=alike l (at_-(D2+1)) at_
   ·rw[Uu _ h3,ih,Ab];have:=P8 l (at_-(D2+1)) at_;omega
   ·rw[Rc _ mz,ih]
structure At (l:List Nat) (at_ E:Nat) (nd:Nat×Nat):Prop where
 le:E<=at_
 win:at_-E<=4095
 is:norm (ET l at_ (at_-E))=nd
theorem At.start(l:List Nat)(at_:Nat):At l at_ at_ (0,0):=⟨Aq _,mz,by rw[Gn];rfl⟩
theorem PP{at_:Nat}(i:at_+3<=l.length)(hk:BR l q≠BR l at_):alike l q at_<3:=by
 rcases Nat.lt_or_ge (alike l q at_) 3 with h|h
 ·exact h
 ·exact absurd (Xc h) hk
theorem At.next{at_:Nat}{nd:Nat×Nat}(h:At l at_ E nd)(hf:at_+3<=l.length)(hp:BI l (BR l at_) E=some p)(hw:at_-p<=4095):
 At l at_ p (if nd.1<alike l p at_ then(alike l p at_,at_-p)else nd):=by
 obtain⟨h1,h2,h3,h4⟩:=J3 hp;have j:=h.le;refine⟨mz,hw,?_⟩;have e1:at_-p=(at_-p-1)+1:=mz
 have i:norm (ET l at_ (at_-p-1))=nd:=by rw[<-h.is];refine Mz mz fun d hd1 hd2=>PP hf (h4 (at_-d) mz mz mz)
 rw[e1,ET,<-e1];have e2:at_-(at_-p)=p:=mz
 rw[Uu _ (by rw[e2];exact XT h3 hf),i,e2]
theorem At.none{at_:Nat}{nd:Nat×Nat}(h:At l at_ E nd)(hf:at_+3<=l.length)(hp:BI l (BR l at_) E=none):norm (Bk l at_)=nd:=by rw[<-h.is];have i:=h.le;have hw:=h.win;exact Mz mz fun d hd1 hd2=>PP hf (Qj hp (at_-d) mz mz)
theorem At.far{at_:Nat}{nd:Nat×Nat}(h:At l at_ E nd)(hf:at_+3<=l.length)(hp:BI l (BR l at_) E=some p)(hw:4095<at_-p):norm (Bk l at_)=nd:=by obtain⟨h1,h2,h3,h4⟩:=J3 hp;rw[<-h.is];have i:=h.le;have hw:=h.win;exact Mz mz fun d hd1 hd2=>PP hf (h4 (at_-d) mz mz mz)
theorem At.full{at_:Nat}{nd:Nat×Nat}(h:At l at_ E nd)(i:nd.1=257):norm (Bk l at_)=nd:=by rw[<-h.is];have j:=h.le;have hw:=h.win;exact QV (by rw[h.is];exact i) mz
theorem aQ{at_:Nat}(h:l.length<at_+3):norm (Bk l at_)=(0,0):=by have hg:=NE l at_;unfold norm;rw[Ab];intro h3;have:=Kr (l:=l) (at_:=at_) mz;omega
theorem Z5{at_:Nat}(h:3<=(Bk l at_).1):norm (Bk l at_)=Bk l at_:=Ae h
theorem fX{at_:Nat}(h:¬3<=(Bk l at_).1):norm (Bk l at_)=(0,0):=Ab h
end Lz
namespace Lz
open Go.RowKit Mem Own Canon
theorem TL(w:World)(A:Option Addr)(n c:Nat)(ls:List Nat)(at_:Nat)(hn:ls.length=n)(hN:n<=1000000)(hf:at_+3<=n)(ha:Row w w A n 1 (jZ .u8 ls)):
 Calls prog 279 #[.slice A n c,at_] w fun e w'=>e= .returned (.agg #[.int .u8 (ls.getD at_ 0:Nat), .int .u8 (ls.getD (at_+1) 0:Nat), .int .u8 (ls.getD (at_+2) 0:Nat)])/\Below w w w':=by
 obtain⟨b,j,rfl,hb,hc⟩:=ha mz;have c0:=hc at_ 0 mz mz;have c1:=hc (at_+1) 0 mz mz;have c2:=hc (at_+2) 0 mz mz;simp only[jZ,Nat.mul_one,Nat.add_zero]at c0 c1 c2;have s1:IntKind.i64.wrap ((at_:Int)+1)=((at_+1:Nat):Int):=nW
 have s2:IntKind.i64.wrap ((at_:Int)+2)=((at_+2:Nat):Int):=nW
 generalize ls.getD at_ 0=x0 at *;generalize ls.getD (at_+1) 0=x1 at *;generalize ls.getD (at_+2) 0=x2 at *;obtain⟨i1,h⟩:=ii (at_+1);obtain⟨i2,i⟩:=ii (at_+2);rw[<-h]at c1 s1;rw[<-i]at c2 s2;have y0:(0:Int)<=(at_:Int):=mz
 have y1:(at_:Int)<(n:Int):=mz
 have y2:(0:Int)<=(i1:Int):=mz
 have y3:(i1:Int)<(n:Int):=mz
 have y4:(0:Int)<=(i2:Int):=mz
 have y5:(i2:Int)<(n:Int):=mz
 have nb:b≠w.heap.size:=mz
 clear ha hc h i hn;go_enter func279,ntmps279;go_upto_region 1 with fail;go_region;go_wp2_with fail;refine CI (v:= .agg #[.int .u8 x0, .int .u8 x1, .int .u8 x2]) ?_ rfl ⟨rfl,?_⟩
 ·simp[results,results279,go_sem]
 ·(repeat (with_reducible first|exact Ag _ _|assumption|refine Az ?_ |refine below_drewN ?_ _|refine qZ ?_ |refine aZ ?_ |refine dZ im ?_ |refine belA ?_ |refine rZ im ?_))
theorem eX(w:World)(A:Option Addr)(n c:Nat)(ls:List Nat)(p at_:Nat)(hn:ls.length=n)(hN:n<=1000000)(hp:p<=at_)(Z:at_<=n)(ha:Row w w A n 1 (jZ .u8 ls)):
 Calls prog 280 #[.slice A n c,p,at_] w fun e w'=>e= .returned (.int .i64 (alike ls p at_:Nat))/\Below w w w':=by
 obtain⟨R,hR⟩:=ii (alike ls p at_);rw[<-hR];have HR:Hid (∀k,IsAlike ls p at_ k->k=R):=fun k h=>(Xq h).symm.trans hR.symm;have HA:=hid ha;have HN:=hid hn;clear ha hn hR;go_enter func280,ntmps280;go_wp2_with fail;go_loopw [7] (fun i wr=>∃k:Nat,k<=257/\i= .int .i64 k/\Hid (k=0∨at_+k<=n)/\Hid (∀j,j<k->ls.getD (p+j) 0=ls.getD (at_+j) 0)/\Hid (Below w w wr)) (fun i _=>257-(intOf i).toNat)
 case atStart=>exact⟨0,mz,rfl, .inl rfl,fun j hj=>absurd hj mz,Ag _ _⟩
 case round=>
  obtain⟨k,hk,rfl,HF,HS,HB⟩:=hrel;by_cases G:k<257
  ·have g1:=ic ((k:Int)<257);have N:=ic (k<257);have s1:IntKind.i64.wrap ((at_:Int)+(k:Int))=((at_+k:Nat):Int):=nW;have s2:IntKind.i64.wrap ((p:Int)+(k:Int))=((p+k:Nat):Int):=nW;obtain⟨i1,z⟩:=ii (at_+k);obtain⟨i2,E⟩:=ii (p+k);rw[<-z]at s1;rw[<-E]at s2;by_cases J:i1<n
   ·obtain⟨b,Y,rfl,hb,hc⟩:=HA.out mz;have c1:=(HB.out.cell (p:=⟨b,_,none⟩) hb).trans (hc i1 0 J mz);have c2:=(HB.out.cell (p:=⟨b,_,none⟩) hb).trans (hc i2 0 mz mz);simp only[jZ,Nat.mul_one,Nat.add_zero]at c1 c2;have g2:=ic ((i1:Int)<n);have Q:=ic (i1<n);have y2:(0:Int)<=(i1:Int):=mz;have y3:(i1:Int)<(n:Int):=mz;have y4:(0:Int)<=(i2:Int):=mz;have y5:(i2:Int)<(n:Int):=mz;by_cases he:ls.getD i2 0=ls.getD i1 0
    ·have M:Hid (∀j,j<k+1->ls.getD (p+j) 0=ls.getD (at_+j) 0):=fun j hj=>by
      by_cases e:j<k
      ·exact HS.out j e
      ·obtain rfl:j=k:=by omega
       rw[<-z,<-E];exact he
     rw[he]at c2;have U:Hid (k+1=0∨at_+(k+1)<=n):= .inr mz;generalize ls.getD i1 0=x at *;have g3:((x:Int)==(x:Int))=true:=pI;clear hc he HS HF z E;go_wp2_with fail;go_quiet (fail);go_wp2_with fail;go_roundw
     case measure=>exact jo
     case rel=>go_light;exact⟨k+1,mz,jp,U.out,M.out,below_drewN HB.out _⟩
    ·have HK:Hid (k=R):=HR.out k ⟨hk,jy,HS.out,fun h=>he (by rw[z,E];exact h.2.2)⟩;have g3:(((ls.getD i2 0:Nat):Int)==((ls.getD i1 0:Nat):Int))=false:=(by rw[Jv];intro h;rw[beq_iff_eq]at h;exact he mz);generalize ls.getD i1 0=x at *;generalize ls.getD i2 0=y at *;clear hc he HS HF z E;go_wp2_with fail;go_quiet (fail);go_wp2_with fail;go_ret;exact⟨Ih (by rw[<-HK.out]),below_drewN HB.out _⟩
   ·have HK:Hid (k=R):=HR.out k ⟨hk,jy,HS.out,fun h=>J (by have:=h.2.1;rw[HN.out]at this;omega)⟩;have g2:=ig ((i1:Int)<n);have Q:=ig (i1<n);clear HS HF z E J;go_wp2_with fail;go_quiet (fail);go_wp2_with fail;go_ret;exact⟨Ih (by rw[<-HK.out]),below_drewN HB.out _⟩
  ·have HK:Hid (k=R):=HR.out k ⟨hk,jy,HS.out,fun h=>G h.1⟩;have g1:=ig ((k:Int)<257);have N:=ig (k<257);clear HS HF G;go_wp2_with fail;go_quiet (fail);go_wp2_with fail;go_ret;exact⟨Ih (by rw[<-HK.out]),below_drewN HB.out _⟩
end Lz
namespace Lz
open Go.RowKit Go.Maps Mem Own
theorem jH:laidOutB prog=true:=mr
theorem Wd:(match prog.underlying 366 with|some (.array _ _)|some (.struct _)=>true|_=>false)=true:=mr
theorem law3:Keyed prog 366:=Keyed.of_law (deep_law_laid jH (m:=2) mz (of_decide_eq_true mr) mr Wd)
def k3v(x y z:Nat):Value:= .agg #[.int .u8 x, .int .u8 y, .int .u8 z]
def K3(x y z:Nat):Lit:= .string (keyBytes [.int .u8 x, .int .u8 y, .int .u8 z])
theorem dS:prog.keyType 366=true:=mr
theorem Re:prog.cellsOf 366=3:=mr
theorem ZP:∃e,prog.underlying 366=some (.array 3 e)/\prog.underlying e=some (.int .u8)/\prog.cellsOf e=1:=⟨5,mr,mr,mr⟩
theorem wf8(h:x<=255):(Lit.int .u8 (x:Int)).wf=true:=by simp[Lit.wf,IntKind.min,IntKind.max,IntKind.signed,IntKind.bits];omega
theorem cM:∃d,prog.types.size+1=d+2:=⟨prog.types.size-1,by have:1<=prog.types.size:=of_decide_eq_true mr;omega⟩
theorem Lb(hx:x<=255)(hy:y<=255)(hz:z<=255):keyOf prog 366 (k3v x y z)=some (K3 x y z):=by
 obtain⟨e,h1,h2,h3⟩:=ZP;obtain⟨d,hd⟩:=cM;have hf:(k3v x y z).formed prog 366=true:=by simp[Value.formed,k3v,h1,Re]
 unfold keyOf;rw[h1];simp only[dS,hf,Bool.and_self,if_true,hd];unfold k3v K3;simp[Program.keyLits,h1,h2,h3,Re,Value.cells,List.range_succ,wf8 hx,wf8 hy,wf8 hz]
theorem Zx{x' y' z':Nat}(hx:x<=255)(hy:y<=255)(hz:z<=255)(E:x'<=255)(j:y'<=255)(i:z'<=255)(h:K3 x y z=K3 x' y' z'):(x,y,z)=(x',y',z'):=by have e:=law3.inj (Lb hx hy hz) (by rw[h];exact Lb E j i);unfold k3v at e;simp at e;simp;omega
theorem TJ(hx:x<=255)(hy:y<=255)(hz:z<=255):WideAt.IsKeyLit (K3 x y z):=law3.key (Lb hx hy hz)
def MapIs(l:List Nat)(n:Nat)(D:DataW Unit):Prop:=
 IsMap D/\∀x y z,x<=255->y<=255->z<=255->(∀p,BI l (x,y,z) n=some p->has D (K3 x y z)=true/\∀zd,D.atKey (K3 x y z) zd= .lit (.int .i64 (p:Int)))/\(BI l (x,y,z) n=none->has D (K3 x y z)=false)
theorem MapIs.start(l:List Nat):MapIs l 0 (.map []):=⟨isMap_empty,fun x y z _ _ _=>⟨fun p h=>absurd h (by simp[BI]),fun _=>rfl⟩⟩
theorem MapIs.skip{D:DataW Unit}(h:MapIs l n D)(hn:l.length<n+3):MapIs l (n+1) D:=by refine⟨h.1,fun x y z hx hy hz=> ?_⟩;rw[BI,Ab mz];exact h.2 x y z hx hy hz
theorem MapIs.put{D:DataW Unit}(h:MapIs l n D)(h8:∀c∈l,c<=255)(hn:n+3<=l.length):MapIs l (n+1) (D.put (K3 (l.getD n 0) (l.getD (n+1) 0) (l.getD (n+2) 0)) (.lit (.int .i64 (n:Int)))):=by
 have hg:∀i,i<l.length->l.getD i 0<=255:=fun i hi=>nS
 have g0:=hg n mz;have g1:=hg (n+1) mz;have g2:=hg (n+2) mz;refine⟨h.1.put _ _,fun x y z hx hy hz=> ?_⟩;rw[BI];by_cases hk:BR l n=(x,y,z)
 ·rw[Ae ⟨hn,hk⟩];unfold BR at hk;simp only[Prod.mk.injEq]at hk;rw[hk.1,hk.2.1,hk.2.2];refine⟨fun p hp=> ?_,fun hp=>by cases hp⟩;injection hp with hp;subst hp;exact⟨has_put_same h.1 (TJ hx hy hz) _,fun zd=>atKey_put_same h.1 (TJ hx hy hz) _ _⟩
 ·rw[Ab (fun h=>hk h.2)];have j:K3 x y z≠K3 (l.getD n 0) (l.getD (n+1) 0) (l.getD (n+2) 0):=fun e=>hk (Zx hx hy hz g0 g1 g2 e).symm;obtain⟨i1,i2⟩:=h.2 x y z hx hy hz;refine⟨fun p hp=> ?_,fun hp=> ?_⟩
  ·rw[has_put_other j];exact⟨(i1 p hp).1,fun zd=>by rw[atKey_put_other j];exact(i1 p hp).2 zd⟩
  ·rw[has_put_other j];exact i2 hp
def Jr(o:Option Nat):Int:=match o with
 |some p=>(p:Nat)
 |none=>0
theorem iR(w:World):(zeroValue 3).run prog w= .ok (.int .i64 0) w:=nc
theorem QW{D:DataW Unit}(h:w.ownsMap prog 366 (plainElem prog 3) b m D)(hD:MapIs l n D)(hx:x<=255)(hy:y<=255)(hz:z<=255):
 (Instr.lookup 305 (.map (some b)) (k3v x y z) true).run prog w= .ok (.tuple #[.int .i64 (Jr (BI l (x,y,z) n)), .bool (BI l (x,y,z) n).isSome]) w:=by
 obtain⟨v,ps,i,hv⟩:=h.look_ok law3 underlying305 (iR w) (plainElem_int underlying3 ip) (Lb hx hy hz);obtain⟨a,rfl,ha,_⟩:=plainElem_int_inv underlying3 hv;simp only[Prod.mk.injEq]at ha;rw[i];obtain⟨i1,i2⟩:=hD.2 x y z hx hy hz;cases hl:BI l (x,y,z) n with
 |none=>have hh:=i2 hl;rw[hh];have j:=atKey_of_not_has hh (DataW.lit (.int .i64 0):DataW Unit);rw[j]at ha;injection ha.1 with e;injection e with _ e;rw[<-e];rfl
 |some p=>have hh:=i1 p hl;rw[hh.1];rw[hh.2]at ha;injection ha.1 with e;injection e with _ e;rw[<-e];rfl
end Lz
namespace Lz
open Go.RowKit Go.Maps Mem Own Canon
def GX(l:List Int):List Value:=l.map (Value.int .i64)
theorem ZK(l:List Int)(x:Int):GX (l++ [x])=GX l++ [.int .i64 x]:=by simp[GX]
theorem info_int:(prog.info? 3).map (fun i=>(i.zero,i.size,i.bytes))=some (some (.int .i64 0),1,8):=mr
structure Ch (w:World) (cb mb base:Nat) (l:List Nat) (n m:Nat) (D:DataW Unit) (pv:Value) (ps:List Int):Prop where
 blk:Blk w cb 307 #[.map (some mb),pv]
 map:w.ownsMap prog 366 (plainElem prog 3) mb m D
 prev:w.ownsRow base 3 1 pv n (GX ps)
 lo:base<=cb
 lm:base<=mb
section
variable {w w':World} {cb mb base:Nat} {l:List Nat} {n m:Nat} {D:DataW Unit} {pv:Value} {ps:List Int}
theorem QI{t:TypeId}{cs:Array Value}{fz:Nat×Nat}(h:w.ownsMap prog 366 (plainElem prog 3) b m D)(hg:w.heap[g]? =some (.cells cs t fz)):b≠g:=by intro e;subst e;obtain⟨es,i,hb,_⟩:=h;rw[hb]at hg;cases hg
theorem Ln{n' s':Nat}{v:Value}(h:w.ownsMap prog 366 (plainElem prog 3) b m D)(ho:w.ownsRow i e s' v n' xs):v.ownBlock≠some b:=by
 intro hv;rcases ho.2 with ⟨rfl,_⟩|⟨g,j,cur,rfl,_,hg,_⟩
 ·simp[Value.ownBlock]at hv
 ·simp[Value.ownBlock]at hv;subst hv;exact QI h hg rfl
theorem Nm(h:w.ownsMap prog 366 (plainElem prog 3) b m D)(hk:w'.heap[b]? =w.heap[b]?):w'.ownsMap prog 366 (plainElem prog 3) b m D:=by obtain⟨es,i,hb,rest⟩:=h;exact⟨es,i,hk.trans hb,rest⟩
theorem Ch.drew(h:Ch w cb mb base l n m D pv ps):Ch w.drew cb mb base l n m D pv ps:=⟨h.blk,h.map,h.prev,h.lo,h.lm⟩
theorem Ch.alloc(h:Ch w cb mb base l n m D pv ps)(o:Obj):Ch (w.alloc o) cb mb base l n m D pv ps:=⟨h.blk.alloc o,h.map.alloc o,h.prev.alloc o,h.lo,h.lm⟩
theorem Ch.more(h:Ch w cb mb base l n m D pv ps):Ch w cb mb base l n (m+1) D pv ps:=⟨h.blk,h.map.mono (Nat.le_succ _),h.prev,h.lo,h.lm⟩
theorem Ch.ne(h:Ch w cb mb base l n m D pv ps):mb≠cb:=QI h.map h.blk
theorem Ch.step(h:Ch w cb mb base l n m D pv ps)(hb:Below w w w'):Ch w' cb mb base l n m D pv ps:=
 ⟨h.blk.step hb,Nm h.map (hb.block mb h.map.lt),eZ h.prev (fun x hx=>hb.block x (Am h.prev x hx).2),h.lo,h.lm⟩
end
def Out(cb mb:Nat)(pv:Value)(w:World)(x:Nat):Prop:=x<w.heap.size/\x≠cb/\x≠mb/\pv.ownBlock≠some x
def K0(pv pv':Value)(w:World):Prop:=pv'.ownBlock=pv.ownBlock∨∃x,pv'.ownBlock=some x/\w.heap.size<=x
theorem Ch.push{w4:World}{D:DataW Unit}{v4:Value}{o:Obj}(h:Ch w cb mb base l n m D pv ps)(hg:(w.alloc o).grownBy w4 pv.ownBlock)(i:w4.ownsRow base 3 1 v4 (n+1) (GX ps++ [.int .i64 (-1)]))
 (y:v4.ownBlock=pv.ownBlock∨v4.ownBlock=some (w.alloc o).heap.size):
 Ch (w4.setCell ⟨cb,1,none⟩ v4) cb mb base l (n+1) m D v4 (ps++ [-1])/\K0 pv v4 w/\Kept (Out cb mb pv w) w (w4.setCell ⟨cb,1,none⟩ v4):=by
 have j:=(h.blk.alloc o).grown hg (fun e=>gZ h.prev h.blk ip e.symm);refine⟨⟨j.set 1 _,?_,?_,h.lo,h.lm⟩,?_,?_⟩
 ·refine Nm h.map ((AV w4 _ _ mb h.ne).trans ((hg.block mb (by have:=h.map.lt;simp;omega) (fun e=>Ln h.map h.prev e.symm)).trans (Ed w o mb h.map.lt)))
 ·rw[ZK];exact eZ i fun x hx=>AV w4 _ _ x (fun e=>gZ i j ip (hx.trans (AE some e)))
 ·rcases y with h1|h1
  ·exact .inl h1
  ·exact .inr ⟨_,h1,pI⟩
 ·exact(((Kept.refl _ w).alloc (fun k hk=>hk.1) o).grown hg (fun k hk=>by have:=hk.1;simp;omega) (fun k hk=>by intro h2;exact h2.2.2.2 hk)).set (fun h2=>h2.2.1 rfl) _
theorem aM(w:World)(cb mb base:Nat)(ls:List Nat)(A:Option Addr)(n c at_:Nat)(D:DataW Unit)(pv:Value)(ps:List Int)(hN:n<=1000000)(Q:at_<=n)(M:n<at_+3)(N:base<=w.heap.size)(h:Ch w cb mb base ls at_ at_ D pv ps):
 Calls prog 229 #[.pointer (some ⟨cb,0,none⟩), .slice A n c,at_] w fun e w'=>e= .returned (.tuple #[])/\∃pv',Ch w' cb mb base ls (at_+1) (at_+1) D pv' (ps++ [-1])/\K0 pv pv' w/\Kept (Out cb mb pv w) w w':=by
 obtain⟨j0,z,E,G,J⟩:=info_parts info_int;obtain⟨pa,pc,rfl⟩:=bZ h.prev;have d0:=h.blk.ia 0;have d1:=h.blk.ia 1;have H:=hid h;have s1:IntKind.i64.wrap ((at_:Int)+3)=(at_:Int)+3:=nV
 have g1:=ic ((n:Int)<(at_:Int)+3)
 clear h;go_enter func229,ntmps229;go_wp2_with(at_builtin;refine iZ rfl (.tmp 13) (.tmp 14) 37 rfl base 3 j0 _ 1 8 underlying37 z E G J rfl ip _ _ _ nc (H.out.prev.alloc _) _ 1 1 [.int .i64 (-1)] nc (Src.of_blk (Blk.made _ _ _) 1 1 1 rfl) mj qg mz pQ ?_;intro v4 w4 i j y;obtain⟨A4,k4,rfl⟩:=bZ i;have q1:w4.cell? ⟨cb,1,none⟩=some (.slice pa at_ pc):=(((H.out.blk.alloc _).grown j (fun e=>gZ H.out.prev H.out.blk ip e.symm))).cell 1;have q0:w4.cell? ⟨cb,0,none⟩=some (.map (some mb)):=(((H.out.blk.alloc _).grown j (fun e=>gZ H.out.prev H.out.blk ip e.symm))).cell 0;have qf:w4.frozen? ⟨cb,1,none⟩=false:=(((H.out.blk.alloc _).grown j (fun e=>gZ H.out.prev H.out.blk ip e.symm))).frozen 1);refine CI (BN rfl _ _ _) rfl ?_;have hp:=H.out.push j i y;exact⟨rfl,_,hp.1.more,hp.2⟩
theorem Tz(h:w.ownsRow base e 1 (.slice (some ⟨g,0,none⟩) n c) n xs)(u:Value)(y:i<n):(w.setCell ⟨g,i,none⟩ u).ownsRow base e 1 (.slice (some ⟨g,0,none⟩) n c) n (xs.set i u):=by
 refine⟨by rw[List.length_set];exact h.1,?_⟩;rcases h.2 with ⟨hv,_⟩|⟨g',z,cur,hv,hb,hg,h1,h2,h3,h4⟩
 ·cases hv
 ·injection hv with e1 e2 e3;injection e1 with e1;injection e1 with e1;subst e1 e3;have j:Blk w g e cur:=hg;refine .inr ⟨g,c,cur.setIfInBounds i u,rfl,hb,j.set i u,h1,h2,by simpa using h3,?_⟩;rw[<-h4];simp[List.take_set]
theorem own_cells(h:w.ownsRow base e 1 (.slice (some ⟨g,0,none⟩) n c) n xs)(hi:i<n):w.cell? ⟨g,i,none⟩=xs[i]? /\w.frozen? ⟨g,i,none⟩=false/\base<=g:=by
 rcases h.2 with ⟨hv,_⟩|⟨g',y,cur,hv,hb,hg,h1,h2,h3,h4⟩
 ·cases hv
 ·injection hv with e1 e2 e3;injection e1 with e1;injection e1 with e1;subst e1 e3;have j:Blk w g e cur:=hg;refine⟨?_,j.frozen i,hb⟩;rw[j.cell i,<-h4,List.getElem?_take_of_lt mz];simp
theorem Ch.put{D:DataW Unit}(h:Ch w cb mb base l n m D (.slice (some ⟨g,0,none⟩) n c) ps)(x:Int)(hi:i<n):Ch (w.setCell ⟨g,i,none⟩ (.int .i64 x)) cb mb base l n m D (.slice (some ⟨g,0,none⟩) n c) (ps.set i x):=by
 have y:g≠cb:=fun e=>gZ h.prev h.blk ip (AE some e);have j:g≠mb:=fun e=>Ln h.map h.prev (AE some e);refine⟨h.blk.far y.symm _,Nm h.map (AV w _ _ mb j.symm),?_,h.lo,h.lm⟩;have:=Tz h.prev (.int .i64 x) hi;have e:GX (ps.set i x)=(GX ps).set i (.int .i64 x):=by simp[GX,List.map_set]
 rw[e];exact this
theorem Ch.upd{w':World}{D D':DataW Unit}(h:Ch w cb mb base l n m D pv ps)(r1:w'.ownsMap prog 366 (plainElem prog 3) mb (m+1) D')(r2:w.grownBy w' (some mb)):Ch w' cb mb base l n (m+1) D' pv ps:=by
 refine⟨h.blk.grown r2 (fun e=> ?_),r1,eZ h.prev fun x hx=>r2.block x (Am h.prev x hx).2 (fun e=> ?_),h.lo,h.lm⟩
 ·injection e with e;exact h.ne e.symm
 ·injection e with e;subst e;exact Ln h.map h.prev hx
theorem JX{w5 w6:World}(h:Kept (Out cb mb pv w) w w5)(hb:Below w5 w5 w6):Kept (Out cb mb pv w) w w6:=h.trans (Kept.of_below hb fun _ hx=>Et hx.1 h.size)
theorem Tn(h:K0 pv (.slice (some ⟨g,0,none⟩) n c) w):¬Out cb mb pv w g:=by
 intro ho;rcases h with h|⟨x,h,hx⟩
 ·exact ho.2.2.2 h.symm
 ·have:g=x:=by simpa[Value.ownBlock]using h
  have:=ho.1;omega
theorem Uc(o:Option Nat):(o=none/\o.isSome=false)∨∃p,o=some p/\o.isSome=true/\Jr o=(p:Int):=by
 cases o with
 |none=>exact .inl ⟨rfl,rfl⟩
 |some p=>exact .inr ⟨p,rfl,rfl,rfl⟩
theorem gV(w:World)(cb mb base:Nat)(ls:List Nat)(A:Option Addr)(n c at_:Nat)(D:DataW Unit)(pv:Value)(ps:List Int)(hn:ls.length=n)(hN:n<=1000000)(a0:at_+3<=n)(a9:base<=w.heap.size)(h8:∀x∈ls,x<=255)(Q:ps.length=at_)
 (ha:Row w base A n 1 (jZ .u8 ls))(hD:MapIs ls at_ D)(h:Ch w cb mb base ls at_ at_ D pv ps):
 Calls prog 229 #[.pointer (some ⟨cb,0,none⟩), .slice A n c,at_] w fun e w'=>e= .returned (.tuple #[])/\∃pv',Ch w' cb mb base ls (at_+1) (at_+1) (D.put (K3 (ls.getD at_ 0) (ls.getD (at_+1) 0) (ls.getD (at_+2) 0)) (.lit (.int .i64 (at_:Int)))) pv' (ps++ [Iv ls at_])/\K0 pv pv' w/\Kept (Out cb mb pv w) w w':=by
 obtain⟨j0,az,a3,av,aw⟩:=info_parts info_int;obtain⟨pa,pc,rfl⟩:=bZ h.prev;have d0:=h.blk.ia 0;have d1:=h.blk.ia 1;have hg:∀i,i<ls.length->ls.getD i 0<=255:=fun i hi=>nS
 have g0:=hg at_ mz;have ag:=hg (at_+1) mz;have g2:=hg (at_+2) mz;have D1:Hid (∀wx,Below base w wx->Calls prog 279 #[.slice A n c,at_] wx fun e w'=>e= .returned (.agg #[.int .u8 (ls.getD at_ 0), .int .u8 (ls.getD (at_+1) 0), .int .u8 (ls.getD (at_+2) 0)])/\Below wx wx w'):=fun wx hb=>TL wx A n c ls at_ hn hN a0 ((ha.below hb).mono mf);have ah:BR ls at_=(ls.getD at_ 0,ls.getD (at_+1) 0,ls.getD (at_+2) 0):=rfl;have aj:Iv ls at_=Iu (BI ls (ls.getD at_ 0,ls.getD (at_+1) 0,ls.getD (at_+2) 0) at_):=by unfold Iv;rw[Ae mz,ah]
 rw[aj];have ay:Hid (∀ (wx:World) pv' ps' n' m,Ch wx cb mb base ls n' m D pv' ps'->(Instr.lookup 305 (.map (some mb)) (.agg #[.int .u8 (ls.getD at_ 0), .int .u8 (ls.getD (at_+1) 0), .int .u8 (ls.getD (at_+2) 0)]) true).run prog wx= .ok (.tuple #[.int .i64 (Jr (BI ls (ls.getD at_ 0,ls.getD (at_+1) 0,ls.getD (at_+2) 0) at_)), .bool (BI ls (ls.getD at_ 0,ls.getD (at_+1) 0,ls.getD (at_+2) 0) at_).isSome]) wx):=fun wx pv' ps' n' m hc=>QW hc.map hD g0 ag g2;have N:=Lb g0 ag g2;unfold k3v at N;have au:=Uc (BI ls (ls.getD at_ 0,ls.getD (at_+1) 0,ls.getD (at_+2) 0) at_);have ak:∀p,BI ls (ls.getD at_ 0,ls.getD (at_+1) 0,ls.getD (at_+2) 0) at_=some p->p<at_:=fun p hp=>(J3 hp).1;generalize BI ls (ls.getD at_ 0,ls.getD (at_+1) 0,ls.getD (at_+2) 0) at_=lo at *;generalize ls.getD at_ 0=x at *;generalize ls.getD (at_+1) 0=y at *;generalize ls.getD (at_+2) 0=z at *;have H:=hid h;have Z:=hid N;have aq:=hid Q;have s1:IntKind.i64.wrap ((at_:Int)+3)=(at_:Int)+3:=nV
 have g1:=ig ((n:Int)<(at_:Int)+3)
 clear h hD ha h8 hg ah aj N hn Q;go_enter func229,ntmps229;go_wp2_with(at_builtin;refine iZ rfl (.tmp 13) (.tmp 14) 37 rfl base 3 j0 _ 1 8 underlying37 az a3 av aw rfl ip _ _ _ nc (H.out.prev.alloc _) _ 1 1 [.int .i64 (-1)] nc (Src.of_blk (Blk.made _ _ _) 1 1 1 rfl) mj qg mz pQ ?_;intro v4 w4 J M Y;obtain⟨A4,k4,rfl⟩:=bZ J;have q1:w4.cell? ⟨cb,1,none⟩=some (.slice pa at_ pc):=(((H.out.blk.alloc _).grown M (fun e=>gZ H.out.prev H.out.blk ip e.symm))).cell 1;have q0:w4.cell? ⟨cb,0,none⟩=some (.map (some mb)):=(((H.out.blk.alloc _).grown M (fun e=>gZ H.out.prev H.out.blk ip e.symm))).cell 0;have qf:w4.frozen? ⟨cb,1,none⟩=false:=(((H.out.blk.alloc _).grown M (fun e=>gZ H.out.prev H.out.blk ip e.symm))).frozen 1);have E:=H.out.push M J Y;have F1:=hid E.1;have F2:=hid E.2;have a1:w.heap.size+1<=w4.heap.size:=by have:=M.size;simp at this;omega
 have ax:Hid (Below base w (w4.setCell ⟨cb,1,none⟩ (.slice A4 (at_+1) k4))):=by have:=E.2.2.below (fun x (hx:x<base)=>(⟨mz,by have:=H.out.lo;omega,by have:=H.out.lm;omega,fun e=>by have:=(Am H.out.prev x e).1;omega⟩:Out cb mb _ w x));exact this
 have aa:(w4.setCell ⟨cb,1,none⟩ (.slice A4 (at_+1) k4)).heap.size=w4.heap.size:=pI
 rw[<-aa]at a1;clear E q1 q0 qf J Y M d0 d1 aa;generalize w4.setCell ⟨cb,1,none⟩ (.slice A4 (at_+1) k4)=w5 at *;refine(D1.out w5 ax.out).mono ?_;rintro e w6 ⟨rfl,G⟩;have F3:=hid (F1.out.step G);have dm:=F3.out.blk.ia 0;have dp:=F3.out.blk.ia 1;obtain⟨gp,cp,hA⟩:=IS F3.out.prev;injection hA with e1 _ e3;subst e1 e3;have F4:=hid (F3.out.alloc (.cells #[.int .u8 x, .int .u8 y, .int .u8 z] 366));have hl:=ay.out _ _ _ _ _ F4.out.drew;obtain⟨oc,an,ob⟩:=own_cells (i:=at_) F4.out.drew.prev mz;have am:gp≠cb:=fun e=>gZ F4.out.prev F4.out.blk ip (AE some e);have ba:=hid am;have al:(GX (ps++ [-1]))[at_]? =some (.int .i64 (-1)):=by unfold GX;have:=aq.out;simp[<-this]
 rw[al]at oc;clear dm dp am al;have dm:=F4.out.drew.blk.ia 0;have dp:=F4.out.drew.blk.ia 1;have U:Blk (w6.alloc (.cells #[.int .u8 x, .int .u8 y, .int .u8 z] 366)).drew w6 366 #[.int .u8 x, .int .u8 y, .int .u8 z]:=(Blk.made _ _ _).drew;have z0:=U.ia 0;have z1:=U.ia 1;have z2:=U.ia 2;clear U;have oz:=ic ((at_:Int)<((at_+1:Nat):Int))
 have a6:¬(at_:Int)<0:=mz
 have a5:=F3.out.blk.lt;have a4:gp<w6.heap.size:=(Am F3.out.prev gp rfl).2;rcases au with ⟨rfl,hs⟩|⟨p,rfl,hs,hv⟩
 ·rw[hs]at hl;clear hs
  change (Instr.lookup _ _ _ _).run _ _= .ok (.tuple #[.int .i64 (0:Int),_]) _ at hl
  go_upto_region 3 with fail;go_region_held3 (fun wx=>wx.cell? ⟨cb,0,none⟩=some (.map (some mb))/\wx.cell? ⟨w6,0,none⟩=some (.int .u8 x)/\wx.cell? ⟨w6,1,none⟩=some (.int .u8 y)/\wx.cell? ⟨w6,2,none⟩=some (.int .u8 z)/\(Instr.lookup 305 (.map (some mb)) (.agg #[.int .u8 x, .int .u8 y, .int .u8 z]) true).run prog wx= .ok (.tuple #[.int .i64 (0:Int),false]) wx) (exact⟨dm,z0,z1,z2,hl⟩) (fail);go_upto_region 6 with fail;have F6:=hid F4.out.drew.drew;have j:Blk (w6.alloc (.cells #[.int .u8 x, .int .u8 y, .int .u8 z] 366)).drew.drew w6 366 #[.int .u8 x, .int .u8 y, .int .u8 z]:=(Blk.made _ _ _).drew.drew;obtain⟨w9,ai,r1,r2⟩:=F6.out.map.update (val:= .int .i64 (at_:Int)) (d:= .lit (.int .i64 (at_:Int))) (ps:= []) law3 underlying305 qg Z.out (plainElem_int underlying3 (WalkArith.wf_i64 mz));have ae:=F6.out.blk.ia 0;have af:=j.ia 0;have ac:=j.ia 1;have ab:=j.ia 2;clear j;clear hl dm dp z0 z1 z2 oc an ak;go_region;refine bodyPost_end (BN rfl _ _ _) rfl ?_;exact⟨rfl,_,F6.out.upd r1 r2,F2.out.1,((((JX F2.out.2 G).alloc ((JX F2.out.2 G).lt fun k hk=>hk.1) _).drew.drew).grown r2 (((JX F2.out.2 G).alloc ((JX F2.out.2 G).lt fun k hk=>hk.1) _).drew.drew.lt fun k hk=>hk.1) (fun k e hk=>by injection e with e;exact hk.2.2.1 e.symm))⟩
 ·rw[hs,hv]at hl;clear hs hv;go_upto_region 3 with fail;go_region_held3 (fun wx=>wx.cell? ⟨cb,0,none⟩=some (.map (some mb))/\wx.cell? ⟨w6,0,none⟩=some (.int .u8 x)/\wx.cell? ⟨w6,1,none⟩=some (.int .u8 y)/\wx.cell? ⟨w6,2,none⟩=some (.int .u8 z)/\(Instr.lookup 305 (.map (some mb)) (.agg #[.int .u8 x, .int .u8 y, .int .u8 z]) true).run prog wx= .ok (.tuple #[.int .i64 (p:Int),true]) wx) (exact⟨dm,z0,z1,z2,hl⟩) (fail);go_upto_region 6 with fail;have F6:=hid (((F3.out.put (i:=at_) (p:Int) mz).alloc (.cells #[.int .u8 x, .int .u8 y, .int .u8 z] 366)).drew.drew);have j:Blk ((w6.setCell ⟨gp,at_,none⟩ (.int .i64 (p:Int))).alloc (.cells #[.int .u8 x, .int .u8 y, .int .u8 z] 366)).drew.drew w6 366 #[.int .u8 x, .int .u8 y, .int .u8 z]:=(Blk.made_at _ _ _ pI).drew.drew;obtain⟨w9,ai,r1,r2⟩:=F6.out.map.update (val:= .int .i64 (at_:Int)) (d:= .lit (.int .i64 (at_:Int))) (ps:= []) law3 underlying305 qg Z.out (plainElem_int underlying3 (WalkArith.wf_i64 mz));have ae:=F6.out.blk.ia 0;have af:=j.ia 0;have ac:=j.ia 1;have ab:=j.ia 2;clear j;clear hl dm dp z0 z1 z2 oc an ak;go_region;refine bodyPost_end (BN rfl _ _ _) rfl ?_;have ar:=(((JX F2.out.2 G).set (p:=⟨gp,at_,none⟩) (Tn F2.out.1) (.int .i64 (p:Int))).alloc (((JX F2.out.2 G).set (p:=⟨gp,at_,none⟩) (Tn F2.out.1) (.int .i64 (p:Int))).lt fun k hk=>hk.1) (.cells #[.int .u8 x, .int .u8 y, .int .u8 z] 366)).drew.drew;have hF:=F6.out.upd r1 r2;have Q:(ps++ [-1]).set at_ (p:Int)=ps++ [Iu (some p)]:=by have:=aq.out;subst this;simp[Iu]
  rw[Q]at hF;exact⟨rfl,_,hF,F2.out.1,ar.grown r2 (ar.lt fun k hk=>hk.1) (fun k e hk=>by injection e with e;exact hk.2.2.1 e.symm)⟩
end Lz
namespace Lz
open Go.RowKit Go.Maps Mem Own Canon
theorem add_any(w:World)(cb mb base:Nat)(ls:List Nat)(A:Option Addr)(n c at_:Nat)(D:DataW Unit)(pv:Value)(hn:ls.length=n)(hN:n<=1000000)(j:at_<n)(i:base<=w.heap.size)(h8:∀x∈ls,x<=255)
 (ha:Row w base A n 1 (jZ .u8 ls))(hD:MapIs ls at_ D)(h:Ch w cb mb base ls at_ at_ D pv (FZ ls at_)):
 Calls prog 229 #[.pointer (some ⟨cb,0,none⟩), .slice A n c,at_] w fun e w'=>e= .returned (.tuple #[])/\∃D' pv',MapIs ls (at_+1) D'/\Ch w' cb mb base ls (at_+1) (at_+1) D' pv' (FZ ls (at_+1))/\K0 pv pv' w/\Kept (Out cb mb pv w) w w':=by
 rw[bL];by_cases hf:at_+3<=n
 ·refine(gV w cb mb base ls A n c at_ D pv _ hn hN hf i h8 (gK _ _) ha hD h).mono ?_;rintro e w' ⟨rfl,pv',h1,h2,h3⟩;exact⟨rfl,_,pv',hD.put h8 mz,h1,h2,h3⟩
 ·have e:Iv ls at_= -1:=by unfold Iv;rw[Ab mz]
  rw[e];refine(aM w cb mb base ls A n c at_ D pv _ hN mz mz i h).mono ?_;rintro e w' ⟨rfl,pv',h1,h2,h3⟩;exact⟨rfl,_,pv',hD.skip mz,h1,h2,h3⟩
theorem Zs(w:World)(cb:Nat)(ls:List Nat)(A:Option Addr)(n c at_:Nat)(hn:ls.length=n)(hN:n<=1000000)(h:at_<=n)(hf:n<at_+3):
 Calls prog 228 #[.pointer (some ⟨cb,0,none⟩), .slice A n c,at_] w fun e w'=>e= .returned (.tuple #[.int .i64 ((norm (Bk ls at_)).1:Nat), .int .i64 ((norm (Bk ls at_)).2:Nat)])/\Below w w w':=by
 rw[aQ mz];have s1:IntKind.i64.wrap ((at_:Int)+3)=(at_:Int)+3:=nV
 have g1:=ic ((n:Int)<(at_:Int)+3)
 clear hn;go_enter func228,ntmps228;go_wp2_with fail;go_ret2;exact⟨rfl,Ag _ _⟩
theorem Z1(w:World)(cb mb base:Nat)(ls:List Nat)(A:Option Addr)(n c at_ m:Nat)(D:DataW Unit)(pv:Value)(hn:ls.length=n)(hN:n<=1000000)(bb:at_+3<=n)(ar:base<=w.heap.size)(h8:∀x∈ls,x<=255)
 (ha:Row w base A n 1 (jZ .u8 ls))(hD:MapIs ls at_ D)(h:Ch w cb mb base ls at_ m D pv (FZ ls at_)):
 Calls prog 228 #[.pointer (some ⟨cb,0,none⟩), .slice A n c,at_] w fun e w'=>e= .returned (.tuple #[.int .i64 ((norm (Bk ls at_)).1:Nat), .int .i64 ((norm (Bk ls at_)).2:Nat)])/\Below w w w':=by
 have hg:∀i,i<ls.length->ls.getD i 0<=255:=fun i hi=>nS
 have g0:=hg at_ mz;have ah:=hg (at_+1) mz;have g2:=hg (at_+2) mz;have aw:BR ls at_=(ls.getD at_ 0,ls.getD (at_+1) 0,ls.getD (at_+2) 0):=rfl;have D1:Hid (∀wx,Below w w wx->Calls prog 279 #[.slice A n c,at_] wx fun e w'=>e= .returned (.agg #[.int .u8 (ls.getD at_ 0), .int .u8 (ls.getD (at_+1) 0), .int .u8 (ls.getD (at_+2) 0)])/\Below wx wx w'):=fun wx hb=>TL wx A n c ls at_ hn hN bb ((ha.below (hb.mono ar)).mono mf);have D2:Hid (∀wx p,Below w w wx->p<=at_->Calls prog 280 #[.slice A n c, .int .i64 p,at_] wx fun e w'=>e= .returned (.int .i64 (alike ls p at_:Nat))/\Below wx wx w'):=fun wx p hb hp=>eX wx A n c ls p at_ hn hN hp mz ((ha.below (hb.mono ar)).mono mf);have U:Hid (∀wx:World,Below w w wx->(Instr.lookup 305 (.map (some mb)) (.agg #[.int .u8 (ls.getD at_ 0), .int .u8 (ls.getD (at_+1) 0), .int .u8 (ls.getD (at_+2) 0)]) true).run prog wx= .ok (.tuple #[.int .i64 (Jr (BI ls (BR ls at_) at_)), .bool (BI ls (BR ls at_) at_).isSome]) wx):=fun wx hb=>QW (h.step hb).map hD g0 ah g2;have aj:=Uc (BI ls (BR ls at_) at_);have HP:Hid (∀E,E<=at_->∀p,BI ls (BR ls at_) E=some p->p<E/\∃gp cp,pv= .slice (some ⟨gp,0,none⟩) at_ cp/\w.cell? ⟨gp,p,none⟩=some (.int .i64 (Iu (BI ls (BR ls at_) p)))/\gp<w.heap.size):=fun E hE p hp=>by obtain⟨h1,h2,h3,h4⟩:=J3 hp;refine⟨h1,?_⟩;obtain⟨bi,rfl⟩:∃k,at_=k+1:=⟨at_-1,mz⟩;obtain⟨gp,cp,rfl⟩:=IS h.prev;have hc:=(own_cells (i:=p) h.prev mz).1;refine⟨gp,cp,rfl,?_,(Am h.prev gp rfl).2⟩;rw[hc];unfold GX;rw[BE,iA mz];unfold Iv;rw[Ae mz,h3];rfl
 have d0:=h.blk.ia 0;have d1:=h.blk.ia 1;have s1:IntKind.i64.wrap ((at_:Int)+3)=(at_:Int)+3:=nV
 have g1:=ig ((n:Int)<(at_:Int)+3)
 have HS:=hid (At.start ls at_);have ab:=h.blk.lt;obtain⟨R,hR⟩:=ii (norm (Bk ls at_));have bc:Hid (∀E p nd,At ls at_ E nd->BI ls (BR ls at_) E=some p->at_-p<=4095->At ls at_ p (if nd.1<alike ls p at_ then(alike ls p at_,at_-p)else nd)):=fun E p nd h1 h2 h3=>h1.next mz h2 h3;have an:Hid (∀E nd,At ls at_ E nd->BI ls (BR ls at_) E=none->R=nd):=fun E nd h1 h2=>hR.trans <| h1.none mz h2;have a4:Hid (∀E p nd,At ls at_ E nd->BI ls (BR ls at_) E=some p->4095<at_-p->R=nd):=fun E p nd h1 h2 h3=>hR.trans <| h1.far mz h2 h3;have a3:Hid (∀E nd,At ls at_ E nd->nd.1=257->R=nd):=fun E nd h1 h2=>hR.trans <| h1.full h2;have ba:Hid (∀p,alike ls p at_<=257):=fun p=>P8 ls p at_;rw[<-hR];generalize ls.getD at_ 0=x at *;generalize ls.getD (at_+1) 0=y at *;generalize ls.getD (at_+2) 0=z at *;clear h hD ha h8 hg aw hn hR;have aa:w.drew.cell? ⟨cb,0,none⟩=some (.map (some mb)):=d0;have ae:=U.out w.drew (Ag _ _).drew;have HC:=hid aj;clear aj;obtain⟨lo,j⟩:=ii (BI ls (BR ls at_) at_);rw[<-j]at U ae HC;have Q:=hid j;clear j;go_enter func228,ntmps228;go_upto_region 3 with fail;go_region_held3 (fun wx=>wx.cell? ⟨cb,0,none⟩=some (.map (some mb))/\(Instr.lookup 305 (.map (some mb)) (.agg #[.int .u8 x, .int .u8 y, .int .u8 z]) true).run prog wx= .ok (.tuple #[.int .i64 (Jr lo),lo.isSome]) wx) (first|exact⟨aa,ae⟩|exact k0) (first|(go_at_call 279;(with_reducible refine(D1.out _ qh).mono ?_);rintro e w1 ⟨rfl,Z⟩;have k0:w1.cell? ⟨cb,0,none⟩=some (.map (some mb))/\(Instr.lookup 305 (.map (some mb)) (.agg #[.int .u8 x, .int .u8 y, .int .u8 z]) true).run prog w1= .ok (.tuple #[.int .i64 (Jr lo),lo.isSome]) w1:=⟨(Z.cell (p:=⟨cb,_,none⟩) ab).trans aa,U.out _ qh⟩));have am:Hid (Below w w w1):=dZ Z (Az (Ag w w));clear k0 Z ae aa U d0 g0 ah g2;rcases HC.out with ⟨h1,h2⟩|⟨p0,h1,h2,h3⟩
 ·have hR:Hid (R=(0,0)):=an.out at_ _ HS.out (Q.out.symm.trans h1);rw[h2];clear HC Q;generalize Jr lo=zz;clear h1 h2;go_wp2_with fail;go_loopw [6,7,8] (fun a b _ wr=>a= .int .i64 0/\b= .int .i64 0/\Hid (Below w w wr)) (fun _ _ _ _=>0)
  case atStart=>exact⟨rfl,rfl,am⟩
  case round=>obtain⟨rfl,rfl,HB⟩:=hrel;go_wp2_with fail;go_ret2;exact⟨by rw[hR.out];rfl,HB.out⟩
 ·have HV:Hid (BI ls (BR ls at_) at_=some p0):=Q.out.symm.trans h1;rw[h2,h3];have a1:=(HP.out at_ (Aq _) p0 HV.out).1;clear HC Q h1 h2 h3;go_wp2_with fail;go_loopw [6,7,8] (fun a b v wr=>∃ (E n1 n2:Nat) (vi:Int),a= .int .i64 n1/\b= .int .i64 n2/\v= .int .i64 vi/\n1<=257/\Hid (E<=at_/\At ls at_ E (n1,n2))/\Hid (vi=Iu (BI ls (BR ls at_) E))/\Hid (Below w w wr)) (fun _ _ v _=>(intOf v+1).toNat)
  case atStart=>exact⟨at_,0,0,p0,rfl,rfl,rfl,mz,⟨Aq _,HS.out⟩,by show(p0:Int)=_;rw[HV.out];rfl,am.out⟩
  case round=>
   obtain⟨E,n1,n2,vi,rfl,rfl,rfl,a5,HA,J,HB⟩:=hrel;clear a1 HV;obtain⟨lo,j⟩:=ii (BI ls (BR ls at_) E);cases lo with
   |none=>have M:vi= -1:=(by have:=J.out;rw[<-j]at this;exact this);have hR:=hid (an.out E _ HA.out.2 j.symm);clear j J;subst M;go_wp2_with fail;go_ret2;exact⟨by rw[hR.out];rfl,HB.out⟩
   |some p=>
    have M:vi=(p:Nat):=(by have:=J.out;rw[<-j]at this;exact this);obtain⟨bf,gp,cp,N,G,al⟩:=HP.out E HA.out.1 p j.symm;have be:=HA.out.1;have HL:Hid (BI ls (BR ls at_) E=some p):=j.symm;clear j J;subst M;obtain⟨d,hd⟩:=ii (at_-p);have g2:((p:Int) != -1)=true:=oO;have s2:IntKind.i64.wrap ((at_:Int)-(p:Int))=(d:Int):=nW;by_cases hw:d<=4095
    ·have g3:=ic ((d:Int)<=4095);have ay:=ic (d<=4095);by_cases bd:n1<257
     ·have g4:=ic ((n1:Int)<257);have a9:=ic (n1<257);have hA2:=bc.out E p _ HA.out.2 HL.out mz;have au:=(HB.out.cell (p:=⟨cb,1,none⟩) ab).trans d1;have af:=(HB.out.cell (p:=⟨gp,p,none⟩) al).trans G;have az:=hid hd;have ax:=hid N;have aq:=hid G;have av:=hid hA2;clear hd N G af hA2 au;go_wp2_with fail;refine(D2.out wr p HB.out mz).mono ?_;rintro e w2 ⟨rfl,ai⟩;have Y:Hid (Below w w w2):=dZ ai HB.out;have a0:=ba.out p;generalize alike ls p at_=a at *;have au:=(Y.out.cell (p:=⟨cb,1,none⟩) ab).trans d1;have af:=(Y.out.cell (p:=⟨gp,p,none⟩) al).trans aq.out;have N:=ax.out;subst N;have x1:(0:Int)<=(p:Int):=mz;have x2:(p:Int)<(at_:Int):=by omega
      have ag:Iu (BI ls (BR ls at_) p)<(p:Int)/\ -1<=Iu (BI ls (BR ls at_) p):=by
       cases hq:BI ls (BR ls at_) p with
       |none=>exact⟨by show(-1:Int)<_;omega,by show(-1:Int)<= -1;omega⟩
       |some q=>exact⟨by have:=(J3 hq).1;show((q:Nat):Int)<_;omega,by show(-1:Int)<=((q:Nat):Int);omega⟩
      obtain⟨vi,M⟩:=ii (Iu (BI ls (BR ls at_) p));rw[<-M]at af ag;have J:=hid M;obtain⟨bh,bg⟩:=ag;clear M aq d1 HB ai;by_cases ak:n1<a
      ·have g5:=ic ((n1:Int)<a);have a6:=ic (n1<a);have ac:Hid (p<=at_/\At ls at_ p (a,d)):=⟨mz,by have h:=av.out;rw[Ae ak]at h;rw[az.out];exact h⟩;go_wp2_with fail;go_roundw
       case measure=>exact jo
       case rel=>go_light;exact⟨p,a,d,vi,rfl,rfl,rfl,a0,ac.out,J.out,Y.out⟩
      ·have g5:=ig ((n1:Int)<a);have a6:=ig (n1<a);have ac:Hid (p<=at_/\At ls at_ p (n1,n2)):=⟨mz,by have h:=av.out;rw[Ab ak]at h;exact h⟩;go_wp2_with fail;go_roundw
       case measure=>exact jo
       case rel=>go_light;exact⟨p,n1,n2,vi,rfl,rfl,rfl,a5,ac.out,J.out,Y.out⟩
     ·have hR:=hid (a3.out E _ HA.out.2 (show n1=257 by omega));have g4:=ig ((n1:Int)<257);have a9:=ig (n1<257);clear hd N G;go_wp2_with fail;go_ret2;exact⟨by rw[hR.out];rfl,HB.out⟩
    ·have hR:=hid (a4.out E p _ HA.out.2 HL.out mz);have g3:=ig ((d:Int)<=4095);have ay:=ig (d<=4095);clear hd N G;go_wp2_with fail;go_ret2;exact⟨by rw[hR.out];rfl,HB.out⟩
theorem long_any(w:World)(cb mb base:Nat)(ls:List Nat)(A:Option Addr)(n c at_ m:Nat)(D:DataW Unit)(pv:Value)(hn:ls.length=n)(hN:n<=1000000)(j:at_<n)(i:base<=w.heap.size)(h8:∀x∈ls,x<=255)
 (ha:Row w base A n 1 (jZ .u8 ls))(hD:MapIs ls at_ D)(h:Ch w cb mb base ls at_ m D pv (FZ ls at_)):
 Calls prog 228 #[.pointer (some ⟨cb,0,none⟩), .slice A n c,at_] w fun e w'=>e= .returned (.tuple #[.int .i64 ((norm (Bk ls at_)).1:Nat), .int .i64 ((norm (Bk ls at_)).2:Nat)])/\Below w w w':=by
 by_cases hf:at_+3<=n
 ·exact Z1 w cb mb base ls A n c at_ m D pv hn hN hf i h8 ha hD h
 ·exact Zs w cb ls A n c at_ hn hN mz mz
end Lz
namespace Lz
open Go.RowKit Go.Maps Mem Own Canon
open Toks (Tk)
open Huff (Dx Lo MF)
structure FS (w0 w:World) (cb mb:Nat) (l:List Nat) (at_:Nat) (D:DataW Unit) (pv vt:Value) (k:Nat) (ts:List Tk):Prop where
 ch:Ch w cb mb w0 l at_ at_ D pv (FZ l at_)
 map:MapIs l at_ D
 own:w.ownsRow w0 280 3 vt k (Dx ts)
 bel:Below w0 w0 w
section
variable {w0 w w':World} {cb mb:Nat} {l:List Nat} {at_ k:Nat} {D:DataW Unit} {pv vt:Value} {ts:List Tk}
theorem FS.step(h:FS w0 w cb mb l at_ D pv vt k ts)(hb:Below w w w'):FS w0 w' cb mb l at_ D pv vt k ts:=
 ⟨h.ch.step hb,h.map,eZ h.own (fun x hx=>hb.block x (Am h.own x hx).2),h.bel.trans (hb.mono h.bel.size)⟩
theorem FS.alloc(h:FS w0 w cb mb l at_ D pv vt k ts)(o:Obj):FS w0 (w.alloc o) cb mb l at_ D pv vt k ts:=
 h.step (aZ (Ag _ _))
theorem FS.grown{j:Value}{k':Nat}{i:List Tk}(h:FS w0 w cb mb l at_ D pv vt k ts)(hg:w.grownBy w' vt.ownBlock)(ho:w'.ownsRow w0 280 3 j k' (Dx i)):FS w0 w' cb mb l at_ D pv j k' i:=by
 refine⟨⟨h.ch.blk.grown hg (fun e=>gZ h.own h.ch.blk ip e.symm),Nm h.ch.map (hg.block mb h.ch.map.lt (fun e=>Ln h.ch.map h.own e.symm)),eZ h.ch.prev (fun x hx=>hg.block x (Am h.ch.prev x hx).2 (fun e=> ?_)),h.ch.lo,h.ch.lm⟩,h.map,ho,⟨hg.os.trans h.bel.os,hg.tape.trans h.bel.tape,hg.output.trans h.bel.output,AN h.bel.size hg.size,fun x hx=>(hg.block x (by have:=h.bel.size;omega) (fun e=> ?_)).trans (h.bel.block x hx)⟩⟩
 ·rcases EZ h.ch.prev h.own ip with e1|e1
  ·rw[hx]at e1;cases e1
  ·exact e1 (hx.trans e)
 ·have:=(Am h.own x e.symm).1;omega
theorem FS.added{D':DataW Unit}{pv':Value}(h:FS w0 w cb mb l at_ D pv vt k ts)(hm:MapIs l (at_+1) D')(hc:Ch w' cb mb w0 l (at_+1) (at_+1) D' pv' (FZ l (at_+1)))(hk:Kept (Out cb mb pv w) w w'):FS w0 w' cb mb l (at_+1) D' pv' vt k ts:=by
 refine⟨hc,hm,eZ h.own (fun x hx=>hk.block x ⟨(Am h.own x hx).2,fun e=> ?_,fun e=> ?_,fun e=> ?_⟩),?_⟩
 ·subst e;exact gZ h.own h.ch.blk ip hx
 ·subst e;exact Ln h.ch.map h.own hx
 ·rcases EZ h.ch.prev h.own ip with e1|e1
  ·rw[e]at e1;cases e1
  ·exact e1 (e.trans hx.symm)
 ·have hb:Below w0 w w':=hk.below (fun x hx=>⟨by have:=h.bel.size;omega,by have:=h.ch.lo;omega,by have:=h.ch.lm;omega,fun e=>by have:=(Am h.ch.prev x e).1;omega⟩);exact h.bel.trans hb
end
theorem FS.start(w:World)(l:List Nat):FS w ((w.alloc (.map #[] 0)).alloc (.cells #[.map (some w.heap.size),()] 307)) (w.heap.size+1) w l 0 (.map []) (.slice none 0 0) (.slice none 0 0) 0 []:=
 ⟨⟨Blk.made_at _ _ _ pI,((World.ownsMap_made w _ _ _).alloc _),AK _ _ _ _,mz,mz⟩,MapIs.start l,AK _ _ _ _,aZ (aZ (Ag _ _))⟩
theorem fS(w:World)(A:Option Addr)(n c:Nat)(ls:List Nat)(hn:ls.length=n)(hN:n<=1000000)(h8:∀x∈ls,x<=255)(ha:Row w w A n 1 (jZ .u8 ls)):
 Calls prog 167 #[.slice A n c] w fun e w'=>∃v,e= .returned v/\w'.ownsRow w 280 3 v (find ls).length (Dx (find ls))/\Below w w w':=by
 obtain⟨j0,ay,az,am,an⟩:=info_parts MF;obtain⟨R,hR⟩:=ii (find ls);have aq:Hid (Do ls 0=R):=hR.symm;rw[<-hR];have S0:=hid (FS.start w ls)
 have DL:Hid (∀wx cb mb D pv vt k ts at_,at_<n->FS w wx cb mb ls at_ D pv vt k ts->Calls prog 228 #[.pointer (some ⟨cb,0,none⟩), .slice A n c, .int .i64 at_] wx fun e w'=>e= .returned (.tuple #[.int .i64 ((norm (Bk ls at_)).1:Nat), .int .i64 ((norm (Bk ls at_)).2:Nat)])/\Below wx wx w'):=
  fun wx cb mb D pv vt k ts at_ h1 h2=>long_any wx cb mb w ls A n c at_ at_ D pv hn hN h1 h2.bel.size h8 (ha.below h2.bel) h2.map h2.ch
 have DA:Hid (∀wx cb mb D pv vt k ts at_,at_<n->FS w wx cb mb ls at_ D pv vt k ts->Calls prog 229 #[.pointer (some ⟨cb,0,none⟩), .slice A n c, .int .i64 at_] wx fun e w'=>e= .returned (.tuple #[])/\∃D' pv',FS w w' cb mb ls (at_+1) D' pv' vt k ts):=
  fun wx cb mb D pv vt k ts at_ h1 h2=>(add_any wx cb mb w ls A n c at_ D pv hn hN h1 h2.bel.size h8 (ha.below h2.bel) h2.map h2.ch).mono fun e w' ⟨he,D',pv',q1,q2,_,q4⟩=>⟨he,D',pv',h2.added q1 q2 q4⟩
 have au:Hid (∀at_,at_<n->((norm (Bk ls at_)).1=0/\(norm (Bk ls at_)).2=0/\Do ls at_=⟨(ls.getD at_ 0:Nat),0,0⟩ :: Do ls (at_+1))∨(3<=(norm (Bk ls at_)).1/\at_+(norm (Bk ls at_)).1<=n/\Do ls at_=⟨0,((norm (Bk ls at_)).1:Nat),((norm (Bk ls at_)).2:Nat)⟩ :: Do ls (at_+(norm (Bk ls at_)).1))):=fun at_ ai=>by
  by_cases h3:3<=(Bk ls at_).1
  ·rw[Z5 h3];exact .inr ⟨h3,by have:=Kr (l:=ls) (at_:=at_) mz;omega,Kw mz h3⟩
  ·rw[fX h3];exact .inl ⟨rfl,rfl,Kn mz h3⟩
 have Z:Hid (Do ls n= []):=LM mz;have HN:=hid hn;have HA:Hid (∀wx at_,Below w w wx->at_<n->∃b J,A=some ⟨b,J,none⟩/\wx.cell? ⟨b,J+at_,none⟩=some (.int .u8 (ls.getD at_ 0:Nat))/\b<w.heap.size):=fun wx at_ hb ai=>by obtain⟨b,J,rfl,aa,hc⟩:=ha mz;have:=(hb.cell (p:=⟨b,_,none⟩) aa).trans (hc at_ 0 ai mz);simp only[jZ,Nat.mul_one,Nat.add_zero]at this;exact⟨b,J,rfl,this,aa⟩
 clear hR hn h8 ha;have a3:=run_makeMap (P:=prog) 305 w;go_enter func167,ntmps167;go_wp2_with fail;clear a3;go_loopw [4,5] (fun u v wr=>∃ (at_ k:Nat) (D:DataW Unit) (pv:Value) (ts:List Tk),v= .int .i64 at_/\at_<=n/\k<=at_/\Hid (ts.length=k)/\Hid (ts++Do ls at_=R)/\Hid (FS w wr (w.heap.size+1) w ls at_ D pv u k ts)) (fun _ v _=>n-(intOf v).toNat)
 case atStart=>exact⟨0,0,_,_,[],rfl,mz,mz,rfl,aq.out,S0.out⟩
 case round=>
  obtain⟨w0,rfl⟩:=ii wr;obtain⟨at_,k,D,pv,ts,rfl,ai,hk,HL,HR,HS⟩:=hrel;clear aq S0;obtain⟨AT,kT,rfl⟩:=bZ HS.out.own;by_cases ab:at_<n
  ·have g1:=ic ((at_:Int)<n);have a1:=ic (at_<n);have y0:(0:Int)<=(at_:Int):=mz;have y1:(at_:Int)<(n:Int):=mz;have zb:=HS.out.bel.size;have zc:=HS.out.ch.blk.lt;obtain⟨b,J,hA,af,aa⟩:=HA.out w0 at_ HS.out.bel ab;subst hA;have ax:=au.out at_ ab;have ar:=fun wx D pv vt k ts=>DL.out wx (w.heap.size+1) w D pv vt k ts at_ ab;have S1:=hid (HS.out.alloc (.cells #[.int .u8 (ls.getD at_ 0:Nat),ij,ij] 280));have hD:=hid (ar _ _ _ _ _ _ S1.out);clear ar;generalize ls.getD at_ 0=x at *;generalize norm (Bk ls at_)=NR at *;obtain⟨nr,dr⟩:=NR;have Y:=hid ax;clear ax DL;go_wp2_with fail;refine hD.out.mono ?_;rintro e w1 ⟨rfl,al⟩;have U:Below w0 w0 w1:=dZ al (aZ (Ag _ _));have z:Blk w1 w0 280 #[.int .u8 x,ij,ij]:=(Blk.made _ _ _).step al;have ba:=z.lt;have aw:=hid z;have t0:=z.ia 0;have t1:=z.ia 1;have t2:=z.ia 2;have f0:=z.frozen 0;have f1:=z.frozen 1;have f2:=z.frozen 2;clear hD af S1 z;have a0:=Y.out;clear Y;rcases a0 with ⟨h1,h2,h3⟩|⟨h1,h2,h3⟩
   ·subst h1 h2;have Q:=hid h3;clear h3;have S2:=hid (HS.out.step (show Below w0 w0 w1 by(repeat (with_reducible first|exact Ag _ _|assumption|refine Az ?_ |refine below_drewN ?_ _|refine qZ ?_ |refine aZ ?_ |refine dZ im ?_ |refine belA ?_ |refine rZ im ?_))));have a5:k<1000001:=mz;go_wp2_with(at_builtin;refine iZ rfl (.tmp 35) (.tmp 37) 190 rfl w 280 j0 _ 3 24 underlying190 ay az am an rfl ip _ _ _ nc ((S2.out.alloc _).own) _ 1 1 [.int .u8 (x:Nat), .int .i64 0, .int .i64 0] nc (Src.of_blk (g:=w1.heap.size) (Blk.made_at _ _ _ pI) 1 1 3 rfl) mm qg mz pQ ?_;intro v4 w4 y M G);have i:w4.ownsRow w 280 3 v4 (k+1) (Dx (ts++ [⟨(x:Nat),0,0⟩])):=(by rw[Lo];exact y);have S4:=hid ((S2.out.alloc _).grown M i);have ak:Hid ((ts++ [⟨(x:Nat),0,0⟩])++Do ls (at_+1)=R):=(by have h:=HR.out;rw[Q.out]at h;rw[AJ];exact h);have ah:Hid ((ts++ [(⟨(x:Nat),0,0⟩:Tk)]).length=k+1):=(by rw[Aj,HL.out];rfl);generalize ts++ [(⟨(x:Nat),0,0⟩:Tk)]=E at *;clear y M G i S2 Q HR HL t0 t1 t2 f0 f1 f2 aw U HS;go_loopw [5,40] (fun v u wr=>∃ (j q:Nat) (D:DataW Unit) (pv:Value),u= .int .i64 j/\v= .int .i64 q/\q=at_+j/\j<=1/\Hid (FS w wr (w.heap.size+1) w ls q D pv v4 (k+1) E)) (fun _ u _=>1-(intOf u).toNat)
    case atStart=>exact⟨0,at_,D,pv,rfl,rfl,rfl,mz,S4.out⟩
    case round=>
     obtain⟨w5,rfl⟩:=ii wr;obtain⟨j,q,D5,N,rfl,rfl,hq,hj,S5⟩:=hrel;clear S4;by_cases a9:j<1
     ·have u1:=ic ((j:Int)<1);have aj:=ic (j<1);have u2:IntKind.i64.wrap ((q:Int)+1)=((q+1:Nat):Int):=nW;have ac:q<n:=mz;have HQ:=hid hq;clear hq;have u3:IntKind.i64.wrap ((j:Int)+1)=((j+1:Nat):Int):=nW;go_wp2_with fail;refine(DA.out w5 _ _ D5 N v4 (k+1) E q ac S5.out).mono ?_;rintro e w6 ⟨rfl,D6,ae,S6⟩;have S6:=hid S6;clear S5;go_wp2_with fail;go_roundw
      case measure=>exact jo
      case rel=>exact jg
     ·have u1:=ig ((j:Int)<1);have aj:=ig (j<1);have ag:q=at_+1:=mz;subst ag;clear hq;go_wp2_with fail;go_roundw
      case measure=>exact jo
      case rel=>go_light;exact⟨at_+1,k+1,D5,N,E,rfl,mz,mz,ah.out,ak.out,S5.out⟩
   ·have bb:3<=nr:=h1;have bd:at_+nr<=n:=h2;have Q:=hid h3;clear h1 h2 h3;have q3:=ic ((3:Int)<=nr);have bc:=ic (3<=nr);have S2:=hid (HS.out.step (show Below w0 w0 (((w1.setCell ⟨w0,0,none⟩ (.int .u8 0)).setCell ⟨w0,1,none⟩ (.int .i64 nr)).setCell ⟨w0,2,none⟩ (.int .i64 dr)) by(repeat (with_reducible first|exact Ag _ _|assumption|refine Az ?_ |refine below_drewN ?_ _|refine qZ ?_ |refine aZ ?_ |refine dZ im ?_ |refine belA ?_ |refine rZ im ?_))));have a5:k<1000001:=mz;go_wp2_with(at_builtin;refine iZ rfl (.tmp 35) (.tmp 37) 190 rfl w 280 j0 _ 3 24 underlying190 ay az am an rfl ip _ _ _ nc ((S2.out.alloc _).own) _ 1 1 [.int .u8 0, .int .i64 (nr:Nat), .int .i64 (dr:Nat)] nc (Src.of_blk (g:=w1.heap.size) (Blk.made_at _ _ _ pI) 1 1 3 rfl) mm qg mz pQ ?_;intro v4 w4 y M G);have i:w4.ownsRow w 280 3 v4 (k+1) (Dx (ts++ [⟨0,(nr:Nat),(dr:Nat)⟩])):=(by rw[Lo];exact y);have S4:=hid ((S2.out.alloc _).grown M i);have ak:Hid ((ts++ [⟨0,(nr:Nat),(dr:Nat)⟩])++Do ls (at_+nr)=R):=(by have h:=HR.out;rw[Q.out]at h;rw[AJ];exact h);have ah:Hid ((ts++ [(⟨0,(nr:Nat),(dr:Nat)⟩:Tk)]).length=k+1):=(by rw[Aj,HL.out];rfl);generalize ts++ [(⟨0,(nr:Nat),(dr:Nat)⟩:Tk)]=E at *;clear y M G i S2 Q HR HL t0 t1 t2 f0 f1 f2 aw U HS;go_loopw [5,40] (fun v u wr=>∃ (j q:Nat) (D:DataW Unit) (pv:Value),u= .int .i64 j/\v= .int .i64 q/\q=at_+j/\j<=nr/\Hid (FS w wr (w.heap.size+1) w ls q D pv v4 (k+1) E)) (fun _ u _=>nr-(intOf u).toNat)
    case atStart=>exact⟨0,at_,D,pv,rfl,rfl,rfl,mz,S4.out⟩
    case round=>
     obtain⟨w5,rfl⟩:=ii wr;obtain⟨j,q,D5,N,rfl,rfl,hq,hj,S5⟩:=hrel;clear S4;by_cases a9:j<nr
     ·have u1:=ic ((j:Int)<nr);have aj:=ic (j<nr);have u2:IntKind.i64.wrap ((q:Int)+1)=((q+1:Nat):Int):=nW;have ac:q<n:=mz;have HQ:=hid hq;clear hq;have u3:IntKind.i64.wrap ((j:Int)+1)=((j+1:Nat):Int):=nW;go_wp2_with fail;refine(DA.out w5 _ _ D5 N v4 (k+1) E q ac S5.out).mono ?_;rintro e w6 ⟨rfl,D6,ae,S6⟩;have S6:=hid S6;clear S5;go_wp2_with fail;go_roundw
      case measure=>exact jo
      case rel=>exact jg
     ·have u1:=ig ((j:Int)<nr);have aj:=ig (j<nr);have ag:q=at_+nr:=mz;subst ag;clear hq;go_wp2_with fail;go_roundw
      case measure=>exact jo
      case rel=>go_light;exact⟨at_+nr,k+1,D5,N,E,rfl,mz,mz,ah.out,ak.out,S5.out⟩
  ·obtain rfl:at_=n:=by omega
   have av:Hid (R=ts):=(by have h:=HR.out;rw[Z.out,Ce]at h;exact h.symm);have g1:=ig ((at_:Int)<at_);have a1:=ig (at_<at_);have F:=HS.out.own;have FB:=HS.out.bel;have HF:=hid F;have a6:=hid FB;have a4:=hid HL.out;clear F FB HR HS HL DL DA HA au Z;go_wp2_with fail;go_ret;exact⟨_,rfl,by rw[av.out,a4.out];exact HF.out,a6.out⟩
end Lz
namespace Lz
open Go.RowKit Mem Own Canon
open Toks (Tk A0 PZ)
theorem VX:∀ (n d:Nat) (out:List Nat),Dj out (n+1) d=Dj out n d++ [(Dj out n d).getD ((Dj out n d).length-d) 0]
 |0,_,_=>rfl
 |n+1,d,out=>by rw[Dj,VX n d];rfl
theorem ZH{t:Tk}(hl:0<=t.lit/\t.lit<=255)(h:A0 t.lit t.len t.dist=true):
 (∃x:Nat,x<=255/\t=⟨(x:Int),0,0⟩)∨∃L D:Nat,3<=L/\L<=257/\1<=D/\D<=4095/\t=⟨0,(L:Int),(D:Int)⟩:=by
 obtain⟨lit,len,dist⟩:=t;simp only at hl h;unfold A0 at h;split at h
 ·rename_i h0;have h1:=of_decide_eq_true h;subst h0 h1;exact .inl ⟨lit.toNat,mz,by rw[Int.toNat_of_nonneg hl.1]⟩
 ·have h1:=of_decide_eq_true h;refine .inr ⟨len.toNat,dist.toNat,mz,mz,mz,mz,?_⟩;rw[Int.toNat_of_nonneg mz,Int.toNat_of_nonneg mz,h1.1]
theorem Zp(hq:out.length=q)(_h:q<=most):G0 most out ⟨(x:Int),0,0⟩=if most-q<1 then 6 else 0:=by
 unfold G0;rw[Ae (show A0 (x:Int) 0 0=true from rfl),hq,Ab (show ¬(q:Int)<0 by omega)];by_cases h:most-q<1
 ·rw[Ae (show(most:Int)-(q:Int)<max 1 0 by omega),Ae h]
 ·rw[Ab (show ¬(most:Int)-(q:Int)<max 1 0 by omega),Ab h]
theorem i6{L D:Nat}(hq:out.length=q)(_h:q<=most)(h1:3<=L)(h2:L<=257)(h3:1<=D)(h4:D<=4095):G0 most out ⟨0,(L:Int),(D:Int)⟩=if q<D then 8 else if most-q<L then 6 else 0:=by
 have hm:A0 0 (L:Int) (D:Int)=true:=by unfold A0;rw[Ab mz];exact Be ⟨rfl,mz,mz,mz,mz⟩
 unfold G0;rw[Ae hm,hq];show(if(q:Int)<(D:Int)then 8 else if(most:Int)-(q:Int)<max 1 (L:Int)then 6 else 0)=_;by_cases h:q<D
 ·rw[Ae mz,Ae h]
 ·rw[Ab mz,Ab h];by_cases h':most-q<L
  ·rw[Ae mz,Ae h']
  ·rw[Ab mz,Ab h']
def Nh(R:List Nat×Int)(w:World)(e:Ending)(w':World):Prop:=
 ∃v,e= .returned (.tuple #[v,R.2])/\w'.ownsRow w 5 1 v R.1.length (cZ .u8 R.1)/\Below w w w'
theorem eQ(w:World)(A:Option Addr)(n c:Nat)(ts:List Tk)(most:Nat)(a3:most<=1000000)(hn:ts.length=n)(hN:n<=1000000)(ac:∀t∈ts,(0<=t.lit/\t.lit<=255)/\A0 t.lit t.len t.dist=true)(ha:Row w w A n 3 (Toks.GQ ts)):
 Calls prog 300 #[.slice A n c,most] w (Nh (Fy ts most) w):=by
 obtain⟨j0,aw,ax,am,an⟩:=info_parts Eo;have hP:Fy ts most=ES most [] ts:=Ab mz;rw[hP];obtain⟨R,hR⟩:=ii (ES most [] ts);rw[<-hR];obtain⟨R1,R2⟩:=R;unfold Nh;have g0:=ig ((most:Int)<0)
 have HR:=hid hR;have HA:=hid ha;have HN:=hid hn;have aq:=hid ac;clear hP hR ha hn ac;go_enter func300,ntmps300;go_wp2_with fail;go_loopw [6,13] (fun u i wr=>∃ (k q:Nat) (out:List Nat),k<=n/\q<=most/\i= .int .i64 k/\Hid (out.length=q)/\Hid (wr.ownsRow w 5 1 u q (cZ .u8 out))/\Hid (ES most out (ts.drop k)=(R1,R2))/\Below w w wr) (fun _ i _=>n-(intOf i).toNat)
 case atStart=>exact⟨0,0,[],mz,mz,rfl,rfl,AK _ _ _ _,HR.out.symm,Ag _ _⟩
 case round=>
  obtain⟨k,q,out,hk,hq,rfl,HQ,HO,HP,hb⟩:=hrel;have hz:=hb.size;obtain⟨va,vc,rfl⟩:=bZ HO.out;by_cases aa:k<n
  ·obtain⟨ob,ba,rfl,af,E⟩:=HA.out mz;have N:k<ts.length:=(by rw[HN.out];exact aa);have c0:=(hb.cell (p:=⟨ob,_,none⟩) af).trans (E k 0 aa mz);have c1:=(hb.cell (p:=⟨ob,_,none⟩) af).trans (E k 1 aa mz);have c2:=(hb.cell (p:=⟨ob,_,none⟩) af).trans (E k 2 aa mz);simp only[Toks.GQ,List.getD_eq_getElem?_getD,List.getElem?_eq_getElem N,Option.getD_some,Nat.add_zero,<-Nat.add_assoc]at c0 c1 c2;have hp:=HP.out;rw[Df N,ES]at hp;obtain⟨hl,hm⟩:=aq.out _ (Fo N);have HM:=fun wx=>PZ ts[k] wx;rw[hm]at HM;have az:=ZH hl hm;generalize ts[k]=t at *;have x0:(0:Int)<=(k:Int):=mz;have x1:(k:Int)<(n:Int):=mz;rcases az with ⟨x,hx,rfl⟩|⟨L,D,a5,hL,a1,hD,rfl⟩
   ·rw[Zp HQ.out hq]at hp;simp only[Toks.Tk.val_mk]at HM c0 c1 c2;have HM:=hid HM;have g1:=ig ((q:Int)<0);have a4:max (1:Int) 0=1:=ip;have s1:IntKind.i64.wrap ((most:Int)-(q:Int))=((most-q:Nat):Int):=nW;by_cases G:most-q<1
    ·rw[Ae G,Ab pI]at hp;injection hp with e1 e2;subst e1 e2;have g2:=ic (((most-q:Nat):Int)<1);have g3:=ic (most-q<1);generalize Q:most-q=dm at *;have au:dm=0:=mz;subst au;clear Q hm hl HP;clear E N;go_wp2_with fail;refine(HM.out _).mono ?_;rintro e w2 ⟨rfl,z⟩;have kk:=fun o=>z.cell (p:=⟨wr.heap.size,o,none⟩) pI;have b1:=(kk 1).trans rfl;have J:Hid (Below w w w2):=(mZ hz hb).trans (z.mono pQ);have b2:=(kk 2).trans rfl;clear kk;go_wp2_with fail;go_ret2;exact⟨_,rfl,AK _ _ _ _,J.out⟩
    ·rw[Ab G,Ae rfl,Ae rfl,Bw]at hp;obtain⟨dm,Q⟩:=ii (most-q);rw[<-Q]at s1 G;have g2:=ig ((dm:Int)<1);have g3:=ig (dm<1);have ag:=hid hp;have aj:q+1<=most:=mz;clear Q hm hl HP hp G;clear E N;go_wp2_with fail;refine(HM.out _).mono ?_;rintro e w2 ⟨rfl,z⟩;have kk:=fun o=>z.cell (p:=⟨wr.heap.size,o,none⟩) pI;have b1:=(kk 1).trans rfl;have J:Hid (Below w w w2):=(mZ hz hb).trans (z.mono pQ);have b2:=(kk 2).trans rfl;have b0:=(kk 0).trans rfl;have ab:=hid (eZ (HO.out.alloc (.cells #[.int .u8 x,ij,ij] 280)) (fun y hy=>z.block y ky));have av:=J.out.size;clear kk;go_wp2_with(at_builtin;refine iZ rfl (.tmp 39) (.tmp 42) 28 rfl w 5 j0 _ 1 1 underlying28 aw ax am an rfl ip _ _ _ nc (ab.out.alloc _) _ 1 1 [.int .u8 x] nc (Src.of_blk (Blk.made _ _ _) 1 1 1 rfl) mj qg mz pQ ?_;intro v4 w4 U Z al);go_roundw
     case measure=>exact jo
     case rel=>
      go_light;refine⟨k+1,q+1,out++ [x],mz,aj,jp,?_,?_,ag.out,?_⟩
      ·show _=_;rw[Aj,HQ.out];rfl
      ·show World.ownsRow _ _ _ _ _ _ _;rw[show cZ .u8 (out++ [x])=cZ .u8 out++ [.int .u8 x] by simp[cZ]];exact U
      ·exact(mZ av J.out).grown Z pQ (fun y hy=>(Am ab.out y hy).1)
   ·rw[i6 HQ.out hq a5 hL a1 hD]at hp;simp only[Toks.Tk.val_mk]at HM c0 c1 c2;have HM:=hid HM;have a4:max (1:Int) (L:Int)=(L:Int):=mz;have bb:((L:Int)==0)=false:=oJ;have s1:IntKind.i64.wrap ((most:Int)-(q:Int))=((most-q:Nat):Int):=nW;by_cases ae:q<D
    ·rw[Ae ae,Ab pI]at hp;injection hp with e1 e2;subst e1 e2;have g1:=ic ((q:Int)<D);have ay:=ic (q<D);clear hm hl HP;clear E N;go_wp2_with fail;refine(HM.out _).mono ?_;rintro e w2 ⟨rfl,z⟩;have kk:=fun o=>z.cell (p:=⟨wr.heap.size,o,none⟩) pI;have b1:=(kk 1).trans rfl;have J:Hid (Below w w w2):=(mZ hz hb).trans (z.mono pQ);have b2:=(kk 2).trans rfl;clear kk;go_wp2_with fail;go_ret2;exact⟨_,rfl,AK _ _ _ _,J.out⟩
    ·rw[Ab ae]at hp;have g1:=ig ((q:Int)<D);have ay:=ig (q<D);obtain⟨dm,Q⟩:=ii (most-q);rw[<-Q]at s1 hp;by_cases G:dm<L
     ·rw[Ae G,Ab pI]at hp;injection hp with e1 e2;subst e1 e2;have g2:=ic ((dm:Int)<L);have g3:=ic (dm<L);clear hm hl HP Q;clear E N;go_wp2_with fail;refine(HM.out _).mono ?_;rintro e w2 ⟨rfl,z⟩;have kk:=fun o=>z.cell (p:=⟨wr.heap.size,o,none⟩) pI;have b1:=(kk 1).trans rfl;have J:Hid (Below w w w2):=(mZ hz hb).trans (z.mono pQ);have b2:=(kk 2).trans rfl;clear kk;go_wp2_with fail;go_ret2;exact⟨_,rfl,AK _ _ _ _,J.out⟩
     ·rw[Ab G,Ae rfl,Ab (by show ¬(L:Int)=0;omega)]at hp
      replace hp:ES most (Dj out ((L:Int)).toNat ((D:Int)).toNat) (ts.drop (k+1))=(R1,R2):=hp
      rw[Bw,Bw]at hp;have g2:=ig ((dm:Int)<L);have g3:=ig (dm<L);have ag:=hid hp;have aj:q+L<=most:=mz;clear Q hm hl HP hp G;clear E N;go_wp2_with fail;refine(HM.out _).mono ?_;rintro e w2 ⟨rfl,z⟩;have kk:=fun o=>z.cell (p:=⟨wr.heap.size,o,none⟩) pI;have b1:=(kk 1).trans rfl;have J:Hid (Below w w w2):=(mZ hz hb).trans (z.mono pQ);have b2:=(kk 2).trans rfl;have ab:=hid (eZ (HO.out.alloc (.cells #[.int .u8 0,L,D] 280)) (fun y hy=>z.block y ky));have ak:Hid (Blk w2 wr 280 #[.int .u8 0,L,D]):=(Blk.made wr _ _).step z;have av:=J.out.size;generalize wr.heap.size=pb at *;clear kk z HO hb c0 c1 c2 HM b1 b2;have b1:=ak.out.ia 1;have b2:=ak.out.ia 2;go_wp2_with fail;go_loopw [6,46] (fun u i wx=>∃j:Nat,j<=L/\i= .int .i64 j/\Hid (wx.ownsRow w 5 1 u (q+j) (cZ .u8 (Dj out j D)))/\Hid (Blk wx pb 280 #[.int .u8 0,L,D])/\Hid (Below w w wx)) (fun _ i _=>L-(intOf i).toNat)
      case atStart=>exact⟨0,mz,rfl,ab.out,ak.out,J.out⟩
      case round=>
       obtain⟨j,hj,rfl,Y,M,ai⟩:=hrel;have a6:=ai.out.size;by_cases a9:j<L
       ·obtain⟨g,cg,rfl,_⟩:=Y.out.form mz;have ar:(Dj out j D).length=q+j:=(by rw[LH,HQ.out]);obtain⟨I,hI⟩:=ii (q+j-D);have ah:=VX j D out;rw[ar,<-hI]at ah;have hy:(cZ .u8 (Dj out j D))[I]? =some (.int .u8 ((Dj out j D).getD I 0:Nat)):=(by simp[cZ,List.getD_eq_getElem?_getD,List.getElem?_eq_getElem (show I<(Dj out j D).length by omega)]);have c9:wr.cell? ⟨g,I,none⟩=some (.int .u8 ((Dj out j D).getD I 0:Nat)):=(by have h:=Y.out.cellAt I mz;rw[h];exact hy);generalize (Dj out j D).getD I 0=y at *;have k1:=M.out.ia 1;have k2:=M.out.ia 2;have s2:IntKind.i64.wrap (((q+j:Nat):Int)-(D:Int))=(I:Int):=nW;have s3:IntKind.i64.wrap ((q:Int)+(j:Int)-(D:Int))=(I:Int):=nW;have y2:(0:Int)<=(I:Int):=mz;have y3:(I:Int)<((q+j:Nat):Int):=mz;have a0:=hid ah;clear ar hI ah hy b1 b2;go_wp2_with(at_builtin;refine iZ rfl (.tmp 48) (.tmp 57) 28 rfl w 5 j0 _ 1 1 underlying28 aw ax am an rfl ip _ _ _ nc (Y.out.alloc _) _ 1 1 [.int .u8 y] nc (Src.of_blk (Blk.made _ _ _) 1 1 1 rfl) mj qg mz pQ ?_;intro v4 w4 U Z al);go_roundw
        case measure=>exact jo
        case rel=>
         go_light;refine⟨j+1,mz,jp,?_,?_,?_⟩
         ·show World.ownsRow _ _ _ _ _ _ _;rw[a0.out,show cZ .u8 (Dj out j D++ [y])=cZ .u8 (Dj out j D)++ [.int .u8 y] by simp[cZ]];exact U
         ·exact(M.out.alloc _).grown Z (fun e=>gZ Y.out M.out ip e.symm)
         ·exact(mZ a6 ai.out).grown Z pQ (fun y hy=>(Am Y.out y hy).1)
       ·obtain rfl:j=L:=by omega
        have k1:=M.out.ia 1;obtain⟨A5,c5,rfl⟩:=bZ Y.out;clear b1 b2;go_wp2_with fail;go_roundw
        case measure=>exact jo
        case rel=>go_light;exact⟨k+1,q+j,Dj out j D,mz,aj,jp,by show _=_;rw[LH,HQ.out],Y.out,ag.out,ai.out⟩
  ·obtain rfl:k=n:=by omega
   have hp:=HP.out;rw[Eb oq,ES]at hp;injection hp with e1 e2;subst e1 e2;clear HP;go_wp2_with fail;go_ret2;refine⟨_,rfl,?_,hb⟩;rw[HQ.out];exact HO.out
end Lz
end Go.Proofs.YtfgdoknipbpfhaaGreatDoor
