/- Plain: the best matc -/
import Derived.Test.YtfgdoknipbpfhaaGreatDoorZTwoBack3
import Derived.Test.YtfgdoknipbpfhaaGreatDoorZTwoBack13
import Derived.Maps.OwnSet
import Derived.DeepKeys4
import Derived.Deep.AppendLies
import Derived.Lib.MinMax
namespace Go.Proofs.YtfgdoknipbpfhaaGreatDoor
open Go.Proofs.Tryz
open Go.Lib (hid)
set_option maxHeartbeats 2000000
set_option maxRecDepth 100000
variable{l out:List Nat}{E b base c cb d g i m mb most n p q x y z:Nat}{w:World}{e:TypeId}{xs:List Value}{pv:Value}{ps:List Int}
def BY(l:List Nat)(k:Nat×Nat×Nat):Nat->Option Nat
 |0=>none
 |n+1=>if n+3<=l.length/\Cl l n=k then some n else BY l k n
theorem Km{l:List Nat}{k:Nat×Nat×Nat}:∀ {n p:Nat},BY l k n=some p->p<n/\p+3<=l.length/\Cl l p=k/\∀q,p<q->q<n->q+3<=l.length->Cl l q≠k
 |0,p,h=>by cases h
 |n+1,p,h=>by
  rw[BY]at h;split at h
  ·rename_i hc;injection h with h;subst h;exact⟨nj,hc.1,hc.2,fun q h1 h2=>nj⟩
  ·rename_i hc;obtain⟨h1,h2,h3,h4⟩:=Km h;refine⟨nj,h2,h3,fun q hq1 hq2 hq3=> ?_⟩;by_cases e:q=n
   ·subst e;exact fun hk=>hc ⟨hq3,hk⟩
   ·exact h4 q hq1 nj hq3
theorem TD{l:List Nat}{k:Nat×Nat×Nat}:∀ {n:Nat},BY l k n=none->∀q,q<n->q+3<=l.length->Cl l q≠k
 |0,_,q,h,_=>nj
 |n+1,h,q,hq,h3=>by
  rw[BY]at h;split at h
  ·cases h
  ·rename_i hc;by_cases e:q=n
   ·subst e;exact fun hk=>hc ⟨h3,hk⟩
   ·exact TD h q nj h3
def IP:Option Nat->Int
 |some p=>(p:Nat)
 |none=> -1
def IW(l:List Nat)(p:Nat):Int:=if p+3<=l.length then IP (BY l (Cl l p) p)else-1
def GM(l:List Nat)(n:Nat):List Int:=(List.range n).map (IW l)
theorem lU(l:List Nat)(n:Nat):(GM l n).length=n:=by simp[GM]
theorem YD(l:List Nat)(n:Nat):GM l (n+1)=GM l n++ [IW l n]:=by simp[GM,List.range_succ]
theorem Z1(h:i<n):(GM l n)[i]? =some (IW l i):=by simp[GM,h]
theorem St{at_:Nat}(nd:Nat×Nat)(h:alike l (at_-d) at_<3):norm (Ko l at_ nd d)=norm nd:=by
 unfold Ko;split
 ·rename_i i;unfold norm;rw[Aa (show ¬3<=(alike l (at_-d) at_,d).1 by show ¬3<=alike l (at_-d) at_;omega),Aa nj]
 ·rfl
theorem Vw{at_:Nat}(nd:Nat×Nat)(h:3<=alike l (at_-d) at_):norm (Ko l at_ nd d)=if(norm nd).1<alike l (at_-d) at_ then(alike l (at_-d) at_,d)else norm nd:=by
 unfold Ko norm;by_cases h3:3<=nd.1
 ·rw[Ab h3];by_cases i:nd.1<alike l (at_-d) at_
  ·rw[Ab i,Ab (show 3<=(alike l (at_-d) at_,d).1 from h)]
  ·rw[Aa i,Ab h3]
 ·rw[Aa h3,Ab (show nd.1<alike l (at_-d) at_ by omega),Ab (show 3<=(alike l (at_-d) at_,d).1 from h),Ab (show(0,0).1<alike l (at_-d) at_ by show 0<_;omega)]
theorem N9{l:List Nat}{at_ D1:Nat}:∀ {D2:Nat},D1<=D2->(∀d,D1<d->d<=D2->alike l (at_-d) at_<3)->norm (Fs l at_ D2)=norm (Fs l at_ D1)
 |0,h,_=>by rw[show D1=0 by omega]
 |D2+1,h,hs=>by
  by_cases e:D1=D2+1
  ·rw[e]
  ·rw[Fs,St _ (hs (D2+1) nj (Ak _))];exact N9 nj fun d h1 h2=>hs d h1 nj
theorem Sk{l:List Nat}{at_ D1:Nat}(i:(norm (Fs l at_ D1)).1=257):∀ {D2:Nat},D1<=D2->norm (Fs l at_ D2)=norm (Fs l at_ D1)
 |0,h=>by rw[show D1=0 by omega]
 |D2+1,h=>by
  by_cases e:D1=D2+1
  ·rw[e]
  ·have ih:=Sk i (D2:=D2) nj;rw[Fs];by_cases h3:3<=alike l (at_-(D2+1)) at_
   ·rw[Vw _ h3,ih,Aa];have:=O9 l (at_-(D2+1)) at_;omega
   ·rw[St _ nj,ih]
structure At (l:List Nat) (at_ E:Nat) (nd:Nat×Nat):Prop where
 le:E<=at_
 win:at_-E<=4095
 is:norm (Fs l at_ (at_-E))=nd
theorem At.start(l:List Nat)(at_:Nat):At l at_ at_ (0,0):=⟨Ak _,nj,by rw[G0];rfl⟩
theorem O1{at_:Nat}(i:at_+3<=l.length)(hk:Cl l q≠Cl l at_):alike l q at_<3:=by
 rcases Nat.lt_or_ge (alike l q at_) 3 with h|h
 ·exact h
 ·exact absurd (nW h) hk
theorem At.next{at_:Nat}{nd:Nat×Nat}(h:At l at_ E nd)(hf:at_+3<=l.length)(hp:BY l (Cl l at_) E=some p)(hw:at_-p<=4095):
 At l at_ p (if nd.1<alike l p at_ then(alike l p at_,at_-p)else nd):=by
 obtain⟨h1,h2,h3,h4⟩:=Km hp;have j:=h.le;refine⟨nj,hw,?_⟩;have e1:at_-p=(at_-p-1)+1:=nj
 have i:norm (Fs l at_ (at_-p-1))=nd:=by rw[<-h.is];refine N9 nj fun d hd1 hd2=>O1 hf (h4 (at_-d) nj nj nj)
 rw[e1,Fs,<-e1];have e2:at_-(at_-p)=p:=nj
 rw[Vw _ (by rw[e2];exact qT h3 hf),i,e2]
theorem At.none{at_:Nat}{nd:Nat×Nat}(h:At l at_ E nd)(hf:at_+3<=l.length)(hp:BY l (Cl l at_) E=none):norm (Bw l at_)=nd:=by rw[<-h.is];have i:=h.le;have hw:=h.win;exact N9 nj fun d hd1 hd2=>O1 hf (TD hp (at_-d) nj nj)
theorem At.far{at_:Nat}{nd:Nat×Nat}(h:At l at_ E nd)(hf:at_+3<=l.length)(hp:BY l (Cl l at_) E=some p)(hw:4095<at_-p):norm (Bw l at_)=nd:=by obtain⟨h1,h2,h3,h4⟩:=Km hp;rw[<-h.is];have i:=h.le;have hw:=h.win;exact N9 nj fun d hd1 hd2=>O1 hf (h4 (at_-d) nj nj nj)
theorem At.full{at_:Nat}{nd:Nat×Nat}(h:At l at_ E nd)(i:nd.1=257):norm (Bw l at_)=nd:=by rw[<-h.is];have j:=h.le;have hw:=h.win;exact Sk (by rw[h.is];exact i) nj
theorem Yi{at_:Nat}(h:l.length<at_+3):norm (Bw l at_)=(0,0):=by have hg:=Nx l at_;unfold norm;rw[Aa];intro h3;have:=LR (l:=l) (at_:=at_) nj;omega
theorem XZ{at_:Nat}(h:3<=(Bw l at_).1):norm (Bw l at_)=Bw l at_:=Ab h
theorem ZE{at_:Nat}(h:¬3<=(Bw l at_).1):norm (Bw l at_)=(0,0):=Aa h
open Go.RowKit
theorem TY(w:World)(A:Option Addr)(n c:Nat)(ls:List Nat)(at_:Nat)(hn:ls.length=n)(hN:n<=1000000)(hf:at_+3<=n)(ha:Row w w A n 1 (jZ .u8 ls)):
 Calls prog 279 #[.slice A n c,at_] w fun e w'=>e= .returned (.agg #[.int .u8 (ls.getD at_ 0:Nat), .int .u8 (ls.getD (at_+1) 0:Nat), .int .u8 (ls.getD (at_+2) 0:Nat)])/\Below w w w':=by
 obtain⟨b,j,rfl,hb,hc⟩:=ha nj;have c0:=hc at_ 0 nj nj;have c1:=hc (at_+1) 0 nj nj;have c2:=hc (at_+2) 0 nj nj;simp only[jZ,Nat.mul_one,Nat.add_zero]at c0 c1 c2;have s1:IntKind.i64.wrap ((at_:Int)+1)=((at_+1:Nat):Int):=pj
 have s2:IntKind.i64.wrap ((at_:Int)+2)=((at_+2:Nat):Int):=pj
 generalize ls.getD at_ 0=x0 at *;generalize ls.getD (at_+1) 0=x1 at *;generalize ls.getD (at_+2) 0=x2 at *;obtain⟨i1,h⟩:=ii (at_+1);obtain⟨i2,i⟩:=ii (at_+2);rw[<-h]at c1 s1;rw[<-i]at c2 s2;have y0:(0:Int)<=(at_:Int):=nj
 have y1:(at_:Int)<(n:Int):=nj
 have y2:(0:Int)<=(i1:Int):=nj
 have y3:(i1:Int)<(n:Int):=nj
 have y4:(0:Int)<=(i2:Int):=nj
 have y5:(i2:Int)<(n:Int):=nj
 have nb:b≠w.heap.size:=nj
 clear ha hc h i hn;go_enter func279,ntmps279;go_upto_region 1 with fail;go_region;go_wp2_with fail;refine Bx (v:= .agg #[.int .u8 x0, .int .u8 x1, .int .u8 x2]) ?_ rfl ⟨rfl,?_⟩
 ·simp[results,results279,go_sem]
 ·(repeat (with_reducible first|exact Ae _ _|assumption|refine Am ?_ |refine below_drewN ?_ _|refine mZ ?_ |refine aZ ?_ |refine cZ im ?_ |refine belA ?_ |refine nZ im ?_))
theorem a1w{p:Prop}(h:p:=by go_wp2_with fail;go_quiet (fail);go_wp2_with fail;go_ret;exact⟨IR (by rw[<-HK.out]),below_drewN HB.out _⟩):p:=h
theorem Zh(w:World)(A:Option Addr)(n c:Nat)(ls:List Nat)(p at_:Nat)(hn:ls.length=n)(hN:n<=1000000)(hp:p<=at_)(U:at_<=n)(ha:Row w w A n 1 (jZ .u8 ls)):
 Calls prog 280 #[.slice A n c,p,at_] w fun e w'=>e= .returned (.int .i64 (alike ls p at_:Nat))/\Below w w w':=by
 obtain⟨R,hR⟩:=ii (alike ls p at_);rw[<-hR];have HR:Hid (∀k,IsAlike ls p at_ k->k=R):=fun k h=>(ZY h).symm.trans hR.symm;have HA:=hid ha;have HN:=hid hn;clear ha hn hR;go_enter func280,ntmps280;go_wp2_with fail;go_loopw [7] (fun i wr=>∃k:Nat,k<=257/\i= .int .i64 k/\Hid (k=0∨at_+k<=n)/\Hid (∀j,j<k->ls.getD (p+j) 0=ls.getD (at_+j) 0)/\Hid (Below w w wr)) (fun i _=>257-(intOf i).toNat)
 case atStart=>exact⟨0,nj,rfl, .inl rfl,fun j hj=>absurd hj nj,Ae _ _⟩
 case round=>
  obtain⟨k,hk,rfl,HF,HS,HB⟩:=hrel;by_cases G:k<257
  ·have g1:=ic ((k:Int)<257);have Q:=ic (k<257);have s1:IntKind.i64.wrap ((at_:Int)+(k:Int))=((at_+k:Nat):Int):=pj;have s2:IntKind.i64.wrap ((p:Int)+(k:Int))=((p+k:Nat):Int):=pj;obtain⟨i1,z⟩:=ii (at_+k);obtain⟨i2,E⟩:=ii (p+k);rw[<-z]at s1;rw[<-E]at s2;by_cases J:i1<n
   ·obtain⟨b,Y,rfl,hb,hc⟩:=HA.out nj;have c1:=(HB.out.cell (p:=⟨b,_,none⟩) hb).trans (hc i1 0 J nj);have c2:=(HB.out.cell (p:=⟨b,_,none⟩) hb).trans (hc i2 0 nj nj);simp only[jZ,Nat.mul_one,Nat.add_zero]at c1 c2;have g2:=ic ((i1:Int)<n);have M:=ic (i1<n);have y2:(0:Int)<=(i1:Int):=nj;have y3:(i1:Int)<(n:Int):=nj;have y4:(0:Int)<=(i2:Int):=nj;have y5:(i2:Int)<(n:Int):=nj;by_cases he:ls.getD i2 0=ls.getD i1 0
    ·have N:Hid (∀j,j<k+1->ls.getD (p+j) 0=ls.getD (at_+j) 0):=fun j hj=>by
      by_cases e:j<k
      ·exact HS.out j e
      ·obtain rfl:j=k:=by omega
       rw[<-z,<-E];exact he
     rw[he]at c2;have L:Hid (k+1=0∨at_+(k+1)<=n):= .inr nj;generalize ls.getD i1 0=x at *;have g3:((x:Int)==(x:Int))=true:=rX;clear hc he HS HF z E;go_wp2_with fail;go_quiet (fail);go_wp2_with fail;go_roundw
     case measure=>exact jq
     case rel=>go_light;exact⟨k+1,nj,jr,L.out,N.out,below_drewN HB.out _⟩
    ·have HK:Hid (k=R):=HR.out k ⟨hk,jz,HS.out,fun h=>he (by rw[z,E];exact h.2.2)⟩;have g3:(((ls.getD i2 0:Nat):Int)==((ls.getD i1 0:Nat):Int))=false:=(by rw[Hm];intro h;rw[beq_iff_eq]at h;exact he nj);generalize ls.getD i1 0=x at *;generalize ls.getD i2 0=y at *;clear hc he HS HF z E;exact a1w
   ·have HK:Hid (k=R):=HR.out k ⟨hk,jz,HS.out,fun h=>J (by have:=h.2.1;rw[HN.out]at this;omega)⟩;have g2:=ig ((i1:Int)<n);have M:=ig (i1<n);clear HS HF z E J;exact a1w
  ·have HK:Hid (k=R):=HR.out k ⟨hk,jz,HS.out,fun h=>G h.1⟩;have g1:=ig ((k:Int)<257);have Q:=ig (k<257);clear HS HF G;exact a1w
open Go.Maps
theorem pK:laidOutB prog=true:=my
theorem nG:(match prog.underlying 366 with|some (.array _ _)|some (.struct _)=>true|_=>false)=true:=my
theorem law3:Keyed prog 366:=Keyed.of_law (deep_law_laid pK (m:=2) nj (of_decide_eq_true my) my nG)
def k3v(x y z:Nat):Value:= .agg #[.int .u8 x, .int .u8 y, .int .u8 z]
def K3(x y z:Nat):Lit:= .string (keyBytes [.int .u8 x, .int .u8 y, .int .u8 z])
theorem YV:prog.keyType 366=true:=my
theorem Rs:prog.cellsOf 366=3:=my
theorem Zp:∃e,prog.underlying 366=some (.array 3 e)/\prog.underlying e=some (.int .u8)/\prog.cellsOf e=1:=⟨5,my,my,my⟩
theorem wf8(h:x<=255):(Lit.int .u8 (x:Int)).wf=true:=by simp[Lit.wf,IntKind.min,IntKind.max,IntKind.signed,IntKind.bits];omega
theorem YA:∃d,prog.types.size+1=d+2:=⟨prog.types.size-1,by have:1<=prog.types.size:=of_decide_eq_true my;omega⟩
theorem KN(hx:x<=255)(hy:y<=255)(hz:z<=255):keyOf prog 366 (k3v x y z)=some (K3 x y z):=by
 obtain⟨e,h1,h2,h3⟩:=Zp;obtain⟨d,hd⟩:=YA;have hf:(k3v x y z).formed prog 366=true:=by simp[Value.formed,k3v,h1,Rs]
 unfold keyOf;rw[h1];simp only[YV,hf,Bool.and_self,if_true,hd];unfold k3v K3;simp[Program.keyLits,h1,h2,h3,Rs,Value.cells,List.range_succ,wf8 hx,wf8 hy,wf8 hz]
theorem Y5{x' y' z':Nat}(hx:x<=255)(hy:y<=255)(hz:z<=255)(E:x'<=255)(j:y'<=255)(i:z'<=255)(h:K3 x y z=K3 x' y' z'):(x,y,z)=(x',y',z'):=by have e:=law3.inj (KN hx hy hz) (by rw[h];exact KN E j i);unfold k3v at e;simp at e;simp;omega
theorem RV(hx:x<=255)(hy:y<=255)(hz:z<=255):WideAt.IsKeyLit (K3 x y z):=law3.key (KN hx hy hz)
def MapIs(l:List Nat)(n:Nat)(D:DataW Unit):Prop:=
 IsMap D/\∀x y z,x<=255->y<=255->z<=255->(∀p,BY l (x,y,z) n=some p->has D (K3 x y z)=true/\∀zd,D.atKey (K3 x y z) zd= .lit (.int .i64 (p:Int)))/\(BY l (x,y,z) n=none->has D (K3 x y z)=false)
theorem MapIs.start(l:List Nat):MapIs l 0 (.map []):=⟨isMap_empty,fun x y z _ _ _=>⟨fun p h=>absurd h (by simp[BY]),fun _=>rfl⟩⟩
theorem MapIs.skip{D:DataW Unit}(h:MapIs l n D)(hn:l.length<n+3):MapIs l (n+1) D:=by refine⟨h.1,fun x y z hx hy hz=> ?_⟩;rw[BY,Aa nj];exact h.2 x y z hx hy hz
theorem MapIs.put{D:DataW Unit}(h:MapIs l n D)(h8:∀c∈l,c<=255)(hn:n+3<=l.length):MapIs l (n+1) (D.put (K3 (l.getD n 0) (l.getD (n+1) 0) (l.getD (n+2) 0)) (.lit (.int .i64 (n:Int)))):=by
 have hg:∀i,i<l.length->l.getD i 0<=255:=fun i hi=>pg
 have g0:=hg n nj;have g1:=hg (n+1) nj;have g2:=hg (n+2) nj;refine⟨h.1.put _ _,fun x y z hx hy hz=> ?_⟩;rw[BY];by_cases hk:Cl l n=(x,y,z)
 ·rw[Ab ⟨hn,hk⟩];unfold Cl at hk;simp only[Prod.mk.injEq]at hk;rw[hk.1,hk.2.1,hk.2.2];refine⟨fun p hp=> ?_,fun hp=>by cases hp⟩;injection hp with hp;subst hp;exact⟨has_put_same h.1 (RV hx hy hz) _,fun zd=>atKey_put_same h.1 (RV hx hy hz) _ _⟩
 ·rw[Aa (fun h=>hk h.2)];have j:K3 x y z≠K3 (l.getD n 0) (l.getD (n+1) 0) (l.getD (n+2) 0):=fun e=>hk (Y5 hx hy hz g0 g1 g2 e).symm;obtain⟨i1,i2⟩:=h.2 x y z hx hy hz;refine⟨fun p hp=> ?_,fun hp=> ?_⟩
  ·rw[has_put_other j];exact⟨(i1 p hp).1,fun zd=>by rw[atKey_put_other j];exact(i1 p hp).2 zd⟩
  ·rw[has_put_other j];exact i2 hp
def JP(o:Option Nat):Int:=match o with
 |some p=>(p:Nat)
 |none=>0
theorem oM(w:World):(zeroValue 3).run prog w= .ok (.int .i64 0) w:=nm
theorem Ri{D:DataW Unit}(h:w.ownsMap prog 366 (plainElem prog 3) b m D)(hD:MapIs l n D)(hx:x<=255)(hy:y<=255)(hz:z<=255):
 (Instr.lookup 305 (.map (some b)) (k3v x y z) true).run prog w= .ok (.tuple #[.int .i64 (JP (BY l (x,y,z) n)), .bool (BY l (x,y,z) n).isSome]) w:=by
 obtain⟨v,ps,i,hv⟩:=h.look_ok law3 underlying305 (oM w) (plainElem_int underlying3 ip) (KN hx hy hz);obtain⟨a,rfl,ha,_⟩:=plainElem_int_inv underlying3 hv;simp only[Prod.mk.injEq]at ha;rw[i];obtain⟨i1,i2⟩:=hD.2 x y z hx hy hz;cases hl:BY l (x,y,z) n with
 |none=>have hh:=i2 hl;rw[hh];have j:=atKey_of_not_has hh (DataW.lit (.int .i64 0):DataW Unit);rw[j]at ha;injection ha.1 with e;injection e with _ e;rw[<-e];rfl
 |some p=>have hh:=i1 p hl;rw[hh.1];rw[hh.2]at ha;injection ha.1 with e;injection e with _ e;rw[<-e];rfl
def Hw(l:List Int):List Value:=l.map (Value.int .i64)
theorem XE(l:List Int)(x:Int):Hw (l++ [x])=Hw l++ [.int .i64 x]:=by simp[Hw]
theorem Ac5:(prog.info? 3).map (fun i=>(i.zero,i.size,i.bytes))=some (some (.int .i64 0),1,8):=my
structure Ch (w:World) (cb mb base:Nat) (l:List Nat) (n m:Nat) (D:DataW Unit) (pv:Value) (ps:List Int):Prop where
 blk:Blk w cb 307 #[.map (some mb),pv]
 map:w.ownsMap prog 366 (plainElem prog 3) mb m D
 prev:w.ownsRow base 3 1 pv n (Hw ps)
 lo:base<=cb
 lm:base<=mb
section
variable {w w':World} {cb mb base:Nat} {l:List Nat} {n m:Nat} {D:DataW Unit} {pv:Value} {ps:List Int}
theorem R9{t:TypeId}{cs:Array Value}{fz:Nat×Nat}(h:w.ownsMap prog 366 (plainElem prog 3) b m D)(hg:w.heap[g]? =some (.cells cs t fz)):b≠g:=by intro e;subst e;obtain⟨es,i,hb,_⟩:=h;rw[hb]at hg;cases hg
theorem Lr{n' s':Nat}{v:Value}(h:w.ownsMap prog 366 (plainElem prog 3) b m D)(ho:w.ownsRow i e s' v n' xs):v.ownBlock≠some b:=by
 intro hv;rcases ho.2 with ⟨rfl,_⟩|⟨g,j,cur,rfl,_,hg,_⟩
 ·simp[Value.ownBlock]at hv
 ·simp[Value.ownBlock]at hv;subst hv;exact R9 h hg rfl
theorem MP(h:w.ownsMap prog 366 (plainElem prog 3) b m D)(hk:w'.heap[b]? =w.heap[b]?):w'.ownsMap prog 366 (plainElem prog 3) b m D:=by obtain⟨es,i,hb,rest⟩:=h;exact⟨es,i,hk.trans hb,rest⟩
theorem Ch.drew(h:Ch w cb mb base l n m D pv ps):Ch w.drew cb mb base l n m D pv ps:=⟨h.blk,h.map,h.prev,h.lo,h.lm⟩
theorem Ch.alloc(h:Ch w cb mb base l n m D pv ps)(o:Obj):Ch (w.alloc o) cb mb base l n m D pv ps:=⟨h.blk.alloc o,h.map.alloc o,h.prev.alloc o,h.lo,h.lm⟩
theorem Ch.more(h:Ch w cb mb base l n m D pv ps):Ch w cb mb base l n (m+1) D pv ps:=⟨h.blk,h.map.mono (Nat.le_succ _),h.prev,h.lo,h.lm⟩
theorem Ch.ne(h:Ch w cb mb base l n m D pv ps):mb≠cb:=R9 h.map h.blk
theorem Ch.step(h:Ch w cb mb base l n m D pv ps)(hb:Below w w w'):Ch w' cb mb base l n m D pv ps:=
 ⟨h.blk.step hb,MP h.map (hb.block mb h.map.lt),eZ h.prev (fun x hx=>hb.block x (Aj h.prev x hx).2),h.lo,h.lm⟩
end
def Out(cb mb:Nat)(pv:Value)(w:World)(x:Nat):Prop:=x<w.heap.size/\x≠cb/\x≠mb/\pv.ownBlock≠some x
def L2(pv pv':Value)(w:World):Prop:=pv'.ownBlock=pv.ownBlock∨∃x,pv'.ownBlock=some x/\w.heap.size<=x
theorem Ch.push{w4:World}{D:DataW Unit}{v4:Value}{o:Obj}(h:Ch w cb mb base l n m D pv ps)(hg:(w.alloc o).grownBy w4 pv.ownBlock)(i:w4.ownsRow base 3 1 v4 (n+1) (Hw ps++ [.int .i64 (-1)]))
 (y:v4.ownBlock=pv.ownBlock∨v4.ownBlock=some (w.alloc o).heap.size):
 Ch (w4.setCell ⟨cb,1,none⟩ v4) cb mb base l (n+1) m D v4 (ps++ [-1])/\L2 pv v4 w/\Kept (Out cb mb pv w) w (w4.setCell ⟨cb,1,none⟩ v4):=by
 have j:=(h.blk.alloc o).grown hg (fun e=>gZ h.prev h.blk ip e.symm);refine⟨⟨j.set 1 _,?_,?_,h.lo,h.lm⟩,?_,?_⟩
 ·refine MP h.map ((AW w4 _ _ mb h.ne).trans ((hg.block mb (by have:=h.map.lt;simp;omega) (fun e=>Lr h.map h.prev e.symm)).trans (EA w o mb h.map.lt)))
 ·rw[XE];exact eZ i fun x hx=>AW w4 _ _ x (fun e=>gZ i j ip (hx.trans (Aw some e)))
 ·rcases y with h1|h1
  ·exact .inl h1
  ·exact .inr ⟨_,h1,rX⟩
 ·exact(((Kept.refl _ w).alloc (fun k hk=>hk.1) o).grown hg (fun k hk=>by have:=hk.1;simp;omega) (fun k hk=>by intro h2;exact h2.2.2.2 hk)).set (fun h2=>h2.2.1 rfl) _
theorem XW(w:World)(cb mb base:Nat)(ls:List Nat)(A:Option Addr)(n c at_:Nat)(D:DataW Unit)(pv:Value)(ps:List Int)(hN:n<=1000000)(N:at_<=n)(M:n<at_+3)(L:base<=w.heap.size)(h:Ch w cb mb base ls at_ at_ D pv ps):
 Calls prog 229 #[.pointer (some ⟨cb,0,none⟩), .slice A n c,at_] w fun e w'=>e= .returned (.tuple #[])/\∃pv',Ch w' cb mb base ls (at_+1) (at_+1) D pv' (ps++ [-1])/\L2 pv pv' w/\Kept (Out cb mb pv w) w w':=by
 obtain⟨j0,z,G,E,J⟩:=info_parts Ac5;obtain⟨pa,pc,rfl⟩:=bZ h.prev;have d0:=h.blk.ia 0;have d1:=h.blk.ia 1;have H:=hid h;have s1:IntKind.i64.wrap ((at_:Int)+3)=(at_:Int)+3:=pi
 have g1:=ic ((n:Int)<(at_:Int)+3)
 clear h;go_enter func229,ntmps229;go_wp2_with(at_builtin;refine iZ rfl (.tmp 13) (.tmp 14) 37 rfl base 3 j0 _ 1 8 underlying37 z G E J rfl ip _ _ _ nm (H.out.prev.alloc _) _ 1 1 [.int .i64 (-1)] nm (Src.of_blk (Blk.made _ _ _) 1 1 1 rfl) mp sS nj sj ?_;intro v4 w4 i j y;obtain⟨A4,k4,rfl⟩:=bZ i;have q1:w4.cell? ⟨cb,1,none⟩=some (.slice pa at_ pc):=(((H.out.blk.alloc _).grown j (fun e=>gZ H.out.prev H.out.blk ip e.symm))).cell 1;have q0:w4.cell? ⟨cb,0,none⟩=some (.map (some mb)):=(((H.out.blk.alloc _).grown j (fun e=>gZ H.out.prev H.out.blk ip e.symm))).cell 0;have qf:w4.frozen? ⟨cb,1,none⟩=false:=(((H.out.blk.alloc _).grown j (fun e=>gZ H.out.prev H.out.blk ip e.symm))).frozen 1);refine Bx (Cb rfl _ _ _) rfl ?_;have hp:=H.out.push j i y;exact⟨rfl,_,hp.1.more,hp.2⟩
theorem TK(h:w.ownsRow base e 1 (.slice (some ⟨g,0,none⟩) n c) n xs)(u:Value)(z:i<n):(w.setCell ⟨g,i,none⟩ u).ownsRow base e 1 (.slice (some ⟨g,0,none⟩) n c) n (xs.set i u):=by
 refine⟨by rw[List.length_set];exact h.1,?_⟩;rcases h.2 with ⟨hv,_⟩|⟨g',y,cur,hv,hb,hg,h1,h2,h3,h4⟩
 ·cases hv
 ·injection hv with e1 e2 e3;injection e1 with e1;injection e1 with e1;subst e1 e3;have j:Blk w g e cur:=hg;refine .inr ⟨g,c,cur.setIfInBounds i u,rfl,hb,j.set i u,h1,h2,by simpa using h3,?_⟩;rw[<-h4];simp[List.take_set]
theorem Ac7(h:w.ownsRow base e 1 (.slice (some ⟨g,0,none⟩) n c) n xs)(hi:i<n):w.cell? ⟨g,i,none⟩=xs[i]? /\w.frozen? ⟨g,i,none⟩=false/\base<=g:=by
 rcases h.2 with ⟨hv,_⟩|⟨g',y,cur,hv,hb,hg,h1,h2,h3,h4⟩
 ·cases hv
 ·injection hv with e1 e2 e3;injection e1 with e1;injection e1 with e1;subst e1 e3;have j:Blk w g e cur:=hg;refine⟨?_,j.frozen i,hb⟩;rw[j.cell i,<-h4,List.getElem?_take_of_lt nj];simp
theorem Ch.put{D:DataW Unit}(h:Ch w cb mb base l n m D (.slice (some ⟨g,0,none⟩) n c) ps)(x:Int)(hi:i<n):Ch (w.setCell ⟨g,i,none⟩ (.int .i64 x)) cb mb base l n m D (.slice (some ⟨g,0,none⟩) n c) (ps.set i x):=by
 have y:g≠cb:=fun e=>gZ h.prev h.blk ip (Aw some e);have j:g≠mb:=fun e=>Lr h.map h.prev (Aw some e);refine⟨h.blk.far y.symm _,MP h.map (AW w _ _ mb j.symm),?_,h.lo,h.lm⟩;have:=TK h.prev (.int .i64 x) hi;have e:Hw (ps.set i x)=(Hw ps).set i (.int .i64 x):=by simp[Hw,List.map_set]
 rw[e];exact this
theorem Ch.upd{w':World}{D D':DataW Unit}(h:Ch w cb mb base l n m D pv ps)(r1:w'.ownsMap prog 366 (plainElem prog 3) mb (m+1) D')(r2:w.grownBy w' (some mb)):Ch w' cb mb base l n (m+1) D' pv ps:=by
 refine⟨h.blk.grown r2 (fun e=> ?_),r1,eZ h.prev fun x hx=>r2.block x (Aj h.prev x hx).2 (fun e=> ?_),h.lo,h.lm⟩
 ·injection e with e;exact h.ne e.symm
 ·injection e with e;subst e;exact Lr h.map h.prev hx
theorem Ka{w5 w6:World}(h:Kept (Out cb mb pv w) w w5)(hb:Below w5 w5 w6):Kept (Out cb mb pv w) w w6:=h.trans (Kept.of_below hb fun _ hx=>Ek hx.1 h.size)
theorem Tv(h:L2 pv (.slice (some ⟨g,0,none⟩) n c) w):¬Out cb mb pv w g:=by
 intro ho;rcases h with h|⟨x,h,hx⟩
 ·exact ho.2.2.2 h.symm
 ·have:g=x:=by simpa[Value.ownBlock]using h
  have:=ho.1;omega
theorem WC(o:Option Nat):(o=none/\o.isSome=false)∨∃p,o=some p/\o.isSome=true/\JP o=(p:Int):=by
 cases o with
 |none=>exact .inl ⟨rfl,rfl⟩
 |some p=>exact .inr ⟨p,rfl,rfl,rfl⟩
theorem nQ(w:World)(cb mb base:Nat)(ls:List Nat)(A:Option Addr)(n c at_:Nat)(D:DataW Unit)(pv:Value)(ps:List Int)(hn:ls.length=n)(hN:n<=1000000)(ar:at_+3<=n)(a7:base<=w.heap.size)(h8:∀x∈ls,x<=255)(N:ps.length=at_)
 (ha:Row w base A n 1 (jZ .u8 ls))(hD:MapIs ls at_ D)(h:Ch w cb mb base ls at_ at_ D pv ps):
 Calls prog 229 #[.pointer (some ⟨cb,0,none⟩), .slice A n c,at_] w fun e w'=>e= .returned (.tuple #[])/\∃pv',Ch w' cb mb base ls (at_+1) (at_+1) (D.put (K3 (ls.getD at_ 0) (ls.getD (at_+1) 0) (ls.getD (at_+2) 0)) (.lit (.int .i64 (at_:Int)))) pv' (ps++ [IW ls at_])/\L2 pv pv' w/\Kept (Out cb mb pv w) w w':=by
 obtain⟨j0,a1,a0,az,ay⟩:=info_parts Ac5;obtain⟨pa,pc,rfl⟩:=bZ h.prev;have d0:=h.blk.ia 0;have d1:=h.blk.ia 1;have hg:∀i,i<ls.length->ls.getD i 0<=255:=fun i hi=>pg
 have g0:=hg at_ nj;have al:=hg (at_+1) nj;have g2:=hg (at_+2) nj;have D1:Hid (∀wx,Below base w wx->Calls prog 279 #[.slice A n c,at_] wx fun e w'=>e= .returned (.agg #[.int .u8 (ls.getD at_ 0), .int .u8 (ls.getD (at_+1) 0), .int .u8 (ls.getD (at_+2) 0)])/\Below wx wx w'):=fun wx hb=>TY wx A n c ls at_ hn hN ar ((ha.below hb).mono mj);have aj:Cl ls at_=(ls.getD at_ 0,ls.getD (at_+1) 0,ls.getD (at_+2) 0):=rfl;have ak:IW ls at_=IP (BY ls (ls.getD at_ 0,ls.getD (at_+1) 0,ls.getD (at_+2) 0) at_):=by unfold IW;rw[Ab nj,aj]
 rw[ak];have ax:Hid (∀ (wx:World) pv' ps' n' m,Ch wx cb mb base ls n' m D pv' ps'->(Instr.lookup 305 (.map (some mb)) (.agg #[.int .u8 (ls.getD at_ 0), .int .u8 (ls.getD (at_+1) 0), .int .u8 (ls.getD (at_+2) 0)]) true).run prog wx= .ok (.tuple #[.int .i64 (JP (BY ls (ls.getD at_ 0,ls.getD (at_+1) 0,ls.getD (at_+2) 0) at_)), .bool (BY ls (ls.getD at_ 0,ls.getD (at_+1) 0,ls.getD (at_+2) 0) at_).isSome]) wx):=fun wx pv' ps' n' m hc=>Ri hc.map hD g0 al g2;have M:=KN g0 al g2;unfold k3v at M;have aw:=WC (BY ls (ls.getD at_ 0,ls.getD (at_+1) 0,ls.getD (at_+2) 0) at_);have am:∀p,BY ls (ls.getD at_ 0,ls.getD (at_+1) 0,ls.getD (at_+2) 0) at_=some p->p<at_:=fun p hp=>(Km hp).1;generalize BY ls (ls.getD at_ 0,ls.getD (at_+1) 0,ls.getD (at_+2) 0) at_=lo at *;generalize ls.getD at_ 0=x at *;generalize ls.getD (at_+1) 0=y at *;generalize ls.getD (at_+2) 0=z at *;have H:=hid h;have Z:=hid M;have ag:=hid N;have s1:IntKind.i64.wrap ((at_:Int)+3)=(at_:Int)+3:=pi
 have g1:=ig ((n:Int)<(at_:Int)+3)
 clear h hD ha h8 hg aj ak M hn N;go_enter func229,ntmps229;go_wp2_with(at_builtin;refine iZ rfl (.tmp 13) (.tmp 14) 37 rfl base 3 j0 _ 1 8 underlying37 a1 a0 az ay rfl ip _ _ _ nm (H.out.prev.alloc _) _ 1 1 [.int .i64 (-1)] nm (Src.of_blk (Blk.made _ _ _) 1 1 1 rfl) mp sS nj sj ?_;intro v4 w4 G L Y;obtain⟨A4,k4,rfl⟩:=bZ G;have q1:w4.cell? ⟨cb,1,none⟩=some (.slice pa at_ pc):=(((H.out.blk.alloc _).grown L (fun e=>gZ H.out.prev H.out.blk ip e.symm))).cell 1;have q0:w4.cell? ⟨cb,0,none⟩=some (.map (some mb)):=(((H.out.blk.alloc _).grown L (fun e=>gZ H.out.prev H.out.blk ip e.symm))).cell 0;have qf:w4.frozen? ⟨cb,1,none⟩=false:=(((H.out.blk.alloc _).grown L (fun e=>gZ H.out.prev H.out.blk ip e.symm))).frozen 1);have E:=H.out.push L G Y;have F1:=hid E.1;have F2:=hid E.2;have au:w.heap.size+1<=w4.heap.size:=by have:=L.size;simp at this;omega
 have av:Hid (Below base w (w4.setCell ⟨cb,1,none⟩ (.slice A4 (at_+1) k4))):=by have:=E.2.2.below (fun x (hx:x<base)=>(⟨nj,by have:=H.out.lo;omega,by have:=H.out.lm;omega,fun e=>by have:=(Aj H.out.prev x e).1;omega⟩:Out cb mb _ w x));exact this
 have U:(w4.setCell ⟨cb,1,none⟩ (.slice A4 (at_+1) k4)).heap.size=w4.heap.size:=rX
 rw[<-U]at au;clear E q1 q0 qf G Y L d0 d1 U;generalize w4.setCell ⟨cb,1,none⟩ (.slice A4 (at_+1) k4)=w5 at *;refine(D1.out w5 av.out).mono ?_;rintro e w6 ⟨rfl,J⟩;have F3:=hid (F1.out.step J);have dm:=F3.out.blk.ia 0;have dp:=F3.out.blk.ia 1;obtain⟨gp,cp,hA⟩:=Jm F3.out.prev;injection hA with e1 _ e3;subst e1 e3;have F4:=hid (F3.out.alloc (.cells #[.int .u8 x, .int .u8 y, .int .u8 z] 366));have hl:=ax.out _ _ _ _ _ F4.out.drew;obtain⟨oc,af,ob⟩:=Ac7 (i:=at_) F4.out.drew.prev nj;have ah:gp≠cb:=fun e=>gZ F4.out.prev F4.out.blk ip (Aw some e);have a5:=hid ah;have ai:(Hw (ps++ [-1]))[at_]? =some (.int .i64 (-1)):=by unfold Hw;have:=ag.out;simp[<-this]
 rw[ai]at oc;clear dm dp ah ai;have dm:=F4.out.drew.blk.ia 0;have dp:=F4.out.drew.blk.ia 1;have Q:Blk (w6.alloc (.cells #[.int .u8 x, .int .u8 y, .int .u8 z] 366)).drew w6 366 #[.int .u8 x, .int .u8 y, .int .u8 z]:=(Blk.made _ _ _).drew;have z0:=Q.ia 0;have z1:=Q.ia 1;have z2:=Q.ia 2;clear Q;have oz:=ic ((at_:Int)<((at_+1:Nat):Int))
 have a6:¬(at_:Int)<0:=nj
 have a3:=F3.out.blk.lt;have a4:gp<w6.heap.size:=(Aj F3.out.prev gp rfl).2;rcases aw with ⟨rfl,hs⟩|⟨p,rfl,hs,hv⟩
 ·rw[hs]at hl;clear hs
  change (Instr.lookup _ _ _ _).run _ _= .ok (.tuple #[.int .i64 (0:Int),_]) _ at hl
  go_upto_region 3 with fail;go_region_held3 (fun wx=>wx.cell? ⟨cb,0,none⟩=some (.map (some mb))/\wx.cell? ⟨w6,0,none⟩=some (.int .u8 x)/\wx.cell? ⟨w6,1,none⟩=some (.int .u8 y)/\wx.cell? ⟨w6,2,none⟩=some (.int .u8 z)/\(Instr.lookup 305 (.map (some mb)) (.agg #[.int .u8 x, .int .u8 y, .int .u8 z]) true).run prog wx= .ok (.tuple #[.int .i64 (0:Int),false]) wx) (exact⟨dm,z0,z1,z2,hl⟩) (fail);go_upto_region 6 with fail;have F6:=hid F4.out.drew.drew;have j:Blk (w6.alloc (.cells #[.int .u8 x, .int .u8 y, .int .u8 z] 366)).drew.drew w6 366 #[.int .u8 x, .int .u8 y, .int .u8 z]:=(Blk.made _ _ _).drew.drew;obtain⟨w9,an,r1,r2⟩:=F6.out.map.update (val:= .int .i64 (at_:Int)) (d:= .lit (.int .i64 (at_:Int))) (ps:= []) law3 underlying305 sS Z.out (plainElem_int underlying3 (WalkArith.wf_i64 nj));have aa:=F6.out.blk.ia 0;have ab:=j.ia 0;have ae:=j.ia 1;have ac:=j.ia 2;clear j;clear hl dm dp z0 z1 z2 oc af am;go_region;refine bodyPost_end (Cb rfl _ _ _) rfl ?_;exact⟨rfl,_,F6.out.upd r1 r2,F2.out.1,((((Ka F2.out.2 J).alloc ((Ka F2.out.2 J).lt fun k hk=>hk.1) _).drew.drew).grown r2 (((Ka F2.out.2 J).alloc ((Ka F2.out.2 J).lt fun k hk=>hk.1) _).drew.drew.lt fun k hk=>hk.1) (fun k e hk=>by injection e with e;exact hk.2.2.1 e.symm))⟩
 ·rw[hs,hv]at hl;clear hs hv;go_upto_region 3 with fail;go_region_held3 (fun wx=>wx.cell? ⟨cb,0,none⟩=some (.map (some mb))/\wx.cell? ⟨w6,0,none⟩=some (.int .u8 x)/\wx.cell? ⟨w6,1,none⟩=some (.int .u8 y)/\wx.cell? ⟨w6,2,none⟩=some (.int .u8 z)/\(Instr.lookup 305 (.map (some mb)) (.agg #[.int .u8 x, .int .u8 y, .int .u8 z]) true).run prog wx= .ok (.tuple #[.int .i64 (p:Int),true]) wx) (exact⟨dm,z0,z1,z2,hl⟩) (fail);go_upto_region 6 with fail;have F6:=hid (((F3.out.put (i:=at_) (p:Int) nj).alloc (.cells #[.int .u8 x, .int .u8 y, .int .u8 z] 366)).drew.drew);have j:Blk ((w6.setCell ⟨gp,at_,none⟩ (.int .i64 (p:Int))).alloc (.cells #[.int .u8 x, .int .u8 y, .int .u8 z] 366)).drew.drew w6 366 #[.int .u8 x, .int .u8 y, .int .u8 z]:=(Blk.made_at _ _ _ rX).drew.drew;obtain⟨w9,an,r1,r2⟩:=F6.out.map.update (val:= .int .i64 (at_:Int)) (d:= .lit (.int .i64 (at_:Int))) (ps:= []) law3 underlying305 sS Z.out (plainElem_int underlying3 (WalkArith.wf_i64 nj));have aa:=F6.out.blk.ia 0;have ab:=j.ia 0;have ae:=j.ia 1;have ac:=j.ia 2;clear j;clear hl dm dp z0 z1 z2 oc af am;go_region;refine bodyPost_end (Cb rfl _ _ _) rfl ?_;have aq:=(((Ka F2.out.2 J).set (p:=⟨gp,at_,none⟩) (Tv F2.out.1) (.int .i64 (p:Int))).alloc (((Ka F2.out.2 J).set (p:=⟨gp,at_,none⟩) (Tv F2.out.1) (.int .i64 (p:Int))).lt fun k hk=>hk.1) (.cells #[.int .u8 x, .int .u8 y, .int .u8 z] 366)).drew.drew;have hF:=F6.out.upd r1 r2;have N:(ps++ [-1]).set at_ (p:Int)=ps++ [IP (some p)]:=by have:=ag.out;subst this;simp[IP]
  rw[N]at hF;exact⟨rfl,_,hF,F2.out.1,aq.grown r2 (aq.lt fun k hk=>hk.1) (fun k e hk=>by injection e with e;exact hk.2.2.1 e.symm)⟩
theorem Ac9(w:World)(cb mb base:Nat)(ls:List Nat)(A:Option Addr)(n c at_:Nat)(D:DataW Unit)(pv:Value)(hn:ls.length=n)(hN:n<=1000000)(j:at_<n)(i:base<=w.heap.size)(h8:∀x∈ls,x<=255)
 (ha:Row w base A n 1 (jZ .u8 ls))(hD:MapIs ls at_ D)(h:Ch w cb mb base ls at_ at_ D pv (GM ls at_)):
 Calls prog 229 #[.pointer (some ⟨cb,0,none⟩), .slice A n c,at_] w fun e w'=>e= .returned (.tuple #[])/\∃D' pv',MapIs ls (at_+1) D'/\Ch w' cb mb base ls (at_+1) (at_+1) D' pv' (GM ls (at_+1))/\L2 pv pv' w/\Kept (Out cb mb pv w) w w':=by
 rw[YD];by_cases hf:at_+3<=n
 ·refine(nQ w cb mb base ls A n c at_ D pv _ hn hN hf i h8 (lU _ _) ha hD h).mono ?_;rintro e w' ⟨rfl,pv',h1,h2,h3⟩;exact⟨rfl,_,pv',hD.put h8 nj,h1,h2,h3⟩
 ·have e:IW ls at_= -1:=by unfold IW;rw[Aa nj]
  rw[e];refine(XW w cb mb base ls A n c at_ D pv _ hN nj nj i h).mono ?_;rintro e w' ⟨rfl,pv',h1,h2,h3⟩;exact⟨rfl,_,pv',hD.skip nj,h1,h2,h3⟩
theorem Xe(w:World)(cb:Nat)(ls:List Nat)(A:Option Addr)(n c at_:Nat)(hn:ls.length=n)(hN:n<=1000000)(h:at_<=n)(hf:n<at_+3):
 Calls prog 228 #[.pointer (some ⟨cb,0,none⟩), .slice A n c,at_] w fun e w'=>e= .returned (.tuple #[.int .i64 ((norm (Bw ls at_)).1:Nat), .int .i64 ((norm (Bw ls at_)).2:Nat)])/\Below w w w':=by
 rw[Yi nj];have s1:IntKind.i64.wrap ((at_:Int)+3)=(at_:Int)+3:=pi
 have g1:=ic ((n:Int)<(at_:Int)+3)
 clear hn;go_enter func228,ntmps228;go_wp2_with fail;go_ret2;exact⟨rfl,Ae _ _⟩
theorem a2z{p:Prop}(h:p:=by go_wp2_with fail;go_ret2;exact⟨by rw[hR.out];rfl,HB.out⟩):p:=h
theorem Xz(w:World)(cb mb base:Nat)(ls:List Nat)(A:Option Addr)(n c at_ m:Nat)(D:DataW Unit)(pv:Value)(hn:ls.length=n)(hN:n<=1000000)(ax:at_+3<=n)(am:base<=w.heap.size)(h8:∀x∈ls,x<=255)
 (ha:Row w base A n 1 (jZ .u8 ls))(hD:MapIs ls at_ D)(h:Ch w cb mb base ls at_ m D pv (GM ls at_)):
 Calls prog 228 #[.pointer (some ⟨cb,0,none⟩), .slice A n c,at_] w fun e w'=>e= .returned (.tuple #[.int .i64 ((norm (Bw ls at_)).1:Nat), .int .i64 ((norm (Bw ls at_)).2:Nat)])/\Below w w w':=by
 have hg:∀i,i<ls.length->ls.getD i 0<=255:=fun i hi=>pg
 have g0:=hg at_ nj;have ak:=hg (at_+1) nj;have g2:=hg (at_+2) nj;have a4:Cl ls at_=(ls.getD at_ 0,ls.getD (at_+1) 0,ls.getD (at_+2) 0):=rfl;have D1:Hid (∀wx,Below w w wx->Calls prog 279 #[.slice A n c,at_] wx fun e w'=>e= .returned (.agg #[.int .u8 (ls.getD at_ 0), .int .u8 (ls.getD (at_+1) 0), .int .u8 (ls.getD (at_+2) 0)])/\Below wx wx w'):=fun wx hb=>TY wx A n c ls at_ hn hN ax ((ha.below (hb.mono am)).mono mj);have D2:Hid (∀wx p,Below w w wx->p<=at_->Calls prog 280 #[.slice A n c, .int .i64 p,at_] wx fun e w'=>e= .returned (.int .i64 (alike ls p at_:Nat))/\Below wx wx w'):=fun wx p hb hp=>Zh wx A n c ls p at_ hn hN hp nj ((ha.below (hb.mono am)).mono mj);have Q:Hid (∀wx:World,Below w w wx->(Instr.lookup 305 (.map (some mb)) (.agg #[.int .u8 (ls.getD at_ 0), .int .u8 (ls.getD (at_+1) 0), .int .u8 (ls.getD (at_+2) 0)]) true).run prog wx= .ok (.tuple #[.int .i64 (JP (BY ls (Cl ls at_) at_)), .bool (BY ls (Cl ls at_) at_).isSome]) wx):=fun wx hb=>Ri (h.step hb).map hD g0 ak g2;have ai:=WC (BY ls (Cl ls at_) at_);have HP:Hid (∀E,E<=at_->∀p,BY ls (Cl ls at_) E=some p->p<E/\∃gp cp,pv= .slice (some ⟨gp,0,none⟩) at_ cp/\w.cell? ⟨gp,p,none⟩=some (.int .i64 (IP (BY ls (Cl ls at_) p)))/\gp<w.heap.size):=fun E hE p hp=>by obtain⟨h1,h2,h3,h4⟩:=Km hp;refine⟨h1,?_⟩;obtain⟨bb,rfl⟩:∃k,at_=k+1:=⟨at_-1,nj⟩;obtain⟨gp,cp,rfl⟩:=Jm h.prev;have hc:=(Ac7 (i:=p) h.prev nj).1;refine⟨gp,cp,rfl,?_,(Aj h.prev gp rfl).2⟩;rw[hc];unfold Hw;rw[Co,Z1 nj];unfold IW;rw[Ab nj,h3];rfl
 have d0:=h.blk.ia 0;have d1:=h.blk.ia 1;have s1:IntKind.i64.wrap ((at_:Int)+3)=(at_:Int)+3:=pi
 have g1:=ig ((n:Int)<(at_:Int)+3)
 have HS:=hid (At.start ls at_);have Z:=h.blk.lt;obtain⟨R,hR⟩:=ii (norm (Bw ls at_));have az:Hid (∀E p nd,At ls at_ E nd->BY ls (Cl ls at_) E=some p->at_-p<=4095->At ls at_ p (if nd.1<alike ls p at_ then(alike ls p at_,at_-p)else nd)):=fun E p nd h1 h2 h3=>h1.next nj h2 h3;have ar:Hid (∀E nd,At ls at_ E nd->BY ls (Cl ls at_) E=none->R=nd):=fun E nd h1 h2=>hR.trans <| h1.none nj h2;have a1:Hid (∀E p nd,At ls at_ E nd->BY ls (Cl ls at_) E=some p->4095<at_-p->R=nd):=fun E p nd h1 h2 h3=>hR.trans <| h1.far nj h2 h3;have a0:Hid (∀E nd,At ls at_ E nd->nd.1=257->R=nd):=fun E nd h1 h2=>hR.trans <| h1.full h2;have a5:Hid (∀p,alike ls p at_<=257):=fun p=>O9 ls p at_;rw[<-hR];generalize ls.getD at_ 0=x at *;generalize ls.getD (at_+1) 0=y at *;generalize ls.getD (at_+2) 0=z at *;clear h hD ha h8 hg a4 hn hR;have ae:w.drew.cell? ⟨cb,0,none⟩=some (.map (some mb)):=d0;have Y:=Q.out w.drew (Ae _ _).drew;have HC:=hid ai;clear ai;obtain⟨lo,G⟩:=ii (BY ls (Cl ls at_) at_);rw[<-G]at Q Y HC;have U:=hid G;clear G;go_enter func228,ntmps228;go_upto_region 3 with fail;go_region_held3 (fun wx=>wx.cell? ⟨cb,0,none⟩=some (.map (some mb))/\(Instr.lookup 305 (.map (some mb)) (.agg #[.int .u8 x, .int .u8 y, .int .u8 z]) true).run prog wx= .ok (.tuple #[.int .i64 (JP lo),lo.isSome]) wx) (first|exact⟨ae,Y⟩|exact k0) (first|(go_at_call 279;(with_reducible refine(D1.out _ sT).mono ?_);rintro e w1 ⟨rfl,ab⟩;have k0:w1.cell? ⟨cb,0,none⟩=some (.map (some mb))/\(Instr.lookup 305 (.map (some mb)) (.agg #[.int .u8 x, .int .u8 y, .int .u8 z]) true).run prog w1= .ok (.tuple #[.int .i64 (JP lo),lo.isSome]) w1:=⟨(ab.cell (p:=⟨cb,_,none⟩) Z).trans ae,Q.out _ sT⟩));have au:Hid (Below w w w1):=cZ ab (Am (Ae w w));clear k0 ab Y ae Q d0 g0 ak g2;rcases HC.out with ⟨h1,h2⟩|⟨p0,h1,h2,h3⟩
 ·have hR:Hid (R=(0,0)):=ar.out at_ _ HS.out (U.out.symm.trans h1);rw[h2];clear HC U;generalize JP lo=zz;clear h1 h2;go_wp2_with fail;go_loopw [6,7,8] (fun a b _ wr=>a= .int .i64 0/\b= .int .i64 0/\Hid (Below w w wr)) (fun _ _ _ _=>0)
  case atStart=>exact⟨rfl,rfl,au⟩
  case round=>obtain⟨rfl,rfl,HB⟩:=hrel;exact a2z
 ·have HV:Hid (BY ls (Cl ls at_) at_=some p0):=U.out.symm.trans h1;rw[h2,h3];have a3:=(HP.out at_ (Ak _) p0 HV.out).1;clear HC U h1 h2 h3;go_wp2_with fail;go_loopw [6,7,8] (fun a b v wr=>∃ (E n1 n2:Nat) (vi:Int),a= .int .i64 n1/\b= .int .i64 n2/\v= .int .i64 vi/\n1<=257/\Hid (E<=at_/\At ls at_ E (n1,n2))/\Hid (vi=IP (BY ls (Cl ls at_) E))/\Hid (Below w w wr)) (fun _ _ v _=>(intOf v+1).toNat)
  case atStart=>exact⟨at_,0,0,p0,rfl,rfl,rfl,nj,⟨Ak _,HS.out⟩,by show(p0:Int)=_;rw[HV.out];rfl,au.out⟩
  case round=>
   obtain⟨E,n1,n2,vi,rfl,rfl,rfl,ay,HA,L,HB⟩:=hrel;clear a3 HV;obtain⟨lo,G⟩:=ii (BY ls (Cl ls at_) E);cases lo with
   |none=>have J:vi= -1:=(by have:=L.out;rw[<-G]at this;exact this);have hR:=hid (ar.out E _ HA.out.2 G.symm);clear G L;subst J;go_wp2_with fail;go_ret2;exact⟨by rw[hR.out];rfl,HB.out⟩
   |some p=>
    have J:vi=(p:Nat):=(by have:=L.out;rw[<-G]at this;exact this);obtain⟨bd,gp,cp,M,j,ag⟩:=HP.out E HA.out.1 p G.symm;have bc:=HA.out.1;have HL:Hid (BY ls (Cl ls at_) E=some p):=G.symm;clear G L;subst J;obtain⟨d,hd⟩:=ii (at_-p);have g2:((p:Int) != -1)=true:=qr;have s2:IntKind.i64.wrap ((at_:Int)-(p:Int))=(d:Int):=pj;by_cases hw:d<=4095
    ·have g3:=ic ((d:Int)<=4095);have a6:=ic (d<=4095);by_cases ba:n1<257
     ·have g4:=ic ((n1:Int)<257);have av:=ic (n1<257);have hA2:=az.out E p _ HA.out.2 HL.out nj;have af:=(HB.out.cell (p:=⟨cb,1,none⟩) Z).trans d1;have ac:=(HB.out.cell (p:=⟨gp,p,none⟩) ag).trans j;have aw:=hid hd;have a8:=hid M;have an:=hid j;have aq:=hid hA2;clear hd M j ac hA2 af;go_wp2_with fail;refine(D2.out wr p HB.out nj).mono ?_;rintro e w2 ⟨rfl,ah⟩;have N:Hid (Below w w w2):=cZ ah HB.out;have a9:=a5.out p;generalize alike ls p at_=a at *;have af:=(N.out.cell (p:=⟨cb,1,none⟩) Z).trans d1;have ac:=(N.out.cell (p:=⟨gp,p,none⟩) ag).trans an.out;have M:=a8.out;subst M;have x1:(0:Int)<=(p:Int):=nj;have x2:(p:Int)<(at_:Int):=by omega
      have aj:IP (BY ls (Cl ls at_) p)<(p:Int)/\ -1<=IP (BY ls (Cl ls at_) p):=by
       cases hq:BY ls (Cl ls at_) p with
       |none=>exact⟨by show(-1:Int)<_;omega,by show(-1:Int)<= -1;omega⟩
       |some q=>exact⟨by have:=(Km hq).1;show((q:Nat):Int)<_;omega,by show(-1:Int)<=((q:Nat):Int);omega⟩
      obtain⟨vi,J⟩:=ii (IP (BY ls (Cl ls at_) p));rw[<-J]at ac aj;have L:=hid J;obtain⟨bf,be⟩:=aj;clear J an d1 HB ah;by_cases al:n1<a
      ·have g5:=ic ((n1:Int)<a);have a7:=ic (n1<a);have aa:Hid (p<=at_/\At ls at_ p (a,d)):=⟨nj,by have h:=aq.out;rw[Ab al]at h;rw[aw.out];exact h⟩;go_wp2_with fail;go_roundw
       case measure=>exact jq
       case rel=>go_light;exact⟨p,a,d,vi,rfl,rfl,rfl,a9,aa.out,L.out,N.out⟩
      ·have g5:=ig ((n1:Int)<a);have a7:=ig (n1<a);have aa:Hid (p<=at_/\At ls at_ p (n1,n2)):=⟨nj,by have h:=aq.out;rw[Aa al]at h;exact h⟩;go_wp2_with fail;go_roundw
       case measure=>exact jq
       case rel=>go_light;exact⟨p,n1,n2,vi,rfl,rfl,rfl,ay,aa.out,L.out,N.out⟩
     ·have hR:=hid (a0.out E _ HA.out.2 (show n1=257 by omega));have g4:=ig ((n1:Int)<257);have av:=ig (n1<257);clear hd M j;exact a2z
    ·have hR:=hid (a1.out E p _ HA.out.2 HL.out nj);have g3:=ig ((d:Int)<=4095);have a6:=ig (d<=4095);clear hd M j;exact a2z
theorem Ad0(w:World)(cb mb base:Nat)(ls:List Nat)(A:Option Addr)(n c at_ m:Nat)(D:DataW Unit)(pv:Value)(hn:ls.length=n)(hN:n<=1000000)(j:at_<n)(i:base<=w.heap.size)(h8:∀x∈ls,x<=255)
 (ha:Row w base A n 1 (jZ .u8 ls))(hD:MapIs ls at_ D)(h:Ch w cb mb base ls at_ m D pv (GM ls at_)):
 Calls prog 228 #[.pointer (some ⟨cb,0,none⟩), .slice A n c,at_] w fun e w'=>e= .returned (.tuple #[.int .i64 ((norm (Bw ls at_)).1:Nat), .int .i64 ((norm (Bw ls at_)).2:Nat)])/\Below w w w':=by
 by_cases hf:at_+3<=n
 ·exact Xz w cb mb base ls A n c at_ m D pv hn hN hf i h8 ha hD h
 ·exact Xe w cb ls A n c at_ hn hN nj nj
structure FS (w0 w:World) (cb mb:Nat) (l:List Nat) (at_:Nat) (D:DataW Unit) (pv vt:Value) (k:Nat) (ts:List Tk):Prop where
 ch:Ch w cb mb w0 l at_ at_ D pv (GM l at_)
 map:MapIs l at_ D
 own:w.ownsRow w0 280 3 vt k (En ts)
 bel:Below w0 w0 w
section
variable {w0 w w':World} {cb mb:Nat} {l:List Nat} {at_ k:Nat} {D:DataW Unit} {pv vt:Value} {ts:List Tk}
theorem FS.step(h:FS w0 w cb mb l at_ D pv vt k ts)(hb:Below w w w'):FS w0 w' cb mb l at_ D pv vt k ts:=
 ⟨h.ch.step hb,h.map,eZ h.own (fun x hx=>hb.block x (Aj h.own x hx).2),h.bel.trans (hb.mono h.bel.size)⟩
theorem FS.alloc(h:FS w0 w cb mb l at_ D pv vt k ts)(o:Obj):FS w0 (w.alloc o) cb mb l at_ D pv vt k ts:=
 h.step (aZ (Ae _ _))
theorem FS.grown{j:Value}{k':Nat}{i:List Tk}(h:FS w0 w cb mb l at_ D pv vt k ts)(hg:w.grownBy w' vt.ownBlock)(ho:w'.ownsRow w0 280 3 j k' (En i)):FS w0 w' cb mb l at_ D pv j k' i:=by
 refine⟨⟨h.ch.blk.grown hg (fun e=>gZ h.own h.ch.blk ip e.symm),MP h.ch.map (hg.block mb h.ch.map.lt (fun e=>Lr h.ch.map h.own e.symm)),eZ h.ch.prev (fun x hx=>hg.block x (Aj h.ch.prev x hx).2 (fun e=> ?_)),h.ch.lo,h.ch.lm⟩,h.map,ho,⟨hg.os.trans h.bel.os,hg.tape.trans h.bel.tape,hg.output.trans h.bel.output,AN h.bel.size hg.size,fun x hx=>(hg.block x (by have:=h.bel.size;omega) (fun e=> ?_)).trans (h.bel.block x hx)⟩⟩
 ·rcases FE h.ch.prev h.own ip with e1|e1
  ·rw[hx]at e1;cases e1
  ·exact e1 (hx.trans e)
 ·have:=(Aj h.own x e.symm).1;omega
theorem FS.added{D':DataW Unit}{pv':Value}(h:FS w0 w cb mb l at_ D pv vt k ts)(hm:MapIs l (at_+1) D')(hc:Ch w' cb mb w0 l (at_+1) (at_+1) D' pv' (GM l (at_+1)))(hk:Kept (Out cb mb pv w) w w'):FS w0 w' cb mb l (at_+1) D' pv' vt k ts:=by
 refine⟨hc,hm,eZ h.own (fun x hx=>hk.block x ⟨(Aj h.own x hx).2,fun e=> ?_,fun e=> ?_,fun e=> ?_⟩),?_⟩
 ·subst e;exact gZ h.own h.ch.blk ip hx
 ·subst e;exact Lr h.ch.map h.own hx
 ·rcases FE h.ch.prev h.own ip with e1|e1
  ·rw[e]at e1;cases e1
  ·exact e1 (e.trans hx.symm)
 ·have hb:Below w0 w w':=hk.below (fun x hx=>⟨by have:=h.bel.size;omega,by have:=h.ch.lo;omega,by have:=h.ch.lm;omega,fun e=>by have:=(Aj h.ch.prev x e).1;omega⟩);exact h.bel.trans hb
end
theorem FS.start(w:World)(l:List Nat):FS w ((w.alloc (.map #[] 0)).alloc (.cells #[.map (some w.heap.size),()] 307)) (w.heap.size+1) w l 0 (.map []) (.slice none 0 0) (.slice none 0 0) 0 []:=
 ⟨⟨Blk.made_at _ _ _ rX,((World.ownsMap_made w _ _ _).alloc _),AI _ _ _ _,nj,nj⟩,MapIs.start l,AI _ _ _ _,aZ (aZ (Ae _ _))⟩
theorem a1g{p:Prop}(h:p:=by
  have u2:IntKind.i64.wrap ((q:Int)+1)=((q+1:Nat):Int):=pj;have af:q<n:=nj;have HQ:=hid hq;clear hq;have u3:IntKind.i64.wrap ((j:Int)+1)=((j+1:Nat):Int):=pj;go_wp2_with fail;refine(DA.out w5 _ _ D5 G v4 (k+1) E q af S5.out).mono ?_;rintro e w6 ⟨rfl,D6,ac,S6⟩;have S6:=hid S6;clear S5;go_wp2_with fail;go_roundw
  case measure=>exact jq
  case rel=>exact jh):p:=h
theorem mW(w:World)(A:Option Addr)(n c:Nat)(ls:List Nat)(hn:ls.length=n)(hN:n<=1000000)(h8:∀x∈ls,x<=255)(ha:Row w w A n 1 (jZ .u8 ls)):
 Calls prog 167 #[.slice A n c] w fun e w'=>∃v,e= .returned v/\w'.ownsRow w 280 3 v (find ls).length (En (find ls))/\Below w w w':=by
 obtain⟨j0,ay,av,au,aq⟩:=info_parts Od;obtain⟨R,hR⟩:=ii (find ls);have az:Hid (Eb ls 0=R):=hR.symm;rw[<-hR];have S0:=hid (FS.start w ls)
 have DL:Hid (∀wx cb mb D pv vt k ts at_,at_<n->FS w wx cb mb ls at_ D pv vt k ts->Calls prog 228 #[.pointer (some ⟨cb,0,none⟩), .slice A n c, .int .i64 at_] wx fun e w'=>e= .returned (.tuple #[.int .i64 ((norm (Bw ls at_)).1:Nat), .int .i64 ((norm (Bw ls at_)).2:Nat)])/\Below wx wx w'):=
  fun wx cb mb D pv vt k ts at_ h1 h2=>Ad0 wx cb mb w ls A n c at_ at_ D pv hn hN h1 h2.bel.size h8 (ha.below h2.bel) h2.map h2.ch
 have DA:Hid (∀wx cb mb D pv vt k ts at_,at_<n->FS w wx cb mb ls at_ D pv vt k ts->Calls prog 229 #[.pointer (some ⟨cb,0,none⟩), .slice A n c, .int .i64 at_] wx fun e w'=>e= .returned (.tuple #[])/\∃D' pv',FS w w' cb mb ls (at_+1) D' pv' vt k ts):=
  fun wx cb mb D pv vt k ts at_ h1 h2=>(Ac9 wx cb mb w ls A n c at_ D pv hn hN h1 h2.bel.size h8 (ha.below h2.bel) h2.map h2.ch).mono fun e w' ⟨he,D',pv',q1,q2,_,q4⟩=>⟨he,D',pv',h2.added q1 q2 q4⟩
 have ak:Hid (∀at_,at_<n->((norm (Bw ls at_)).1=0/\(norm (Bw ls at_)).2=0/\Eb ls at_=⟨(ls.getD at_ 0:Nat),0,0⟩ :: Eb ls (at_+1))∨(3<=(norm (Bw ls at_)).1/\at_+(norm (Bw ls at_)).1<=n/\Eb ls at_=⟨0,((norm (Bw ls at_)).1:Nat),((norm (Bw ls at_)).2:Nat)⟩ :: Eb ls (at_+(norm (Bw ls at_)).1))):=fun at_ Z=>by
  by_cases h3:3<=(Bw ls at_).1
  ·rw[XZ h3];exact .inr ⟨h3,by have:=LR (l:=ls) (at_:=at_) nj;omega,Lg nj h3⟩
  ·rw[ZE h3];exact .inl ⟨rfl,rfl,KR nj h3⟩
 have U:Hid (Eb ls n= []):=NN nj;have HN:=hid hn;have HA:Hid (∀wx at_,Below w w wx->at_<n->∃b M,A=some ⟨b,M,none⟩/\wx.cell? ⟨b,M+at_,none⟩=some (.int .u8 (ls.getD at_ 0:Nat))/\b<w.heap.size):=fun wx at_ hb Z=>by obtain⟨b,M,rfl,ag,hc⟩:=ha nj;have:=(hb.cell (p:=⟨b,_,none⟩) ag).trans (hc at_ 0 Z nj);simp only[jZ,Nat.mul_one,Nat.add_zero]at this;exact⟨b,M,rfl,this,ag⟩
 clear hR hn h8 ha;have a1:=run_makeMap (P:=prog) 305 w;go_enter func167,ntmps167;go_wp2_with fail;clear a1;go_loopw [4,5] (fun u v wr=>∃ (at_ k:Nat) (D:DataW Unit) (pv:Value) (ts:List Tk),v= .int .i64 at_/\at_<=n/\k<=at_/\Hid (ts.length=k)/\Hid (ts++Eb ls at_=R)/\Hid (FS w wr (w.heap.size+1) w ls at_ D pv u k ts)) (fun _ v _=>n-(intOf v).toNat)
 case atStart=>exact⟨0,0,_,_,[],rfl,nj,nj,rfl,az.out,S0.out⟩
 case round=>
  obtain⟨w0,rfl⟩:=ii wr;obtain⟨at_,k,D,pv,ts,rfl,Z,hk,HL,HR,HS⟩:=hrel;clear az S0;obtain⟨AT,kT,rfl⟩:=bZ HS.out.own;by_cases ah:at_<n
  ·have g1:=ic ((at_:Int)<n);have a6:=ic (at_<n);have y0:(0:Int)<=(at_:Int):=nj;have y1:(at_:Int)<(n:Int):=nj;have zb:=HS.out.bel.size;have zc:=HS.out.ch.blk.lt;obtain⟨b,M,hA,ab,ag⟩:=HA.out w0 at_ HS.out.bel ah;subst hA;have an:=ak.out at_ ah;have al:=fun wx D pv vt k ts=>DL.out wx (w.heap.size+1) w D pv vt k ts at_ ah;have S1:=hid (HS.out.alloc (.cells #[.int .u8 (ls.getD at_ 0:Nat),ij,ij] 280));have hD:=hid (al _ _ _ _ _ _ S1.out);clear al;generalize ls.getD at_ 0=x at *;generalize norm (Bw ls at_)=NR at *;obtain⟨nr,dr⟩:=NR;have Q:=hid an;clear an DL;go_wp2_with fail;refine hD.out.mono ?_;rintro e w1 ⟨rfl,ar⟩;have Y:Below w0 w0 w1:=cZ ar (aZ (Ae _ _));have z:Blk w1 w0 280 #[.int .u8 x,ij,ij]:=(Blk.made _ _ _).step ar;have a7:=z.lt;have am:=hid z;have t0:=z.ia 0;have t1:=z.ia 1;have t2:=z.ia 2;have f0:=z.frozen 0;have f1:=z.frozen 1;have f2:=z.frozen 2;clear hD ab S1 z;have aw:=Q.out;clear Q;rcases aw with ⟨h1,h2,h3⟩|⟨h1,h2,h3⟩
   ·subst h1 h2;have N:=hid h3;clear h3;have S2:=hid (HS.out.step (show Below w0 w0 w1 by(repeat (with_reducible first|exact Ae _ _|assumption|refine Am ?_ |refine below_drewN ?_ _|refine mZ ?_ |refine aZ ?_ |refine cZ im ?_ |refine belA ?_ |refine nZ im ?_))));have a0:k<1000001:=nj;go_wp2_with(at_builtin;refine iZ rfl (.tmp 35) (.tmp 37) 190 rfl w 280 j0 _ 3 24 underlying190 ay av au aq rfl ip _ _ _ nm ((S2.out.alloc _).own) _ 1 1 [.int .u8 (x:Nat), .int .i64 0, .int .i64 0] nm (Src.of_blk (g:=w1.heap.size) (Blk.made_at _ _ _ rX) 1 1 3 rfl) mr sS nj sj ?_;intro v4 w4 i L J);have y:w4.ownsRow w 280 3 v4 (k+1) (En (ts++ [⟨(x:Nat),0,0⟩])):=(by rw[LF];exact i);have S4:=hid ((S2.out.alloc _).grown L y);have aa:Hid ((ts++ [⟨(x:Nat),0,0⟩])++Eb ls (at_+1)=R):=(by have h:=HR.out;rw[N.out]at h;rw[AE];exact h);have aj:Hid ((ts++ [(⟨(x:Nat),0,0⟩:Tk)]).length=k+1):=(by rw[Ag,HL.out];rfl);generalize ts++ [(⟨(x:Nat),0,0⟩:Tk)]=E at *;clear i L J y S2 N HR HL t0 t1 t2 f0 f1 f2 am Y HS;go_loopw [5,40] (fun v u wr=>∃ (j q:Nat) (D:DataW Unit) (pv:Value),u= .int .i64 j/\v= .int .i64 q/\q=at_+j/\j<=1/\Hid (FS w wr (w.heap.size+1) w ls q D pv v4 (k+1) E)) (fun _ u _=>1-(intOf u).toNat)
    case atStart=>exact⟨0,at_,D,pv,rfl,rfl,rfl,nj,S4.out⟩
    case round=>
     obtain⟨w5,rfl⟩:=ii wr;obtain⟨j,q,D5,G,rfl,rfl,hq,hj,S5⟩:=hrel;clear S4;by_cases a4:j<1
     ·have u1:=ic ((j:Int)<1);have ai:=ic (j<1);exact a1g
     ·have u1:=ig ((j:Int)<1);have ai:=ig (j<1);have ae:q=at_+1:=nj;subst ae;clear hq;go_wp2_with fail;go_roundw
      case measure=>exact jq
      case rel=>go_light;exact⟨at_+1,k+1,D5,G,E,rfl,nj,nj,aj.out,aa.out,S5.out⟩
   ·have ba:3<=nr:=h1;have a8:at_+nr<=n:=h2;have N:=hid h3;clear h1 h2 h3;have q3:=ic ((3:Int)<=nr);have a9:=ic (3<=nr);have S2:=hid (HS.out.step (show Below w0 w0 (((w1.setCell ⟨w0,0,none⟩ (.int .u8 0)).setCell ⟨w0,1,none⟩ (.int .i64 nr)).setCell ⟨w0,2,none⟩ (.int .i64 dr)) by(repeat (with_reducible first|exact Ae _ _|assumption|refine Am ?_ |refine below_drewN ?_ _|refine mZ ?_ |refine aZ ?_ |refine cZ im ?_ |refine belA ?_ |refine nZ im ?_))));have a0:k<1000001:=nj;go_wp2_with(at_builtin;refine iZ rfl (.tmp 35) (.tmp 37) 190 rfl w 280 j0 _ 3 24 underlying190 ay av au aq rfl ip _ _ _ nm ((S2.out.alloc _).own) _ 1 1 [.int .u8 0, .int .i64 (nr:Nat), .int .i64 (dr:Nat)] nm (Src.of_blk (g:=w1.heap.size) (Blk.made_at _ _ _ rX) 1 1 3 rfl) mr sS nj sj ?_;intro v4 w4 i L J);have y:w4.ownsRow w 280 3 v4 (k+1) (En (ts++ [⟨0,(nr:Nat),(dr:Nat)⟩])):=(by rw[LF];exact i);have S4:=hid ((S2.out.alloc _).grown L y);have aa:Hid ((ts++ [⟨0,(nr:Nat),(dr:Nat)⟩])++Eb ls (at_+nr)=R):=(by have h:=HR.out;rw[N.out]at h;rw[AE];exact h);have aj:Hid ((ts++ [(⟨0,(nr:Nat),(dr:Nat)⟩:Tk)]).length=k+1):=(by rw[Ag,HL.out];rfl);generalize ts++ [(⟨0,(nr:Nat),(dr:Nat)⟩:Tk)]=E at *;clear i L J y S2 N HR HL t0 t1 t2 f0 f1 f2 am Y HS;go_loopw [5,40] (fun v u wr=>∃ (j q:Nat) (D:DataW Unit) (pv:Value),u= .int .i64 j/\v= .int .i64 q/\q=at_+j/\j<=nr/\Hid (FS w wr (w.heap.size+1) w ls q D pv v4 (k+1) E)) (fun _ u _=>nr-(intOf u).toNat)
    case atStart=>exact⟨0,at_,D,pv,rfl,rfl,rfl,nj,S4.out⟩
    case round=>
     obtain⟨w5,rfl⟩:=ii wr;obtain⟨j,q,D5,G,rfl,rfl,hq,hj,S5⟩:=hrel;clear S4;by_cases a4:j<nr
     ·have u1:=ic ((j:Int)<nr);have ai:=ic (j<nr);exact a1g
     ·have u1:=ig ((j:Int)<nr);have ai:=ig (j<nr);have ae:q=at_+nr:=nj;subst ae;clear hq;go_wp2_with fail;go_roundw
      case measure=>exact jq
      case rel=>go_light;exact⟨at_+nr,k+1,D5,G,E,rfl,nj,nj,aj.out,aa.out,S5.out⟩
  ·obtain rfl:at_=n:=by omega
   have ax:Hid (R=ts):=(by have h:=HR.out;rw[U.out,Cg]at h;exact h.symm);have g1:=ig ((at_:Int)<at_);have a6:=ig (at_<at_);have F:=HS.out.own;have FB:=HS.out.bel;have HF:=hid F;have a3:=hid FB;have a5:=hid HL.out;clear F FB HR HS HL DL DA HA ak U;go_wp2_with fail;go_ret;exact⟨_,rfl,by rw[ax.out,a5.out];exact HF.out,a3.out⟩
theorem Tp:∀ (n d:Nat) (out:List Nat),Ee out (n+1) d=Ee out n d++ [(Ee out n d).getD ((Ee out n d).length-d) 0]
 |0,_,_=>rfl
 |n+1,d,out=>by rw[Ee,Tp n d];rfl
theorem Xb{t:Tk}(hl:0<=t.lit/\t.lit<=255)(h:Bb t.lit t.len t.dist=true):
 (∃x:Nat,x<=255/\t=⟨(x:Int),0,0⟩)∨∃L D:Nat,3<=L/\L<=257/\1<=D/\D<=4095/\t=⟨0,(L:Int),(D:Int)⟩:=by
 obtain⟨lit,len,dist⟩:=t;simp only at hl h;unfold Bb at h;split at h
 ·rename_i h0;have h1:=of_decide_eq_true h;subst h0 h1;exact .inl ⟨lit.toNat,nj,by rw[Int.toNat_of_nonneg hl.1]⟩
 ·have h1:=of_decide_eq_true h;refine .inr ⟨len.toNat,dist.toNat,nj,nj,nj,nj,?_⟩;rw[Int.toNat_of_nonneg nj,Int.toNat_of_nonneg nj,h1.1]
theorem qM(hq:out.length=q)(_h:q<=most):Hx most out ⟨(x:Int),0,0⟩=if most-q<1 then 6 else 0:=by
 unfold Hx;rw[Ab (show Bb (x:Int) 0 0=true from rfl),hq,Aa (show ¬(q:Int)<0 by omega)];by_cases h:most-q<1
 ·rw[Ab (show(most:Int)-(q:Int)<max 1 0 by omega),Ab h]
 ·rw[Aa (show ¬(most:Int)-(q:Int)<max 1 0 by omega),Aa h]
theorem gS{L D:Nat}(hq:out.length=q)(_h:q<=most)(h1:3<=L)(h2:L<=257)(h3:1<=D)(h4:D<=4095):Hx most out ⟨0,(L:Int),(D:Int)⟩=if q<D then 8 else if most-q<L then 6 else 0:=by
 have hm:Bb 0 (L:Int) (D:Int)=true:=by unfold Bb;rw[Aa nj];exact Bd ⟨rfl,nj,nj,nj,nj⟩
 unfold Hx;rw[Ab hm,hq];show(if(q:Int)<(D:Int)then 8 else if(most:Int)-(q:Int)<max 1 (L:Int)then 6 else 0)=_;by_cases h:q<D
 ·rw[Ab nj,Ab h]
 ·rw[Aa nj,Aa h];by_cases h':most-q<L
  ·rw[Ab nj,Ab h']
  ·rw[Aa nj,Aa h']
def MJ(R:List Nat×Int)(w:World)(e:Ending)(w':World):Prop:=
 ∃v,e= .returned (.tuple #[v,R.2])/\w'.ownsRow w 5 1 v R.1.length (dZ .u8 R.1)/\Below w w w'
theorem a0x{p:Prop}(h:p:=by clear E M;go_wp2_with fail;refine(HM.out _).mono ?_;rintro e w2 ⟨rfl,z⟩;have kk:=fun o=>z.cell (p:=⟨wr.heap.size,o,none⟩) rX;have b1:=(kk 1).trans rfl;have J:Hid (Below w w w2):=(pZ hz hb).trans (z.mono sj);have b2:=(kk 2).trans rfl;clear kk;go_wp2_with fail;go_ret2;exact⟨_,rfl,AI _ _ _ _,J.out⟩):p:=h
theorem l9(w:World)(A:Option Addr)(n c:Nat)(ts:List Tk)(most:Nat)(a5:most<=1000000)(hn:ts.length=n)(hN:n<=1000000)(ae:∀t∈ts,(0<=t.lit/\t.lit<=255)/\Bb t.lit t.len t.dist=true)(ha:Row w w A n 3 (Hy ts)):
 Calls prog 300 #[.slice A n c,most] w (MJ (Gg ts most) w):=by
 obtain⟨j0,ax,av,au,ar⟩:=info_parts Dh;have hP:Gg ts most=Fo most [] ts:=Aa nj;rw[hP];obtain⟨R,hR⟩:=ii (Fo most [] ts);rw[<-hR];obtain⟨R1,R2⟩:=R;unfold MJ;have g0:=ig ((most:Int)<0)
 have HR:=hid hR;have HA:=hid ha;have HN:=hid hn;have aw:=hid ae;clear hP hR ha hn ae;go_enter func300,ntmps300;go_wp2_with fail;go_loopw [6,13] (fun u i wr=>∃ (k q:Nat) (out:List Nat),k<=n/\q<=most/\i= .int .i64 k/\Hid (out.length=q)/\Hid (wr.ownsRow w 5 1 u q (dZ .u8 out))/\Hid (Fo most out (ts.drop k)=(R1,R2))/\Below w w wr) (fun _ i _=>n-(intOf i).toNat)
 case atStart=>exact⟨0,0,[],nj,nj,rfl,rfl,AI _ _ _ _,HR.out.symm,Ae _ _⟩
 case round=>
  obtain⟨k,q,out,hk,hq,rfl,HQ,HO,HP,hb⟩:=hrel;have hz:=hb.size;obtain⟨va,vc,rfl⟩:=bZ HO.out;by_cases ab:k<n
  ·obtain⟨ob,a8,rfl,ah,E⟩:=HA.out nj;have M:k<ts.length:=(by rw[HN.out];exact ab);have c0:=(hb.cell (p:=⟨ob,_,none⟩) ah).trans (E k 0 ab nj);have c1:=(hb.cell (p:=⟨ob,_,none⟩) ah).trans (E k 1 ab nj);have c2:=(hb.cell (p:=⟨ob,_,none⟩) ah).trans (E k 2 ab nj);simp only[Hy,List.getD_eq_getElem?_getD,List.getElem?_eq_getElem M,Option.getD_some,Nat.add_zero,<-Nat.add_assoc]at c0 c1 c2;have hp:=HP.out;rw[Dl M,Fo]at hp;obtain⟨hl,hm⟩:=aw.out _ (FM M);have HM:=fun wx=>QW ts[k] wx;rw[hm]at HM;have ay:=Xb hl hm;generalize ts[k]=t at *;have x0:(0:Int)<=(k:Int):=nj;have x1:(k:Int)<(n:Int):=nj;rcases ay with ⟨x,hx,rfl⟩|⟨L,D,a3,hL,az,hD,rfl⟩
   ·rw[qM HQ.out hq]at hp;simp only[Tk.val_mk]at HM c0 c1 c2;have HM:=hid HM;have g1:=ig ((q:Int)<0);have a1:max (1:Int) 0=1:=ip;have s1:IntKind.i64.wrap ((most:Int)-(q:Int))=((most-q:Nat):Int):=pj;by_cases G:most-q<1
    ·rw[Ab G,Aa rX]at hp;injection hp with e1 e2;subst e1 e2;have g2:=ic (((most-q:Nat):Int)<1);have g3:=ic (most-q<1);generalize Q:most-q=dm at *;have aq:dm=0:=nj;subst aq;clear Q hm hl HP;exact a0x
    ·rw[Aa G,Ab rfl,Ab rfl,BD]at hp;obtain⟨dm,Q⟩:=ii (most-q);rw[<-Q]at s1 G;have g2:=ig ((dm:Int)<1);have g3:=ig (dm<1);have af:=hid hp;have ai:q+1<=most:=nj;clear Q hm hl HP hp G;clear E M;go_wp2_with fail;refine(HM.out _).mono ?_;rintro e w2 ⟨rfl,z⟩;have kk:=fun o=>z.cell (p:=⟨wr.heap.size,o,none⟩) rX;have b1:=(kk 1).trans rfl;have J:Hid (Below w w w2):=(pZ hz hb).trans (z.mono sj);have b2:=(kk 2).trans rfl;have b0:=(kk 0).trans rfl;have Z:=hid (eZ (HO.out.alloc (.cells #[.int .u8 x,ij,ij] 280)) (fun y hy=>z.block y lc));have al:=J.out.size;clear kk;go_wp2_with(at_builtin;refine iZ rfl (.tmp 39) (.tmp 42) 28 rfl w 5 j0 _ 1 1 underlying28 ax av au ar rfl ip _ _ _ nm (Z.out.alloc _) _ 1 1 [.int .u8 x] nm (Src.of_blk (Blk.made _ _ _) 1 1 1 rfl) mp sS nj sj ?_;intro v4 w4 U aa am);go_roundw
     case measure=>exact jq
     case rel=>
      go_light;refine⟨k+1,q+1,out++ [x],nj,ai,jr,?_,?_,af.out,?_⟩
      ·show _=_;rw[Ag,HQ.out];rfl
      ·show World.ownsRow _ _ _ _ _ _ _;rw[show dZ .u8 (out++ [x])=dZ .u8 out++ [.int .u8 x] by simp[dZ]];exact U
      ·exact(pZ al J.out).grown aa sj (fun y hy=>(Aj Z.out y hy).1)
   ·rw[gS HQ.out hq a3 hL az hD]at hp;simp only[Tk.val_mk]at HM c0 c1 c2;have HM:=hid HM;have a1:max (1:Int) (L:Int)=(L:Int):=nj;have a7:((L:Int)==0)=false:=qi;have s1:IntKind.i64.wrap ((most:Int)-(q:Int))=((most-q:Nat):Int):=pj;by_cases ac:q<D
    ·rw[Ab ac,Aa rX]at hp;injection hp with e1 e2;subst e1 e2;have g1:=ic ((q:Int)<D);have a4:=ic (q<D);clear hm hl HP;exact a0x
    ·rw[Aa ac]at hp;have g1:=ig ((q:Int)<D);have a4:=ig (q<D);obtain⟨dm,Q⟩:=ii (most-q);rw[<-Q]at s1 hp;by_cases G:dm<L
     ·rw[Ab G,Aa rX]at hp;injection hp with e1 e2;subst e1 e2;have g2:=ic ((dm:Int)<L);have g3:=ic (dm<L);clear hm hl HP Q;exact a0x
     ·rw[Aa G,Ab rfl,Aa (by show ¬(L:Int)=0;omega)]at hp
      replace hp:Fo most (Ee out ((L:Int)).toNat ((D:Int)).toNat) (ts.drop (k+1))=(R1,R2):=hp
      rw[BD,BD]at hp;have g2:=ig ((dm:Int)<L);have g3:=ig (dm<L);have af:=hid hp;have ai:q+L<=most:=nj;clear Q hm hl HP hp G;clear E M;go_wp2_with fail;refine(HM.out _).mono ?_;rintro e w2 ⟨rfl,z⟩;have kk:=fun o=>z.cell (p:=⟨wr.heap.size,o,none⟩) rX;have b1:=(kk 1).trans rfl;have J:Hid (Below w w w2):=(pZ hz hb).trans (z.mono sj);have b2:=(kk 2).trans rfl;have Z:=hid (eZ (HO.out.alloc (.cells #[.int .u8 0,L,D] 280)) (fun y hy=>z.block y lc));have ag:Hid (Blk w2 wr 280 #[.int .u8 0,L,D]):=(Blk.made wr _ _).step z;have al:=J.out.size;generalize wr.heap.size=pb at *;clear kk z HO hb c0 c1 c2 HM b1 b2;have b1:=ag.out.ia 1;have b2:=ag.out.ia 2;go_wp2_with fail;go_loopw [6,46] (fun u i wx=>∃j:Nat,j<=L/\i= .int .i64 j/\Hid (wx.ownsRow w 5 1 u (q+j) (dZ .u8 (Ee out j D)))/\Hid (Blk wx pb 280 #[.int .u8 0,L,D])/\Hid (Below w w wx)) (fun _ i _=>L-(intOf i).toNat)
      case atStart=>exact⟨0,nj,rfl,Z.out,ag.out,J.out⟩
      case round=>
       obtain⟨j,hj,rfl,Y,N,aj⟩:=hrel;have a6:=aj.out.size;by_cases a9:j<L
       ·obtain⟨g,cg,rfl,_⟩:=Y.out.form nj;have an:(Ee out j D).length=q+j:=(by rw[NG,HQ.out]);obtain⟨I,hI⟩:=ii (q+j-D);have ak:=Tp j D out;rw[an,<-hI]at ak;have hy:(dZ .u8 (Ee out j D))[I]? =some (.int .u8 ((Ee out j D).getD I 0:Nat)):=(by simp[dZ,List.getD_eq_getElem?_getD,List.getElem?_eq_getElem (show I<(Ee out j D).length by omega)]);have c9:wr.cell? ⟨g,I,none⟩=some (.int .u8 ((Ee out j D).getD I 0:Nat)):=(by have h:=Y.out.cellAt I nj;rw[h];exact hy);generalize (Ee out j D).getD I 0=y at *;have k1:=N.out.ia 1;have k2:=N.out.ia 2;have s2:IntKind.i64.wrap (((q+j:Nat):Int)-(D:Int))=(I:Int):=pj;have s3:IntKind.i64.wrap ((q:Int)+(j:Int)-(D:Int))=(I:Int):=pj;have y2:(0:Int)<=(I:Int):=nj;have y3:(I:Int)<((q+j:Nat):Int):=nj;have a0:=hid ak;clear an hI ak hy b1 b2;go_wp2_with(at_builtin;refine iZ rfl (.tmp 48) (.tmp 57) 28 rfl w 5 j0 _ 1 1 underlying28 ax av au ar rfl ip _ _ _ nm (Y.out.alloc _) _ 1 1 [.int .u8 y] nm (Src.of_blk (Blk.made _ _ _) 1 1 1 rfl) mp sS nj sj ?_;intro v4 w4 U aa am);go_roundw
        case measure=>exact jq
        case rel=>
         go_light;refine⟨j+1,nj,jr,?_,?_,?_⟩
         ·show World.ownsRow _ _ _ _ _ _ _;rw[a0.out,show dZ .u8 (Ee out j D++ [y])=dZ .u8 (Ee out j D)++ [.int .u8 y] by simp[dZ]];exact U
         ·exact(N.out.alloc _).grown aa (fun e=>gZ Y.out N.out ip e.symm)
         ·exact(pZ a6 aj.out).grown aa sj (fun y hy=>(Aj Y.out y hy).1)
       ·obtain rfl:j=L:=by omega
        have k1:=N.out.ia 1;obtain⟨A5,c5,rfl⟩:=bZ Y.out;clear b1 b2;go_wp2_with fail;go_roundw
        case measure=>exact jq
        case rel=>go_light;exact⟨k+1,q+j,Ee out j D,nj,ai,jr,by show _=_;rw[NG,HQ.out],Y.out,af.out,aj.out⟩
  ·obtain rfl:k=n:=by omega
   have hp:=HP.out;rw[El py,Fo]at hp;injection hp with e1 e2;subst e1 e2;clear HP;go_wp2_with fail;go_ret2;refine⟨_,rfl,?_,hb⟩;rw[HQ.out];exact HO.out
end Go.Proofs.YtfgdoknipbpfhaaGreatDoor
