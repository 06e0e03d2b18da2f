/- Plain: the best matc -/
import Derived.Test.YtfgdoknipbpfhaaGreatDoorZBodyBack3
import Derived.Test.YtfgdoknipbpfhaaGreatDoorZBodyBack13
import Derived.Maps.OwnSet
import Derived.DeepKeys4
import Derived.Deep.AppendLies
import Derived.Lib.MinMax
namespace Go.Proofs.YtfgdoknipbpfhaaGreatDoor
open Go.Proofs.Tryz
open Go.Lib (hid)
set_option maxHeartbeats 2000000
set_option maxRecDepth 100000
variable{l out:List Nat}{E b base c cb d g i m mb most n p q x y z:Nat}{w:World}{e:TypeId}{xs:List Value}{pv:Value}{ps:List Int}
namespace Lz
def BJ(l:List Nat)(k:Nat×Nat×Nat):Nat->Option Nat
 |0=>none
 |n+1=>if n+3<=l.length/\Cc l n=k then some n else BJ l k n
theorem JU{l:List Nat}{k:Nat×Nat×Nat}:∀ {n p:Nat},BJ l k n=some p->p<n/\p+3<=l.length/\Cc l p=k/\∀q,p<q->q<n->q+3<=l.length->Cc l q≠k
 |0,p,h=>by cases h
 |n+1,p,h=>by
  rw[BJ]at h;split at h
  ·rename_i hc;injection h with h;subst h;exact⟨nj,hc.1,hc.2,fun q h1 h2=>nj⟩
  ·rename_i hc;obtain⟨h1,h2,h3,h4⟩:=JU h;refine⟨nj,h2,h3,fun q hq1 hq2 hq3=> ?_⟩;by_cases e:q=n
   ·subst e;exact fun hk=>hc ⟨hq3,hk⟩
   ·exact h4 q hq1 nj hq3
theorem Ws{l:List Nat}{k:Nat×Nat×Nat}:∀ {n:Nat},BJ l k n=none->∀q,q<n->q+3<=l.length->Cc l q≠k
 |0,_,q,h,_=>nj
 |n+1,h,q,hq,h3=>by
  rw[BJ]at h;split at h
  ·cases h
  ·rename_i hc;by_cases e:q=n
   ·subst e;exact fun hk=>hc ⟨h3,hk⟩
   ·exact Ws h q nj h3
def Hz:Option Nat->Int
 |some p=>(p:Nat)
 |none=> -1
def Ig(l:List Nat)(p:Nat):Int:=if p+3<=l.length then Hz (BJ l (Cc l p) p)else-1
def Gj(l:List Nat)(n:Nat):List Int:=(List.range n).map (Ig l)
theorem dT(l:List Nat)(n:Nat):(Gj l n).length=n:=by simp[Gj]
theorem pF(l:List Nat)(n:Nat):Gj l (n+1)=Gj l n++ [Ig l n]:=by simp[Gj,List.range_succ]
theorem Yl(h:i<n):(Gj l n)[i]? =some (Ig l i):=by simp[Gj,h]
theorem RZ{at_:Nat}(nd:Nat×Nat)(h:alike l (at_-d) at_<3):norm (JR l at_ nd d)=norm nd:=by
 unfold JR;split
 ·rename_i i;unfold norm;rw[Aa (show ¬3<=(alike l (at_-d) at_,d).1 by show ¬3<=alike l (at_-d) at_;omega),Aa nj]
 ·rfl
theorem T4{at_:Nat}(nd:Nat×Nat)(h:3<=alike l (at_-d) at_):norm (JR l at_ nd d)=if(norm nd).1<alike l (at_-d) at_ then(alike l (at_-d) at_,d)else norm nd:=by
 unfold JR norm;by_cases h3:3<=nd.1
 ·rw[Ab h3];by_cases i:nd.1<alike l (at_-d) at_
  ·rw[Ab i,Ab (show 3<=(alike l (at_-d) at_,d).1 from h)]
  ·rw[Aa i,Ab h3]
 ·rw[Aa h3,Ab (show nd.1<alike l (at_-d) at_ by omega),Ab (show 3<=(alike l (at_-d) at_,d).1 from h),Ab (show(0,0).1<alike l (at_-d) at_ by show 0<_;omega)]
theorem Nf{l:List Nat}{at_ D1:Nat}:∀ {D2:Nat},D1<=D2->(∀d,D1<d->d<=D2->alike l (at_-d) at_<3)->norm (Fj l at_ D2)=norm (Fj l at_ D1)
 |0,h,_=>by rw[show D1=0 by omega]
 |D2+1,h,hs=>by
  by_cases e:D1=D2+1
  ·rw[e]
  ·rw[Fj,RZ _ (hs (D2+1) nj (Ak _))];exact Nf nj fun d h1 h2=>hs d h1 nj
theorem RI{l:List Nat}{at_ D1:Nat}(i:(norm (Fj l at_ D1)).1=257):∀ {D2:Nat},D1<=D2->norm (Fj l at_ D2)=norm (Fj l at_ D1)
 |0,h=>by rw[show D1=0 by omega]
 |D2+1,h=>by
  by_cases e:D1=D2+1
  ·rw[e]
  ·have ih:=RI i (D2:=D2) nj;rw[Fj];by_cases h3:3<=alike l (at_-(D2+1)) at_
   ·rw[T4 _ h3,ih,Aa];have:=Qo l (at_-(D2+1)) at_;omega
   ·rw[RZ _ nj,ih]
structure At (l:List Nat) (at_ E:Nat) (nd:Nat×Nat):Prop where
 le:E<=at_
 win:at_-E<=4095
 is:norm (Fj l at_ (at_-E))=nd
theorem At.start(l:List Nat)(at_:Nat):At l at_ at_ (0,0):=⟨Ak _,nj,by rw[Gf];rfl⟩
theorem Qf{at_:Nat}(_i:at_+3<=l.length)(hk:Cc l q≠Cc l at_):alike l q at_<3:=by
 rcases Nat.lt_or_ge (alike l q at_) 3 with h|h
 ·exact h
 ·exact absurd (eI h) hk
theorem At.next{at_:Nat}{nd:Nat×Nat}(h:At l at_ E nd)(hf:at_+3<=l.length)(hp:BJ l (Cc l at_) E=some p)(hw:at_-p<=4095):
 At l at_ p (if nd.1<alike l p at_ then(alike l p at_,at_-p)else nd):=by
 obtain⟨h1,h2,h3,h4⟩:=JU hp;have j:=h.le;refine⟨nj,hw,?_⟩;have e1:at_-p=(at_-p-1)+1:=nj
 have i:norm (Fj l at_ (at_-p-1))=nd:=by rw[<-h.is];refine Nf nj fun d hd1 hd2=>Qf hf (h4 (at_-d) nj nj nj)
 rw[e1,Fj,<-e1];have e2:at_-(at_-p)=p:=nj
 rw[T4 _ (by rw[e2];exact lV h3 hf),i,e2]
theorem At.none{at_:Nat}{nd:Nat×Nat}(h:At l at_ E nd)(hf:at_+3<=l.length)(hp:BJ l (Cc l at_) E=none):norm (Bg l at_)=nd:=by rw[<-h.is];have i:=h.le;have hw:=h.win;exact Nf nj fun d hd1 hd2=>Qf hf (Ws hp (at_-d) nj nj)
theorem At.far{at_:Nat}{nd:Nat×Nat}(h:At l at_ E nd)(hf:at_+3<=l.length)(hp:BJ l (Cc l at_) E=some p)(hw:4095<at_-p):norm (Bg l at_)=nd:=by obtain⟨h1,h2,h3,h4⟩:=JU hp;rw[<-h.is];have i:=h.le;have hw:=h.win;exact Nf nj fun d hd1 hd2=>Qf hf (h4 (at_-d) nj nj nj)
theorem At.full{at_:Nat}{nd:Nat×Nat}(h:At l at_ E nd)(i:nd.1=257):norm (Bg l at_)=nd:=by rw[<-h.is];have j:=h.le;have hw:=h.win;exact RI (by rw[h.is];exact i) nj
theorem oK{at_:Nat}(h:l.length<at_+3):norm (Bg l at_)=(0,0):=by have hg:=Mv l at_;unfold norm;rw[Aa];intro h3;have:=Lj (l:=l) (at_:=at_) nj;omega
theorem nJ{at_:Nat}(h:3<=(Bg l at_).1):norm (Bg l at_)=Bg l at_:=Ab h
theorem XY{at_:Nat}(h:¬3<=(Bg l at_).1):norm (Bg l at_)=(0,0):=Aa h
end Lz
namespace Lz
open Go.RowKit Mem Own Canon
theorem RQ(w:World)(A:Option Addr)(n c:Nat)(ls:List Nat)(at_:Nat)(hn:ls.length=n)(hN:n<=1000000)(hf:at_+3<=n)(ha:Row w w A n 1 (jZ .u8 ls)):
 Calls prog 279 #[.slice A n c,at_] w fun e w'=>e= .returned (.agg #[.int .u8 (ls.getD at_ 0:Nat), .int .u8 (ls.getD (at_+1) 0:Nat), .int .u8 (ls.getD (at_+2) 0:Nat)])/\Below w w w':=by
 obtain⟨b,j,rfl,hb,hc⟩:=ha nj;have c0:=hc at_ 0 nj nj;have c1:=hc (at_+1) 0 nj nj;have c2:=hc (at_+2) 0 nj nj;simp only[jZ,Nat.mul_one,Nat.add_zero]at c0 c1 c2;have s1:IntKind.i64.wrap ((at_:Int)+1)=((at_+1:Nat):Int):=pi
 have s2:IntKind.i64.wrap ((at_:Int)+2)=((at_+2:Nat):Int):=pi
 generalize ls.getD at_ 0=x0 at *;generalize ls.getD (at_+1) 0=x1 at *;generalize ls.getD (at_+2) 0=x2 at *;obtain⟨i1,i⟩:=ii (at_+1);obtain⟨i2,h⟩:=ii (at_+2);rw[<-i]at c1 s1;rw[<-h]at c2 s2;have y0:(0:Int)<=(at_:Int):=nj
 have y1:(at_:Int)<(n:Int):=nj
 have y2:(0:Int)<=(i1:Int):=nj
 have y3:(i1:Int)<(n:Int):=nj
 have y4:(0:Int)<=(i2:Int):=nj
 have y5:(i2:Int)<(n:Int):=nj
 have nb:b≠w.heap.size:=nj
 clear ha hc i h hn;go_enter func279,ntmps279;go_upto_region 1 with fail;go_region;go_wp2_with fail;refine CF (v:= .agg #[.int .u8 x0, .int .u8 x1, .int .u8 x2]) ?_ rfl ⟨rfl,?_⟩
 ·simp[results,results279,go_sem]
 ·(repeat (with_reducible first|exact Ae _ _|assumption|refine Aq ?_ |refine below_drewN ?_ _|refine oZ ?_ |refine aZ ?_ |refine dZ im ?_ |refine belA ?_ |refine pZ im ?_))
theorem Xz(w:World)(A:Option Addr)(n c:Nat)(ls:List Nat)(p at_:Nat)(hn:ls.length=n)(hN:n<=1000000)(hp:p<=at_)(Y:at_<=n)(ha:Row w w A n 1 (jZ .u8 ls)):
 Calls prog 280 #[.slice A n c,p,at_] w fun e w'=>e= .returned (.int .i64 (alike ls p at_:Nat))/\Below w w w':=by
 obtain⟨R,hR⟩:=ii (alike ls p at_);rw[<-hR];have HR:Hid (∀k,IsAlike ls p at_ k->k=R):=fun k h=>(ZP h).symm.trans hR.symm;have HA:=hid ha;have HN:=hid hn;clear ha hn hR;go_enter func280,ntmps280;go_wp2_with fail;go_loopw [7] (fun i wr=>∃k:Nat,k<=257/\i= .int .i64 k/\Hid (k=0∨at_+k<=n)/\Hid (∀j,j<k->ls.getD (p+j) 0=ls.getD (at_+j) 0)/\Hid (Below w w wr)) (fun i _=>257-(intOf i).toNat)
 case atStart=>exact⟨0,nj,rfl, .inl rfl,fun j hj=>absurd hj nj,Ae _ _⟩
 case round=>
  obtain⟨k,hk,rfl,HF,HS,HB⟩:=hrel;by_cases G:k<257
  ·have g1:=ic ((k:Int)<257);have N:=ic (k<257);have s1:IntKind.i64.wrap ((at_:Int)+(k:Int))=((at_+k:Nat):Int):=pi;have s2:IntKind.i64.wrap ((p:Int)+(k:Int))=((p+k:Nat):Int):=pi;obtain⟨i1,E⟩:=ii (at_+k);obtain⟨i2,z⟩:=ii (p+k);rw[<-E]at s1;rw[<-z]at s2;by_cases J:i1<n
   ·obtain⟨b,U,rfl,hb,hc⟩:=HA.out nj;have c1:=(HB.out.cell (p:=⟨b,_,none⟩) hb).trans (hc i1 0 J nj);have c2:=(HB.out.cell (p:=⟨b,_,none⟩) hb).trans (hc i2 0 nj nj);simp only[jZ,Nat.mul_one,Nat.add_zero]at c1 c2;have g2:=ic ((i1:Int)<n);have Q:=ic (i1<n);have y2:(0:Int)<=(i1:Int):=nj;have y3:(i1:Int)<(n:Int):=nj;have y4:(0:Int)<=(i2:Int):=nj;have y5:(i2:Int)<(n:Int):=nj;by_cases he:ls.getD i2 0=ls.getD i1 0
    ·have L:Hid (∀j,j<k+1->ls.getD (p+j) 0=ls.getD (at_+j) 0):=fun j hj=>by
      by_cases e:j<k
      ·exact HS.out j e
      ·obtain rfl:j=k:=by omega
       rw[<-E,<-z];exact he
     rw[he]at c2;have M:Hid (k+1=0∨at_+(k+1)<=n):= .inr nj;generalize ls.getD i1 0=x at *;have g3:((x:Int)==(x:Int))=true:=qT;clear hc he HS HF E z;go_wp2_with fail;go_quiet (fail);go_wp2_with fail;go_roundw
     case measure=>exact jq
     case rel=>go_light;exact⟨k+1,nj,jr,M.out,L.out,below_drewN HB.out _⟩
    ·have HK:Hid (k=R):=HR.out k ⟨hk,ka,HS.out,fun h=>he (by rw[E,z];exact h.2.2)⟩;have g3:(((ls.getD i2 0:Nat):Int)==((ls.getD i1 0:Nat):Int))=false:=(by rw[Jk];intro h;rw[beq_iff_eq]at h;exact he nj);generalize ls.getD i1 0=x at *;generalize ls.getD i2 0=y at *;clear hc he HS HF E z;go_wp2_with fail;go_quiet (fail);go_wp2_with fail;go_ret;exact⟨If (by rw[<-HK.out]),below_drewN HB.out _⟩
   ·have HK:Hid (k=R):=HR.out k ⟨hk,ka,HS.out,fun h=>J (by have:=h.2.1;rw[HN.out]at this;omega)⟩;have g2:=ig ((i1:Int)<n);have Q:=ig (i1<n);clear HS HF E z J;go_wp2_with fail;go_quiet (fail);go_wp2_with fail;go_ret;exact⟨If (by rw[<-HK.out]),below_drewN HB.out _⟩
  ·have HK:Hid (k=R):=HR.out k ⟨hk,ka,HS.out,fun h=>G h.1⟩;have g1:=ig ((k:Int)<257);have N:=ig (k<257);clear HS HF G;go_wp2_with fail;go_quiet (fail);go_wp2_with fail;go_ret;exact⟨If (by rw[<-HK.out]),below_drewN HB.out _⟩
end Lz
namespace Lz
open Go.RowKit Go.Maps Mem Own
theorem WH:laidOutB prog=true:=my
theorem Zn:(match prog.underlying 366 with|some (.array _ _)|some (.struct _)=>true|_=>false)=true:=my
theorem law3:Keyed prog 366:=Keyed.of_law (deep_law_laid WH (m:=2) nj (of_decide_eq_true my) my Zn)
def k3v(x y z:Nat):Value:= .agg #[.int .u8 x, .int .u8 y, .int .u8 z]
def K3(x y z:Nat):Lit:= .string (keyBytes [.int .u8 x, .int .u8 y, .int .u8 z])
theorem Xc:prog.keyType 366=true:=my
theorem Td:prog.cellsOf 366=3:=my
theorem gV:∃e,prog.underlying 366=some (.array 3 e)/\prog.underlying e=some (.int .u8)/\prog.cellsOf e=1:=⟨5,my,my,my⟩
theorem wf8(h:x<=255):(Lit.int .u8 (x:Int)).wf=true:=by simp[Lit.wf,IntKind.min,IntKind.max,IntKind.signed,IntKind.bits];omega
theorem WM:∃d,prog.types.size+1=d+2:=⟨prog.types.size-1,by have:1<=prog.types.size:=of_decide_eq_true my;omega⟩
theorem LC(hx:x<=255)(hy:y<=255)(hz:z<=255):keyOf prog 366 (k3v x y z)=some (K3 x y z):=by
 obtain⟨e,h1,h2,h3⟩:=gV;obtain⟨d,hd⟩:=WM;have hf:(k3v x y z).formed prog 366=true:=by simp[Value.formed,k3v,h1,Td]
 unfold keyOf;rw[h1];simp only[Xc,hf,Bool.and_self,if_true,hd];unfold k3v K3;simp[Program.keyLits,h1,h2,h3,Td,Value.cells,List.range_succ,wf8 hx,wf8 hy,wf8 hz]
theorem fU{x' y' z':Nat}(hx:x<=255)(hy:y<=255)(hz:z<=255)(i:x'<=255)(E:y'<=255)(j:z'<=255)(h:K3 x y z=K3 x' y' z'):(x,y,z)=(x',y',z'):=by have e:=law3.inj (LC hx hy hz) (by rw[h];exact LC i E j);unfold k3v at e;simp at e;simp;omega
theorem Wv(hx:x<=255)(hy:y<=255)(hz:z<=255):WideAt.IsKeyLit (K3 x y z):=law3.key (LC hx hy hz)
def MapIs(l:List Nat)(n:Nat)(D:DataW Unit):Prop:=
 IsMap D/\∀x y z,x<=255->y<=255->z<=255->(∀p,BJ l (x,y,z) n=some p->has D (K3 x y z)=true/\∀zd,D.atKey (K3 x y z) zd= .lit (.int .i64 (p:Int)))/\(BJ l (x,y,z) n=none->has D (K3 x y z)=false)
theorem MapIs.start(l:List Nat):MapIs l 0 (.map []):=⟨isMap_empty,fun x y z _ _ _=>⟨fun p h=>absurd h (by simp[BJ]),fun _=>rfl⟩⟩
theorem MapIs.skip{D:DataW Unit}(h:MapIs l n D)(hn:l.length<n+3):MapIs l (n+1) D:=by refine⟨h.1,fun x y z hx hy hz=> ?_⟩;rw[BJ,Aa nj];exact h.2 x y z hx hy hz
theorem MapIs.put{D:DataW Unit}(h:MapIs l n D)(h8:∀c∈l,c<=255)(hn:n+3<=l.length):MapIs l (n+1) (D.put (K3 (l.getD n 0) (l.getD (n+1) 0) (l.getD (n+2) 0)) (.lit (.int .i64 (n:Int)))):=by
 have hg:∀i,i<l.length->l.getD i 0<=255:=fun i hi=>pf
 have g0:=hg n nj;have g1:=hg (n+1) nj;have g2:=hg (n+2) nj;refine⟨h.1.put _ _,fun x y z hx hy hz=> ?_⟩;rw[BJ];by_cases hk:Cc l n=(x,y,z)
 ·rw[Ab ⟨hn,hk⟩];unfold Cc at hk;simp only[Prod.mk.injEq]at hk;rw[hk.1,hk.2.1,hk.2.2];refine⟨fun p hp=> ?_,fun hp=>by cases hp⟩;injection hp with hp;subst hp;exact⟨has_put_same h.1 (Wv hx hy hz) _,fun zd=>atKey_put_same h.1 (Wv hx hy hz) _ _⟩
 ·rw[Aa (fun h=>hk h.2)];have j:K3 x y z≠K3 (l.getD n 0) (l.getD (n+1) 0) (l.getD (n+2) 0):=fun e=>hk (fU hx hy hz g0 g1 g2 e).symm;obtain⟨i1,i2⟩:=h.2 x y z hx hy hz;refine⟨fun p hp=> ?_,fun hp=> ?_⟩
  ·rw[has_put_other j];exact⟨(i1 p hp).1,fun zd=>by rw[atKey_put_other j];exact(i1 p hp).2 zd⟩
  ·rw[has_put_other j];exact i2 hp
def Jp(o:Option Nat):Int:=match o with
 |some p=>(p:Nat)
 |none=>0
theorem pT(w:World):(zeroValue 3).run prog w= .ok (.int .i64 0) w:=nm
theorem SL{D:DataW Unit}(h:w.ownsMap prog 366 (plainElem prog 3) b m D)(hD:MapIs l n D)(hx:x<=255)(hy:y<=255)(hz:z<=255):
 (Instr.lookup 305 (.map (some b)) (k3v x y z) true).run prog w= .ok (.tuple #[.int .i64 (Jp (BJ l (x,y,z) n)), .bool (BJ l (x,y,z) n).isSome]) w:=by
 obtain⟨v,ps,i,hv⟩:=h.look_ok law3 underlying305 (pT w) (plainElem_int underlying3 ip) (LC hx hy hz);obtain⟨a,rfl,ha,_⟩:=plainElem_int_inv underlying3 hv;simp only[Prod.mk.injEq]at ha;rw[i];obtain⟨i1,i2⟩:=hD.2 x y z hx hy hz;cases hl:BJ l (x,y,z) n with
 |none=>have hh:=i2 hl;rw[hh];have j:=atKey_of_not_has hh (DataW.lit (.int .i64 0):DataW Unit);rw[j]at ha;injection ha.1 with e;injection e with _ e;rw[<-e];rfl
 |some p=>have hh:=i1 p hl;rw[hh.1];rw[hh.2]at ha;injection ha.1 with e;injection e with _ e;rw[<-e];rfl
end Lz
namespace Lz
open Go.RowKit Go.Maps Mem Own Canon
def G1(l:List Int):List Value:=l.map (Value.int .i64)
theorem mN(l:List Int)(x:Int):G1 (l++ [x])=G1 l++ [.int .i64 x]:=by simp[G1]
theorem info_int:(prog.info? 3).map (fun i=>(i.zero,i.size,i.bytes))=some (some (.int .i64 0),1,8):=my
structure Ch (w:World) (cb mb base:Nat) (l:List Nat) (n m:Nat) (D:DataW Unit) (pv:Value) (ps:List Int):Prop where
 blk:Blk w cb 307 #[.map (some mb),pv]
 map:w.ownsMap prog 366 (plainElem prog 3) mb m D
 prev:w.ownsRow base 3 1 pv n (G1 ps)
 lo:base<=cb
 lm:base<=mb
section
variable {w w':World} {cb mb base:Nat} {l:List Nat} {n m:Nat} {D:DataW Unit} {pv:Value} {ps:List Int}
theorem Rq{t:TypeId}{cs:Array Value}{fz:Nat×Nat}(h:w.ownsMap prog 366 (plainElem prog 3) b m D)(hg:w.heap[g]? =some (.cells cs t fz)):b≠g:=by intro e;subst e;obtain⟨es,i,hb,_⟩:=h;rw[hb]at hg;cases hg
theorem zW{n' s':Nat}{v:Value}(h:w.ownsMap prog 366 (plainElem prog 3) b m D)(ho:w.ownsRow i e s' v n' xs):v.ownBlock≠some b:=by
 intro hv;rcases ho.2 with ⟨rfl,_⟩|⟨g,j,cur,rfl,_,hg,_⟩
 ·simp[Value.ownBlock]at hv
 ·simp[Value.ownBlock]at hv;subst hv;exact Rq h hg rfl
theorem L2(h:w.ownsMap prog 366 (plainElem prog 3) b m D)(hk:w'.heap[b]? =w.heap[b]?):w'.ownsMap prog 366 (plainElem prog 3) b m D:=by obtain⟨es,i,hb,rest⟩:=h;exact⟨es,i,hk.trans hb,rest⟩
theorem Ch.drew(h:Ch w cb mb base l n m D pv ps):Ch w.drew cb mb base l n m D pv ps:=⟨h.blk,h.map,h.prev,h.lo,h.lm⟩
theorem Ch.alloc(h:Ch w cb mb base l n m D pv ps)(o:Obj):Ch (w.alloc o) cb mb base l n m D pv ps:=⟨h.blk.alloc o,h.map.alloc o,h.prev.alloc o,h.lo,h.lm⟩
theorem Ch.more(h:Ch w cb mb base l n m D pv ps):Ch w cb mb base l n (m+1) D pv ps:=⟨h.blk,h.map.mono (Nat.le_succ _),h.prev,h.lo,h.lm⟩
theorem Ch.ne(h:Ch w cb mb base l n m D pv ps):mb≠cb:=Rq h.map h.blk
theorem Ch.step(h:Ch w cb mb base l n m D pv ps)(hb:Below w w w'):Ch w' cb mb base l n m D pv ps:=
 ⟨h.blk.step hb,L2 h.map (hb.block mb h.map.lt),eZ h.prev (fun x hx=>hb.block x (Aj h.prev x hx).2),h.lo,h.lm⟩
end
def Out(cb mb:Nat)(pv:Value)(w:World)(x:Nat):Prop:=x<w.heap.size/\x≠cb/\x≠mb/\pv.ownBlock≠some x
def Ly(pv pv':Value)(w:World):Prop:=pv'.ownBlock=pv.ownBlock∨∃x,pv'.ownBlock=some x/\w.heap.size<=x
theorem Ch.push{w4:World}{D:DataW Unit}{v4:Value}{o:Obj}(h:Ch w cb mb base l n m D pv ps)(hg:(w.alloc o).grownBy w4 pv.ownBlock)(i:w4.ownsRow base 3 1 v4 (n+1) (G1 ps++ [.int .i64 (-1)]))
 (y:v4.ownBlock=pv.ownBlock∨v4.ownBlock=some (w.alloc o).heap.size):
 Ch (w4.setCell ⟨cb,1,none⟩ v4) cb mb base l (n+1) m D v4 (ps++ [-1])/\Ly pv v4 w/\Kept (Out cb mb pv w) w (w4.setCell ⟨cb,1,none⟩ v4):=by
 have j:=(h.blk.alloc o).grown hg (fun e=>fZ h.prev h.blk ip e.symm);refine⟨⟨j.set 1 _,?_,?_,h.lo,h.lm⟩,?_,?_⟩
 ·refine L2 h.map ((AY w4 _ _ mb h.ne).trans ((hg.block mb (by have:=h.map.lt;simp;omega) (fun e=>zW h.map h.prev e.symm)).trans (Ej w o mb h.map.lt)))
 ·rw[mN];exact eZ i fun x hx=>AY w4 _ _ x (fun e=>fZ i j ip (hx.trans (Az some e)))
 ·rcases y with h1|h1
  ·exact .inl h1
  ·exact .inr ⟨_,h1,qT⟩
 ·exact(((Kept.refl _ w).alloc (fun k hk=>hk.1) o).grown hg (fun k hk=>by have:=hk.1;simp;omega) (fun k hk=>by intro h2;exact h2.2.2.2 hk)).set (fun h2=>h2.2.1 rfl) _
theorem oF(w:World)(cb mb base:Nat)(ls:List Nat)(A:Option Addr)(n c at_:Nat)(D:DataW Unit)(pv:Value)(ps:List Int)(hN:n<=1000000)(M:at_<=n)(L:n<at_+3)(N:base<=w.heap.size)(h:Ch w cb mb base ls at_ at_ D pv ps):
 Calls prog 229 #[.pointer (some ⟨cb,0,none⟩), .slice A n c,at_] w fun e w'=>e= .returned (.tuple #[])/\∃pv',Ch w' cb mb base ls (at_+1) (at_+1) D pv' (ps++ [-1])/\Ly pv pv' w/\Kept (Out cb mb pv w) w w':=by
 obtain⟨j0,G,E,z,J⟩:=info_parts info_int;obtain⟨pa,pc,rfl⟩:=bZ h.prev;have d0:=h.blk.ia 0;have d1:=h.blk.ia 1;have H:=hid h;have s1:IntKind.i64.wrap ((at_:Int)+3)=(at_:Int)+3:=ph
 have g1:=ic ((n:Int)<(at_:Int)+3)
 clear h;go_enter func229,ntmps229;go_wp2_with(at_builtin;refine iZ rfl (.tmp 13) (.tmp 14) 37 rfl base 3 j0 _ 1 8 underlying37 G E z J rfl ip _ _ _ nm (H.out.prev.alloc _) _ 1 1 [.int .i64 (-1)] nm (Src.of_blk (Blk.made _ _ _) 1 1 1 rfl) mq rE nj rg ?_;intro v4 w4 i j y;obtain⟨A4,k4,rfl⟩:=bZ i;have q1:w4.cell? ⟨cb,1,none⟩=some (.slice pa at_ pc):=(((H.out.blk.alloc _).grown j (fun e=>fZ H.out.prev H.out.blk ip e.symm))).cell 1;have q0:w4.cell? ⟨cb,0,none⟩=some (.map (some mb)):=(((H.out.blk.alloc _).grown j (fun e=>fZ H.out.prev H.out.blk ip e.symm))).cell 0;have qf:w4.frozen? ⟨cb,1,none⟩=false:=(((H.out.blk.alloc _).grown j (fun e=>fZ H.out.prev H.out.blk ip e.symm))).frozen 1);refine CF (BY rfl _ _ _) rfl ?_;have hp:=H.out.push j i y;exact⟨rfl,_,hp.1.more,hp.2⟩
theorem Rw(h:w.ownsRow base e 1 (.slice (some ⟨g,0,none⟩) n c) n xs)(u:Value)(_y:i<n):(w.setCell ⟨g,i,none⟩ u).ownsRow base e 1 (.slice (some ⟨g,0,none⟩) n c) n (xs.set i u):=by
 refine⟨by rw[List.length_set];exact h.1,?_⟩;rcases h.2 with ⟨hv,_⟩|⟨g',z,cur,hv,hb,hg,h1,h2,h3,h4⟩
 ·cases hv
 ·injection hv with e1 e2 e3;injection e1 with e1;injection e1 with e1;subst e1 e3;have j:Blk w g e cur:=hg;refine .inr ⟨g,c,cur.setIfInBounds i u,rfl,hb,j.set i u,h1,h2,by simpa using h3,?_⟩;rw[<-h4];simp[List.take_set]
theorem own_cells(h:w.ownsRow base e 1 (.slice (some ⟨g,0,none⟩) n c) n xs)(hi:i<n):w.cell? ⟨g,i,none⟩=xs[i]? /\w.frozen? ⟨g,i,none⟩=false/\base<=g:=by
 rcases h.2 with ⟨hv,_⟩|⟨g',y,cur,hv,hb,hg,h1,h2,h3,h4⟩
 ·cases hv
 ·injection hv with e1 e2 e3;injection e1 with e1;injection e1 with e1;subst e1 e3;have j:Blk w g e cur:=hg;refine⟨?_,j.frozen i,hb⟩;rw[j.cell i,<-h4,List.getElem?_take_of_lt nj];simp
theorem Ch.put{D:DataW Unit}(h:Ch w cb mb base l n m D (.slice (some ⟨g,0,none⟩) n c) ps)(x:Int)(hi:i<n):Ch (w.setCell ⟨g,i,none⟩ (.int .i64 x)) cb mb base l n m D (.slice (some ⟨g,0,none⟩) n c) (ps.set i x):=by
 have y:g≠cb:=fun e=>fZ h.prev h.blk ip (Az some e);have j:g≠mb:=fun e=>zW h.map h.prev (Az some e);refine⟨h.blk.far y.symm _,L2 h.map (AY w _ _ mb j.symm),?_,h.lo,h.lm⟩;have:=Rw h.prev (.int .i64 x) hi;have e:G1 (ps.set i x)=(G1 ps).set i (.int .i64 x):=by simp[G1,List.map_set]
 rw[e];exact this
theorem Ch.upd{w':World}{D D':DataW Unit}(h:Ch w cb mb base l n m D pv ps)(r1:w'.ownsMap prog 366 (plainElem prog 3) mb (m+1) D')(r2:w.grownBy w' (some mb)):Ch w' cb mb base l n (m+1) D' pv ps:=by
 refine⟨h.blk.grown r2 (fun e=> ?_),r1,eZ h.prev fun x hx=>r2.block x (Aj h.prev x hx).2 (fun e=> ?_),h.lo,h.lm⟩
 ·injection e with e;exact h.ne e.symm
 ·injection e with e;subst e;exact zW h.map h.prev hx
theorem Ku{w5 w6:World}(h:Kept (Out cb mb pv w) w w5)(hb:Below w5 w5 w6):Kept (Out cb mb pv w) w w6:=h.trans (Kept.of_below hb fun _ hx=>EE hx.1 h.size)
theorem Rj(h:Ly pv (.slice (some ⟨g,0,none⟩) n c) w):¬Out cb mb pv w g:=by
 intro ho;rcases h with h|⟨x,h,hx⟩
 ·exact ho.2.2.2 h.symm
 ·have:g=x:=by simpa[Value.ownBlock]using h
  have:=ho.1;omega
theorem UW(o:Option Nat):(o=none/\o.isSome=false)∨∃p,o=some p/\o.isSome=true/\Jp o=(p:Int):=by
 cases o with
 |none=>exact .inl ⟨rfl,rfl⟩
 |some p=>exact .inr ⟨p,rfl,rfl,rfl⟩
theorem oX(w:World)(cb mb base:Nat)(ls:List Nat)(A:Option Addr)(n c at_:Nat)(D:DataW Unit)(pv:Value)(ps:List Int)(hn:ls.length=n)(hN:n<=1000000)(av:at_+3<=n)(a6:base<=w.heap.size)(h8:∀x∈ls,x<=255)(Q:ps.length=at_)
 (ha:Row w base A n 1 (jZ .u8 ls))(hD:MapIs ls at_ D)(h:Ch w cb mb base ls at_ at_ D pv ps):
 Calls prog 229 #[.pointer (some ⟨cb,0,none⟩), .slice A n c,at_] w fun e w'=>e= .returned (.tuple #[])/\∃pv',Ch w' cb mb base ls (at_+1) (at_+1) (D.put (K3 (ls.getD at_ 0) (ls.getD (at_+1) 0) (ls.getD (at_+2) 0)) (.lit (.int .i64 (at_:Int)))) pv' (ps++ [Ig ls at_])/\Ly pv pv' w/\Kept (Out cb mb pv w) w w':=by
 obtain⟨j0,az,ay,ar,a0⟩:=info_parts info_int;obtain⟨pa,pc,rfl⟩:=bZ h.prev;have d0:=h.blk.ia 0;have d1:=h.blk.ia 1;have hg:∀i,i<ls.length->ls.getD i 0<=255:=fun i hi=>pf
 have g0:=hg at_ nj;have am:=hg (at_+1) nj;have g2:=hg (at_+2) nj;have D1:Hid (∀wx,Below base w wx->Calls prog 279 #[.slice A n c,at_] wx fun e w'=>e= .returned (.agg #[.int .u8 (ls.getD at_ 0), .int .u8 (ls.getD (at_+1) 0), .int .u8 (ls.getD (at_+2) 0)])/\Below wx wx w'):=fun wx hb=>RQ wx A n c ls at_ hn hN av ((ha.below hb).mono mm);have an:Cc ls at_=(ls.getD at_ 0,ls.getD (at_+1) 0,ls.getD (at_+2) 0):=rfl;have aj:Ig ls at_=Hz (BJ ls (ls.getD at_ 0,ls.getD (at_+1) 0,ls.getD (at_+2) 0) at_):=by unfold Ig;rw[Ab nj,an]
 rw[aj];have aw:Hid (∀ (wx:World) pv' ps' n' m,Ch wx cb mb base ls n' m D pv' ps'->(Instr.lookup 305 (.map (some mb)) (.agg #[.int .u8 (ls.getD at_ 0), .int .u8 (ls.getD (at_+1) 0), .int .u8 (ls.getD (at_+2) 0)]) true).run prog wx= .ok (.tuple #[.int .i64 (Jp (BJ ls (ls.getD at_ 0,ls.getD (at_+1) 0,ls.getD (at_+2) 0) at_)), .bool (BJ ls (ls.getD at_ 0,ls.getD (at_+1) 0,ls.getD (at_+2) 0) at_).isSome]) wx):=fun wx pv' ps' n' m hc=>SL hc.map hD g0 am g2;have M:=LC g0 am g2;unfold k3v at M;have ax:=UW (BJ ls (ls.getD at_ 0,ls.getD (at_+1) 0,ls.getD (at_+2) 0) at_);have aq:∀p,BJ ls (ls.getD at_ 0,ls.getD (at_+1) 0,ls.getD (at_+2) 0) at_=some p->p<at_:=fun p hp=>(JU hp).1;generalize BJ ls (ls.getD at_ 0,ls.getD (at_+1) 0,ls.getD (at_+2) 0) at_=lo at *;generalize ls.getD at_ 0=x at *;generalize ls.getD (at_+1) 0=y at *;generalize ls.getD (at_+2) 0=z at *;have H:=hid h;have U:=hid M;have ak:=hid Q;have s1:IntKind.i64.wrap ((at_:Int)+3)=(at_:Int)+3:=ph
 have g1:=ig ((n:Int)<(at_:Int)+3)
 clear h hD ha h8 hg an aj M hn Q;go_enter func229,ntmps229;go_wp2_with(at_builtin;refine iZ rfl (.tmp 13) (.tmp 14) 37 rfl base 3 j0 _ 1 8 underlying37 az ay ar a0 rfl ip _ _ _ nm (H.out.prev.alloc _) _ 1 1 [.int .i64 (-1)] nm (Src.of_blk (Blk.made _ _ _) 1 1 1 rfl) mq rE nj rg ?_;intro v4 w4 G L Y;obtain⟨A4,k4,rfl⟩:=bZ G;have q1:w4.cell? ⟨cb,1,none⟩=some (.slice pa at_ pc):=(((H.out.blk.alloc _).grown L (fun e=>fZ H.out.prev H.out.blk ip e.symm))).cell 1;have q0:w4.cell? ⟨cb,0,none⟩=some (.map (some mb)):=(((H.out.blk.alloc _).grown L (fun e=>fZ H.out.prev H.out.blk ip e.symm))).cell 0;have qf:w4.frozen? ⟨cb,1,none⟩=false:=(((H.out.blk.alloc _).grown L (fun e=>fZ H.out.prev H.out.blk ip e.symm))).frozen 1);have E:=H.out.push L G Y;have F1:=hid E.1;have F2:=hid E.2;have au:w.heap.size+1<=w4.heap.size:=by have:=L.size;simp at this;omega
 have a1:Hid (Below base w (w4.setCell ⟨cb,1,none⟩ (.slice A4 (at_+1) k4))):=by have:=E.2.2.below (fun x (hx:x<base)=>(⟨nj,by have:=H.out.lo;omega,by have:=H.out.lm;omega,fun e=>by have:=(Aj H.out.prev x e).1;omega⟩:Out cb mb _ w x));exact this
 have Z:(w4.setCell ⟨cb,1,none⟩ (.slice A4 (at_+1) k4)).heap.size=w4.heap.size:=qT
 rw[<-Z]at au;clear E q1 q0 qf G Y L d0 d1 Z;generalize w4.setCell ⟨cb,1,none⟩ (.slice A4 (at_+1) k4)=w5 at *;refine(D1.out w5 a1.out).mono ?_;rintro e w6 ⟨rfl,J⟩;have F3:=hid (F1.out.step J);have dm:=F3.out.blk.ia 0;have dp:=F3.out.blk.ia 1;obtain⟨gp,cp,hA⟩:=IT F3.out.prev;injection hA with e1 _ e3;subst e1 e3;have F4:=hid (F3.out.alloc (.cells #[.int .u8 x, .int .u8 y, .int .u8 z] 366));have hl:=aw.out _ _ _ _ _ F4.out.drew;obtain⟨oc,ag,ob⟩:=own_cells (i:=at_) F4.out.drew.prev nj;have af:gp≠cb:=fun e=>fZ F4.out.prev F4.out.blk ip (Az some e);have a9:=hid af;have ai:(G1 (ps++ [-1]))[at_]? =some (.int .i64 (-1)):=by unfold G1;have:=ak.out;simp[<-this]
 rw[ai]at oc;clear dm dp af ai;have dm:=F4.out.drew.blk.ia 0;have dp:=F4.out.drew.blk.ia 1;have N:Blk (w6.alloc (.cells #[.int .u8 x, .int .u8 y, .int .u8 z] 366)).drew w6 366 #[.int .u8 x, .int .u8 y, .int .u8 z]:=(Blk.made _ _ _).drew;have z0:=N.ia 0;have z1:=N.ia 1;have z2:=N.ia 2;clear N;have oz:=ic ((at_:Int)<((at_+1:Nat):Int))
 have a5:¬(at_:Int)<0:=nj
 have a4:=F3.out.blk.lt;have a3:gp<w6.heap.size:=(Aj F3.out.prev gp rfl).2;rcases ax with ⟨rfl,hs⟩|⟨p,rfl,hs,hv⟩
 ·rw[hs]at hl;clear hs
  change (Instr.lookup _ _ _ _).run _ _= .ok (.tuple #[.int .i64 (0:Int),_]) _ at hl
  go_upto_region 3 with fail;go_region_held3 (fun wx=>wx.cell? ⟨cb,0,none⟩=some (.map (some mb))/\wx.cell? ⟨w6,0,none⟩=some (.int .u8 x)/\wx.cell? ⟨w6,1,none⟩=some (.int .u8 y)/\wx.cell? ⟨w6,2,none⟩=some (.int .u8 z)/\(Instr.lookup 305 (.map (some mb)) (.agg #[.int .u8 x, .int .u8 y, .int .u8 z]) true).run prog wx= .ok (.tuple #[.int .i64 (0:Int),false]) wx) (exact⟨dm,z0,z1,z2,hl⟩) (fail);go_upto_region 6 with fail;have F6:=hid F4.out.drew.drew;have j:Blk (w6.alloc (.cells #[.int .u8 x, .int .u8 y, .int .u8 z] 366)).drew.drew w6 366 #[.int .u8 x, .int .u8 y, .int .u8 z]:=(Blk.made _ _ _).drew.drew;obtain⟨w9,al,r1,r2⟩:=F6.out.map.update (val:= .int .i64 (at_:Int)) (d:= .lit (.int .i64 (at_:Int))) (ps:= []) law3 underlying305 rE U.out (plainElem_int underlying3 (WalkArith.wf_i64 nj));have aa:=F6.out.blk.ia 0;have ae:=j.ia 0;have ac:=j.ia 1;have ab:=j.ia 2;clear j;clear hl dm dp z0 z1 z2 oc ag aq;go_region;refine bodyPost_end (BY rfl _ _ _) rfl ?_;exact⟨rfl,_,F6.out.upd r1 r2,F2.out.1,((((Ku F2.out.2 J).alloc ((Ku F2.out.2 J).lt fun k hk=>hk.1) _).drew.drew).grown r2 (((Ku F2.out.2 J).alloc ((Ku F2.out.2 J).lt fun k hk=>hk.1) _).drew.drew.lt fun k hk=>hk.1) (fun k e hk=>by injection e with e;exact hk.2.2.1 e.symm))⟩
 ·rw[hs,hv]at hl;clear hs hv;go_upto_region 3 with fail;go_region_held3 (fun wx=>wx.cell? ⟨cb,0,none⟩=some (.map (some mb))/\wx.cell? ⟨w6,0,none⟩=some (.int .u8 x)/\wx.cell? ⟨w6,1,none⟩=some (.int .u8 y)/\wx.cell? ⟨w6,2,none⟩=some (.int .u8 z)/\(Instr.lookup 305 (.map (some mb)) (.agg #[.int .u8 x, .int .u8 y, .int .u8 z]) true).run prog wx= .ok (.tuple #[.int .i64 (p:Int),true]) wx) (exact⟨dm,z0,z1,z2,hl⟩) (fail);go_upto_region 6 with fail;have F6:=hid (((F3.out.put (i:=at_) (p:Int) nj).alloc (.cells #[.int .u8 x, .int .u8 y, .int .u8 z] 366)).drew.drew);have j:Blk ((w6.setCell ⟨gp,at_,none⟩ (.int .i64 (p:Int))).alloc (.cells #[.int .u8 x, .int .u8 y, .int .u8 z] 366)).drew.drew w6 366 #[.int .u8 x, .int .u8 y, .int .u8 z]:=(Blk.made_at _ _ _ qT).drew.drew;obtain⟨w9,al,r1,r2⟩:=F6.out.map.update (val:= .int .i64 (at_:Int)) (d:= .lit (.int .i64 (at_:Int))) (ps:= []) law3 underlying305 rE U.out (plainElem_int underlying3 (WalkArith.wf_i64 nj));have aa:=F6.out.blk.ia 0;have ae:=j.ia 0;have ac:=j.ia 1;have ab:=j.ia 2;clear j;clear hl dm dp z0 z1 z2 oc ag aq;go_region;refine bodyPost_end (BY rfl _ _ _) rfl ?_;have ah:=(((Ku F2.out.2 J).set (p:=⟨gp,at_,none⟩) (Rj F2.out.1) (.int .i64 (p:Int))).alloc (((Ku F2.out.2 J).set (p:=⟨gp,at_,none⟩) (Rj F2.out.1) (.int .i64 (p:Int))).lt fun k hk=>hk.1) (.cells #[.int .u8 x, .int .u8 y, .int .u8 z] 366)).drew.drew;have hF:=F6.out.upd r1 r2;have Q:(ps++ [-1]).set at_ (p:Int)=ps++ [Hz (some p)]:=by have:=ak.out;subst this;simp[Hz]
  rw[Q]at hF;exact⟨rfl,_,hF,F2.out.1,ah.grown r2 (ah.lt fun k hk=>hk.1) (fun k e hk=>by injection e with e;exact hk.2.2.1 e.symm)⟩
end Lz
namespace Lz
open Go.RowKit Go.Maps Mem Own Canon
theorem add_any(w:World)(cb mb base:Nat)(ls:List Nat)(A:Option Addr)(n c at_:Nat)(D:DataW Unit)(pv:Value)(hn:ls.length=n)(hN:n<=1000000)(j:at_<n)(i:base<=w.heap.size)(h8:∀x∈ls,x<=255)
 (ha:Row w base A n 1 (jZ .u8 ls))(hD:MapIs ls at_ D)(h:Ch w cb mb base ls at_ at_ D pv (Gj ls at_)):
 Calls prog 229 #[.pointer (some ⟨cb,0,none⟩), .slice A n c,at_] w fun e w'=>e= .returned (.tuple #[])/\∃D' pv',MapIs ls (at_+1) D'/\Ch w' cb mb base ls (at_+1) (at_+1) D' pv' (Gj ls (at_+1))/\Ly pv pv' w/\Kept (Out cb mb pv w) w w':=by
 rw[pF];by_cases hf:at_+3<=n
 ·refine(oX w cb mb base ls A n c at_ D pv _ hn hN hf i h8 (dT _ _) ha hD h).mono ?_;rintro e w' ⟨rfl,pv',h1,h2,h3⟩;exact⟨rfl,_,pv',hD.put h8 nj,h1,h2,h3⟩
 ·have e:Ig ls at_= -1:=by unfold Ig;rw[Aa nj]
  rw[e];refine(oF w cb mb base ls A n c at_ D pv _ hN nj nj i h).mono ?_;rintro e w' ⟨rfl,pv',h1,h2,h3⟩;exact⟨rfl,_,pv',hD.skip nj,h1,h2,h3⟩
theorem lS(w:World)(cb:Nat)(ls:List Nat)(A:Option Addr)(n c at_:Nat)(hn:ls.length=n)(hN:n<=1000000)(h:at_<=n)(hf:n<at_+3):
 Calls prog 228 #[.pointer (some ⟨cb,0,none⟩), .slice A n c,at_] w fun e w'=>e= .returned (.tuple #[.int .i64 ((norm (Bg ls at_)).1:Nat), .int .i64 ((norm (Bg ls at_)).2:Nat)])/\Below w w w':=by
 rw[oK nj];have s1:IntKind.i64.wrap ((at_:Int)+3)=(at_:Int)+3:=ph
 have g1:=ic ((n:Int)<(at_:Int)+3)
 clear hn;go_enter func228,ntmps228;go_wp2_with fail;go_ret2;exact⟨rfl,Ae _ _⟩
theorem nF(w:World)(cb mb base:Nat)(ls:List Nat)(A:Option Addr)(n c at_ m:Nat)(D:DataW Unit)(pv:Value)(hn:ls.length=n)(hN:n<=1000000)(a4:at_+3<=n)(ah:base<=w.heap.size)(h8:∀x∈ls,x<=255)
 (ha:Row w base A n 1 (jZ .u8 ls))(hD:MapIs ls at_ D)(h:Ch w cb mb base ls at_ m D pv (Gj ls at_)):
 Calls prog 228 #[.pointer (some ⟨cb,0,none⟩), .slice A n c,at_] w fun e w'=>e= .returned (.tuple #[.int .i64 ((norm (Bg ls at_)).1:Nat), .int .i64 ((norm (Bg ls at_)).2:Nat)])/\Below w w w':=by
 have hg:∀i,i<ls.length->ls.getD i 0<=255:=fun i hi=>pf
 have g0:=hg at_ nj;have aj:=hg (at_+1) nj;have g2:=hg (at_+2) nj;have a9:Cc ls at_=(ls.getD at_ 0,ls.getD (at_+1) 0,ls.getD (at_+2) 0):=rfl;have D1:Hid (∀wx,Below w w wx->Calls prog 279 #[.slice A n c,at_] wx fun e w'=>e= .returned (.agg #[.int .u8 (ls.getD at_ 0), .int .u8 (ls.getD (at_+1) 0), .int .u8 (ls.getD (at_+2) 0)])/\Below wx wx w'):=fun wx hb=>RQ wx A n c ls at_ hn hN a4 ((ha.below (hb.mono ah)).mono mm);have D2:Hid (∀wx p,Below w w wx->p<=at_->Calls prog 280 #[.slice A n c, .int .i64 p,at_] wx fun e w'=>e= .returned (.int .i64 (alike ls p at_:Nat))/\Below wx wx w'):=fun wx p hb hp=>Xz wx A n c ls p at_ hn hN hp nj ((ha.below (hb.mono ah)).mono mm);have Q:Hid (∀wx:World,Below w w wx->(Instr.lookup 305 (.map (some mb)) (.agg #[.int .u8 (ls.getD at_ 0), .int .u8 (ls.getD (at_+1) 0), .int .u8 (ls.getD (at_+2) 0)]) true).run prog wx= .ok (.tuple #[.int .i64 (Jp (BJ ls (Cc ls at_) at_)), .bool (BJ ls (Cc ls at_) at_).isSome]) wx):=fun wx hb=>SL (h.step hb).map hD g0 aj g2;have ak:=UW (BJ ls (Cc ls at_) at_);have HP:Hid (∀E,E<=at_->∀p,BJ ls (Cc ls at_) E=some p->p<E/\∃gp cp,pv= .slice (some ⟨gp,0,none⟩) at_ cp/\w.cell? ⟨gp,p,none⟩=some (.int .i64 (Hz (BJ ls (Cc ls at_) p)))/\gp<w.heap.size):=fun E hE p hp=>by obtain⟨h1,h2,h3,h4⟩:=JU hp;refine⟨h1,?_⟩;obtain⟨bf,rfl⟩:∃k,at_=k+1:=⟨at_-1,nj⟩;obtain⟨gp,cp,rfl⟩:=IT h.prev;have hc:=(own_cells (i:=p) h.prev nj).1;refine⟨gp,cp,rfl,?_,(Aj h.prev gp rfl).2⟩;rw[hc];unfold G1;rw[BI,Yl nj];unfold Ig;rw[Ab nj,h3];rfl
 have d0:=h.blk.ia 0;have d1:=h.blk.ia 1;have s1:IntKind.i64.wrap ((at_:Int)+3)=(at_:Int)+3:=ph
 have g1:=ig ((n:Int)<(at_:Int)+3)
 have HS:=hid (At.start ls at_);have Z:=h.blk.lt;obtain⟨R,hR⟩:=ii (norm (Bg ls at_));have aw:Hid (∀E p nd,At ls at_ E nd->BJ ls (Cc ls at_) E=some p->at_-p<=4095->At ls at_ p (if nd.1<alike ls p at_ then(alike ls p at_,at_-p)else nd)):=fun E p nd h1 h2 h3=>h1.next nj h2 h3;have am:Hid (∀E nd,At ls at_ E nd->BJ ls (Cc ls at_) E=none->R=nd):=fun E nd h1 h2=>hR.trans <| h1.none nj h2;have ba:Hid (∀E p nd,At ls at_ E nd->BJ ls (Cc ls at_) E=some p->4095<at_-p->R=nd):=fun E p nd h1 h2 h3=>hR.trans <| h1.far nj h2 h3;have av:Hid (∀E nd,At ls at_ E nd->nd.1=257->R=nd):=fun E nd h1 h2=>hR.trans <| h1.full h2;have a0:Hid (∀p,alike ls p at_<=257):=fun p=>Qo ls p at_;rw[<-hR];generalize ls.getD at_ 0=x at *;generalize ls.getD (at_+1) 0=y at *;generalize ls.getD (at_+2) 0=z at *;clear h hD ha h8 hg a9 hn hR;have ab:w.drew.cell? ⟨cb,0,none⟩=some (.map (some mb)):=d0;have Y:=Q.out w.drew (Ae _ _).drew;have HC:=hid ak;clear ak;obtain⟨lo,G⟩:=ii (BJ ls (Cc ls at_) at_);rw[<-G]at Q Y HC;have U:=hid G;clear G;go_enter func228,ntmps228;go_upto_region 3 with fail;go_region_held3 (fun wx=>wx.cell? ⟨cb,0,none⟩=some (.map (some mb))/\(Instr.lookup 305 (.map (some mb)) (.agg #[.int .u8 x, .int .u8 y, .int .u8 z]) true).run prog wx= .ok (.tuple #[.int .i64 (Jp lo),lo.isSome]) wx) (first|exact⟨ab,Y⟩|exact k0) (first|(go_at_call 279;(with_reducible refine(D1.out _ rF).mono ?_);rintro e w1 ⟨rfl,ac⟩;have k0:w1.cell? ⟨cb,0,none⟩=some (.map (some mb))/\(Instr.lookup 305 (.map (some mb)) (.agg #[.int .u8 x, .int .u8 y, .int .u8 z]) true).run prog w1= .ok (.tuple #[.int .i64 (Jp lo),lo.isSome]) w1:=⟨(ac.cell (p:=⟨cb,_,none⟩) Z).trans ab,Q.out _ rF⟩));have al:Hid (Below w w w1):=dZ ac (Aq (Ae w w));clear k0 ac Y ab Q d0 g0 aj g2;rcases HC.out with ⟨h1,h2⟩|⟨p0,h1,h2,h3⟩
 ·have hR:Hid (R=(0,0)):=am.out at_ _ HS.out (U.out.symm.trans h1);rw[h2];clear HC U;generalize Jp lo=zz;clear h1 h2;go_wp2_with fail;go_loopw [6,7,8] (fun a b _ wr=>a= .int .i64 0/\b= .int .i64 0/\Hid (Below w w wr)) (fun _ _ _ _=>0)
  case atStart=>exact⟨rfl,rfl,al⟩
  case round=>obtain⟨rfl,rfl,HB⟩:=hrel;go_wp2_with fail;go_ret2;exact⟨by rw[hR.out];rfl,HB.out⟩
 ·have HV:Hid (BJ ls (Cc ls at_) at_=some p0):=U.out.symm.trans h1;rw[h2,h3];have ax:=(HP.out at_ (Ak _) p0 HV.out).1;clear HC U h1 h2 h3;go_wp2_with fail;go_loopw [6,7,8] (fun a b v wr=>∃ (E n1 n2:Nat) (vi:Int),a= .int .i64 n1/\b= .int .i64 n2/\v= .int .i64 vi/\n1<=257/\Hid (E<=at_/\At ls at_ E (n1,n2))/\Hid (vi=Hz (BJ ls (Cc ls at_) E))/\Hid (Below w w wr)) (fun _ _ v _=>(intOf v+1).toNat)
  case atStart=>exact⟨at_,0,0,p0,rfl,rfl,rfl,nj,⟨Ak _,HS.out⟩,by show(p0:Int)=_;rw[HV.out];rfl,al.out⟩
  case round=>
   obtain⟨E,n1,n2,vi,rfl,rfl,rfl,az,HA,J,HB⟩:=hrel;clear ax HV;obtain⟨lo,G⟩:=ii (BJ ls (Cc ls at_) E);cases lo with
   |none=>have L:vi= -1:=(by have:=J.out;rw[<-G]at this;exact this);have hR:=hid (am.out E _ HA.out.2 G.symm);clear G J;subst L;go_wp2_with fail;go_ret2;exact⟨by rw[hR.out];rfl,HB.out⟩
   |some p=>
    have L:vi=(p:Nat):=(by have:=J.out;rw[<-G]at this;exact this);obtain⟨bd,gp,cp,M,j,ai⟩:=HP.out E HA.out.1 p G.symm;have be:=HA.out.1;have HL:Hid (BJ ls (Cc ls at_) E=some p):=G.symm;clear G J;subst L;obtain⟨d,hd⟩:=ii (at_-p);have g2:((p:Int) != -1)=true:=qg;have s2:IntKind.i64.wrap ((at_:Int)-(p:Int))=(d:Int):=pi;by_cases hw:d<=4095
    ·have g3:=ic ((d:Int)<=4095);have bb:=ic (d<=4095);by_cases bc:n1<257
     ·have g4:=ic ((n1:Int)<257);have ay:=ic (n1<257);have hA2:=aw.out E p _ HA.out.2 HL.out nj;have ar:=(HB.out.cell (p:=⟨cb,1,none⟩) Z).trans d1;have ae:=(HB.out.cell (p:=⟨gp,p,none⟩) ai).trans j;have a3:=hid hd;have a1:=hid M;have an:=hid j;have af:=hid hA2;clear hd M j ae hA2 ar;go_wp2_with fail;refine(D2.out wr p HB.out nj).mono ?_;rintro e w2 ⟨rfl,aq⟩;have N:Hid (Below w w w2):=dZ aq HB.out;have a5:=a0.out p;generalize alike ls p at_=a at *;have ar:=(N.out.cell (p:=⟨cb,1,none⟩) Z).trans d1;have ae:=(N.out.cell (p:=⟨gp,p,none⟩) ai).trans an.out;have M:=a1.out;subst M;have x1:(0:Int)<=(p:Int):=nj;have x2:(p:Int)<(at_:Int):=by omega
      have ag:Hz (BJ ls (Cc ls at_) p)<(p:Int)/\ -1<=Hz (BJ ls (Cc ls at_) p):=by
       cases hq:BJ ls (Cc ls at_) p with
       |none=>exact⟨by show(-1:Int)<_;omega,by show(-1:Int)<= -1;omega⟩
       |some q=>exact⟨by have:=(JU hq).1;show((q:Nat):Int)<_;omega,by show(-1:Int)<=((q:Nat):Int);omega⟩
      obtain⟨vi,L⟩:=ii (Hz (BJ ls (Cc ls at_) p));rw[<-L]at ae ag;have J:=hid L;obtain⟨bh,bg⟩:=ag;clear L an d1 HB aq;by_cases au:n1<a
      ·have g5:=ic ((n1:Int)<a);have a6:=ic (n1<a);have aa:Hid (p<=at_/\At ls at_ p (a,d)):=⟨nj,by have h:=af.out;rw[Ab au]at h;rw[a3.out];exact h⟩;go_wp2_with fail;go_roundw
       case measure=>exact jq
       case rel=>go_light;exact⟨p,a,d,vi,rfl,rfl,rfl,a5,aa.out,J.out,N.out⟩
      ·have g5:=ig ((n1:Int)<a);have a6:=ig (n1<a);have aa:Hid (p<=at_/\At ls at_ p (n1,n2)):=⟨nj,by have h:=af.out;rw[Aa au]at h;exact h⟩;go_wp2_with fail;go_roundw
       case measure=>exact jq
       case rel=>go_light;exact⟨p,n1,n2,vi,rfl,rfl,rfl,az,aa.out,J.out,N.out⟩
     ·have hR:=hid (av.out E _ HA.out.2 (show n1=257 by omega));have g4:=ig ((n1:Int)<257);have ay:=ig (n1<257);clear hd M j;go_wp2_with fail;go_ret2;exact⟨by rw[hR.out];rfl,HB.out⟩
    ·have hR:=hid (ba.out E p _ HA.out.2 HL.out nj);have g3:=ig ((d:Int)<=4095);have bb:=ig (d<=4095);clear hd M j;go_wp2_with fail;go_ret2;exact⟨by rw[hR.out];rfl,HB.out⟩
theorem long_any(w:World)(cb mb base:Nat)(ls:List Nat)(A:Option Addr)(n c at_ m:Nat)(D:DataW Unit)(pv:Value)(hn:ls.length=n)(hN:n<=1000000)(j:at_<n)(i:base<=w.heap.size)(h8:∀x∈ls,x<=255)
 (ha:Row w base A n 1 (jZ .u8 ls))(hD:MapIs ls at_ D)(h:Ch w cb mb base ls at_ m D pv (Gj ls at_)):
 Calls prog 228 #[.pointer (some ⟨cb,0,none⟩), .slice A n c,at_] w fun e w'=>e= .returned (.tuple #[.int .i64 ((norm (Bg ls at_)).1:Nat), .int .i64 ((norm (Bg ls at_)).2:Nat)])/\Below w w w':=by
 by_cases hf:at_+3<=n
 ·exact nF w cb mb base ls A n c at_ m D pv hn hN hf i h8 ha hD h
 ·exact lS w cb ls A n c at_ hn hN nj nj
end Lz
namespace Lz
open Go.RowKit Go.Maps Mem Own Canon
open Toks (Tk)
open Huff (Dv KT Nl)
structure FS (w0 w:World) (cb mb:Nat) (l:List Nat) (at_:Nat) (D:DataW Unit) (pv vt:Value) (k:Nat) (ts:List Tk):Prop where
 ch:Ch w cb mb w0 l at_ at_ D pv (Gj l at_)
 map:MapIs l at_ D
 own:w.ownsRow w0 280 3 vt k (Dv ts)
 bel:Below w0 w0 w
section
variable {w0 w w':World} {cb mb:Nat} {l:List Nat} {at_ k:Nat} {D:DataW Unit} {pv vt:Value} {ts:List Tk}
theorem FS.step(h:FS w0 w cb mb l at_ D pv vt k ts)(hb:Below w w w'):FS w0 w' cb mb l at_ D pv vt k ts:=
 ⟨h.ch.step hb,h.map,eZ h.own (fun x hx=>hb.block x (Aj h.own x hx).2),h.bel.trans (hb.mono h.bel.size)⟩
theorem FS.alloc(h:FS w0 w cb mb l at_ D pv vt k ts)(o:Obj):FS w0 (w.alloc o) cb mb l at_ D pv vt k ts:=
 h.step (aZ (Ae _ _))
theorem FS.grown{j:Value}{k':Nat}{i:List Tk}(h:FS w0 w cb mb l at_ D pv vt k ts)(hg:w.grownBy w' vt.ownBlock)(ho:w'.ownsRow w0 280 3 j k' (Dv i)):FS w0 w' cb mb l at_ D pv j k' i:=by
 refine⟨⟨h.ch.blk.grown hg (fun e=>fZ h.own h.ch.blk ip e.symm),L2 h.ch.map (hg.block mb h.ch.map.lt (fun e=>zW h.ch.map h.own e.symm)),eZ h.ch.prev (fun x hx=>hg.block x (Aj h.ch.prev x hx).2 (fun e=> ?_)),h.ch.lo,h.ch.lm⟩,h.map,ho,⟨hg.os.trans h.bel.os,hg.tape.trans h.bel.tape,hg.output.trans h.bel.output,AN h.bel.size hg.size,fun x hx=>(hg.block x (by have:=h.bel.size;omega) (fun e=> ?_)).trans (h.bel.block x hx)⟩⟩
 ·rcases EY h.ch.prev h.own ip with e1|e1
  ·rw[hx]at e1;cases e1
  ·exact e1 (hx.trans e)
 ·have:=(Aj h.own x e.symm).1;omega
theorem FS.added{D':DataW Unit}{pv':Value}(h:FS w0 w cb mb l at_ D pv vt k ts)(hm:MapIs l (at_+1) D')(hc:Ch w' cb mb w0 l (at_+1) (at_+1) D' pv' (Gj l (at_+1)))(hk:Kept (Out cb mb pv w) w w'):FS w0 w' cb mb l (at_+1) D' pv' vt k ts:=by
 refine⟨hc,hm,eZ h.own (fun x hx=>hk.block x ⟨(Aj h.own x hx).2,fun e=> ?_,fun e=> ?_,fun e=> ?_⟩),?_⟩
 ·subst e;exact fZ h.own h.ch.blk ip hx
 ·subst e;exact zW h.ch.map h.own hx
 ·rcases EY h.ch.prev h.own ip with e1|e1
  ·rw[e]at e1;cases e1
  ·exact e1 (e.trans hx.symm)
 ·have hb:Below w0 w w':=hk.below (fun x hx=>⟨by have:=h.bel.size;omega,by have:=h.ch.lo;omega,by have:=h.ch.lm;omega,fun e=>by have:=(Aj h.ch.prev x e).1;omega⟩);exact h.bel.trans hb
end
theorem FS.start(w:World)(l:List Nat):FS w ((w.alloc (.map #[] 0)).alloc (.cells #[.map (some w.heap.size),()] 307)) (w.heap.size+1) w l 0 (.map []) (.slice none 0 0) (.slice none 0 0) 0 []:=
 ⟨⟨Blk.made_at _ _ _ qT,((World.ownsMap_made w _ _ _).alloc _),AE _ _ _ _,nj,nj⟩,MapIs.start l,AE _ _ _ _,aZ (aZ (Ae _ _))⟩
theorem n5(w:World)(A:Option Addr)(n c:Nat)(ls:List Nat)(hn:ls.length=n)(hN:n<=1000000)(h8:∀x∈ls,x<=255)(ha:Row w w A n 1 (jZ .u8 ls)):
 Calls prog 167 #[.slice A n c] w fun e w'=>∃v,e= .returned v/\w'.ownsRow w 280 3 v (find ls).length (Dv (find ls))/\Below w w w':=by
 obtain⟨j0,ay,ax,al,az⟩:=info_parts Nl;obtain⟨R,hR⟩:=ii (find ls);have aq:Hid (Dr ls 0=R):=hR.symm;rw[<-hR];have S0:=hid (FS.start w ls)
 have DL:Hid (∀wx cb mb D pv vt k ts at_,at_<n->FS w wx cb mb ls at_ D pv vt k ts->Calls prog 228 #[.pointer (some ⟨cb,0,none⟩), .slice A n c, .int .i64 at_] wx fun e w'=>e= .returned (.tuple #[.int .i64 ((norm (Bg ls at_)).1:Nat), .int .i64 ((norm (Bg ls at_)).2:Nat)])/\Below wx wx w'):=
  fun wx cb mb D pv vt k ts at_ h1 h2=>long_any wx cb mb w ls A n c at_ at_ D pv hn hN h1 h2.bel.size h8 (ha.below h2.bel) h2.map h2.ch
 have DA:Hid (∀wx cb mb D pv vt k ts at_,at_<n->FS w wx cb mb ls at_ D pv vt k ts->Calls prog 229 #[.pointer (some ⟨cb,0,none⟩), .slice A n c, .int .i64 at_] wx fun e w'=>e= .returned (.tuple #[])/\∃D' pv',FS w w' cb mb ls (at_+1) D' pv' vt k ts):=
  fun wx cb mb D pv vt k ts at_ h1 h2=>(add_any wx cb mb w ls A n c at_ D pv hn hN h1 h2.bel.size h8 (ha.below h2.bel) h2.map h2.ch).mono fun e w' ⟨he,D',pv',q1,q2,_,q4⟩=>⟨he,D',pv',h2.added q1 q2 q4⟩
 have an:Hid (∀at_,at_<n->((norm (Bg ls at_)).1=0/\(norm (Bg ls at_)).2=0/\Dr ls at_=⟨(ls.getD at_ 0:Nat),0,0⟩ :: Dr ls (at_+1))∨(3<=(norm (Bg ls at_)).1/\at_+(norm (Bg ls at_)).1<=n/\Dr ls at_=⟨0,((norm (Bg ls at_)).1:Nat),((norm (Bg ls at_)).2:Nat)⟩ :: Dr ls (at_+(norm (Bg ls at_)).1))):=fun at_ ac=>by
  by_cases h3:3<=(Bg ls at_).1
  ·rw[nJ h3];exact .inr ⟨h3,by have:=Lj (l:=ls) (at_:=at_) nj;omega,LV nj h3⟩
  ·rw[XY h3];exact .inl ⟨rfl,rfl,Ls nj h3⟩
 have Y:Hid (Dr ls n= []):=M0 nj;have HN:=hid hn;have HA:Hid (∀wx at_,Below w w wx->at_<n->∃b M,A=some ⟨b,M,none⟩/\wx.cell? ⟨b,M+at_,none⟩=some (.int .u8 (ls.getD at_ 0:Nat))/\b<w.heap.size):=fun wx at_ hb ac=>by obtain⟨b,M,rfl,ah,hc⟩:=ha nj;have:=(hb.cell (p:=⟨b,_,none⟩) ah).trans (hc at_ 0 ac nj);simp only[jZ,Nat.mul_one,Nat.add_zero]at this;exact⟨b,M,rfl,this,ah⟩
 clear hR hn h8 ha;have a5:=run_makeMap (P:=prog) 305 w;go_enter func167,ntmps167;go_wp2_with fail;clear a5;go_loopw [4,5] (fun u v wr=>∃ (at_ k:Nat) (D:DataW Unit) (pv:Value) (ts:List Tk),v= .int .i64 at_/\at_<=n/\k<=at_/\Hid (ts.length=k)/\Hid (ts++Dr ls at_=R)/\Hid (FS w wr (w.heap.size+1) w ls at_ D pv u k ts)) (fun _ v _=>n-(intOf v).toNat)
 case atStart=>exact⟨0,0,_,_,[],rfl,nj,nj,rfl,aq.out,S0.out⟩
 case round=>
  obtain⟨w0,rfl⟩:=ii wr;obtain⟨at_,k,D,pv,ts,rfl,ac,hk,HL,HR,HS⟩:=hrel;clear aq S0;obtain⟨AT,kT,rfl⟩:=bZ HS.out.own;by_cases ai:at_<n
  ·have g1:=ic ((at_:Int)<n);have a1:=ic (at_<n);have y0:(0:Int)<=(at_:Int):=nj;have y1:(at_:Int)<(n:Int):=nj;have zb:=HS.out.bel.size;have zc:=HS.out.ch.blk.lt;obtain⟨b,M,hA,Z,ah⟩:=HA.out w0 at_ HS.out.bel ai;subst hA;have av:=an.out at_ ai;have au:=fun wx D pv vt k ts=>DL.out wx (w.heap.size+1) w D pv vt k ts at_ ai;have S1:=hid (HS.out.alloc (.cells #[.int .u8 (ls.getD at_ 0:Nat),ij,ij] 280));have hD:=hid (au _ _ _ _ _ _ S1.out);clear au;generalize ls.getD at_ 0=x at *;generalize norm (Bg ls at_)=NR at *;obtain⟨nr,dr⟩:=NR;have U:=hid av;clear av DL;go_wp2_with fail;refine hD.out.mono ?_;rintro e w1 ⟨rfl,aw⟩;have Q:Below w0 w0 w1:=dZ aw (aZ (Ae _ _));have z:Blk w1 w0 280 #[.int .u8 x,ij,ij]:=(Blk.made _ _ _).step aw;have a9:=z.lt;have ar:=hid z;have t0:=z.ia 0;have t1:=z.ia 1;have t2:=z.ia 2;have f0:=z.frozen 0;have f1:=z.frozen 1;have f2:=z.frozen 2;clear hD Z S1 z;have am:=U.out;clear U;rcases am with ⟨h1,h2,h3⟩|⟨h1,h2,h3⟩
   ·subst h1 h2;have N:=hid h3;clear h3;have S2:=hid (HS.out.step (show Below w0 w0 w1 by(repeat (with_reducible first|exact Ae _ _|assumption|refine Aq ?_ |refine below_drewN ?_ _|refine oZ ?_ |refine aZ ?_ |refine dZ im ?_ |refine belA ?_ |refine pZ im ?_))));have a3:k<1000001:=nj;go_wp2_with(at_builtin;refine iZ rfl (.tmp 35) (.tmp 37) 190 rfl w 280 j0 _ 3 24 underlying190 ay ax al az rfl ip _ _ _ nm ((S2.out.alloc _).own) _ 1 1 [.int .u8 (x:Nat), .int .i64 0, .int .i64 0] nm (Src.of_blk (g:=w1.heap.size) (Blk.made_at _ _ _ qT) 1 1 3 rfl) mt rE nj rg ?_;intro v4 w4 y J G);have i:w4.ownsRow w 280 3 v4 (k+1) (Dv (ts++ [⟨(x:Nat),0,0⟩])):=(by rw[KT];exact y);have S4:=hid ((S2.out.alloc _).grown J i);have ae:Hid ((ts++ [⟨(x:Nat),0,0⟩])++Dr ls (at_+1)=R):=(by have h:=HR.out;rw[N.out]at h;rw[AI];exact h);have ab:Hid ((ts++ [(⟨(x:Nat),0,0⟩:Tk)]).length=k+1):=(by rw[Ag,HL.out];rfl);generalize ts++ [(⟨(x:Nat),0,0⟩:Tk)]=E at *;clear y J G i S2 N HR HL t0 t1 t2 f0 f1 f2 ar Q HS;go_loopw [5,40] (fun v u wr=>∃ (j q:Nat) (D:DataW Unit) (pv:Value),u= .int .i64 j/\v= .int .i64 q/\q=at_+j/\j<=1/\Hid (FS w wr (w.heap.size+1) w ls q D pv v4 (k+1) E)) (fun _ u _=>1-(intOf u).toNat)
    case atStart=>exact⟨0,at_,D,pv,rfl,rfl,rfl,nj,S4.out⟩
    case round=>
     obtain⟨w5,rfl⟩:=ii wr;obtain⟨j,q,D5,L,rfl,rfl,hq,hj,S5⟩:=hrel;clear S4;by_cases a4:j<1
     ·have u1:=ic ((j:Int)<1);have ag:=ic (j<1);have u2:IntKind.i64.wrap ((q:Int)+1)=((q+1:Nat):Int):=pi;have aj:q<n:=nj;have HQ:=hid hq;clear hq;have u3:IntKind.i64.wrap ((j:Int)+1)=((j+1:Nat):Int):=pi;go_wp2_with fail;refine(DA.out w5 _ _ D5 L v4 (k+1) E q aj S5.out).mono ?_;rintro e w6 ⟨rfl,D6,aa,S6⟩;have S6:=hid S6;clear S5;go_wp2_with fail;go_roundw
      case measure=>exact jq
      case rel=>exact jg
     ·have u1:=ig ((j:Int)<1);have ag:=ig (j<1);have af:q=at_+1:=nj;subst af;clear hq;go_wp2_with fail;go_roundw
      case measure=>exact jq
      case rel=>go_light;exact⟨at_+1,k+1,D5,L,E,rfl,nj,nj,ab.out,ae.out,S5.out⟩
   ·have bc:3<=nr:=h1;have bb:at_+nr<=n:=h2;have N:=hid h3;clear h1 h2 h3;have q3:=ic ((3:Int)<=nr);have ba:=ic (3<=nr);have S2:=hid (HS.out.step (show Below w0 w0 (((w1.setCell ⟨w0,0,none⟩ (.int .u8 0)).setCell ⟨w0,1,none⟩ (.int .i64 nr)).setCell ⟨w0,2,none⟩ (.int .i64 dr)) by(repeat (with_reducible first|exact Ae _ _|assumption|refine Aq ?_ |refine below_drewN ?_ _|refine oZ ?_ |refine aZ ?_ |refine dZ im ?_ |refine belA ?_ |refine pZ im ?_))));have a3:k<1000001:=nj;go_wp2_with(at_builtin;refine iZ rfl (.tmp 35) (.tmp 37) 190 rfl w 280 j0 _ 3 24 underlying190 ay ax al az rfl ip _ _ _ nm ((S2.out.alloc _).own) _ 1 1 [.int .u8 0, .int .i64 (nr:Nat), .int .i64 (dr:Nat)] nm (Src.of_blk (g:=w1.heap.size) (Blk.made_at _ _ _ qT) 1 1 3 rfl) mt rE nj rg ?_;intro v4 w4 y J G);have i:w4.ownsRow w 280 3 v4 (k+1) (Dv (ts++ [⟨0,(nr:Nat),(dr:Nat)⟩])):=(by rw[KT];exact y);have S4:=hid ((S2.out.alloc _).grown J i);have ae:Hid ((ts++ [⟨0,(nr:Nat),(dr:Nat)⟩])++Dr ls (at_+nr)=R):=(by have h:=HR.out;rw[N.out]at h;rw[AI];exact h);have ab:Hid ((ts++ [(⟨0,(nr:Nat),(dr:Nat)⟩:Tk)]).length=k+1):=(by rw[Ag,HL.out];rfl);generalize ts++ [(⟨0,(nr:Nat),(dr:Nat)⟩:Tk)]=E at *;clear y J G i S2 N HR HL t0 t1 t2 f0 f1 f2 ar Q HS;go_loopw [5,40] (fun v u wr=>∃ (j q:Nat) (D:DataW Unit) (pv:Value),u= .int .i64 j/\v= .int .i64 q/\q=at_+j/\j<=nr/\Hid (FS w wr (w.heap.size+1) w ls q D pv v4 (k+1) E)) (fun _ u _=>nr-(intOf u).toNat)
    case atStart=>exact⟨0,at_,D,pv,rfl,rfl,rfl,nj,S4.out⟩
    case round=>
     obtain⟨w5,rfl⟩:=ii wr;obtain⟨j,q,D5,L,rfl,rfl,hq,hj,S5⟩:=hrel;clear S4;by_cases a4:j<nr
     ·have u1:=ic ((j:Int)<nr);have ag:=ic (j<nr);have u2:IntKind.i64.wrap ((q:Int)+1)=((q+1:Nat):Int):=pi;have aj:q<n:=nj;have HQ:=hid hq;clear hq;have u3:IntKind.i64.wrap ((j:Int)+1)=((j+1:Nat):Int):=pi;go_wp2_with fail;refine(DA.out w5 _ _ D5 L v4 (k+1) E q aj S5.out).mono ?_;rintro e w6 ⟨rfl,D6,aa,S6⟩;have S6:=hid S6;clear S5;go_wp2_with fail;go_roundw
      case measure=>exact jq
      case rel=>exact jg
     ·have u1:=ig ((j:Int)<nr);have ag:=ig (j<nr);have af:q=at_+nr:=nj;subst af;clear hq;go_wp2_with fail;go_roundw
      case measure=>exact jq
      case rel=>go_light;exact⟨at_+nr,k+1,D5,L,E,rfl,nj,nj,ab.out,ae.out,S5.out⟩
  ·obtain rfl:at_=n:=by omega
   have ak:Hid (R=ts):=(by have h:=HR.out;rw[Y.out,BX]at h;exact h.symm);have g1:=ig ((at_:Int)<at_);have a1:=ig (at_<at_);have F:=HS.out.own;have FB:=HS.out.bel;have HF:=hid F;have a6:=hid FB;have a0:=hid HL.out;clear F FB HR HS HL DL DA HA an Y;go_wp2_with fail;go_ret;exact⟨_,rfl,by rw[ak.out,a0.out];exact HF.out,a6.out⟩
end Lz
namespace Lz
open Go.RowKit Mem Own Canon
open Toks (Tk Bb PT)
theorem Wb:∀ (n d:Nat) (out:List Nat),Dk out (n+1) d=Dk out n d++ [(Dk out n d).getD ((Dk out n d).length-d) 0]
 |0,_,_=>rfl
 |n+1,d,out=>by rw[Dk,Wb n d];rfl
theorem mJ{t:Tk}(hl:0<=t.lit/\t.lit<=255)(h:Bb t.lit t.len t.dist=true):
 (∃x:Nat,x<=255/\t=⟨(x:Int),0,0⟩)∨∃L D:Nat,3<=L/\L<=257/\1<=D/\D<=4095/\t=⟨0,(L:Int),(D:Int)⟩:=by
 obtain⟨lit,len,dist⟩:=t;simp only at hl h;unfold Bb at h;split at h
 ·rename_i h0;have h1:=of_decide_eq_true h;subst h0 h1;exact .inl ⟨lit.toNat,nj,by rw[Int.toNat_of_nonneg hl.1]⟩
 ·have h1:=of_decide_eq_true h;refine .inr ⟨len.toNat,dist.toNat,nj,nj,nj,nj,?_⟩;rw[Int.toNat_of_nonneg nj,Int.toNat_of_nonneg nj,h1.1]
theorem lP(hq:out.length=q)(_h:q<=most):G3 most out ⟨(x:Int),0,0⟩=if most-q<1 then 6 else 0:=by
 unfold G3;rw[Ab (show Bb (x:Int) 0 0=true from rfl),hq,Aa (show ¬(q:Int)<0 by omega)];by_cases h:most-q<1
 ·rw[Ab (show(most:Int)-(q:Int)<max 1 0 by omega),Ab h]
 ·rw[Aa (show ¬(most:Int)-(q:Int)<max 1 0 by omega),Aa h]
theorem bG{L D:Nat}(hq:out.length=q)(_h:q<=most)(h1:3<=L)(h2:L<=257)(h3:1<=D)(h4:D<=4095):G3 most out ⟨0,(L:Int),(D:Int)⟩=if q<D then 8 else if most-q<L then 6 else 0:=by
 have hm:Bb 0 (L:Int) (D:Int)=true:=by unfold Bb;rw[Aa nj];exact AK ⟨rfl,nj,nj,nj,nj⟩
 unfold G3;rw[Ab hm,hq];show(if(q:Int)<(D:Int)then 8 else if(most:Int)-(q:Int)<max 1 (L:Int)then 6 else 0)=_;by_cases h:q<D
 ·rw[Ab nj,Ab h]
 ·rw[Aa nj,Aa h];by_cases h':most-q<L
  ·rw[Ab nj,Ab h']
  ·rw[Aa nj,Aa h']
def LZ(R:List Nat×Int)(w:World)(e:Ending)(w':World):Prop:=
 ∃v,e= .returned (.tuple #[v,R.2])/\w'.ownsRow w 5 1 v R.1.length (cZ .u8 R.1)/\Below w w w'
theorem m9(w:World)(A:Option Addr)(n c:Nat)(ts:List Tk)(most:Nat)(a4:most<=1000000)(hn:ts.length=n)(hN:n<=1000000)(ac:∀t∈ts,(0<=t.lit/\t.lit<=255)/\Bb t.lit t.len t.dist=true)(ha:Row w w A n 3 (Toks.G2 ts)):
 Calls prog 300 #[.slice A n c,most] w (LZ (FJ ts most) w):=by
 obtain⟨j0,aw,av,aq,ax⟩:=info_parts Eg;have hP:FJ ts most=Fi most [] ts:=Aa nj;rw[hP];obtain⟨R,hR⟩:=ii (Fi most [] ts);rw[<-hR];obtain⟨R1,R2⟩:=R;unfold LZ;have g0:=ig ((most:Int)<0)
 have HR:=hid hR;have HA:=hid ha;have HN:=hid hn;have am:=hid ac;clear hP hR ha hn ac;go_enter func300,ntmps300;go_wp2_with fail;go_loopw [6,13] (fun u i wr=>∃ (k q:Nat) (out:List Nat),k<=n/\q<=most/\i= .int .i64 k/\Hid (out.length=q)/\Hid (wr.ownsRow w 5 1 u q (cZ .u8 out))/\Hid (Fi most out (ts.drop k)=(R1,R2))/\Below w w wr) (fun _ i _=>n-(intOf i).toNat)
 case atStart=>exact⟨0,0,[],nj,nj,rfl,rfl,AE _ _ _ _,HR.out.symm,Ae _ _⟩
 case round=>
  obtain⟨k,q,out,hk,hq,rfl,HQ,HO,HP,hb⟩:=hrel;have hz:=hb.size;obtain⟨va,vc,rfl⟩:=bZ HO.out;by_cases ab:k<n
  ·obtain⟨ob,bb,rfl,aj,E⟩:=HA.out nj;have N:k<ts.length:=(by rw[HN.out];exact ab);have c0:=(hb.cell (p:=⟨ob,_,none⟩) aj).trans (E k 0 ab nj);have c1:=(hb.cell (p:=⟨ob,_,none⟩) aj).trans (E k 1 ab nj);have c2:=(hb.cell (p:=⟨ob,_,none⟩) aj).trans (E k 2 ab nj);simp only[Toks.G2,List.getD_eq_getElem?_getD,List.getElem?_eq_getElem N,Option.getD_some,Nat.add_zero,<-Nat.add_assoc]at c0 c1 c2;have hp:=HP.out;rw[Dg N,Fi]at hp;obtain⟨hl,hm⟩:=am.out _ (FC N);have HM:=fun wx=>PT ts[k] wx;rw[hm]at HM;have a5:=mJ hl hm;generalize ts[k]=t at *;have x0:(0:Int)<=(k:Int):=nj;have x1:(k:Int)<(n:Int):=nj;rcases a5 with ⟨x,hx,rfl⟩|⟨L,D,a0,hL,a6,hD,rfl⟩
   ·rw[lP HQ.out hq]at hp;simp only[Toks.Tk.val_mk]at HM c0 c1 c2;have HM:=hid HM;have g1:=ig ((q:Int)<0);have a3:max (1:Int) 0=1:=ip;have s1:IntKind.i64.wrap ((most:Int)-(q:Int))=((most-q:Nat):Int):=pi;by_cases G:most-q<1
    ·rw[Ab G,Aa qT]at hp;injection hp with e1 e2;subst e1 e2;have g2:=ic (((most-q:Nat):Int)<1);have g3:=ic (most-q<1);generalize M:most-q=dm at *;have al:dm=0:=nj;subst al;clear M hm hl HP;clear E N;go_wp2_with fail;refine(HM.out _).mono ?_;rintro e w2 ⟨rfl,z⟩;have kk:=fun o=>z.cell (p:=⟨wr.heap.size,o,none⟩) qT;have b1:=(kk 1).trans rfl;have J:Hid (Below w w w2):=(mZ hz hb).trans (z.mono rg);have b2:=(kk 2).trans rfl;clear kk;go_wp2_with fail;go_ret2;exact⟨_,rfl,AE _ _ _ _,J.out⟩
    ·rw[Aa G,Ab rfl,Ab rfl,Bu]at hp;obtain⟨dm,M⟩:=ii (most-q);rw[<-M]at s1 G;have g2:=ig ((dm:Int)<1);have g3:=ig (dm<1);have ah:=hid hp;have ak:q+1<=most:=nj;clear M hm hl HP hp G;clear E N;go_wp2_with fail;refine(HM.out _).mono ?_;rintro e w2 ⟨rfl,z⟩;have kk:=fun o=>z.cell (p:=⟨wr.heap.size,o,none⟩) qT;have b1:=(kk 1).trans rfl;have J:Hid (Below w w w2):=(mZ hz hb).trans (z.mono rg);have b2:=(kk 2).trans rfl;have b0:=(kk 0).trans rfl;have Z:=hid (eZ (HO.out.alloc (.cells #[.int .u8 x,ij,ij] 280)) (fun y hy=>z.block y lk));have ar:=J.out.size;clear kk;go_wp2_with(at_builtin;refine iZ rfl (.tmp 39) (.tmp 42) 28 rfl w 5 j0 _ 1 1 underlying28 aw av aq ax rfl ip _ _ _ nm (Z.out.alloc _) _ 1 1 [.int .u8 x] nm (Src.of_blk (Blk.made _ _ _) 1 1 1 rfl) mq rE nj rg ?_;intro v4 w4 Y aa an);go_roundw
     case measure=>exact jq
     case rel=>
      go_light;refine⟨k+1,q+1,out++ [x],nj,ak,jr,?_,?_,ah.out,?_⟩
      ·show _=_;rw[Ag,HQ.out];rfl
      ·show World.ownsRow _ _ _ _ _ _ _;rw[show cZ .u8 (out++ [x])=cZ .u8 out++ [.int .u8 x] by simp[cZ]];exact Y
      ·exact(mZ ar J.out).grown aa rg (fun y hy=>(Aj Z.out y hy).1)
   ·rw[bG HQ.out hq a0 hL a6 hD]at hp;simp only[Toks.Tk.val_mk]at HM c0 c1 c2;have HM:=hid HM;have a3:max (1:Int) (L:Int)=(L:Int):=nj;have a9:((L:Int)==0)=false:=p6;have s1:IntKind.i64.wrap ((most:Int)-(q:Int))=((most-q:Nat):Int):=pi;by_cases ae:q<D
    ·rw[Ab ae,Aa qT]at hp;injection hp with e1 e2;subst e1 e2;have g1:=ic ((q:Int)<D);have az:=ic (q<D);clear hm hl HP;clear E N;go_wp2_with fail;refine(HM.out _).mono ?_;rintro e w2 ⟨rfl,z⟩;have kk:=fun o=>z.cell (p:=⟨wr.heap.size,o,none⟩) qT;have b1:=(kk 1).trans rfl;have J:Hid (Below w w w2):=(mZ hz hb).trans (z.mono rg);have b2:=(kk 2).trans rfl;clear kk;go_wp2_with fail;go_ret2;exact⟨_,rfl,AE _ _ _ _,J.out⟩
    ·rw[Aa ae]at hp;have g1:=ig ((q:Int)<D);have az:=ig (q<D);obtain⟨dm,M⟩:=ii (most-q);rw[<-M]at s1 hp;by_cases G:dm<L
     ·rw[Ab G,Aa qT]at hp;injection hp with e1 e2;subst e1 e2;have g2:=ic ((dm:Int)<L);have g3:=ic (dm<L);clear hm hl HP M;clear E N;go_wp2_with fail;refine(HM.out _).mono ?_;rintro e w2 ⟨rfl,z⟩;have kk:=fun o=>z.cell (p:=⟨wr.heap.size,o,none⟩) qT;have b1:=(kk 1).trans rfl;have J:Hid (Below w w w2):=(mZ hz hb).trans (z.mono rg);have b2:=(kk 2).trans rfl;clear kk;go_wp2_with fail;go_ret2;exact⟨_,rfl,AE _ _ _ _,J.out⟩
     ·rw[Aa G,Ab rfl,Aa (by show ¬(L:Int)=0;omega)]at hp
      replace hp:Fi most (Dk out ((L:Int)).toNat ((D:Int)).toNat) (ts.drop (k+1))=(R1,R2):=hp
      rw[Bu,Bu]at hp;have g2:=ig ((dm:Int)<L);have g3:=ig (dm<L);have ah:=hid hp;have ak:q+L<=most:=nj;clear M hm hl HP hp G;clear E N;go_wp2_with fail;refine(HM.out _).mono ?_;rintro e w2 ⟨rfl,z⟩;have kk:=fun o=>z.cell (p:=⟨wr.heap.size,o,none⟩) qT;have b1:=(kk 1).trans rfl;have J:Hid (Below w w w2):=(mZ hz hb).trans (z.mono rg);have b2:=(kk 2).trans rfl;have Z:=hid (eZ (HO.out.alloc (.cells #[.int .u8 0,L,D] 280)) (fun y hy=>z.block y lk));have ai:Hid (Blk w2 wr 280 #[.int .u8 0,L,D]):=(Blk.made wr _ _).step z;have ar:=J.out.size;generalize wr.heap.size=pb at *;clear kk z HO hb c0 c1 c2 HM b1 b2;have b1:=ai.out.ia 1;have b2:=ai.out.ia 2;go_wp2_with fail;go_loopw [6,46] (fun u i wx=>∃j:Nat,j<=L/\i= .int .i64 j/\Hid (wx.ownsRow w 5 1 u (q+j) (cZ .u8 (Dk out j D)))/\Hid (Blk wx pb 280 #[.int .u8 0,L,D])/\Hid (Below w w wx)) (fun _ i _=>L-(intOf i).toNat)
      case atStart=>exact⟨0,nj,rfl,Z.out,ai.out,J.out⟩
      case round=>
       obtain⟨j,hj,rfl,U,Q,ag⟩:=hrel;have a1:=ag.out.size;by_cases ba:j<L
       ·obtain⟨g,cg,rfl,_⟩:=U.out.form nj;have au:(Dk out j D).length=q+j:=(by rw[MT,HQ.out]);obtain⟨I,hI⟩:=ii (q+j-D);have af:=Wb j D out;rw[au,<-hI]at af;have hy:(cZ .u8 (Dk out j D))[I]? =some (.int .u8 ((Dk out j D).getD I 0:Nat)):=(by simp[cZ,List.getD_eq_getElem?_getD,List.getElem?_eq_getElem (show I<(Dk out j D).length by omega)]);have c9:wr.cell? ⟨g,I,none⟩=some (.int .u8 ((Dk out j D).getD I 0:Nat)):=(by have h:=U.out.cellAt I nj;rw[h];exact hy);generalize (Dk out j D).getD I 0=y at *;have k1:=Q.out.ia 1;have k2:=Q.out.ia 2;have s2:IntKind.i64.wrap (((q+j:Nat):Int)-(D:Int))=(I:Int):=pi;have s3:IntKind.i64.wrap ((q:Int)+(j:Int)-(D:Int))=(I:Int):=pi;have y2:(0:Int)<=(I:Int):=nj;have y3:(I:Int)<((q+j:Nat):Int):=nj;have ay:=hid af;clear au hI af hy b1 b2;go_wp2_with(at_builtin;refine iZ rfl (.tmp 48) (.tmp 57) 28 rfl w 5 j0 _ 1 1 underlying28 aw av aq ax rfl ip _ _ _ nm (U.out.alloc _) _ 1 1 [.int .u8 y] nm (Src.of_blk (Blk.made _ _ _) 1 1 1 rfl) mq rE nj rg ?_;intro v4 w4 Y aa an);go_roundw
        case measure=>exact jq
        case rel=>
         go_light;refine⟨j+1,nj,jr,?_,?_,?_⟩
         ·show World.ownsRow _ _ _ _ _ _ _;rw[ay.out,show cZ .u8 (Dk out j D++ [y])=cZ .u8 (Dk out j D)++ [.int .u8 y] by simp[cZ]];exact Y
         ·exact(Q.out.alloc _).grown aa (fun e=>fZ U.out Q.out ip e.symm)
         ·exact(mZ a1 ag.out).grown aa rg (fun y hy=>(Aj U.out y hy).1)
       ·obtain rfl:j=L:=by omega
        have k1:=Q.out.ia 1;obtain⟨A5,c5,rfl⟩:=bZ U.out;clear b1 b2;go_wp2_with fail;go_roundw
        case measure=>exact jq
        case rel=>go_light;exact⟨k+1,q+j,Dk out j D,nj,ak,jr,by show _=_;rw[MT,HQ.out],U.out,ah.out,ag.out⟩
  ·obtain rfl:k=n:=by omega
   have hp:=HP.out;rw[DV pu,Fi]at hp;injection hp with e1 e2;subst e1 e2;clear HP;go_wp2_with fail;go_ret2;refine⟨_,rfl,?_,hb⟩;rw[HQ.out];exact HO.out
end Lz
end Go.Proofs.YtfgdoknipbpfhaaGreatDoor
