/- Plain: the best matc -/
import Derived.Test.YtfgdoknipbpfhaaGreatDoorZBodyBlocks3
import Derived.Test.YtfgdoknipbpfhaaGreatDoorZBodyBlocks13
import Derived.Maps.OwnSet
import Derived.DeepKeys4
import Derived.Deep.AppendLies
import Derived.Lib.MinMax
namespace Go.Proofs.YtfgdoknipbpfhaaGreatDoor
open Go.Proofs.Tryz
open Go.Lib (hid)
set_option maxHeartbeats 2000000
set_option maxRecDepth 100000
variable{l out:List Nat}{E b base c cb d g i m mb most n p q x y z:Nat}{w:World}{e:TypeId}{xs:List Value}{pv:Value}{ps:List Int}
namespace Lz
def BE(l:List Nat)(k:Nat×Nat×Nat):Nat->Option Nat
 |0=>none
 |n+1=>if n+3<=l.length/\BN l n=k then some n else BE l k n
theorem JX{l:List Nat}{k:Nat×Nat×Nat}:∀ {n p:Nat},BE l k n=some p->p<n/\p+3<=l.length/\BN l p=k/\∀q,p<q->q<n->q+3<=l.length->BN l q≠k
 |0,p,h=>by cases h
 |n+1,p,h=>by
  rw[BE]at h;split at h
  ·rename_i hc;injection h with h;subst h;exact⟨mw,hc.1,hc.2,fun q h1 h2=>mw⟩
  ·rename_i hc;obtain⟨h1,h2,h3,h4⟩:=JX h;refine⟨mw,h2,h3,fun q hq1 hq2 hq3=> ?_⟩;by_cases e:q=n
   ·subst e;exact fun hk=>hc ⟨hq3,hk⟩
   ·exact h4 q hq1 mw hq3
theorem Sr{l:List Nat}{k:Nat×Nat×Nat}:∀ {n:Nat},BE l k n=none->∀q,q<n->q+3<=l.length->BN l q≠k
 |0,_,q,h,_=>mw
 |n+1,h,q,hq,h3=>by
  rw[BE]at h;split at h
  ·cases h
  ·rename_i hc;by_cases e:q=n
   ·subst e;exact fun hk=>hc ⟨h3,hk⟩
   ·exact Sr h q mw h3
def Hi:Option Nat->Int
 |some p=>(p:Nat)
 |none=> -1
def Hk(l:List Nat)(p:Nat):Int:=if p+3<=l.length then Hi (BE l (BN l p) p)else-1
def FT(l:List Nat)(n:Nat):List Int:=(List.range n).map (Hk l)
theorem Xq(l:List Nat)(n:Nat):(FT l n).length=n:=by simp[FT]
theorem YL(l:List Nat)(n:Nat):FT l (n+1)=FT l n++ [Hk l n]:=by simp[FT,List.range_succ]
theorem gK(h:i<n):(FT l n)[i]? =some (Hk l i):=by simp[FT,h]
theorem Sz{at_:Nat}(nd:Nat×Nat)(h:alike l (at_-d) at_<3):norm (JG l at_ nd d)=norm nd:=by
 unfold JG;split
 ·rename_i i;unfold norm;rw[Aa (show ¬3<=(alike l (at_-d) at_,d).1 by show ¬3<=alike l (at_-d) at_;omega),Aa mw]
 ·rfl
theorem QS{at_:Nat}(nd:Nat×Nat)(h:3<=alike l (at_-d) at_):norm (JG l at_ nd d)=if(norm nd).1<alike l (at_-d) at_ then(alike l (at_-d) at_,d)else norm nd:=by
 unfold JG norm;by_cases h3:3<=nd.1
 ·rw[Ab h3];by_cases i:nd.1<alike l (at_-d) at_
  ·rw[Ab i,Ab (show 3<=(alike l (at_-d) at_,d).1 from h)]
  ·rw[Aa i,Ab h3]
 ·rw[Aa h3,Ab (show nd.1<alike l (at_-d) at_ by omega),Ab (show 3<=(alike l (at_-d) at_,d).1 from h),Ab (show(0,0).1<alike l (at_-d) at_ by show 0<_;omega)]
theorem MN{l:List Nat}{at_ D1:Nat}:∀ {D2:Nat},D1<=D2->(∀d,D1<d->d<=D2->alike l (at_-d) at_<3)->norm (EH l at_ D2)=norm (EH l at_ D1)
 |0,h,_=>by rw[show D1=0 by omega]
 |D2+1,h,hs=>by
  by_cases e:D1=D2+1
  ·rw[e]
  ·rw[EH,Sz _ (hs (D2+1) mw (Ak _))];exact MN mw fun d h1 h2=>hs d h1 mw
theorem So{l:List Nat}{at_ D1:Nat}(i:(norm (EH l at_ D1)).1=257):∀ {D2:Nat},D1<=D2->norm (EH l at_ D2)=norm (EH l at_ D1)
 |0,h=>by rw[show D1=0 by omega]
 |D2+1,h=>by
  by_cases e:D1=D2+1
  ·rw[e]
  ·have ih:=So i (D2:=D2) mw;rw[EH];by_cases h3:3<=alike l (at_-(D2+1)) at_
   ·rw[QS _ h3,ih,Aa];have:=Oc l (at_-(D2+1)) at_;omega
   ·rw[Sz _ mw,ih]
structure At (l:List Nat) (at_ E:Nat) (nd:Nat×Nat):Prop where
 le:E<=at_
 win:at_-E<=4095
 is:norm (EH l at_ (at_-E))=nd
theorem At.start(l:List Nat)(at_:Nat):At l at_ at_ (0,0):=⟨Ak _,mw,by rw[Gx];rfl⟩
theorem NY{at_:Nat}(_i:at_+3<=l.length)(hk:BN l q≠BN l at_):alike l q at_<3:=by
 rcases Nat.lt_or_ge (alike l q at_) 3 with h|h
 ·exact h
 ·exact absurd (WA h) hk
theorem At.next{at_:Nat}{nd:Nat×Nat}(h:At l at_ E nd)(hf:at_+3<=l.length)(hp:BE l (BN l at_) E=some p)(hw:at_-p<=4095):
 At l at_ p (if nd.1<alike l p at_ then(alike l p at_,at_-p)else nd):=by
 obtain⟨h1,h2,h3,h4⟩:=JX hp;have j:=h.le;refine⟨mw,hw,?_⟩;have e1:at_-p=(at_-p-1)+1:=mw
 have i:norm (EH l at_ (at_-p-1))=nd:=by rw[<-h.is];refine MN mw fun d hd1 hd2=>NY hf (h4 (at_-d) mw mw mw)
 rw[e1,EH,<-e1];have e2:at_-(at_-p)=p:=mw
 rw[QS _ (by rw[e2];exact lK h3 hf),i,e2]
theorem At.none{at_:Nat}{nd:Nat×Nat}(h:At l at_ E nd)(hf:at_+3<=l.length)(hp:BE l (BN l at_) E=none):norm (Bd l at_)=nd:=by rw[<-h.is];have i:=h.le;have hw:=h.win;exact MN mw fun d hd1 hd2=>NY hf (Sr hp (at_-d) mw mw)
theorem At.far{at_:Nat}{nd:Nat×Nat}(h:At l at_ E nd)(hf:at_+3<=l.length)(hp:BE l (BN l at_) E=some p)(hw:4095<at_-p):norm (Bd l at_)=nd:=by obtain⟨h1,h2,h3,h4⟩:=JX hp;rw[<-h.is];have i:=h.le;have hw:=h.win;exact MN mw fun d hd1 hd2=>NY hf (h4 (at_-d) mw mw mw)
theorem At.full{at_:Nat}{nd:Nat×Nat}(h:At l at_ E nd)(i:nd.1=257):norm (Bd l at_)=nd:=by rw[<-h.is];have j:=h.le;have hw:=h.win;exact So (by rw[h.is];exact i) mw
theorem Yq{at_:Nat}(h:l.length<at_+3):norm (Bd l at_)=(0,0):=by have hg:=L1 l at_;unfold norm;rw[Aa];intro h3;have:=Ku (l:=l) (at_:=at_) mw;omega
theorem X3{at_:Nat}(h:3<=(Bd l at_).1):norm (Bd l at_)=Bd l at_:=Ab h
theorem fL{at_:Nat}(h:¬3<=(Bd l at_).1):norm (Bd l at_)=(0,0):=Aa h
end Lz
namespace Lz
open Go.RowKit Mem Own Canon
theorem Rv(w:World)(A:Option Addr)(n c:Nat)(ls:List Nat)(at_:Nat)(hn:ls.length=n)(hN:n<=1000000)(hf:at_+3<=n)(ha:Row w w A n 1 (jZ .u8 ls)):
 Calls prog 279 #[.slice A n c,at_] w fun e w'=>e= .returned (.agg #[.int .u8 (ls.getD at_ 0:Nat), .int .u8 (ls.getD (at_+1) 0:Nat), .int .u8 (ls.getD (at_+2) 0:Nat)])/\Below w w w':=by
 obtain⟨b,j,rfl,hb,hc⟩:=ha mw;have c0:=hc at_ 0 mw mw;have c1:=hc (at_+1) 0 mw mw;have c2:=hc (at_+2) 0 mw mw;simp only[jZ,Nat.mul_one,Nat.add_zero]at c0 c1 c2;have s1:IntKind.i64.wrap ((at_:Int)+1)=((at_+1:Nat):Int):=m8
 have s2:IntKind.i64.wrap ((at_:Int)+2)=((at_+2:Nat):Int):=m8
 generalize ls.getD at_ 0=x0 at *;generalize ls.getD (at_+1) 0=x1 at *;generalize ls.getD (at_+2) 0=x2 at *;obtain⟨i1,i⟩:=ii (at_+1);obtain⟨i2,h⟩:=ii (at_+2);rw[<-i]at c1 s1;rw[<-h]at c2 s2;have y0:(0:Int)<=(at_:Int):=mw
 have y1:(at_:Int)<(n:Int):=mw
 have y2:(0:Int)<=(i1:Int):=mw
 have y3:(i1:Int)<(n:Int):=mw
 have y4:(0:Int)<=(i2:Int):=mw
 have y5:(i2:Int)<(n:Int):=mw
 have nb:b≠w.heap.size:=mw
 clear ha hc i h hn;go_enter func279,ntmps279;go_upto_region 1 with fail;go_region;go_wp2_with fail;refine Cz (v:= .agg #[.int .u8 x0, .int .u8 x1, .int .u8 x2]) ?_ rfl ⟨rfl,?_⟩
 ·simp[results,results279,go_sem]
 ·(repeat (with_reducible first|exact Ag _ _|assumption|refine Ar ?_ |refine below_drewN ?_ _|refine sZ ?_ |refine aZ ?_ |refine dZ im ?_ |refine belA ?_ |refine tZ im ?_))
theorem eD(w:World)(A:Option Addr)(n c:Nat)(ls:List Nat)(p at_:Nat)(hn:ls.length=n)(hN:n<=1000000)(hp:p<=at_)(U:at_<=n)(ha:Row w w A n 1 (jZ .u8 ls)):
 Calls prog 280 #[.slice A n c,p,at_] w fun e w'=>e= .returned (.int .i64 (alike ls p at_:Nat))/\Below w w w':=by
 obtain⟨R,hR⟩:=ii (alike ls p at_);rw[<-hR];have HR:Hid (∀k,IsAlike ls p at_ k->k=R):=fun k h=>(VT h).symm.trans hR.symm;have HA:=hid ha;have HN:=hid hn;clear ha hn hR;go_enter func280,ntmps280;go_wp2_with fail;go_loopw [7] (fun i wr=>∃k:Nat,k<=257/\i= .int .i64 k/\Hid (k=0∨at_+k<=n)/\Hid (∀j,j<k->ls.getD (p+j) 0=ls.getD (at_+j) 0)/\Hid (Below w w wr)) (fun i _=>257-(intOf i).toNat)
 case atStart=>exact⟨0,mw,rfl, .inl rfl,fun j hj=>absurd hj mw,Ag _ _⟩
 case round=>
  obtain⟨k,hk,rfl,HF,HS,HB⟩:=hrel;by_cases G:k<257
  ·have g1:=ic ((k:Int)<257);have L:=ic (k<257);have s1:IntKind.i64.wrap ((at_:Int)+(k:Int))=((at_+k:Nat):Int):=m8;have s2:IntKind.i64.wrap ((p:Int)+(k:Int))=((p+k:Nat):Int):=m8;obtain⟨i1,E⟩:=ii (at_+k);obtain⟨i2,z⟩:=ii (p+k);rw[<-E]at s1;rw[<-z]at s2;by_cases J:i1<n
   ·obtain⟨b,Y,rfl,hb,hc⟩:=HA.out mw;have c1:=(HB.out.cell (p:=⟨b,_,none⟩) hb).trans (hc i1 0 J mw);have c2:=(HB.out.cell (p:=⟨b,_,none⟩) hb).trans (hc i2 0 mw mw);simp only[jZ,Nat.mul_one,Nat.add_zero]at c1 c2;have g2:=ic ((i1:Int)<n);have N:=ic (i1<n);have y2:(0:Int)<=(i1:Int):=mw;have y3:(i1:Int)<(n:Int):=mw;have y4:(0:Int)<=(i2:Int):=mw;have y5:(i2:Int)<(n:Int):=mw;by_cases he:ls.getD i2 0=ls.getD i1 0
    ·have Q:Hid (∀j,j<k+1->ls.getD (p+j) 0=ls.getD (at_+j) 0):=fun j hj=>by
      by_cases e:j<k
      ·exact HS.out j e
      ·obtain rfl:j=k:=by omega
       rw[<-E,<-z];exact he
     rw[he]at c2;have M:Hid (k+1=0∨at_+(k+1)<=n):= .inr mw;generalize ls.getD i1 0=x at *;have g3:((x:Int)==(x:Int))=true:=oK;clear hc he HS HF E z;go_wp2_with fail;go_quiet (fail);go_wp2_with fail;go_roundw
     case measure=>exact jo
     case rel=>go_light;exact⟨k+1,mw,jp,M.out,Q.out,below_drewN HB.out _⟩
    ·have HK:Hid (k=R):=HR.out k ⟨hk,jx,HS.out,fun h=>he (by rw[E,z];exact h.2.2)⟩;have g3:(((ls.getD i2 0:Nat):Int)==((ls.getD i1 0:Nat):Int))=false:=(by rw[Jl];intro h;rw[beq_iff_eq]at h;exact he mw);generalize ls.getD i1 0=x at *;generalize ls.getD i2 0=y at *;clear hc he HS HF E z;go_wp2_with fail;go_quiet (fail);go_wp2_with fail;go_ret;exact⟨Hy (by rw[<-HK.out]),below_drewN HB.out _⟩
   ·have HK:Hid (k=R):=HR.out k ⟨hk,jx,HS.out,fun h=>J (by have:=h.2.1;rw[HN.out]at this;omega)⟩;have g2:=ig ((i1:Int)<n);have N:=ig (i1<n);clear HS HF E z J;go_wp2_with fail;go_quiet (fail);go_wp2_with fail;go_ret;exact⟨Hy (by rw[<-HK.out]),below_drewN HB.out _⟩
  ·have HK:Hid (k=R):=HR.out k ⟨hk,jx,HS.out,fun h=>G h.1⟩;have g1:=ig ((k:Int)<257);have L:=ig (k<257);clear HS HF G;go_wp2_with fail;go_quiet (fail);go_wp2_with fail;go_ret;exact⟨Hy (by rw[<-HK.out]),below_drewN HB.out _⟩
end Lz
namespace Lz
open Go.RowKit Go.Maps Mem Own
theorem fF:laidOutB prog=true:=mr
theorem iL:(match prog.underlying 366 with|some (.array _ _)|some (.struct _)=>true|_=>false)=true:=mr
theorem law3:Keyed prog 366:=Keyed.of_law (deep_law_laid fF (m:=2) mw (of_decide_eq_true mr) mr iL)
def k3v(x y z:Nat):Value:= .agg #[.int .u8 x, .int .u8 y, .int .u8 z]
def K3(x y z:Nat):Lit:= .string (keyBytes [.int .u8 x, .int .u8 y, .int .u8 z])
theorem dG:prog.keyType 366=true:=mr
theorem U7:prog.cellsOf 366=3:=mr
theorem W8:∃e,prog.underlying 366=some (.array 3 e)/\prog.underlying e=some (.int .u8)/\prog.cellsOf e=1:=⟨5,mr,mr,mr⟩
theorem wf8(h:x<=255):(Lit.int .u8 (x:Int)).wf=true:=by simp[Lit.wf,IntKind.min,IntKind.max,IntKind.signed,IntKind.bits];omega
theorem bR:∃d,prog.types.size+1=d+2:=⟨prog.types.size-1,by have:1<=prog.types.size:=of_decide_eq_true mr;omega⟩
theorem Lh(hx:x<=255)(hy:y<=255)(hz:z<=255):keyOf prog 366 (k3v x y z)=some (K3 x y z):=by
 obtain⟨e,h1,h2,h3⟩:=W8;obtain⟨d,hd⟩:=bR;have hf:(k3v x y z).formed prog 366=true:=by simp[Value.formed,k3v,h1,U7]
 unfold keyOf;rw[h1];simp only[dG,hf,Bool.and_self,if_true,hd];unfold k3v K3;simp[Program.keyLits,h1,h2,h3,U7,Value.cells,List.range_succ,wf8 hx,wf8 hy,wf8 hz]
theorem WK{x' y' z':Nat}(hx:x<=255)(hy:y<=255)(hz:z<=255)(j:x'<=255)(E:y'<=255)(i:z'<=255)(h:K3 x y z=K3 x' y' z'):(x,y,z)=(x',y',z'):=by have e:=law3.inj (Lh hx hy hz) (by rw[h];exact Lh j E i);unfold k3v at e;simp at e;simp;omega
theorem Ta(hx:x<=255)(hy:y<=255)(hz:z<=255):WideAt.IsKeyLit (K3 x y z):=law3.key (Lh hx hy hz)
def MapIs(l:List Nat)(n:Nat)(D:DataW Unit):Prop:=
 IsMap D/\∀x y z,x<=255->y<=255->z<=255->(∀p,BE l (x,y,z) n=some p->has D (K3 x y z)=true/\∀zd,D.atKey (K3 x y z) zd= .lit (.int .i64 (p:Int)))/\(BE l (x,y,z) n=none->has D (K3 x y z)=false)
theorem MapIs.start(l:List Nat):MapIs l 0 (.map []):=⟨isMap_empty,fun x y z _ _ _=>⟨fun p h=>absurd h (by simp[BE]),fun _=>rfl⟩⟩
theorem MapIs.skip{D:DataW Unit}(h:MapIs l n D)(hn:l.length<n+3):MapIs l (n+1) D:=by refine⟨h.1,fun x y z hx hy hz=> ?_⟩;rw[BE,Aa mw];exact h.2 x y z hx hy hz
theorem MapIs.put{D:DataW Unit}(h:MapIs l n D)(h8:∀c∈l,c<=255)(hn:n+3<=l.length):MapIs l (n+1) (D.put (K3 (l.getD n 0) (l.getD (n+1) 0) (l.getD (n+2) 0)) (.lit (.int .i64 (n:Int)))):=by
 have hg:∀i,i<l.length->l.getD i 0<=255:=fun i hi=>mX
 have g0:=hg n mw;have g1:=hg (n+1) mw;have g2:=hg (n+2) mw;refine⟨h.1.put _ _,fun x y z hx hy hz=> ?_⟩;rw[BE];by_cases hk:BN l n=(x,y,z)
 ·rw[Ab ⟨hn,hk⟩];unfold BN at hk;simp only[Prod.mk.injEq]at hk;rw[hk.1,hk.2.1,hk.2.2];refine⟨fun p hp=> ?_,fun hp=>by cases hp⟩;injection hp with hp;subst hp;exact⟨has_put_same h.1 (Ta hx hy hz) _,fun zd=>atKey_put_same h.1 (Ta hx hy hz) _ _⟩
 ·rw[Aa (fun h=>hk h.2)];have j:K3 x y z≠K3 (l.getD n 0) (l.getD (n+1) 0) (l.getD (n+2) 0):=fun e=>hk (WK hx hy hz g0 g1 g2 e).symm;obtain⟨i1,i2⟩:=h.2 x y z hx hy hz;refine⟨fun p hp=> ?_,fun hp=> ?_⟩
  ·rw[has_put_other j];exact⟨(i1 p hp).1,fun zd=>by rw[atKey_put_other j];exact(i1 p hp).2 zd⟩
  ·rw[has_put_other j];exact i2 hp
def I0(o:Option Nat):Int:=match o with
 |some p=>(p:Nat)
 |none=>0
theorem dY(w:World):(zeroValue 3).run prog w= .ok (.int .i64 0) w:=mz
theorem UV{D:DataW Unit}(h:w.ownsMap prog 366 (plainElem prog 3) b m D)(hD:MapIs l n D)(hx:x<=255)(hy:y<=255)(hz:z<=255):
 (Instr.lookup 305 (.map (some b)) (k3v x y z) true).run prog w= .ok (.tuple #[.int .i64 (I0 (BE l (x,y,z) n)), .bool (BE l (x,y,z) n).isSome]) w:=by
 obtain⟨v,ps,i,hv⟩:=h.look_ok law3 underlying305 (dY w) (plainElem_int underlying3 ip) (Lh hx hy hz);obtain⟨a,rfl,ha,_⟩:=plainElem_int_inv underlying3 hv;simp only[Prod.mk.injEq]at ha;rw[i];obtain⟨i1,i2⟩:=hD.2 x y z hx hy hz;cases hl:BE l (x,y,z) n with
 |none=>have hh:=i2 hl;rw[hh];have j:=atKey_of_not_has hh (DataW.lit (.int .i64 0):DataW Unit);rw[j]at ha;injection ha.1 with e;injection e with _ e;rw[<-e];rfl
 |some p=>have hh:=i1 p hl;rw[hh.1];rw[hh.2]at ha;injection ha.1 with e;injection e with _ e;rw[<-e];rfl
end Lz
namespace Lz
open Go.RowKit Go.Maps Mem Own Canon
def GD(l:List Int):List Value:=l.map (Value.int .i64)
theorem XH(l:List Int)(x:Int):GD (l++ [x])=GD l++ [.int .i64 x]:=by simp[GD]
theorem info_int:(prog.info? 3).map (fun i=>(i.zero,i.size,i.bytes))=some (some (.int .i64 0),1,8):=mr
structure Ch (w:World) (cb mb base:Nat) (l:List Nat) (n m:Nat) (D:DataW Unit) (pv:Value) (ps:List Int):Prop where
 blk:Blk w cb 307 #[.map (some mb),pv]
 map:w.ownsMap prog 366 (plainElem prog 3) mb m D
 prev:w.ownsRow base 3 1 pv n (GD ps)
 lo:base<=cb
 lm:base<=mb
section
variable {w w':World} {cb mb base:Nat} {l:List Nat} {n m:Nat} {D:DataW Unit} {pv:Value} {ps:List Int}
theorem R8{t:TypeId}{cs:Array Value}{fz:Nat×Nat}(h:w.ownsMap prog 366 (plainElem prog 3) b m D)(hg:w.heap[g]? =some (.cells cs t fz)):b≠g:=by intro e;subst e;obtain⟨es,i,hb,_⟩:=h;rw[hb]at hg;cases hg
theorem Kb{n' s':Nat}{v:Value}(h:w.ownsMap prog 366 (plainElem prog 3) b m D)(ho:w.ownsRow i e s' v n' xs):v.ownBlock≠some b:=by
 intro hv;rcases ho.2 with ⟨rfl,_⟩|⟨g,j,cur,rfl,_,hg,_⟩
 ·simp[Value.ownBlock]at hv
 ·simp[Value.ownBlock]at hv;subst hv;exact R8 h hg rfl
theorem Lr(h:w.ownsMap prog 366 (plainElem prog 3) b m D)(hk:w'.heap[b]? =w.heap[b]?):w'.ownsMap prog 366 (plainElem prog 3) b m D:=by obtain⟨es,i,hb,rest⟩:=h;exact⟨es,i,hk.trans hb,rest⟩
theorem Ch.drew(h:Ch w cb mb base l n m D pv ps):Ch w.drew cb mb base l n m D pv ps:=⟨h.blk,h.map,h.prev,h.lo,h.lm⟩
theorem Ch.alloc(h:Ch w cb mb base l n m D pv ps)(o:Obj):Ch (w.alloc o) cb mb base l n m D pv ps:=⟨h.blk.alloc o,h.map.alloc o,h.prev.alloc o,h.lo,h.lm⟩
theorem Ch.more(h:Ch w cb mb base l n m D pv ps):Ch w cb mb base l n (m+1) D pv ps:=⟨h.blk,h.map.mono (Nat.le_succ _),h.prev,h.lo,h.lm⟩
theorem Ch.ne(h:Ch w cb mb base l n m D pv ps):mb≠cb:=R8 h.map h.blk
theorem Ch.step(h:Ch w cb mb base l n m D pv ps)(hb:Below w w w'):Ch w' cb mb base l n m D pv ps:=
 ⟨h.blk.step hb,Lr h.map (hb.block mb h.map.lt),eZ h.prev (fun x hx=>hb.block x (Aj h.prev x hx).2),h.lo,h.lm⟩
end
def Out(cb mb:Nat)(pv:Value)(w:World)(x:Nat):Prop:=x<w.heap.size/\x≠cb/\x≠mb/\pv.ownBlock≠some x
def Lc(pv pv':Value)(w:World):Prop:=pv'.ownBlock=pv.ownBlock∨∃x,pv'.ownBlock=some x/\w.heap.size<=x
theorem Ch.push{w4:World}{D:DataW Unit}{v4:Value}{o:Obj}(h:Ch w cb mb base l n m D pv ps)(hg:(w.alloc o).grownBy w4 pv.ownBlock)(i:w4.ownsRow base 3 1 v4 (n+1) (GD ps++ [.int .i64 (-1)]))
 (y:v4.ownBlock=pv.ownBlock∨v4.ownBlock=some (w.alloc o).heap.size):
 Ch (w4.setCell ⟨cb,1,none⟩ v4) cb mb base l (n+1) m D v4 (ps++ [-1])/\Lc pv v4 w/\Kept (Out cb mb pv w) w (w4.setCell ⟨cb,1,none⟩ v4):=by
 have j:=(h.blk.alloc o).grown hg (fun e=>gZ h.prev h.blk ip e.symm);refine⟨⟨j.set 1 _,?_,?_,h.lo,h.lm⟩,?_,?_⟩
 ·refine Lr h.map ((AR w4 _ _ mb h.ne).trans ((hg.block mb (by have:=h.map.lt;simp;omega) (fun e=>Kb h.map h.prev e.symm)).trans (DJ w o mb h.map.lt)))
 ·rw[XH];exact eZ i fun x hx=>AR w4 _ _ x (fun e=>gZ i j ip (hx.trans (Aw some e)))
 ·rcases y with h1|h1
  ·exact .inl h1
  ·exact .inr ⟨_,h1,oK⟩
 ·exact(((Kept.refl _ w).alloc (fun k hk=>hk.1) o).grown hg (fun k hk=>by have:=hk.1;simp;omega) (fun k hk=>by intro h2;exact h2.2.2.2 hk)).set (fun h2=>h2.2.1 rfl) _
theorem Z6(w:World)(cb mb base:Nat)(ls:List Nat)(A:Option Addr)(n c at_:Nat)(D:DataW Unit)(pv:Value)(ps:List Int)(hN:n<=1000000)(N:at_<=n)(L:n<at_+3)(M:base<=w.heap.size)(h:Ch w cb mb base ls at_ at_ D pv ps):
 Calls prog 229 #[.pointer (some ⟨cb,0,none⟩), .slice A n c,at_] w fun e w'=>e= .returned (.tuple #[])/\∃pv',Ch w' cb mb base ls (at_+1) (at_+1) D pv' (ps++ [-1])/\Lc pv pv' w/\Kept (Out cb mb pv w) w w':=by
 obtain⟨j0,z,E,J,G⟩:=info_parts info_int;obtain⟨pa,pc,rfl⟩:=bZ h.prev;have d0:=h.blk.ia 0;have d1:=h.blk.ia 1;have H:=hid h;have s1:IntKind.i64.wrap ((at_:Int)+3)=(at_:Int)+3:=m4
 have g1:=ic ((n:Int)<(at_:Int)+3)
 clear h;go_enter func229,ntmps229;go_wp2_with(at_builtin;refine iZ rfl (.tmp 13) (.tmp 14) 37 rfl base 3 j0 _ 1 8 underlying37 z E J G rfl ip _ _ _ mz (H.out.prev.alloc _) _ 1 1 [.int .i64 (-1)] mz (Src.of_blk (Blk.made _ _ _) 1 1 1 rfl) mj pm mw oT ?_;intro v4 w4 i j y;obtain⟨A4,k4,rfl⟩:=bZ i;have q1:w4.cell? ⟨cb,1,none⟩=some (.slice pa at_ pc):=(((H.out.blk.alloc _).grown j (fun e=>gZ H.out.prev H.out.blk ip e.symm))).cell 1;have q0:w4.cell? ⟨cb,0,none⟩=some (.map (some mb)):=(((H.out.blk.alloc _).grown j (fun e=>gZ H.out.prev H.out.blk ip e.symm))).cell 0;have qf:w4.frozen? ⟨cb,1,none⟩=false:=(((H.out.blk.alloc _).grown j (fun e=>gZ H.out.prev H.out.blk ip e.symm))).frozen 1);refine Cz (BJ rfl _ _ _) rfl ?_;have hp:=H.out.push j i y;exact⟨rfl,_,hp.1.more,hp.2⟩
theorem Ri(h:w.ownsRow base e 1 (.slice (some ⟨g,0,none⟩) n c) n xs)(u:Value)(_z:i<n):(w.setCell ⟨g,i,none⟩ u).ownsRow base e 1 (.slice (some ⟨g,0,none⟩) n c) n (xs.set i u):=by
 refine⟨by rw[List.length_set];exact h.1,?_⟩;rcases h.2 with ⟨hv,_⟩|⟨g',y,cur,hv,hb,hg,h1,h2,h3,h4⟩
 ·cases hv
 ·injection hv with e1 e2 e3;injection e1 with e1;injection e1 with e1;subst e1 e3;have j:Blk w g e cur:=hg;refine .inr ⟨g,c,cur.setIfInBounds i u,rfl,hb,j.set i u,h1,h2,by simpa using h3,?_⟩;rw[<-h4];simp[List.take_set]
theorem own_cells(h:w.ownsRow base e 1 (.slice (some ⟨g,0,none⟩) n c) n xs)(hi:i<n):w.cell? ⟨g,i,none⟩=xs[i]? /\w.frozen? ⟨g,i,none⟩=false/\base<=g:=by
 rcases h.2 with ⟨hv,_⟩|⟨g',y,cur,hv,hb,hg,h1,h2,h3,h4⟩
 ·cases hv
 ·injection hv with e1 e2 e3;injection e1 with e1;injection e1 with e1;subst e1 e3;have j:Blk w g e cur:=hg;refine⟨?_,j.frozen i,hb⟩;rw[j.cell i,<-h4,List.getElem?_take_of_lt mw];simp
theorem Ch.put{D:DataW Unit}(h:Ch w cb mb base l n m D (.slice (some ⟨g,0,none⟩) n c) ps)(x:Int)(hi:i<n):Ch (w.setCell ⟨g,i,none⟩ (.int .i64 x)) cb mb base l n m D (.slice (some ⟨g,0,none⟩) n c) (ps.set i x):=by
 have y:g≠cb:=fun e=>gZ h.prev h.blk ip (Aw some e);have j:g≠mb:=fun e=>Kb h.map h.prev (Aw some e);refine⟨h.blk.far y.symm _,Lr h.map (AR w _ _ mb j.symm),?_,h.lo,h.lm⟩;have:=Ri h.prev (.int .i64 x) hi;have e:GD (ps.set i x)=(GD ps).set i (.int .i64 x):=by simp[GD,List.map_set]
 rw[e];exact this
theorem Ch.upd{w':World}{D D':DataW Unit}(h:Ch w cb mb base l n m D pv ps)(r1:w'.ownsMap prog 366 (plainElem prog 3) mb (m+1) D')(r2:w.grownBy w' (some mb)):Ch w' cb mb base l n (m+1) D' pv ps:=by
 refine⟨h.blk.grown r2 (fun e=> ?_),r1,eZ h.prev fun x hx=>r2.block x (Aj h.prev x hx).2 (fun e=> ?_),h.lo,h.lm⟩
 ·injection e with e;exact h.ne e.symm
 ·injection e with e;subst e;exact Kb h.map h.prev hx
theorem JV{w5 w6:World}(h:Kept (Out cb mb pv w) w w5)(hb:Below w5 w5 w6):Kept (Out cb mb pv w) w w6:=h.trans (Kept.of_below hb fun _ hx=>Eh hx.1 h.size)
theorem Q6(h:Lc pv (.slice (some ⟨g,0,none⟩) n c) w):¬Out cb mb pv w g:=by
 intro ho;rcases h with h|⟨x,h,hx⟩
 ·exact ho.2.2.2 h.symm
 ·have:g=x:=by simpa[Value.ownBlock]using h
  have:=ho.1;omega
theorem UY(o:Option Nat):(o=none/\o.isSome=false)∨∃p,o=some p/\o.isSome=true/\I0 o=(p:Int):=by
 cases o with
 |none=>exact .inl ⟨rfl,rfl⟩
 |some p=>exact .inr ⟨p,rfl,rfl,rfl⟩
theorem cW(w:World)(cb mb base:Nat)(ls:List Nat)(A:Option Addr)(n c at_:Nat)(D:DataW Unit)(pv:Value)(ps:List Int)(hn:ls.length=n)(hN:n<=1000000)(a0:at_+3<=n)(a6:base<=w.heap.size)(h8:∀x∈ls,x<=255)(N:ps.length=at_)
 (ha:Row w base A n 1 (jZ .u8 ls))(hD:MapIs ls at_ D)(h:Ch w cb mb base ls at_ at_ D pv ps):
 Calls prog 229 #[.pointer (some ⟨cb,0,none⟩), .slice A n c,at_] w fun e w'=>e= .returned (.tuple #[])/\∃pv',Ch w' cb mb base ls (at_+1) (at_+1) (D.put (K3 (ls.getD at_ 0) (ls.getD (at_+1) 0) (ls.getD (at_+2) 0)) (.lit (.int .i64 (at_:Int)))) pv' (ps++ [Hk ls at_])/\Lc pv pv' w/\Kept (Out cb mb pv w) w w':=by
 obtain⟨j0,ar,ay,av,az⟩:=info_parts info_int;obtain⟨pa,pc,rfl⟩:=bZ h.prev;have d0:=h.blk.ia 0;have d1:=h.blk.ia 1;have hg:∀i,i<ls.length->ls.getD i 0<=255:=fun i hi=>mX
 have g0:=hg at_ mw;have ag:=hg (at_+1) mw;have g2:=hg (at_+2) mw;have D1:Hid (∀wx,Below base w wx->Calls prog 279 #[.slice A n c,at_] wx fun e w'=>e= .returned (.agg #[.int .u8 (ls.getD at_ 0), .int .u8 (ls.getD (at_+1) 0), .int .u8 (ls.getD (at_+2) 0)])/\Below wx wx w'):=fun wx hb=>Rv wx A n c ls at_ hn hN a0 ((ha.below hb).mono mf);have al:BN ls at_=(ls.getD at_ 0,ls.getD (at_+1) 0,ls.getD (at_+2) 0):=rfl;have af:Hk ls at_=Hi (BE ls (ls.getD at_ 0,ls.getD (at_+1) 0,ls.getD (at_+2) 0) at_):=by unfold Hk;rw[Ab mw,al]
 rw[af];have au:Hid (∀ (wx:World) pv' ps' n' m,Ch wx cb mb base ls n' m D pv' ps'->(Instr.lookup 305 (.map (some mb)) (.agg #[.int .u8 (ls.getD at_ 0), .int .u8 (ls.getD (at_+1) 0), .int .u8 (ls.getD (at_+2) 0)]) true).run prog wx= .ok (.tuple #[.int .i64 (I0 (BE ls (ls.getD at_ 0,ls.getD (at_+1) 0,ls.getD (at_+2) 0) at_)), .bool (BE ls (ls.getD at_ 0,ls.getD (at_+1) 0,ls.getD (at_+2) 0) at_).isSome]) wx):=fun wx pv' ps' n' m hc=>UV hc.map hD g0 ag g2;have M:=Lh g0 ag g2;unfold k3v at M;have aw:=UY (BE ls (ls.getD at_ 0,ls.getD (at_+1) 0,ls.getD (at_+2) 0) at_);have aj:∀p,BE ls (ls.getD at_ 0,ls.getD (at_+1) 0,ls.getD (at_+2) 0) at_=some p->p<at_:=fun p hp=>(JX hp).1;generalize BE ls (ls.getD at_ 0,ls.getD (at_+1) 0,ls.getD (at_+2) 0) at_=lo at *;generalize ls.getD at_ 0=x at *;generalize ls.getD (at_+1) 0=y at *;generalize ls.getD (at_+2) 0=z at *;have H:=hid h;have U:=hid M;have ai:=hid N;have s1:IntKind.i64.wrap ((at_:Int)+3)=(at_:Int)+3:=m4
 have g1:=ig ((n:Int)<(at_:Int)+3)
 clear h hD ha h8 hg al af M hn N;go_enter func229,ntmps229;go_wp2_with(at_builtin;refine iZ rfl (.tmp 13) (.tmp 14) 37 rfl base 3 j0 _ 1 8 underlying37 ar ay av az rfl ip _ _ _ mz (H.out.prev.alloc _) _ 1 1 [.int .i64 (-1)] mz (Src.of_blk (Blk.made _ _ _) 1 1 1 rfl) mj pm mw oT ?_;intro v4 w4 J L Z;obtain⟨A4,k4,rfl⟩:=bZ J;have q1:w4.cell? ⟨cb,1,none⟩=some (.slice pa at_ pc):=(((H.out.blk.alloc _).grown L (fun e=>gZ H.out.prev H.out.blk ip e.symm))).cell 1;have q0:w4.cell? ⟨cb,0,none⟩=some (.map (some mb)):=(((H.out.blk.alloc _).grown L (fun e=>gZ H.out.prev H.out.blk ip e.symm))).cell 0;have qf:w4.frozen? ⟨cb,1,none⟩=false:=(((H.out.blk.alloc _).grown L (fun e=>gZ H.out.prev H.out.blk ip e.symm))).frozen 1);have E:=H.out.push L J Z;have F1:=hid E.1;have F2:=hid E.2;have a1:w.heap.size+1<=w4.heap.size:=by have:=L.size;simp at this;omega
 have ax:Hid (Below base w (w4.setCell ⟨cb,1,none⟩ (.slice A4 (at_+1) k4))):=by have:=E.2.2.below (fun x (hx:x<base)=>(⟨mw,by have:=H.out.lo;omega,by have:=H.out.lm;omega,fun e=>by have:=(Aj H.out.prev x e).1;omega⟩:Out cb mb _ w x));exact this
 have Y:(w4.setCell ⟨cb,1,none⟩ (.slice A4 (at_+1) k4)).heap.size=w4.heap.size:=oK
 rw[<-Y]at a1;clear E q1 q0 qf J Z L d0 d1 Y;generalize w4.setCell ⟨cb,1,none⟩ (.slice A4 (at_+1) k4)=w5 at *;refine(D1.out w5 ax.out).mono ?_;rintro e w6 ⟨rfl,G⟩;have F3:=hid (F1.out.step G);have dm:=F3.out.blk.ia 0;have dp:=F3.out.blk.ia 1;obtain⟨gp,cp,hA⟩:=IP F3.out.prev;injection hA with e1 _ e3;subst e1 e3;have F4:=hid (F3.out.alloc (.cells #[.int .u8 x, .int .u8 y, .int .u8 z] 366));have hl:=au.out _ _ _ _ _ F4.out.drew;obtain⟨oc,aq,ob⟩:=own_cells (i:=at_) F4.out.drew.prev mw;have ah:gp≠cb:=fun e=>gZ F4.out.prev F4.out.blk ip (Aw some e);have a9:=hid ah;have ak:(GD (ps++ [-1]))[at_]? =some (.int .i64 (-1)):=by unfold GD;have:=ai.out;simp[<-this]
 rw[ak]at oc;clear dm dp ah ak;have dm:=F4.out.drew.blk.ia 0;have dp:=F4.out.drew.blk.ia 1;have Q:Blk (w6.alloc (.cells #[.int .u8 x, .int .u8 y, .int .u8 z] 366)).drew w6 366 #[.int .u8 x, .int .u8 y, .int .u8 z]:=(Blk.made _ _ _).drew;have z0:=Q.ia 0;have z1:=Q.ia 1;have z2:=Q.ia 2;clear Q;have oz:=ic ((at_:Int)<((at_+1:Nat):Int))
 have a5:¬(at_:Int)<0:=mw
 have a4:=F3.out.blk.lt;have a3:gp<w6.heap.size:=(Aj F3.out.prev gp rfl).2;rcases aw with ⟨rfl,hs⟩|⟨p,rfl,hs,hv⟩
 ·rw[hs]at hl;clear hs
  change (Instr.lookup _ _ _ _).run _ _= .ok (.tuple #[.int .i64 (0:Int),_]) _ at hl
  go_upto_region 3 with fail;go_region_held3 (fun wx=>wx.cell? ⟨cb,0,none⟩=some (.map (some mb))/\wx.cell? ⟨w6,0,none⟩=some (.int .u8 x)/\wx.cell? ⟨w6,1,none⟩=some (.int .u8 y)/\wx.cell? ⟨w6,2,none⟩=some (.int .u8 z)/\(Instr.lookup 305 (.map (some mb)) (.agg #[.int .u8 x, .int .u8 y, .int .u8 z]) true).run prog wx= .ok (.tuple #[.int .i64 (0:Int),false]) wx) (exact⟨dm,z0,z1,z2,hl⟩) (fail);go_upto_region 6 with fail;have F6:=hid F4.out.drew.drew;have j:Blk (w6.alloc (.cells #[.int .u8 x, .int .u8 y, .int .u8 z] 366)).drew.drew w6 366 #[.int .u8 x, .int .u8 y, .int .u8 z]:=(Blk.made _ _ _).drew.drew;obtain⟨w9,am,r1,r2⟩:=F6.out.map.update (val:= .int .i64 (at_:Int)) (d:= .lit (.int .i64 (at_:Int))) (ps:= []) law3 underlying305 pm U.out (plainElem_int underlying3 (WalkArith.wf_i64 mw));have ab:=F6.out.blk.ia 0;have ac:=j.ia 0;have ae:=j.ia 1;have aa:=j.ia 2;clear j;clear hl dm dp z0 z1 z2 oc aq aj;go_region;refine bodyPost_end (BJ rfl _ _ _) rfl ?_;exact⟨rfl,_,F6.out.upd r1 r2,F2.out.1,((((JV F2.out.2 G).alloc ((JV F2.out.2 G).lt fun k hk=>hk.1) _).drew.drew).grown r2 (((JV F2.out.2 G).alloc ((JV F2.out.2 G).lt fun k hk=>hk.1) _).drew.drew.lt fun k hk=>hk.1) (fun k e hk=>by injection e with e;exact hk.2.2.1 e.symm))⟩
 ·rw[hs,hv]at hl;clear hs hv;go_upto_region 3 with fail;go_region_held3 (fun wx=>wx.cell? ⟨cb,0,none⟩=some (.map (some mb))/\wx.cell? ⟨w6,0,none⟩=some (.int .u8 x)/\wx.cell? ⟨w6,1,none⟩=some (.int .u8 y)/\wx.cell? ⟨w6,2,none⟩=some (.int .u8 z)/\(Instr.lookup 305 (.map (some mb)) (.agg #[.int .u8 x, .int .u8 y, .int .u8 z]) true).run prog wx= .ok (.tuple #[.int .i64 (p:Int),true]) wx) (exact⟨dm,z0,z1,z2,hl⟩) (fail);go_upto_region 6 with fail;have F6:=hid (((F3.out.put (i:=at_) (p:Int) mw).alloc (.cells #[.int .u8 x, .int .u8 y, .int .u8 z] 366)).drew.drew);have j:Blk ((w6.setCell ⟨gp,at_,none⟩ (.int .i64 (p:Int))).alloc (.cells #[.int .u8 x, .int .u8 y, .int .u8 z] 366)).drew.drew w6 366 #[.int .u8 x, .int .u8 y, .int .u8 z]:=(Blk.made_at _ _ _ oK).drew.drew;obtain⟨w9,am,r1,r2⟩:=F6.out.map.update (val:= .int .i64 (at_:Int)) (d:= .lit (.int .i64 (at_:Int))) (ps:= []) law3 underlying305 pm U.out (plainElem_int underlying3 (WalkArith.wf_i64 mw));have ab:=F6.out.blk.ia 0;have ac:=j.ia 0;have ae:=j.ia 1;have aa:=j.ia 2;clear j;clear hl dm dp z0 z1 z2 oc aq aj;go_region;refine bodyPost_end (BJ rfl _ _ _) rfl ?_;have an:=(((JV F2.out.2 G).set (p:=⟨gp,at_,none⟩) (Q6 F2.out.1) (.int .i64 (p:Int))).alloc (((JV F2.out.2 G).set (p:=⟨gp,at_,none⟩) (Q6 F2.out.1) (.int .i64 (p:Int))).lt fun k hk=>hk.1) (.cells #[.int .u8 x, .int .u8 y, .int .u8 z] 366)).drew.drew;have hF:=F6.out.upd r1 r2;have N:(ps++ [-1]).set at_ (p:Int)=ps++ [Hi (some p)]:=by have:=ai.out;subst this;simp[Hi]
  rw[N]at hF;exact⟨rfl,_,hF,F2.out.1,an.grown r2 (an.lt fun k hk=>hk.1) (fun k e hk=>by injection e with e;exact hk.2.2.1 e.symm)⟩
end Lz
namespace Lz
open Go.RowKit Go.Maps Mem Own Canon
theorem add_any(w:World)(cb mb base:Nat)(ls:List Nat)(A:Option Addr)(n c at_:Nat)(D:DataW Unit)(pv:Value)(hn:ls.length=n)(hN:n<=1000000)(j:at_<n)(i:base<=w.heap.size)(h8:∀x∈ls,x<=255)
 (ha:Row w base A n 1 (jZ .u8 ls))(hD:MapIs ls at_ D)(h:Ch w cb mb base ls at_ at_ D pv (FT ls at_)):
 Calls prog 229 #[.pointer (some ⟨cb,0,none⟩), .slice A n c,at_] w fun e w'=>e= .returned (.tuple #[])/\∃D' pv',MapIs ls (at_+1) D'/\Ch w' cb mb base ls (at_+1) (at_+1) D' pv' (FT ls (at_+1))/\Lc pv pv' w/\Kept (Out cb mb pv w) w w':=by
 rw[YL];by_cases hf:at_+3<=n
 ·refine(cW w cb mb base ls A n c at_ D pv _ hn hN hf i h8 (Xq _ _) ha hD h).mono ?_;rintro e w' ⟨rfl,pv',h1,h2,h3⟩;exact⟨rfl,_,pv',hD.put h8 mw,h1,h2,h3⟩
 ·have e:Hk ls at_= -1:=by unfold Hk;rw[Aa mw]
  rw[e];refine(Z6 w cb mb base ls A n c at_ D pv _ hN mw mw i h).mono ?_;rintro e w' ⟨rfl,pv',h1,h2,h3⟩;exact⟨rfl,_,pv',hD.skip mw,h1,h2,h3⟩
theorem Xn(w:World)(cb:Nat)(ls:List Nat)(A:Option Addr)(n c at_:Nat)(hn:ls.length=n)(hN:n<=1000000)(h:at_<=n)(hf:n<at_+3):
 Calls prog 228 #[.pointer (some ⟨cb,0,none⟩), .slice A n c,at_] w fun e w'=>e= .returned (.tuple #[.int .i64 ((norm (Bd ls at_)).1:Nat), .int .i64 ((norm (Bd ls at_)).2:Nat)])/\Below w w w':=by
 rw[Yq mw];have s1:IntKind.i64.wrap ((at_:Int)+3)=(at_:Int)+3:=m4
 have g1:=ic ((n:Int)<(at_:Int)+3)
 clear hn;go_enter func228,ntmps228;go_wp2_with fail;go_ret2;exact⟨rfl,Ag _ _⟩
theorem ZJ(w:World)(cb mb base:Nat)(ls:List Nat)(A:Option Addr)(n c at_ m:Nat)(D:DataW Unit)(pv:Value)(hn:ls.length=n)(hN:n<=1000000)(a5:at_+3<=n)(am:base<=w.heap.size)(h8:∀x∈ls,x<=255)
 (ha:Row w base A n 1 (jZ .u8 ls))(hD:MapIs ls at_ D)(h:Ch w cb mb base ls at_ m D pv (FT ls at_)):
 Calls prog 228 #[.pointer (some ⟨cb,0,none⟩), .slice A n c,at_] w fun e w'=>e= .returned (.tuple #[.int .i64 ((norm (Bd ls at_)).1:Nat), .int .i64 ((norm (Bd ls at_)).2:Nat)])/\Below w w w':=by
 have hg:∀i,i<ls.length->ls.getD i 0<=255:=fun i hi=>mX
 have g0:=hg at_ mw;have aj:=hg (at_+1) mw;have g2:=hg (at_+2) mw;have a3:BN ls at_=(ls.getD at_ 0,ls.getD (at_+1) 0,ls.getD (at_+2) 0):=rfl;have D1:Hid (∀wx,Below w w wx->Calls prog 279 #[.slice A n c,at_] wx fun e w'=>e= .returned (.agg #[.int .u8 (ls.getD at_ 0), .int .u8 (ls.getD (at_+1) 0), .int .u8 (ls.getD (at_+2) 0)])/\Below wx wx w'):=fun wx hb=>Rv wx A n c ls at_ hn hN a5 ((ha.below (hb.mono am)).mono mf);have D2:Hid (∀wx p,Below w w wx->p<=at_->Calls prog 280 #[.slice A n c, .int .i64 p,at_] wx fun e w'=>e= .returned (.int .i64 (alike ls p at_:Nat))/\Below wx wx w'):=fun wx p hb hp=>eD wx A n c ls p at_ hn hN hp mw ((ha.below (hb.mono am)).mono mf);have Q:Hid (∀wx:World,Below w w wx->(Instr.lookup 305 (.map (some mb)) (.agg #[.int .u8 (ls.getD at_ 0), .int .u8 (ls.getD (at_+1) 0), .int .u8 (ls.getD (at_+2) 0)]) true).run prog wx= .ok (.tuple #[.int .i64 (I0 (BE ls (BN ls at_) at_)), .bool (BE ls (BN ls at_) at_).isSome]) wx):=fun wx hb=>UV (h.step hb).map hD g0 aj g2;have ak:=UY (BE ls (BN ls at_) at_);have HP:Hid (∀E,E<=at_->∀p,BE ls (BN ls at_) E=some p->p<E/\∃gp cp,pv= .slice (some ⟨gp,0,none⟩) at_ cp/\w.cell? ⟨gp,p,none⟩=some (.int .i64 (Hi (BE ls (BN ls at_) p)))/\gp<w.heap.size):=fun E hE p hp=>by obtain⟨h1,h2,h3,h4⟩:=JX hp;refine⟨h1,?_⟩;obtain⟨bh,rfl⟩:∃k,at_=k+1:=⟨at_-1,mw⟩;obtain⟨gp,cp,rfl⟩:=IP h.prev;have hc:=(own_cells (i:=p) h.prev mw).1;refine⟨gp,cp,rfl,?_,(Aj h.prev gp rfl).2⟩;rw[hc];unfold GD;rw[BG,gK mw];unfold Hk;rw[Ab mw,h3];rfl
 have d0:=h.blk.ia 0;have d1:=h.blk.ia 1;have s1:IntKind.i64.wrap ((at_:Int)+3)=(at_:Int)+3:=m4
 have g1:=ig ((n:Int)<(at_:Int)+3)
 have HS:=hid (At.start ls at_);have aa:=h.blk.lt;obtain⟨R,hR⟩:=ii (norm (Bd ls at_));have ax:Hid (∀E p nd,At ls at_ E nd->BE ls (BN ls at_) E=some p->at_-p<=4095->At ls at_ p (if nd.1<alike ls p at_ then(alike ls p at_,at_-p)else nd)):=fun E p nd h1 h2 h3=>h1.next mw h2 h3;have ar:Hid (∀E nd,At ls at_ E nd->BE ls (BN ls at_) E=none->R=nd):=fun E nd h1 h2=>hR.trans <| h1.none mw h2;have aw:Hid (∀E p nd,At ls at_ E nd->BE ls (BN ls at_) E=some p->4095<at_-p->R=nd):=fun E p nd h1 h2 h3=>hR.trans <| h1.far mw h2 h3;have bb:Hid (∀E nd,At ls at_ E nd->nd.1=257->R=nd):=fun E nd h1 h2=>hR.trans <| h1.full h2;have a1:Hid (∀p,alike ls p at_<=257):=fun p=>Oc ls p at_;rw[<-hR];generalize ls.getD at_ 0=x at *;generalize ls.getD (at_+1) 0=y at *;generalize ls.getD (at_+2) 0=z at *;clear h hD ha h8 hg a3 hn hR;have ae:w.drew.cell? ⟨cb,0,none⟩=some (.map (some mb)):=d0;have Y:=Q.out w.drew (Ag _ _).drew;have HC:=hid ak;clear ak;obtain⟨lo,G⟩:=ii (BE ls (BN ls at_) at_);rw[<-G]at Q Y HC;have U:=hid G;clear G;go_enter func228,ntmps228;go_upto_region 3 with fail;go_region_held3 (fun wx=>wx.cell? ⟨cb,0,none⟩=some (.map (some mb))/\(Instr.lookup 305 (.map (some mb)) (.agg #[.int .u8 x, .int .u8 y, .int .u8 z]) true).run prog wx= .ok (.tuple #[.int .i64 (I0 lo),lo.isSome]) wx) (first|exact⟨ae,Y⟩|exact k0) (first|(go_at_call 279;(with_reducible refine(D1.out _ pn).mono ?_);rintro e w1 ⟨rfl,ab⟩;have k0:w1.cell? ⟨cb,0,none⟩=some (.map (some mb))/\(Instr.lookup 305 (.map (some mb)) (.agg #[.int .u8 x, .int .u8 y, .int .u8 z]) true).run prog w1= .ok (.tuple #[.int .i64 (I0 lo),lo.isSome]) w1:=⟨(ab.cell (p:=⟨cb,_,none⟩) aa).trans ae,Q.out _ pn⟩));have au:Hid (Below w w w1):=dZ ab (Ar (Ag w w));clear k0 ab Y ae Q d0 g0 aj g2;rcases HC.out with ⟨h1,h2⟩|⟨p0,h1,h2,h3⟩
 ·have hR:Hid (R=(0,0)):=ar.out at_ _ HS.out (U.out.symm.trans h1);rw[h2];clear HC U;generalize I0 lo=zz;clear h1 h2;go_wp2_with fail;go_loopw [6,7,8] (fun a b _ wr=>a= .int .i64 0/\b= .int .i64 0/\Hid (Below w w wr)) (fun _ _ _ _=>0)
  case atStart=>exact⟨rfl,rfl,au⟩
  case round=>obtain⟨rfl,rfl,HB⟩:=hrel;go_wp2_with fail;go_ret2;exact⟨by rw[hR.out];rfl,HB.out⟩
 ·have HV:Hid (BE ls (BN ls at_) at_=some p0):=U.out.symm.trans h1;rw[h2,h3];have az:=(HP.out at_ (Ak _) p0 HV.out).1;clear HC U h1 h2 h3;go_wp2_with fail;go_loopw [6,7,8] (fun a b v wr=>∃ (E n1 n2:Nat) (vi:Int),a= .int .i64 n1/\b= .int .i64 n2/\v= .int .i64 vi/\n1<=257/\Hid (E<=at_/\At ls at_ E (n1,n2))/\Hid (vi=Hi (BE ls (BN ls at_) E))/\Hid (Below w w wr)) (fun _ _ v _=>(intOf v+1).toNat)
  case atStart=>exact⟨at_,0,0,p0,rfl,rfl,rfl,mw,⟨Ak _,HS.out⟩,by show(p0:Int)=_;rw[HV.out];rfl,au.out⟩
  case round=>
   obtain⟨E,n1,n2,vi,rfl,rfl,rfl,a0,HA,L,HB⟩:=hrel;clear az HV;obtain⟨lo,G⟩:=ii (BE ls (BN ls at_) E);cases lo with
   |none=>have J:vi= -1:=(by have:=L.out;rw[<-G]at this;exact this);have hR:=hid (ar.out E _ HA.out.2 G.symm);clear G L;subst J;go_wp2_with fail;go_ret2;exact⟨by rw[hR.out];rfl,HB.out⟩
   |some p=>
    have J:vi=(p:Nat):=(by have:=L.out;rw[<-G]at this;exact this);obtain⟨be,gp,cp,M,j,ai⟩:=HP.out E HA.out.1 p G.symm;have bf:=HA.out.1;have HL:Hid (BE ls (BN ls at_) E=some p):=G.symm;clear G L;subst J;obtain⟨d,hd⟩:=ii (at_-p);have g2:((p:Int) != -1)=true:=nG;have s2:IntKind.i64.wrap ((at_:Int)-(p:Int))=(d:Int):=m8;by_cases hw:d<=4095
    ·have g3:=ic ((d:Int)<=4095);have a6:=ic (d<=4095);by_cases bc:n1<257
     ·have g4:=ic ((n1:Int)<257);have ay:=ic (n1<257);have hA2:=ax.out E p _ HA.out.2 HL.out mw;have al:=(HB.out.cell (p:=⟨cb,1,none⟩) aa).trans d1;have Z:=(HB.out.cell (p:=⟨gp,p,none⟩) ai).trans j;have ba:=hid hd;have av:=hid M;have af:=hid j;have aq:=hid hA2;clear hd M j Z hA2 al;go_wp2_with fail;refine(D2.out wr p HB.out mw).mono ?_;rintro e w2 ⟨rfl,ah⟩;have N:Hid (Below w w w2):=dZ ah HB.out;have a9:=a1.out p;generalize alike ls p at_=a at *;have al:=(N.out.cell (p:=⟨cb,1,none⟩) aa).trans d1;have Z:=(N.out.cell (p:=⟨gp,p,none⟩) ai).trans af.out;have M:=av.out;subst M;have x1:(0:Int)<=(p:Int):=mw;have x2:(p:Int)<(at_:Int):=by omega
      have ag:Hi (BE ls (BN ls at_) p)<(p:Int)/\ -1<=Hi (BE ls (BN ls at_) p):=by
       cases hq:BE ls (BN ls at_) p with
       |none=>exact⟨by show(-1:Int)<_;omega,by show(-1:Int)<= -1;omega⟩
       |some q=>exact⟨by have:=(JX hq).1;show((q:Nat):Int)<_;omega,by show(-1:Int)<=((q:Nat):Int);omega⟩
      obtain⟨vi,J⟩:=ii (Hi (BE ls (BN ls at_) p));rw[<-J]at Z ag;have L:=hid J;obtain⟨bd,bg⟩:=ag;clear J af d1 HB ah;by_cases an:n1<a
      ·have g5:=ic ((n1:Int)<a);have a4:=ic (n1<a);have ac:Hid (p<=at_/\At ls at_ p (a,d)):=⟨mw,by have h:=aq.out;rw[Ab an]at h;rw[ba.out];exact h⟩;go_wp2_with fail;go_roundw
       case measure=>exact jo
       case rel=>go_light;exact⟨p,a,d,vi,rfl,rfl,rfl,a9,ac.out,L.out,N.out⟩
      ·have g5:=ig ((n1:Int)<a);have a4:=ig (n1<a);have ac:Hid (p<=at_/\At ls at_ p (n1,n2)):=⟨mw,by have h:=aq.out;rw[Aa an]at h;exact h⟩;go_wp2_with fail;go_roundw
       case measure=>exact jo
       case rel=>go_light;exact⟨p,n1,n2,vi,rfl,rfl,rfl,a0,ac.out,L.out,N.out⟩
     ·have hR:=hid (bb.out E _ HA.out.2 (show n1=257 by omega));have g4:=ig ((n1:Int)<257);have ay:=ig (n1<257);clear hd M j;go_wp2_with fail;go_ret2;exact⟨by rw[hR.out];rfl,HB.out⟩
    ·have hR:=hid (aw.out E p _ HA.out.2 HL.out mw);have g3:=ig ((d:Int)<=4095);have a6:=ig (d<=4095);clear hd M j;go_wp2_with fail;go_ret2;exact⟨by rw[hR.out];rfl,HB.out⟩
theorem long_any(w:World)(cb mb base:Nat)(ls:List Nat)(A:Option Addr)(n c at_ m:Nat)(D:DataW Unit)(pv:Value)(hn:ls.length=n)(hN:n<=1000000)(j:at_<n)(i:base<=w.heap.size)(h8:∀x∈ls,x<=255)
 (ha:Row w base A n 1 (jZ .u8 ls))(hD:MapIs ls at_ D)(h:Ch w cb mb base ls at_ m D pv (FT ls at_)):
 Calls prog 228 #[.pointer (some ⟨cb,0,none⟩), .slice A n c,at_] w fun e w'=>e= .returned (.tuple #[.int .i64 ((norm (Bd ls at_)).1:Nat), .int .i64 ((norm (Bd ls at_)).2:Nat)])/\Below w w w':=by
 by_cases hf:at_+3<=n
 ·exact ZJ w cb mb base ls A n c at_ m D pv hn hN hf i h8 ha hD h
 ·exact Xn w cb ls A n c at_ hn hN mw mw
end Lz
namespace Lz
open Go.RowKit Go.Maps Mem Own Canon
open Toks (Tk)
open Huff (Do Kh MQ)
structure FS (w0 w:World) (cb mb:Nat) (l:List Nat) (at_:Nat) (D:DataW Unit) (pv vt:Value) (k:Nat) (ts:List Tk):Prop where
 ch:Ch w cb mb w0 l at_ at_ D pv (FT l at_)
 map:MapIs l at_ D
 own:w.ownsRow w0 280 3 vt k (Do ts)
 bel:Below w0 w0 w
section
variable {w0 w w':World} {cb mb:Nat} {l:List Nat} {at_ k:Nat} {D:DataW Unit} {pv vt:Value} {ts:List Tk}
theorem FS.step(h:FS w0 w cb mb l at_ D pv vt k ts)(hb:Below w w w'):FS w0 w' cb mb l at_ D pv vt k ts:=
 ⟨h.ch.step hb,h.map,eZ h.own (fun x hx=>hb.block x (Aj h.own x hx).2),h.bel.trans (hb.mono h.bel.size)⟩
theorem FS.alloc(h:FS w0 w cb mb l at_ D pv vt k ts)(o:Obj):FS w0 (w.alloc o) cb mb l at_ D pv vt k ts:=
 h.step (aZ (Ag _ _))
theorem FS.grown{j:Value}{k':Nat}{i:List Tk}(h:FS w0 w cb mb l at_ D pv vt k ts)(hg:w.grownBy w' vt.ownBlock)(ho:w'.ownsRow w0 280 3 j k' (Do i)):FS w0 w' cb mb l at_ D pv j k' i:=by
 refine⟨⟨h.ch.blk.grown hg (fun e=>gZ h.own h.ch.blk ip e.symm),Lr h.ch.map (hg.block mb h.ch.map.lt (fun e=>Kb h.ch.map h.own e.symm)),eZ h.ch.prev (fun x hx=>hg.block x (Aj h.ch.prev x hx).2 (fun e=> ?_)),h.ch.lo,h.ch.lm⟩,h.map,ho,⟨hg.os.trans h.bel.os,hg.tape.trans h.bel.tape,hg.output.trans h.bel.output,AK h.bel.size hg.size,fun x hx=>(hg.block x (by have:=h.bel.size;omega) (fun e=> ?_)).trans (h.bel.block x hx)⟩⟩
 ·rcases ER h.ch.prev h.own ip with e1|e1
  ·rw[hx]at e1;cases e1
  ·exact e1 (hx.trans e)
 ·have:=(Aj h.own x e.symm).1;omega
theorem FS.added{D':DataW Unit}{pv':Value}(h:FS w0 w cb mb l at_ D pv vt k ts)(hm:MapIs l (at_+1) D')(hc:Ch w' cb mb w0 l (at_+1) (at_+1) D' pv' (FT l (at_+1)))(hk:Kept (Out cb mb pv w) w w'):FS w0 w' cb mb l (at_+1) D' pv' vt k ts:=by
 refine⟨hc,hm,eZ h.own (fun x hx=>hk.block x ⟨(Aj h.own x hx).2,fun e=> ?_,fun e=> ?_,fun e=> ?_⟩),?_⟩
 ·subst e;exact gZ h.own h.ch.blk ip hx
 ·subst e;exact Kb h.ch.map h.own hx
 ·rcases ER h.ch.prev h.own ip with e1|e1
  ·rw[e]at e1;cases e1
  ·exact e1 (e.trans hx.symm)
 ·have hb:Below w0 w w':=hk.below (fun x hx=>⟨by have:=h.bel.size;omega,by have:=h.ch.lo;omega,by have:=h.ch.lm;omega,fun e=>by have:=(Aj h.ch.prev x e).1;omega⟩);exact h.bel.trans hb
end
theorem FS.start(w:World)(l:List Nat):FS w ((w.alloc (.map #[] 0)).alloc (.cells #[.map (some w.heap.size),()] 307)) (w.heap.size+1) w l 0 (.map []) (.slice none 0 0) (.slice none 0 0) 0 []:=
 ⟨⟨Blk.made_at _ _ _ oK,((World.ownsMap_made w _ _ _).alloc _),AI _ _ _ _,mw,mw⟩,MapIs.start l,AI _ _ _ _,aZ (aZ (Ag _ _))⟩
theorem bL(w:World)(A:Option Addr)(n c:Nat)(ls:List Nat)(hn:ls.length=n)(hN:n<=1000000)(h8:∀x∈ls,x<=255)(ha:Row w w A n 1 (jZ .u8 ls)):
 Calls prog 167 #[.slice A n c] w fun e w'=>∃v,e= .returned v/\w'.ownsRow w 280 3 v (find ls).length (Do (find ls))/\Below w w w':=by
 obtain⟨j0,ak,ar,am,aw⟩:=info_parts MQ;obtain⟨R,hR⟩:=ii (find ls);have al:Hid (Dg ls 0=R):=hR.symm;rw[<-hR];have S0:=hid (FS.start w ls)
 have DL:Hid (∀wx cb mb D pv vt k ts at_,at_<n->FS w wx cb mb ls at_ D pv vt k ts->Calls prog 228 #[.pointer (some ⟨cb,0,none⟩), .slice A n c, .int .i64 at_] wx fun e w'=>e= .returned (.tuple #[.int .i64 ((norm (Bd ls at_)).1:Nat), .int .i64 ((norm (Bd ls at_)).2:Nat)])/\Below wx wx w'):=
  fun wx cb mb D pv vt k ts at_ h1 h2=>long_any wx cb mb w ls A n c at_ at_ D pv hn hN h1 h2.bel.size h8 (ha.below h2.bel) h2.map h2.ch
 have DA:Hid (∀wx cb mb D pv vt k ts at_,at_<n->FS w wx cb mb ls at_ D pv vt k ts->Calls prog 229 #[.pointer (some ⟨cb,0,none⟩), .slice A n c, .int .i64 at_] wx fun e w'=>e= .returned (.tuple #[])/\∃D' pv',FS w w' cb mb ls (at_+1) D' pv' vt k ts):=
  fun wx cb mb D pv vt k ts at_ h1 h2=>(add_any wx cb mb w ls A n c at_ D pv hn hN h1 h2.bel.size h8 (ha.below h2.bel) h2.map h2.ch).mono fun e w' ⟨he,D',pv',q1,q2,_,q4⟩=>⟨he,D',pv',h2.added q1 q2 q4⟩
 have an:Hid (∀at_,at_<n->((norm (Bd ls at_)).1=0/\(norm (Bd ls at_)).2=0/\Dg ls at_=⟨(ls.getD at_ 0:Nat),0,0⟩ :: Dg ls (at_+1))∨(3<=(norm (Bd ls at_)).1/\at_+(norm (Bd ls at_)).1<=n/\Dg ls at_=⟨0,((norm (Bd ls at_)).1:Nat),((norm (Bd ls at_)).2:Nat)⟩ :: Dg ls (at_+(norm (Bd ls at_)).1))):=fun at_ ai=>by
  by_cases h3:3<=(Bd ls at_).1
  ·rw[X3 h3];exact .inr ⟨h3,by have:=Ku (l:=ls) (at_:=at_) mw;omega,Kw mw h3⟩
  ·rw[fL h3];exact .inl ⟨rfl,rfl,Ko mw h3⟩
 have U:Hid (Dg ls n= []):=L2 mw;have HN:=hid hn;have HA:Hid (∀wx at_,Below w w wx->at_<n->∃b M,A=some ⟨b,M,none⟩/\wx.cell? ⟨b,M+at_,none⟩=some (.int .u8 (ls.getD at_ 0:Nat))/\b<w.heap.size):=fun wx at_ hb ai=>by obtain⟨b,M,rfl,ah,hc⟩:=ha mw;have:=(hb.cell (p:=⟨b,_,none⟩) ah).trans (hc at_ 0 ai mw);simp only[jZ,Nat.mul_one,Nat.add_zero]at this;exact⟨b,M,rfl,this,ah⟩
 clear hR hn h8 ha;have a4:=run_makeMap (P:=prog) 305 w;go_enter func167,ntmps167;go_wp2_with fail;clear a4;go_loopw [4,5] (fun u v wr=>∃ (at_ k:Nat) (D:DataW Unit) (pv:Value) (ts:List Tk),v= .int .i64 at_/\at_<=n/\k<=at_/\Hid (ts.length=k)/\Hid (ts++Dg ls at_=R)/\Hid (FS w wr (w.heap.size+1) w ls at_ D pv u k ts)) (fun _ v _=>n-(intOf v).toNat)
 case atStart=>exact⟨0,0,_,_,[],rfl,mw,mw,rfl,al.out,S0.out⟩
 case round=>
  obtain⟨w0,rfl⟩:=ii wr;obtain⟨at_,k,D,pv,ts,rfl,ai,hk,HL,HR,HS⟩:=hrel;clear al S0;obtain⟨AT,kT,rfl⟩:=bZ HS.out.own;by_cases ae:at_<n
  ·have g1:=ic ((at_:Int)<n);have a3:=ic (at_<n);have y0:(0:Int)<=(at_:Int):=mw;have y1:(at_:Int)<(n:Int):=mw;have zb:=HS.out.bel.size;have zc:=HS.out.ch.blk.lt;obtain⟨b,M,hA,Z,ah⟩:=HA.out w0 at_ HS.out.bel ae;subst hA;have aq:=an.out at_ ae;have ax:=fun wx D pv vt k ts=>DL.out wx (w.heap.size+1) w D pv vt k ts at_ ae;have S1:=hid (HS.out.alloc (.cells #[.int .u8 (ls.getD at_ 0:Nat),ij,ij] 280));have hD:=hid (ax _ _ _ _ _ _ S1.out);clear ax;generalize ls.getD at_ 0=x at *;generalize norm (Bd ls at_)=NR at *;obtain⟨nr,dr⟩:=NR;have Q:=hid aq;clear aq DL;go_wp2_with fail;refine hD.out.mono ?_;rintro e w1 ⟨rfl,ay⟩;have Y:Below w0 w0 w1:=dZ ay (aZ (Ag _ _));have z:Blk w1 w0 280 #[.int .u8 x,ij,ij]:=(Blk.made _ _ _).step ay;have ba:=z.lt;have av:=hid z;have t0:=z.ia 0;have t1:=z.ia 1;have t2:=z.ia 2;have f0:=z.frozen 0;have f1:=z.frozen 1;have f2:=z.frozen 2;clear hD Z S1 z;have au:=Q.out;clear Q;rcases au with ⟨h1,h2,h3⟩|⟨h1,h2,h3⟩
   ·subst h1 h2;have N:=hid h3;clear h3;have S2:=hid (HS.out.step (show Below w0 w0 w1 by(repeat (with_reducible first|exact Ag _ _|assumption|refine Ar ?_ |refine below_drewN ?_ _|refine sZ ?_ |refine aZ ?_ |refine dZ im ?_ |refine belA ?_ |refine tZ im ?_))));have a0:k<1000001:=mw;go_wp2_with(at_builtin;refine iZ rfl (.tmp 35) (.tmp 37) 190 rfl w 280 j0 _ 3 24 underlying190 ak ar am aw rfl ip _ _ _ mz ((S2.out.alloc _).own) _ 1 1 [.int .u8 (x:Nat), .int .i64 0, .int .i64 0] mz (Src.of_blk (g:=w1.heap.size) (Blk.made_at _ _ _ oK) 1 1 3 rfl) mm pm mw oT ?_;intro v4 w4 y L G);have i:w4.ownsRow w 280 3 v4 (k+1) (Do (ts++ [⟨(x:Nat),0,0⟩])):=(by rw[Kh];exact y);have S4:=hid ((S2.out.alloc _).grown L i);have ag:Hid ((ts++ [⟨(x:Nat),0,0⟩])++Dg ls (at_+1)=R):=(by have h:=HR.out;rw[N.out]at h;rw[AE];exact h);have af:Hid ((ts++ [(⟨(x:Nat),0,0⟩:Tk)]).length=k+1):=(by rw[Ae,HL.out];rfl);generalize ts++ [(⟨(x:Nat),0,0⟩:Tk)]=E at *;clear y L G i S2 N HR HL t0 t1 t2 f0 f1 f2 av Y HS;go_loopw [5,40] (fun v u wr=>∃ (j q:Nat) (D:DataW Unit) (pv:Value),u= .int .i64 j/\v= .int .i64 q/\q=at_+j/\j<=1/\Hid (FS w wr (w.heap.size+1) w ls q D pv v4 (k+1) E)) (fun _ u _=>1-(intOf u).toNat)
    case atStart=>exact⟨0,at_,D,pv,rfl,rfl,rfl,mw,S4.out⟩
    case round=>
     obtain⟨w5,rfl⟩:=ii wr;obtain⟨j,q,D5,J,rfl,rfl,hq,hj,S5⟩:=hrel;clear S4;by_cases a6:j<1
     ·have u1:=ic ((j:Int)<1);have aa:=ic (j<1);have u2:IntKind.i64.wrap ((q:Int)+1)=((q+1:Nat):Int):=m8;have ac:q<n:=mw;have HQ:=hid hq;clear hq;have u3:IntKind.i64.wrap ((j:Int)+1)=((j+1:Nat):Int):=m8;go_wp2_with fail;refine(DA.out w5 _ _ D5 J v4 (k+1) E q ac S5.out).mono ?_;rintro e w6 ⟨rfl,D6,ab,S6⟩;have S6:=hid S6;clear S5;go_wp2_with fail;go_roundw
      case measure=>exact jo
      case rel=>exact jg
     ·have u1:=ig ((j:Int)<1);have aa:=ig (j<1);have aj:q=at_+1:=mw;subst aj;clear hq;go_wp2_with fail;go_roundw
      case measure=>exact jo
      case rel=>go_light;exact⟨at_+1,k+1,D5,J,E,rfl,mw,mw,af.out,ag.out,S5.out⟩
   ·have a9:3<=nr:=h1;have bc:at_+nr<=n:=h2;have N:=hid h3;clear h1 h2 h3;have q3:=ic ((3:Int)<=nr);have bb:=ic (3<=nr);have S2:=hid (HS.out.step (show Below w0 w0 (((w1.setCell ⟨w0,0,none⟩ (.int .u8 0)).setCell ⟨w0,1,none⟩ (.int .i64 nr)).setCell ⟨w0,2,none⟩ (.int .i64 dr)) by(repeat (with_reducible first|exact Ag _ _|assumption|refine Ar ?_ |refine below_drewN ?_ _|refine sZ ?_ |refine aZ ?_ |refine dZ im ?_ |refine belA ?_ |refine tZ im ?_))));have a0:k<1000001:=mw;go_wp2_with(at_builtin;refine iZ rfl (.tmp 35) (.tmp 37) 190 rfl w 280 j0 _ 3 24 underlying190 ak ar am aw rfl ip _ _ _ mz ((S2.out.alloc _).own) _ 1 1 [.int .u8 0, .int .i64 (nr:Nat), .int .i64 (dr:Nat)] mz (Src.of_blk (g:=w1.heap.size) (Blk.made_at _ _ _ oK) 1 1 3 rfl) mm pm mw oT ?_;intro v4 w4 y L G);have i:w4.ownsRow w 280 3 v4 (k+1) (Do (ts++ [⟨0,(nr:Nat),(dr:Nat)⟩])):=(by rw[Kh];exact y);have S4:=hid ((S2.out.alloc _).grown L i);have ag:Hid ((ts++ [⟨0,(nr:Nat),(dr:Nat)⟩])++Dg ls (at_+nr)=R):=(by have h:=HR.out;rw[N.out]at h;rw[AE];exact h);have af:Hid ((ts++ [(⟨0,(nr:Nat),(dr:Nat)⟩:Tk)]).length=k+1):=(by rw[Ae,HL.out];rfl);generalize ts++ [(⟨0,(nr:Nat),(dr:Nat)⟩:Tk)]=E at *;clear y L G i S2 N HR HL t0 t1 t2 f0 f1 f2 av Y HS;go_loopw [5,40] (fun v u wr=>∃ (j q:Nat) (D:DataW Unit) (pv:Value),u= .int .i64 j/\v= .int .i64 q/\q=at_+j/\j<=nr/\Hid (FS w wr (w.heap.size+1) w ls q D pv v4 (k+1) E)) (fun _ u _=>nr-(intOf u).toNat)
    case atStart=>exact⟨0,at_,D,pv,rfl,rfl,rfl,mw,S4.out⟩
    case round=>
     obtain⟨w5,rfl⟩:=ii wr;obtain⟨j,q,D5,J,rfl,rfl,hq,hj,S5⟩:=hrel;clear S4;by_cases a6:j<nr
     ·have u1:=ic ((j:Int)<nr);have aa:=ic (j<nr);have u2:IntKind.i64.wrap ((q:Int)+1)=((q+1:Nat):Int):=m8;have ac:q<n:=mw;have HQ:=hid hq;clear hq;have u3:IntKind.i64.wrap ((j:Int)+1)=((j+1:Nat):Int):=m8;go_wp2_with fail;refine(DA.out w5 _ _ D5 J v4 (k+1) E q ac S5.out).mono ?_;rintro e w6 ⟨rfl,D6,ab,S6⟩;have S6:=hid S6;clear S5;go_wp2_with fail;go_roundw
      case measure=>exact jo
      case rel=>exact jg
     ·have u1:=ig ((j:Int)<nr);have aa:=ig (j<nr);have aj:q=at_+nr:=mw;subst aj;clear hq;go_wp2_with fail;go_roundw
      case measure=>exact jo
      case rel=>go_light;exact⟨at_+nr,k+1,D5,J,E,rfl,mw,mw,af.out,ag.out,S5.out⟩
  ·obtain rfl:at_=n:=by omega
   have az:Hid (R=ts):=(by have h:=HR.out;rw[U.out,BZ]at h;exact h.symm);have g1:=ig ((at_:Int)<at_);have a3:=ig (at_<at_);have F:=HS.out.own;have FB:=HS.out.bel;have HF:=hid F;have a5:=hid FB;have a1:=hid HL.out;clear F FB HR HS HL DL DA HA an U;go_wp2_with fail;go_ret;exact⟨_,rfl,by rw[az.out,a1.out];exact HF.out,a5.out⟩
end Lz
namespace Lz
open Go.RowKit Mem Own Canon
open Toks (Tk AW Ol)
theorem Sb:∀ (n d:Nat) (out:List Nat),Db out (n+1) d=Db out n d++ [(Db out n d).getD ((Db out n d).length-d) 0]
 |0,_,_=>rfl
 |n+1,d,out=>by rw[Db,Sb n d];rfl
theorem Zm{t:Tk}(hl:0<=t.lit/\t.lit<=255)(h:AW t.lit t.len t.dist=true):
 (∃x:Nat,x<=255/\t=⟨(x:Int),0,0⟩)∨∃L D:Nat,3<=L/\L<=257/\1<=D/\D<=4095/\t=⟨0,(L:Int),(D:Int)⟩:=by
 obtain⟨lit,len,dist⟩:=t;simp only at hl h;unfold AW at h;split at h
 ·rename_i h0;have h1:=of_decide_eq_true h;subst h0 h1;exact .inl ⟨lit.toNat,mw,by rw[Int.toNat_of_nonneg hl.1]⟩
 ·have h1:=of_decide_eq_true h;refine .inr ⟨len.toNat,dist.toNat,mw,mw,mw,mw,?_⟩;rw[Int.toNat_of_nonneg mw,Int.toNat_of_nonneg mw,h1.1]
theorem Y0(hq:out.length=q)(_h:q<=most):GG most out ⟨(x:Int),0,0⟩=if most-q<1 then 6 else 0:=by
 unfold GG;rw[Ab (show AW (x:Int) 0 0=true from rfl),hq,Aa (show ¬(q:Int)<0 by omega)];by_cases h:most-q<1
 ·rw[Ab (show(most:Int)-(q:Int)<max 1 0 by omega),Ab h]
 ·rw[Aa (show ¬(most:Int)-(q:Int)<max 1 0 by omega),Aa h]
theorem aD{L D:Nat}(hq:out.length=q)(_h:q<=most)(h1:3<=L)(h2:L<=257)(h3:1<=D)(h4:D<=4095):GG most out ⟨0,(L:Int),(D:Int)⟩=if q<D then 8 else if most-q<L then 6 else 0:=by
 have hm:AW 0 (L:Int) (D:Int)=true:=by unfold AW;rw[Aa mw];exact Bc ⟨rfl,mw,mw,mw,mw⟩
 unfold GG;rw[Ab hm,hq];show(if(q:Int)<(D:Int)then 8 else if(most:Int)-(q:Int)<max 1 (L:Int)then 6 else 0)=_;by_cases h:q<D
 ·rw[Ab mw,Ab h]
 ·rw[Aa mw,Aa h];by_cases h':most-q<L
  ·rw[Ab mw,Ab h']
  ·rw[Aa mw,Aa h']
def Lm(R:List Nat×Int)(w:World)(e:Ending)(w':World):Prop:=
 ∃v,e= .returned (.tuple #[v,R.2])/\w'.ownsRow w 5 1 v R.1.length (cZ .u8 R.1)/\Below w w w'
theorem aP(w:World)(A:Option Addr)(n c:Nat)(ts:List Tk)(most:Nat)(ay:most<=1000000)(hn:ts.length=n)(hN:n<=1000000)(ae:∀t∈ts,(0<=t.lit/\t.lit<=255)/\AW t.lit t.len t.dist=true)(ha:Row w w A n 3 (Toks.GL ts)):
 Calls prog 300 #[.slice A n c,most] w (Lm (Fm ts most) w):=by
 obtain⟨j0,al,av,ar,aw⟩:=info_parts Ee;have hP:Fm ts most=EG most [] ts:=Aa mw;rw[hP];obtain⟨R,hR⟩:=ii (EG most [] ts);rw[<-hR];obtain⟨R1,R2⟩:=R;unfold Lm;have g0:=ig ((most:Int)<0)
 have HR:=hid hR;have HA:=hid ha;have HN:=hid hn;have an:=hid ae;clear hP hR ha hn ae;go_enter func300,ntmps300;go_wp2_with fail;go_loopw [6,13] (fun u i wr=>∃ (k q:Nat) (out:List Nat),k<=n/\q<=most/\i= .int .i64 k/\Hid (out.length=q)/\Hid (wr.ownsRow w 5 1 u q (cZ .u8 out))/\Hid (EG most out (ts.drop k)=(R1,R2))/\Below w w wr) (fun _ i _=>n-(intOf i).toNat)
 case atStart=>exact⟨0,0,[],mw,mw,rfl,rfl,AI _ _ _ _,HR.out.symm,Ag _ _⟩
 case round=>
  obtain⟨k,q,out,hk,hq,rfl,HQ,HO,HP,hb⟩:=hrel;have hz:=hb.size;obtain⟨va,vc,rfl⟩:=bZ HO.out;by_cases Z:k<n
  ·obtain⟨ob,bb,rfl,aj,E⟩:=HA.out mw;have M:k<ts.length:=(by rw[HN.out];exact Z);have c0:=(hb.cell (p:=⟨ob,_,none⟩) aj).trans (E k 0 Z mw);have c1:=(hb.cell (p:=⟨ob,_,none⟩) aj).trans (E k 1 Z mw);have c2:=(hb.cell (p:=⟨ob,_,none⟩) aj).trans (E k 2 Z mw);simp only[Toks.GL,List.getD_eq_getElem?_getD,List.getElem?_eq_getElem M,Option.getD_some,Nat.add_zero,<-Nat.add_assoc]at c0 c1 c2;have hp:=HP.out;rw[Dj M,EG]at hp;obtain⟨hl,hm⟩:=an.out _ (Fe M);have HM:=fun wx=>Ol ts[k] wx;rw[hm]at HM;have a3:=Zm hl hm;generalize ts[k]=t at *;have x0:(0:Int)<=(k:Int):=mw;have x1:(k:Int)<(n:Int):=mw;rcases a3 with ⟨x,hx,rfl⟩|⟨L,D,a5,hL,a6,hD,rfl⟩
   ·rw[Y0 HQ.out hq]at hp;simp only[Toks.Tk.val_mk]at HM c0 c1 c2;have HM:=hid HM;have g1:=ig ((q:Int)<0);have a0:max (1:Int) 0=1:=ip;have s1:IntKind.i64.wrap ((most:Int)-(q:Int))=((most-q:Nat):Int):=m8;by_cases G:most-q<1
    ·rw[Ab G,Aa oK]at hp;injection hp with e1 e2;subst e1 e2;have g2:=ic (((most-q:Nat):Int)<1);have g3:=ic (most-q<1);generalize Q:most-q=dm at *;have au:dm=0:=mw;subst au;clear Q hm hl HP;clear E M;go_wp2_with fail;refine(HM.out _).mono ?_;rintro e w2 ⟨rfl,z⟩;have kk:=fun o=>z.cell (p:=⟨wr.heap.size,o,none⟩) oK;have b1:=(kk 1).trans rfl;have J:Hid (Below w w w2):=(nZ hz hb).trans (z.mono oT);have b2:=(kk 2).trans rfl;clear kk;go_wp2_with fail;go_ret2;exact⟨_,rfl,AI _ _ _ _,J.out⟩
    ·rw[Aa G,Ab rfl,Ab rfl,Br]at hp;obtain⟨dm,Q⟩:=ii (most-q);rw[<-Q]at s1 G;have g2:=ig ((dm:Int)<1);have g3:=ig (dm<1);have ag:=hid hp;have ak:q+1<=most:=mw;clear Q hm hl HP hp G;clear E M;go_wp2_with fail;refine(HM.out _).mono ?_;rintro e w2 ⟨rfl,z⟩;have kk:=fun o=>z.cell (p:=⟨wr.heap.size,o,none⟩) oK;have b1:=(kk 1).trans rfl;have J:Hid (Below w w w2):=(nZ hz hb).trans (z.mono oT);have b2:=(kk 2).trans rfl;have b0:=(kk 0).trans rfl;have ab:=hid (eZ (HO.out.alloc (.cells #[.int .u8 x,ij,ij] 280)) (fun y hy=>z.block y ky));have aq:=J.out.size;clear kk;go_wp2_with(at_builtin;refine iZ rfl (.tmp 39) (.tmp 42) 28 rfl w 5 j0 _ 1 1 underlying28 al av ar aw rfl ip _ _ _ mz (ab.out.alloc _) _ 1 1 [.int .u8 x] mz (Src.of_blk (Blk.made _ _ _) 1 1 1 rfl) mj pm mw oT ?_;intro v4 w4 U aa am);go_roundw
     case measure=>exact jo
     case rel=>
      go_light;refine⟨k+1,q+1,out++ [x],mw,ak,jp,?_,?_,ag.out,?_⟩
      ·show _=_;rw[Ae,HQ.out];rfl
      ·show World.ownsRow _ _ _ _ _ _ _;rw[show cZ .u8 (out++ [x])=cZ .u8 out++ [.int .u8 x] by simp[cZ]];exact U
      ·exact(nZ aq J.out).grown aa oT (fun y hy=>(Aj ab.out y hy).1)
   ·rw[aD HQ.out hq a5 hL a6 hD]at hp;simp only[Toks.Tk.val_mk]at HM c0 c1 c2;have HM:=hid HM;have a0:max (1:Int) (L:Int)=(L:Int):=mw;have a9:((L:Int)==0)=false:=nC;have s1:IntKind.i64.wrap ((most:Int)-(q:Int))=((most-q:Nat):Int):=m8;by_cases ac:q<D
    ·rw[Ab ac,Aa oK]at hp;injection hp with e1 e2;subst e1 e2;have g1:=ic ((q:Int)<D);have a1:=ic (q<D);clear hm hl HP;clear E M;go_wp2_with fail;refine(HM.out _).mono ?_;rintro e w2 ⟨rfl,z⟩;have kk:=fun o=>z.cell (p:=⟨wr.heap.size,o,none⟩) oK;have b1:=(kk 1).trans rfl;have J:Hid (Below w w w2):=(nZ hz hb).trans (z.mono oT);have b2:=(kk 2).trans rfl;clear kk;go_wp2_with fail;go_ret2;exact⟨_,rfl,AI _ _ _ _,J.out⟩
    ·rw[Aa ac]at hp;have g1:=ig ((q:Int)<D);have a1:=ig (q<D);obtain⟨dm,Q⟩:=ii (most-q);rw[<-Q]at s1 hp;by_cases G:dm<L
     ·rw[Ab G,Aa oK]at hp;injection hp with e1 e2;subst e1 e2;have g2:=ic ((dm:Int)<L);have g3:=ic (dm<L);clear hm hl HP Q;clear E M;go_wp2_with fail;refine(HM.out _).mono ?_;rintro e w2 ⟨rfl,z⟩;have kk:=fun o=>z.cell (p:=⟨wr.heap.size,o,none⟩) oK;have b1:=(kk 1).trans rfl;have J:Hid (Below w w w2):=(nZ hz hb).trans (z.mono oT);have b2:=(kk 2).trans rfl;clear kk;go_wp2_with fail;go_ret2;exact⟨_,rfl,AI _ _ _ _,J.out⟩
     ·rw[Aa G,Ab rfl,Aa (by show ¬(L:Int)=0;omega)]at hp
      replace hp:EG most (Db out ((L:Int)).toNat ((D:Int)).toNat) (ts.drop (k+1))=(R1,R2):=hp
      rw[Br,Br]at hp;have g2:=ig ((dm:Int)<L);have g3:=ig (dm<L);have ag:=hid hp;have ak:q+L<=most:=mw;clear Q hm hl HP hp G;clear E M;go_wp2_with fail;refine(HM.out _).mono ?_;rintro e w2 ⟨rfl,z⟩;have kk:=fun o=>z.cell (p:=⟨wr.heap.size,o,none⟩) oK;have b1:=(kk 1).trans rfl;have J:Hid (Below w w w2):=(nZ hz hb).trans (z.mono oT);have b2:=(kk 2).trans rfl;have ab:=hid (eZ (HO.out.alloc (.cells #[.int .u8 0,L,D] 280)) (fun y hy=>z.block y ky));have ai:Hid (Blk w2 wr 280 #[.int .u8 0,L,D]):=(Blk.made wr _ _).step z;have aq:=J.out.size;generalize wr.heap.size=pb at *;clear kk z HO hb c0 c1 c2 HM b1 b2;have b1:=ai.out.ia 1;have b2:=ai.out.ia 2;go_wp2_with fail;go_loopw [6,46] (fun u i wx=>∃j:Nat,j<=L/\i= .int .i64 j/\Hid (wx.ownsRow w 5 1 u (q+j) (cZ .u8 (Db out j D)))/\Hid (Blk wx pb 280 #[.int .u8 0,L,D])/\Hid (Below w w wx)) (fun _ i _=>L-(intOf i).toNat)
      case atStart=>exact⟨0,mw,rfl,ab.out,ai.out,J.out⟩
      case round=>
       obtain⟨j,hj,rfl,Y,N,ah⟩:=hrel;have az:=ah.out.size;by_cases ba:j<L
       ·obtain⟨g,cg,rfl,_⟩:=Y.out.form mw;have ax:(Db out j D).length=q+j:=(by rw[LW,HQ.out]);obtain⟨I,hI⟩:=ii (q+j-D);have af:=Sb j D out;rw[ax,<-hI]at af;have hy:(cZ .u8 (Db out j D))[I]? =some (.int .u8 ((Db out j D).getD I 0:Nat)):=(by simp[cZ,List.getD_eq_getElem?_getD,List.getElem?_eq_getElem (show I<(Db out j D).length by omega)]);have c9:wr.cell? ⟨g,I,none⟩=some (.int .u8 ((Db out j D).getD I 0:Nat)):=(by have h:=Y.out.cellAt I mw;rw[h];exact hy);generalize (Db out j D).getD I 0=y at *;have k1:=N.out.ia 1;have k2:=N.out.ia 2;have s2:IntKind.i64.wrap (((q+j:Nat):Int)-(D:Int))=(I:Int):=m8;have s3:IntKind.i64.wrap ((q:Int)+(j:Int)-(D:Int))=(I:Int):=m8;have y2:(0:Int)<=(I:Int):=mw;have y3:(I:Int)<((q+j:Nat):Int):=mw;have a4:=hid af;clear ax hI af hy b1 b2;go_wp2_with(at_builtin;refine iZ rfl (.tmp 48) (.tmp 57) 28 rfl w 5 j0 _ 1 1 underlying28 al av ar aw rfl ip _ _ _ mz (Y.out.alloc _) _ 1 1 [.int .u8 y] mz (Src.of_blk (Blk.made _ _ _) 1 1 1 rfl) mj pm mw oT ?_;intro v4 w4 U aa am);go_roundw
        case measure=>exact jo
        case rel=>
         go_light;refine⟨j+1,mw,jp,?_,?_,?_⟩
         ·show World.ownsRow _ _ _ _ _ _ _;rw[a4.out,show cZ .u8 (Db out j D++ [y])=cZ .u8 (Db out j D)++ [.int .u8 y] by simp[cZ]];exact U
         ·exact(N.out.alloc _).grown aa (fun e=>gZ Y.out N.out ip e.symm)
         ·exact(nZ az ah.out).grown aa oT (fun y hy=>(Aj Y.out y hy).1)
       ·obtain rfl:j=L:=by omega
        have k1:=N.out.ia 1;obtain⟨A5,c5,rfl⟩:=bZ Y.out;clear b1 b2;go_wp2_with fail;go_roundw
        case measure=>exact jo
        case rel=>go_light;exact⟨k+1,q+j,Db out j D,mw,ak,jp,by show _=_;rw[LW,HQ.out],Y.out,ag.out,ah.out⟩
  ·obtain rfl:k=n:=by omega
   have hp:=HP.out;rw[EB nm,EG]at hp;injection hp with e1 e2;subst e1 e2;clear HP;go_wp2_with fail;go_ret2;refine⟨_,rfl,?_,hb⟩;rw[HQ.out];exact HO.out
end Lz
end Go.Proofs.YtfgdoknipbpfhaaGreatDoor
