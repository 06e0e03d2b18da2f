/- Plain: the best match by chains of places with the same three bytes. T -/
import Derived.Test.YtmlaajebadfkoaaGreatDoorZTwoPacks11
import Derived.Test.YtmlaajebadfkoaaGreatDoorZTwoPacks3
import Derived.Test.YtmlaajebadfkoaaGreatDoorZTwoPacks2
import Derived.Test.YtmlaajebadfkoaaGreatDoorZTwoPacks19
import Derived.Deep.RegionHeld3
import Derived.Test.YtmlaajebadfkoaaGreatDoorProg
import Derived.Maps.OwnSet
import Derived.DeepKeys4
import Derived.Deep.AppendLies
import Derived.Lib.MinMax
namespace Go.Proofs.YtmlaajebadfkoaaGreatDoor end Go.Proofs.YtmlaajebadfkoaaGreatDoor open Go.Proofs.YtmlaajebadfkoaaGreatDoor
open Go.Lib (hid)
set_option maxHeartbeats 2000000
set_option maxRecDepth 100000
namespace Go.Proofs.YtmlaajebadfkoaaGreatDoor.Lz
def qbZ(l:List Nat)(k:Nat×Nat×Nat):Nat->Option Nat
 |0=>none
 |n+1=>if n+3<=l.length/\rcZ l n=k then some n else qbZ l k n
theorem thZ{l:List Nat}{k:Nat×Nat×Nat}:∀ {n p:Nat},qbZ l k n=some p->p<n/\p+3<=l.length/\rcZ l p=k/\∀q,p<q->q<n->q+3<=l.length->rcZ l q≠k
 |0,p,h=>by cases h
 |n+1,p,h=>by
  rw[qbZ]at h
  split at h
  ·rename_i hc
   injection h with h
   subst h
   exact⟨by omega,hc.1,hc.2,fun q h1 h2=>by omega⟩
  ·rename_i hc
   obtain⟨h1,h2,h3,h4⟩:=thZ h
   refine⟨by omega,h2,h3,fun q hq1 hq2 hq3=> ?_⟩
   by_cases e:q=n
   ·subst e;exact fun hk=>hc ⟨hq3,hk⟩
   ·exact h4 q hq1 (by omega) hq3
theorem evZ{l:List Nat}{k:Nat×Nat×Nat}:∀ {n:Nat},qbZ l k n=none->∀q,q<n->q+3<=l.length->rcZ l q≠k
 |0,_,q,h,_=>by omega
 |n+1,h,q,hq,h3=>by
  rw[qbZ]at h
  split at h
  ·cases h
  ·rename_i hc
   by_cases e:q=n
   ·subst e;exact fun hk=>hc ⟨h3,hk⟩
   ·exact evZ h q (by omega) h3
def cpZ:Option Nat->Int
 |some p=>(p:Nat)
 |none=> -1
def glZ(l:List Nat)(p:Nat):Int:=if p+3<=l.length then cpZ (qbZ l (rcZ l p) p)else-1
def uhZ(l:List Nat)(n:Nat):List Int:=(List.range n).map (glZ l)
theorem fbZb(l:List Nat)(n:Nat):(uhZ l n).length=n:=by simp[uhZ]
theorem ehZb(l:List Nat)(n:Nat):uhZ l (n+1)=uhZ l n++ [glZ l n]:=by simp[uhZ,List.range_succ]
theorem xjZb{l:List Nat}{n i:Nat}(h:i<n):(uhZ l n)[i]? =some (glZ l i):=by simp[uhZ,h]
theorem hyZ{l:List Nat}{at_ d:Nat}(nd:Nat×Nat)(h:alike l (at_-d) at_<3):norm (ifZ l at_ nd d)=norm nd:=by
 unfold ifZ
 split
 ·rename_i hlt
  unfold norm
  rw[if_neg (show ¬3<=(alike l (at_-d) at_,d).1 by show ¬3<=alike l (at_-d) at_;omega),if_neg (by omega)]
 ·rfl
theorem gbZb{l:List Nat}{at_ d:Nat}(nd:Nat×Nat)(h:3<=alike l (at_-d) at_):norm (ifZ l at_ nd d)=if(norm nd).1<alike l (at_-d) at_ then(alike l (at_-d) at_,d)else norm nd:=by
 unfold ifZ norm
 by_cases h3:3<=nd.1
 ·rw[if_pos h3]
  by_cases hlt:nd.1<alike l (at_-d) at_
  ·rw[if_pos hlt,if_pos (show 3<=(alike l (at_-d) at_,d).1 from h)]
  ·rw[if_neg hlt,if_pos h3]
 ·rw[if_neg h3,if_pos (show nd.1<alike l (at_-d) at_ by omega),if_pos (show 3<=(alike l (at_-d) at_,d).1 from h),if_pos (show(0,0).1<alike l (at_-d) at_ by show 0<_;omega)]
theorem xmZ{l:List Nat}{at_ D1:Nat}:∀ {D2:Nat},D1<=D2->(∀d,D1<d->d<=D2->alike l (at_-d) at_<3)->norm (ubZ l at_ D2)=norm (ubZ l at_ D1)
 |0,h,_=>by rw[show D1=0 by omega]
 |D2+1,h,hs=>by
  by_cases e:D1=D2+1
  ·rw[e]
  ·rw[ubZ,hyZ _ (hs (D2+1) (by omega) (Nat.le_refl _))]
   exact xmZ (by omega) fun d h1 h2=>hs d h1 (by omega)
theorem iyZ{l:List Nat}{at_ D1:Nat}(h257:(norm (ubZ l at_ D1)).1=257):∀ {D2:Nat},D1<=D2->norm (ubZ l at_ D2)=norm (ubZ l at_ D1)
 |0,h=>by rw[show D1=0 by omega]
 |D2+1,h=>by
  by_cases e:D1=D2+1
  ·rw[e]
  ·have ih:=iyZ h257 (D2:=D2) (by omega)
   rw[ubZ]
   by_cases h3:3<=alike l (at_-(D2+1)) at_
   ·rw[gbZb _ h3,ih,if_neg]
    have:=otZ l (at_-(D2+1)) at_
    omega
   ·rw[hyZ _ (by omega),ih]
structure At (l:List Nat) (at_ E:Nat) (nd:Nat×Nat):Prop where
 le:E<=at_
 win:at_-E<=4095
 is:norm (ubZ l at_ (at_-E))=nd
theorem At.start(l:List Nat)(at_:Nat):At l at_ at_ (0,0):=⟨Nat.le_refl _,by omega,by rw[Nat.sub_self];rfl⟩
theorem wtZ{l:List Nat}{q at_:Nat}(_hf:at_+3<=l.length)(hk:rcZ l q≠rcZ l at_):alike l q at_<3:=by
 rcases Nat.lt_or_ge (alike l q at_) 3 with h|h
 ·exact h
 ·exact absurd (ljZb h) hk
theorem At.next{l:List Nat}{at_ E p:Nat}{nd:Nat×Nat}(h:At l at_ E nd)(hf:at_+3<=l.length)(hp:qbZ l (rcZ l at_) E=some p)(hw:at_-p<=4095):
 At l at_ p (if nd.1<alike l p at_ then(alike l p at_,at_-p)else nd):=by
 obtain⟨h1,h2,h3,h4⟩:=thZ hp
 have hle:=h.le
 refine⟨by omega,hw,?_⟩
 have e1:at_-p=(at_-p-1)+1:=by omega
 have hskip:norm (ubZ l at_ (at_-p-1))=nd:=by
  rw[<-h.is]
  refine xmZ (by omega) fun d hd1 hd2=>wtZ hf (h4 (at_-d) (by omega) (by omega) (by omega))
 rw[e1,ubZ,<-e1]
 have e2:at_-(at_-p)=p:=by omega
 rw[gbZb _ (by rw[e2];exact ndZb h3 hf),hskip,e2]
theorem At.none{l:List Nat}{at_ E:Nat}{nd:Nat×Nat}(h:At l at_ E nd)(hf:at_+3<=l.length)(hp:qbZ l (rcZ l at_) E=none):norm (dbZ l at_)=nd:=by
 rw[<-h.is]
 have hle:=h.le
 have hw:=h.win
 exact xmZ (by omega) fun d hd1 hd2=>wtZ hf (evZ hp (at_-d) (by omega) (by omega))
theorem At.far{l:List Nat}{at_ E p:Nat}{nd:Nat×Nat}(h:At l at_ E nd)(hf:at_+3<=l.length)(hp:qbZ l (rcZ l at_) E=some p)(hw:4095<at_-p):norm (dbZ l at_)=nd:=by
 obtain⟨h1,h2,h3,h4⟩:=thZ hp
 rw[<-h.is]
 have hle:=h.le
 have hw:=h.win
 exact xmZ (by omega) fun d hd1 hd2=>wtZ hf (h4 (at_-d) (by omega) (by omega) (by omega))
theorem At.full{l:List Nat}{at_ E:Nat}{nd:Nat×Nat}(h:At l at_ E nd)(h257:nd.1=257):norm (dbZ l at_)=nd:=by
 rw[<-h.is]
 have hle:=h.le
 have hw:=h.win
 exact iyZ (by rw[h.is];exact h257) (by omega)
theorem fhZb{l:List Nat}{at_:Nat}(h:l.length<at_+3):norm (dbZ l at_)=(0,0):=by
 have hg:=uoZ l at_
 unfold norm
 rw[if_neg]
 intro h3
 have:=clZ (l:=l) (at_:=at_) (by omega)
 omega
theorem ghZb{l:List Nat}{at_:Nat}(h:3<=(dbZ l at_).1):norm (dbZ l at_)=dbZ l at_:=if_pos h
theorem yjZb{l:List Nat}{at_:Nat}(h:¬3<=(dbZ l at_).1):norm (dbZ l at_)=(0,0):=if_neg h
end Go.Proofs.YtmlaajebadfkoaaGreatDoor.Lz
namespace Go.Proofs.YtmlaajebadfkoaaGreatDoor.Lz
open Go.RowKit Mem Own Canon
theorem ffZb(w:World)(A:Option Addr)(n c:Nat)(ls:List Nat)(at_:Nat)(hn:ls.length=n)(hN:n<=1000000)(hf:at_+3<=n)(ha:Row w w.heap.size A n 1 (rZ .u8 ls)):
 Calls Tryz.prog 278 #[.slice A n c, .int .i64 at_] w fun e w'=>e= .returned (.agg #[.int .u8 (ls.getD at_ 0:Nat), .int .u8 (ls.getD (at_+1) 0:Nat), .int .u8 (ls.getD (at_+2) 0:Nat)])/\Below w.heap.size w w':=by
 obtain⟨b,off,rfl,hb,hc⟩:=ha (by omega)
 have c0:=hc at_ 0 (by omega) (by omega)
 have c1:=hc (at_+1) 0 (by omega) (by omega)
 have c2:=hc (at_+2) 0 (by omega) (by omega)
 simp only[rZ,Nat.mul_one,Nat.add_zero]at c0 c1 c2
 have s1:IntKind.i64.wrap ((at_:Int)+1)=((at_+1:Nat):Int):=by rw[IntWalk.i64_in _ (by omega)];omega
 have s2:IntKind.i64.wrap ((at_:Int)+2)=((at_+2:Nat):Int):=by rw[IntWalk.i64_in _ (by omega)];omega
 generalize ls.getD at_ 0=x0 at *
 generalize ls.getD (at_+1) 0=x1 at *
 generalize ls.getD (at_+2) 0=x2 at *
 obtain⟨i1,hi1⟩:∃i1,i1=at_+1:=⟨_,rfl⟩
 obtain⟨i2,hi2⟩:∃i2,i2=at_+2:=⟨_,rfl⟩
 rw[<-hi1]at c1 s1
 rw[<-hi2]at c2 s2
 have y0:(0:Int)<=(at_:Int):=by omega
 have y1:(at_:Int)<(n:Int):=by omega
 have y2:(0:Int)<=(i1:Int):=by omega
 have y3:(i1:Int)<(n:Int):=by omega
 have y4:(0:Int)<=(i2:Int):=by omega
 have y5:(i2:Int)<(n:Int):=by omega
 have nb:b≠w.heap.size:=by omega
 clear ha hc hi1 hi2 hn
 go_enter Tryz.func278,Tryz.ntmps278
 go_upto_region 1 with fail
 go_region
 go_wp2_with fail
 refine bodyPost_ret (v:= .agg #[.int .u8 x0, .int .u8 x1, .int .u8 x2]) ?_ rfl ⟨rfl,?_⟩
 ·simp[results,Tryz.results278,go_sem]
 ·(repeat(first|(with_reducible first|exact Below.refl _ _|assumption|refine Below.drew ?_|refine below_drewN ?_ _|refine aZ ?_|refine cZ (by assumption) ?_)|((with_reducible first|refine jZ ?_ ?_|refine eZ ?_ ?_|refine gZ (by assumption) ?_ ?_);(focus(first|(simp;done)|(simp;omega)|omega|(simp at *;omega))))))
theorem zjZb(w:World)(A:Option Addr)(n c:Nat)(ls:List Nat)(p at_:Nat)(hn:ls.length=n)(hN:n<=1000000)(hp:p<=at_)(hat:at_<=n)(ha:Row w w.heap.size A n 1 (rZ .u8 ls)):
 Calls Tryz.prog 279 #[.slice A n c, .int .i64 p, .int .i64 at_] w fun e w'=>e= .returned (.int .i64 (alike ls p at_:Nat))/\Below w.heap.size w w':=by
 obtain⟨R,hR⟩:∃R,R=alike ls p at_:=⟨_,rfl⟩
 rw[<-hR]
 have HR:Hid (∀k,IsAlike ls p at_ k->k=R):=fun k h=>(jaZb h).symm.trans hR.symm
 have HA:=hid ha
 have HN:=hid hn
 clear ha hn hR
 go_enter Tryz.func279,Tryz.ntmps279
 go_wp2_with fail
 go_loopw [7] (fun i wr=>∃k:Nat,k<=257/\i= .int .i64 k/\Hid (k=0∨at_+k<=n)/\Hid (∀j,j<k->ls.getD (p+j) 0=ls.getD (at_+j) 0)/\Hid (Below w.heap.size w wr)) (fun i _=>257-(intOf i).toNat)
 case atStart=>exact⟨0,by omega,rfl, .inl rfl,fun j hj=>absurd hj (by omega),Below.refl _ _⟩
 case round=>
  obtain⟨k,hk,rfl,HF,HS,HB⟩:=hrel
  by_cases h257:k<257
  ·have g1:decide ((k:Int)<257)=true:=by simp;omega
   have g1':decide (k<257)=true:=by simp;omega
   have s1:IntKind.i64.wrap ((at_:Int)+(k:Int))=((at_+k:Nat):Int):=by rw[IntWalk.i64_in _ (by omega)];omega
   have s2:IntKind.i64.wrap ((p:Int)+(k:Int))=((p+k:Nat):Int):=by rw[IntWalk.i64_in _ (by omega)];omega
   obtain⟨i1,hi1⟩:∃i1,i1=at_+k:=⟨_,rfl⟩
   obtain⟨i2,hi2⟩:∃i2,i2=p+k:=⟨_,rfl⟩
   rw[<-hi1]at s1
   rw[<-hi2]at s2
   by_cases hlt:i1<n
   ·obtain⟨b,off,rfl,hb,hc⟩:=HA.out (by omega)
    have c1:=(HB.out.cell (p:=⟨b,_,none⟩) hb).trans (hc i1 0 hlt (by omega))
    have c2:=(HB.out.cell (p:=⟨b,_,none⟩) hb).trans (hc i2 0 (by omega) (by omega))
    simp only[rZ,Nat.mul_one,Nat.add_zero]at c1 c2
    have g2:decide ((i1:Int)<(n:Int))=true:=by simp;omega
    have g2':decide (i1<n)=true:=by simp;omega
    have y2:(0:Int)<=(i1:Int):=by omega
    have y3:(i1:Int)<(n:Int):=by omega
    have y4:(0:Int)<=(i2:Int):=by omega
    have y5:(i2:Int)<(n:Int):=by omega
    by_cases he:ls.getD i2 0=ls.getD i1 0
    ·have HS2:Hid (∀j,j<k+1->ls.getD (p+j) 0=ls.getD (at_+j) 0):=fun j hj=>by
      by_cases e:j<k
      ·exact HS.out j e
      ·obtain rfl:j=k:=by omega
       rw[<-hi1,<-hi2];exact he
     rw[he]at c2
     have HF2:Hid (k+1=0∨at_+(k+1)<=n):= .inr (by omega)
     generalize ls.getD i1 0=x at *
     have g3:((x:Int)==(x:Int))=true:=by simp
     clear hc he HS HF hi1 hi2
     go_wp2_with fail
     go_quiet (fail)
     go_wp2_with fail
     go_roundw
     case measure=>go_light;simp[intOf];omega
     case rel=>go_light;exact⟨k+1,by omega,by go_num,HF2.out,HS2.out,below_drewN HB.out _⟩
    ·have HK:Hid (k=R):=HR.out k ⟨hk,by have h:=HF.out;rw[HN.out];exact h,HS.out,fun h=>he (by rw[hi1,hi2];exact h.2.2)⟩
     have g3:(((ls.getD i2 0:Nat):Int)==((ls.getD i1 0:Nat):Int))=false:=by
      rw[Bool.eq_false_iff];intro h;rw[beq_iff_eq]at h;exact he (by omega)
     generalize ls.getD i1 0=x at *
     generalize ls.getD i2 0=y at *
     clear hc he HS HF hi1 hi2
     go_wp2_with fail
     go_quiet (fail)
     go_wp2_with fail
     go_ret
     exact⟨rhZ (by rw[<-HK.out]),below_drewN HB.out _⟩
   ·have HK:Hid (k=R):=HR.out k ⟨hk,by have h:=HF.out;rw[HN.out];exact h,HS.out,fun h=>hlt (by have:=h.2.1;rw[HN.out]at this;omega)⟩
    have g2:decide ((i1:Int)<(n:Int))=false:=by simp;omega
    have g2':decide (i1<n)=false:=by simp;omega
    clear HS HF hi1 hi2 hlt
    go_wp2_with fail
    go_quiet (fail)
    go_wp2_with fail
    go_ret
    exact⟨rhZ (by rw[<-HK.out]),below_drewN HB.out _⟩
  ·have HK:Hid (k=R):=HR.out k ⟨hk,by have h:=HF.out;rw[HN.out];exact h,HS.out,fun h=>h257 h.1⟩
   have g1:decide ((k:Int)<257)=false:=by simp;omega
   have g1':decide (k<257)=false:=by simp;omega
   clear HS HF h257
   go_wp2_with fail
   go_quiet (fail)
   go_wp2_with fail
   go_ret
   exact⟨rhZ (by rw[<-HK.out]),below_drewN HB.out _⟩
end Go.Proofs.YtmlaajebadfkoaaGreatDoor.Lz
namespace Go.Proofs.YtmlaajebadfkoaaGreatDoor.Lz
open Go.RowKit Go.Maps Mem Own
theorem qmZb:laidOutB Tryz.prog=true:=by kernel_rfl
theorem wrZb:(match Tryz.prog.underlying 340 with|some (.array _ _)|some (.struct _)=>true|_=>false)=true:=by kernel_rfl
theorem law3:Keyed Tryz.prog 340:=Keyed.of_law (deep_law_laid qmZb (m:=2) (by omega) (of_decide_eq_true (by kernel_rfl)) (by kernel_rfl) wrZb)
def k3v(x y z:Nat):Value:= .agg #[.int .u8 x, .int .u8 y, .int .u8 z]
def K3(x y z:Nat):Lit:= .string (keyBytes [.int .u8 x, .int .u8 y, .int .u8 z])
theorem akZb:Tryz.prog.keyType 340=true:=by kernel_rfl
theorem epZb:Tryz.prog.cellsOf 340=3:=by kernel_rfl
theorem crZb:∃e,Tryz.prog.underlying 340=some (.array 3 e)/\Tryz.prog.underlying e=some (.int .u8)/\Tryz.prog.cellsOf e=1:=⟨5,by kernel_rfl,by kernel_rfl,by kernel_rfl⟩
theorem wf8{x:Nat}(h:x<=255):(Lit.int .u8 (x:Int)).wf=true:=by
 simp[Lit.wf,IntKind.min,IntKind.max,IntKind.signed,IntKind.bits]
 omega
theorem bkZb:∃d,Tryz.prog.types.size+1=d+2:=⟨Tryz.prog.types.size-1,by have:1<=Tryz.prog.types.size:=of_decide_eq_true (by kernel_rfl);omega⟩
theorem tqZ{x y z:Nat}(hx:x<=255)(hy:y<=255)(hz:z<=255):keyOf Tryz.prog 340 (k3v x y z)=some (K3 x y z):=by
 obtain⟨e,h1,h2,h3⟩:=crZb
 obtain⟨d,hd⟩:=bkZb
 have hf:(k3v x y z).formed Tryz.prog 340=true:=by
  simp[Value.formed,k3v,h1,epZb]
 unfold keyOf
 rw[h1]
 simp only[akZb,hf,Bool.and_self,if_true,hd]
 unfold k3v K3
 simp[Program.keyLits,h1,h2,h3,epZb,Value.cells,List.range_succ,wf8 hx,wf8 hy,wf8 hz]
theorem drZb{x y z x' y' z':Nat}(hx:x<=255)(hy:y<=255)(hz:z<=255)(hx':x'<=255)(hy':y'<=255)(hz':z'<=255)(h:K3 x y z=K3 x' y' z'):(x,y,z)=(x',y',z'):=by
 have e:=law3.inj (tqZ hx hy hz) (by rw[h];exact tqZ hx' hy' hz')
 unfold k3v at e
 simp at e
 simp
 omega
theorem ckZb{x y z:Nat}(hx:x<=255)(hy:y<=255)(hz:z<=255):WideAt.IsKeyLit (K3 x y z):=law3.key (tqZ hx hy hz)
def MapIs(l:List Nat)(n:Nat)(D:DataW Unit):Prop:=
 IsMap D/\∀x y z,x<=255->y<=255->z<=255->(∀p,qbZ l (x,y,z) n=some p->has D (K3 x y z)=true/\∀zd,D.atKey (K3 x y z) zd= .lit (.int .i64 (p:Int)))/\(qbZ l (x,y,z) n=none->has D (K3 x y z)=false)
theorem MapIs.start(l:List Nat):MapIs l 0 (.map []):=⟨isMap_empty,fun x y z _ _ _=>⟨fun p h=>absurd h (by simp[qbZ]),fun _=>rfl⟩⟩
theorem MapIs.skip{l:List Nat}{n:Nat}{D:DataW Unit}(h:MapIs l n D)(hn:l.length<n+3):MapIs l (n+1) D:=by
 refine⟨h.1,fun x y z hx hy hz=> ?_⟩
 rw[qbZ,if_neg (by omega)]
 exact h.2 x y z hx hy hz
theorem MapIs.put{l:List Nat}{n:Nat}{D:DataW Unit}(h:MapIs l n D)(h8:∀c∈l,c<=255)(hn:n+3<=l.length):MapIs l (n+1) (D.put (K3 (l.getD n 0) (l.getD (n+1) 0) (l.getD (n+2) 0)) (.lit (.int .i64 (n:Int)))):=by
 have hg:∀i,i<l.length->l.getD i 0<=255:=fun i hi=>by
  rw[List.getD_eq_getElem?_getD,List.getElem?_eq_getElem hi]
  exact h8 _ (List.getElem_mem hi)
 have g0:=hg n (by omega)
 have g1:=hg (n+1) (by omega)
 have g2:=hg (n+2) (by omega)
 refine⟨h.1.put _ _,fun x y z hx hy hz=> ?_⟩
 rw[qbZ]
 by_cases hk:rcZ l n=(x,y,z)
 ·rw[if_pos ⟨hn,hk⟩]
  unfold rcZ at hk
  simp only[Prod.mk.injEq]at hk
  rw[hk.1,hk.2.1,hk.2.2]
  refine⟨fun p hp=> ?_,fun hp=>by cases hp⟩
  injection hp with hp
  subst hp
  exact⟨has_put_same h.1 (ckZb hx hy hz) _,fun zd=>atKey_put_same h.1 (ckZb hx hy hz) _ _⟩
 ·rw[if_neg (fun h=>hk h.2)]
  have hne:K3 x y z≠K3 (l.getD n 0) (l.getD (n+1) 0) (l.getD (n+2) 0):=fun e=>hk (drZb hx hy hz g0 g1 g2 e).symm
  obtain⟨i1,i2⟩:=h.2 x y z hx hy hz
  refine⟨fun p hp=> ?_,fun hp=> ?_⟩
  ·rw[has_put_other hne]
   exact⟨(i1 p hp).1,fun zd=>by rw[atKey_put_other hne];exact(i1 p hp).2 zd⟩
  ·rw[has_put_other hne];exact i2 hp
def dpZ(o:Option Nat):Int:=match o with
 |some p=>(p:Nat)
 |none=>0
theorem rmZb(w:World):(zeroValue 3).run Tryz.prog w= .ok (.int .i64 0) w:=by rfl
theorem fpZb{w:World}{b n m:Nat}{l:List Nat}{D:DataW Unit}(h:w.ownsMap Tryz.prog 340 (plainElem Tryz.prog 3) b m D)(hD:MapIs l n D){x y z:Nat}(hx:x<=255)(hy:y<=255)(hz:z<=255):
 (Instr.lookup 300 (.map (some b)) (k3v x y z) true).run Tryz.prog w= .ok (.tuple #[.int .i64 (dpZ (qbZ l (x,y,z) n)), .bool (qbZ l (x,y,z) n).isSome]) w:=by
 obtain⟨v,ps,hrun,hv⟩:=h.look_ok law3 Tryz.underlying300 (rmZb w) (plainElem_int Tryz.underlying3 (by decide)) (tqZ hx hy hz)
 obtain⟨a,rfl,ha,_⟩:=plainElem_int_inv Tryz.underlying3 hv
 simp only[Prod.mk.injEq]at ha
 rw[hrun]
 obtain⟨i1,i2⟩:=hD.2 x y z hx hy hz
 cases hl:qbZ l (x,y,z) n with
 |none=>
  have hh:=i2 hl
  rw[hh]
  have hz0:=atKey_of_not_has hh (DataW.lit (.int .i64 0):DataW Unit)
  rw[hz0]at ha
  injection ha.1 with e
  injection e with _ e
  rw[<-e]
  rfl
 |some p=>
  have hh:=i1 p hl
  rw[hh.1]
  rw[hh.2]at ha
  injection ha.1 with e
  injection e with _ e
  rw[<-e]
  rfl
end Go.Proofs.YtmlaajebadfkoaaGreatDoor.Lz
namespace Go.Proofs.YtmlaajebadfkoaaGreatDoor.Lz
open Go.RowKit Go.Maps Mem Own Canon
def njZ(l:List Int):List Value:=l.map (Value.int .i64)
theorem hhZb(l:List Int)(x:Int):njZ (l++ [x])=njZ l++ [.int .i64 x]:=by simp[njZ]
theorem info_int:(Tryz.prog.info? 3).map (fun i=>(i.zero,i.size,i.bytes))=some (some (.int .i64 0),1,8):=by kernel_rfl
structure Ch (w:World) (cb mb base:Nat) (l:List Nat) (n m:Nat) (D:DataW Unit) (pv:Value) (ps:List Int):Prop where
 blk:Blk w cb 302 #[.map (some mb),pv]
 map:w.ownsMap Tryz.prog 340 (plainElem Tryz.prog 3) mb m D
 prev:w.ownsRow base 3 1 pv n (njZ ps)
 lo:base<=cb
 lm:base<=mb
section
variable {w w':World} {cb mb base:Nat} {l:List Nat} {n m:Nat} {D:DataW Unit} {pv:Value} {ps:List Int}
theorem jyZ{b m:Nat}{t:TypeId}{g:Nat}{cs:Array Value}{fz:Nat×Nat}(h:w.ownsMap Tryz.prog 340 (plainElem Tryz.prog 3) b m D)(hg:w.heap[g]? =some (.cells cs t fz)):b≠g:=by
 intro e
 subst e
 obtain⟨es,clock,hb,_⟩:=h
 rw[hb]at hg
 cases hg
theorem xnZ{b m base' n' s':Nat}{e:TypeId}{v:Value}{xs:List Value}(h:w.ownsMap Tryz.prog 340 (plainElem Tryz.prog 3) b m D)(ho:w.ownsRow base' e s' v n' xs):v.ownBlock≠some b:=by
 intro hv
 rcases ho.2 with ⟨rfl,_⟩|⟨g,cap,cur,rfl,_,hg,_⟩
 ·simp[Value.ownBlock]at hv
 ·simp[Value.ownBlock]at hv
  subst hv
  exact jyZ h hg rfl
theorem epZ{b m:Nat}(h:w.ownsMap Tryz.prog 340 (plainElem Tryz.prog 3) b m D)(hk:w'.heap[b]? =w.heap[b]?):w'.ownsMap Tryz.prog 340 (plainElem Tryz.prog 3) b m D:=by
 obtain⟨es,clock,hb,rest⟩:=h
 exact⟨es,clock,hk.trans hb,rest⟩
theorem Ch.drew(h:Ch w cb mb base l n m D pv ps):Ch w.drew cb mb base l n m D pv ps:=⟨h.blk,h.map,h.prev,h.lo,h.lm⟩
theorem Ch.alloc(h:Ch w cb mb base l n m D pv ps)(o:Obj):Ch (w.alloc o) cb mb base l n m D pv ps:=⟨h.blk.alloc o,h.map.alloc o,h.prev.alloc o,h.lo,h.lm⟩
theorem Ch.more(h:Ch w cb mb base l n m D pv ps):Ch w cb mb base l n (m+1) D pv ps:=⟨h.blk,h.map.mono (Nat.le_succ _),h.prev,h.lo,h.lm⟩
theorem Ch.ne(h:Ch w cb mb base l n m D pv ps):mb≠cb:=jyZ h.map h.blk
theorem Ch.step(h:Ch w cb mb base l n m D pv ps)(hb:Below w.heap.size w w'):Ch w' cb mb base l n m D pv ps:=
 ⟨h.blk.step hb,epZ h.map (hb.block mb h.map.lt),fZ h.prev (fun x hx=>hb.block x (World.ownsRow.lt h.prev x hx).2),h.lo,h.lm⟩
end
def Out(cb mb:Nat)(pv:Value)(w:World)(x:Nat):Prop:=x<w.heap.size/\x≠cb/\x≠mb/\pv.ownBlock≠some x
def uqZ(pv pv':Value)(w:World):Prop:=pv'.ownBlock=pv.ownBlock∨∃x,pv'.ownBlock=some x/\w.heap.size<=x
theorem Ch.push{w w4:World}{cb mb base:Nat}{l:List Nat}{n m:Nat}{D:DataW Unit}{pv v4:Value}{ps:List Int}{o:Obj}(h:Ch w cb mb base l n m D pv ps)(hg:(w.alloc o).grownBy w4 pv.ownBlock)(hown:w4.ownsRow base 3 1 v4 (n+1) (njZ ps++ [.int .i64 (-1)]))
 (hat:v4.ownBlock=pv.ownBlock∨v4.ownBlock=some (w.alloc o).heap.size):
 Ch (w4.setCell ⟨cb,1,none⟩ v4) cb mb base l (n+1) m D v4 (ps++ [-1])/\uqZ pv v4 w/\Kept (Out cb mb pv w) w (w4.setCell ⟨cb,1,none⟩ v4):=by
 have hbl:=(h.blk.alloc o).grown hg (fun e=>kZ h.prev h.blk (by decide) e.symm)
 refine⟨⟨hbl.set 1 _,?_,?_,h.lo,h.lm⟩,?_,?_⟩
 ·refine epZ h.map ((Below.heap_setCell w4 _ _ mb h.ne).trans ((hg.block mb (by have:=h.map.lt;simp;omega) (fun e=>xnZ h.map h.prev e.symm)).trans (Below.heap_alloc w o mb h.map.lt)))
 ·rw[hhZb]
  exact fZ hown fun x hx=>Below.heap_setCell w4 _ _ x (fun e=>kZ hown hbl (by decide) (hx.trans (congrArg some e)))
 ·rcases hat with h1|h1
  ·exact .inl h1
  ·exact .inr ⟨_,h1,by simp⟩
 ·exact(((Kept.refl _ w).alloc (fun k hk=>hk.1) o).grown hg (fun k hk=>by have:=hk.1;simp;omega) (fun k hk=>by intro h2;exact h2.2.2.2 hk)).set (fun h2=>h2.2.1 rfl) _
theorem dkZb(w:World)(cb mb base:Nat)(ls:List Nat)(A:Option Addr)(n c at_:Nat)(D:DataW Unit)(pv:Value)(ps:List Int)(hN:n<=1000000)(hat:at_<=n)(hsh:n<at_+3)(hba:base<=w.heap.size)(h:Ch w cb mb base ls at_ at_ D pv ps):
 Calls Tryz.prog 241 #[.pointer (some ⟨cb,0,none⟩), .slice A n c, .int .i64 at_] w fun e w'=>e= .returned (.tuple #[])/\∃pv',Ch w' cb mb base ls (at_+1) (at_+1) D pv' (ps++ [-1])/\uqZ pv pv' w/\Kept (Out cb mb pv w) w w':=by
 obtain⟨j0,hj0,hy0,hy1,hy2⟩:=info_parts info_int
 obtain⟨pa,pc,rfl⟩:=bZ h.prev
 have d0:=h.blk.cell 0
 have d1:=h.blk.cell 1
 simp only[List.getElem?_toArray,List.getElem?_cons_zero,List.getElem?_cons_succ]at d0 d1
 have H:=hid h
 have s1:IntKind.i64.wrap ((at_:Int)+3)=(at_:Int)+3:=by rw[IntWalk.i64_in _ (by omega)]
 have g1:decide ((n:Int)<(at_:Int)+3)=true:=by simp;omega
 clear h
 go_enter Tryz.func241,Tryz.ntmps241
 go_wp2_with(at_builtin;refine hZ rfl (.tmp 13) (.tmp 14) 38 rfl base 3 j0 _ 1 8 Tryz.underlying38 hj0 hy0 hy1 hy2 rfl (by decide) _ _ _ (by rfl) (H.out.prev.alloc _) _ 1 1 [.int .i64 (-1)] (by rfl) (Src.of_blk (Blk.made _ _ _) 1 1 1 rfl) (by intro u hu;simp at hu;rcases hu with rfl;rfl) (by unfold maxLen;omega) (by omega) (by simp;omega) ?_;intro v4 w4 hown4 hg4 hat4;obtain⟨A4,k4,rfl⟩:=bZ hown4;have q1:w4.cell? ⟨cb,1,none⟩=some (.slice pa at_ pc):=(((H.out.blk.alloc _).grown hg4 (fun e=>kZ H.out.prev H.out.blk (by decide) e.symm))).cell 1;have q0:w4.cell? ⟨cb,0,none⟩=some (.map (some mb)):=(((H.out.blk.alloc _).grown hg4 (fun e=>kZ H.out.prev H.out.blk (by decide) e.symm))).cell 0;have qf:w4.frozen? ⟨cb,1,none⟩=false:=(((H.out.blk.alloc _).grown hg4 (fun e=>kZ H.out.prev H.out.blk (by decide) e.symm))).frozen 1)
 refine bodyPost_ret (results_none rfl _ _ _) rfl ?_
 have hp:=H.out.push hg4 hown4 hat4
 exact⟨rfl,_,hp.1.more,hp.2⟩
theorem gfZb{w:World}{base n g c i:Nat}{e:TypeId}{xs:List Value}(h:w.ownsRow base e 1 (.slice (some ⟨g,0,none⟩) n c) n xs)(u:Value)(_hi:i<n):(w.setCell ⟨g,i,none⟩ u).ownsRow base e 1 (.slice (some ⟨g,0,none⟩) n c) n (xs.set i u):=by
 refine⟨by rw[List.length_set];exact h.1,?_⟩
 rcases h.2 with ⟨hv,_⟩|⟨g',cap,cur,hv,hb,hg,h1,h2,h3,h4⟩
 ·cases hv
 ·injection hv with e1 e2 e3
  injection e1 with e1
  injection e1 with e1
  subst e1 e3
  have hbl:Blk w g e cur:=hg
  refine .inr ⟨g,c,cur.setIfInBounds i u,rfl,hb,hbl.set i u,h1,h2,by simpa using h3,?_⟩
  rw[<-h4]
  simp[List.take_set]
theorem own_cells{w:World}{base n g c i:Nat}{e:TypeId}{xs:List Value}(h:w.ownsRow base e 1 (.slice (some ⟨g,0,none⟩) n c) n xs)(hi:i<n):w.cell? ⟨g,i,none⟩=xs[i]? /\w.frozen? ⟨g,i,none⟩=false/\base<=g:=by
 rcases h.2 with ⟨hv,_⟩|⟨g',cap,cur,hv,hb,hg,h1,h2,h3,h4⟩
 ·cases hv
 ·injection hv with e1 e2 e3
  injection e1 with e1
  injection e1 with e1
  subst e1 e3
  have hbl:Blk w g e cur:=hg
  refine⟨?_,hbl.frozen i,hb⟩
  rw[hbl.cell i,<-h4,List.getElem?_take_of_lt (by omega)]
  simp
theorem Ch.put{w:World}{cb mb base g c i:Nat}{l:List Nat}{n m:Nat}{D:DataW Unit}{ps:List Int}(h:Ch w cb mb base l n m D (.slice (some ⟨g,0,none⟩) n c) ps)(x:Int)(hi:i<n):Ch (w.setCell ⟨g,i,none⟩ (.int .i64 x)) cb mb base l n m D (.slice (some ⟨g,0,none⟩) n c) (ps.set i x):=by
 have hne:g≠cb:=fun e=>kZ h.prev h.blk (by decide) (congrArg some e)
 have hnm:g≠mb:=fun e=>xnZ h.map h.prev (congrArg some e)
 refine⟨h.blk.far hne.symm _,epZ h.map (Below.heap_setCell w _ _ mb hnm.symm),?_,h.lo,h.lm⟩
 have:=gfZb h.prev (.int .i64 x) hi
 have e:njZ (ps.set i x)=(njZ ps).set i (.int .i64 x):=by simp[njZ,List.map_set]
 rw[e]
 exact this
theorem Ch.upd{w w':World}{cb mb base:Nat}{l:List Nat}{n m:Nat}{D D':DataW Unit}{pv:Value}{ps:List Int}(h:Ch w cb mb base l n m D pv ps)(r1:w'.ownsMap Tryz.prog 340 (plainElem Tryz.prog 3) mb (m+1) D')(r2:w.grownBy w' (some mb)):Ch w' cb mb base l n (m+1) D' pv ps:=by
 refine⟨h.blk.grown r2 (fun e=> ?_),r1,fZ h.prev fun x hx=>r2.block x (World.ownsRow.lt h.prev x hx).2 (fun e=> ?_),h.lo,h.lm⟩
 ·injection e with e;exact h.ne e.symm
 ·injection e with e;subst e;exact xnZ h.map h.prev hx
theorem riZ{w w5 w6:World}{cb mb:Nat}{pv:Value}(h:Kept (Out cb mb pv w) w w5)(hb:Below w5.heap.size w5 w6):Kept (Out cb mb pv w) w w6:=h.trans (Kept.of_below hb fun _ hx=>Nat.lt_of_lt_of_le hx.1 h.size)
theorem hfZb{w:World}{cb mb g n c:Nat}{pv:Value}(h:uqZ pv (.slice (some ⟨g,0,none⟩) n c) w):¬Out cb mb pv w g:=by
 intro ho
 rcases h with h|⟨x,h,hx⟩
 ·exact ho.2.2.2 h.symm
 ·have:g=x:=by simpa[Value.ownBlock]using h
  have:=ho.1
  omega
theorem vqZ(o:Option Nat):(o=none/\o.isSome=false)∨∃p,o=some p/\o.isSome=true/\dpZ o=(p:Int):=by
 cases o with
 |none=>exact .inl ⟨rfl,rfl⟩
 |some p=>exact .inr ⟨p,rfl,rfl,rfl⟩
theorem smZb(w:World)(cb mb base:Nat)(ls:List Nat)(A:Option Addr)(n c at_:Nat)(D:DataW Unit)(pv:Value)(ps:List Int)(hn:ls.length=n)(hN:n<=1000000)(hat:at_+3<=n)(hba:base<=w.heap.size)(h8:∀x∈ls,x<=255)(hps:ps.length=at_)
 (ha:Row w base A n 1 (rZ .u8 ls))(hD:MapIs ls at_ D)(h:Ch w cb mb base ls at_ at_ D pv ps):
 Calls Tryz.prog 241 #[.pointer (some ⟨cb,0,none⟩), .slice A n c, .int .i64 at_] w fun e w'=>e= .returned (.tuple #[])/\∃pv',Ch w' cb mb base ls (at_+1) (at_+1) (D.put (K3 (ls.getD at_ 0) (ls.getD (at_+1) 0) (ls.getD (at_+2) 0)) (.lit (.int .i64 (at_:Int)))) pv' (ps++ [glZ ls at_])/\uqZ pv pv' w/\Kept (Out cb mb pv w) w w':=by
 obtain⟨j0,hj0,hy0,hy1,hy2⟩:=info_parts info_int
 obtain⟨pa,pc,rfl⟩:=bZ h.prev
 have d0:=h.blk.cell 0
 have d1:=h.blk.cell 1
 simp only[List.getElem?_toArray,List.getElem?_cons_zero,List.getElem?_cons_succ]at d0 d1
 have hg:∀i,i<ls.length->ls.getD i 0<=255:=fun i hi=>by
  rw[List.getD_eq_getElem?_getD,List.getElem?_eq_getElem hi]
  exact h8 _ (List.getElem_mem hi)
 have g0:=hg at_ (by omega)
 have gg1:=hg (at_+1) (by omega)
 have g2:=hg (at_+2) (by omega)
 have D1:Hid (∀wx,Below base w wx->Calls Tryz.prog 278 #[.slice A n c, .int .i64 at_] wx fun e w'=>e= .returned (.agg #[.int .u8 (ls.getD at_ 0), .int .u8 (ls.getD (at_+1) 0), .int .u8 (ls.getD (at_+2) 0)])/\Below wx.heap.size wx w'):=fun wx hb=>ffZb wx A n c ls at_ hn hN hat ((ha.below hb).mono (by have:=hb.size;omega))
 have hk3:rcZ ls at_=(ls.getD at_ 0,ls.getD (at_+1) 0,ls.getD (at_+2) 0):=rfl
 have hpv:glZ ls at_=cpZ (qbZ ls (ls.getD at_ 0,ls.getD (at_+1) 0,ls.getD (at_+2) 0) at_):=by unfold glZ;rw[if_pos (by omega),hk3]
 rw[hpv]
 have HLK:Hid (∀ (wx:World) pv' ps' n' m,Ch wx cb mb base ls n' m D pv' ps'->(Instr.lookup 300 (.map (some mb)) (.agg #[.int .u8 (ls.getD at_ 0), .int .u8 (ls.getD (at_+1) 0), .int .u8 (ls.getD (at_+2) 0)]) true).run Tryz.prog wx= .ok (.tuple #[.int .i64 (dpZ (qbZ ls (ls.getD at_ 0,ls.getD (at_+1) 0,ls.getD (at_+2) 0) at_)), .bool (qbZ ls (ls.getD at_ 0,ls.getD (at_+1) 0,ls.getD (at_+2) 0) at_).isSome]) wx):=fun wx pv' ps' n' m hc=>fpZb hc.map hD g0 gg1 g2
 have hkey:=tqZ g0 gg1 g2
 unfold k3v at hkey
 have hcs:=vqZ (qbZ ls (ls.getD at_ 0,ls.getD (at_+1) 0,ls.getD (at_+2) 0) at_)
 have hlt:∀p,qbZ ls (ls.getD at_ 0,ls.getD (at_+1) 0,ls.getD (at_+2) 0) at_=some p->p<at_:=fun p hp=>(thZ hp).1
 generalize qbZ ls (ls.getD at_ 0,ls.getD (at_+1) 0,ls.getD (at_+2) 0) at_=lo at *
 generalize ls.getD at_ 0=x at *
 generalize ls.getD (at_+1) 0=y at *
 generalize ls.getD (at_+2) 0=z at *
 have H:=hid h
 have HKEY:=hid hkey
 have HPS:=hid hps
 have s1:IntKind.i64.wrap ((at_:Int)+3)=(at_:Int)+3:=by rw[IntWalk.i64_in _ (by omega)]
 have g1:decide ((n:Int)<(at_:Int)+3)=false:=by simp;omega
 clear h hD ha h8 hg hk3 hpv hkey hn hps
 go_enter Tryz.func241,Tryz.ntmps241
 go_wp2_with(at_builtin;refine hZ rfl (.tmp 13) (.tmp 14) 38 rfl base 3 j0 _ 1 8 Tryz.underlying38 hj0 hy0 hy1 hy2 rfl (by decide) _ _ _ (by rfl) (H.out.prev.alloc _) _ 1 1 [.int .i64 (-1)] (by rfl) (Src.of_blk (Blk.made _ _ _) 1 1 1 rfl) (by intro u hu;simp at hu;rcases hu with rfl;rfl) (by unfold maxLen;omega) (by omega) (by simp;omega) ?_;intro v4 w4 hown4 hg4 hat4;obtain⟨A4,k4,rfl⟩:=bZ hown4;have q1:w4.cell? ⟨cb,1,none⟩=some (.slice pa at_ pc):=(((H.out.blk.alloc _).grown hg4 (fun e=>kZ H.out.prev H.out.blk (by decide) e.symm))).cell 1;have q0:w4.cell? ⟨cb,0,none⟩=some (.map (some mb)):=(((H.out.blk.alloc _).grown hg4 (fun e=>kZ H.out.prev H.out.blk (by decide) e.symm))).cell 0;have qf:w4.frozen? ⟨cb,1,none⟩=false:=(((H.out.blk.alloc _).grown hg4 (fun e=>kZ H.out.prev H.out.blk (by decide) e.symm))).frozen 1)
 have hpush:=H.out.push hg4 hown4 hat4
 have F1:=hid hpush.1
 have F2:=hid hpush.2
 have hwz:w.heap.size+1<=w4.heap.size:=by have:=hg4.size;simp at this;omega
 have hb5:Hid (Below base w (w4.setCell ⟨cb,1,none⟩ (.slice A4 (at_+1) k4))):=by
  have:=hpush.2.2.below (fun x (hx:x<base)=>(⟨by omega,by have:=H.out.lo;omega,by have:=H.out.lm;omega,fun e=>by have:=(World.ownsRow.lt H.out.prev x e).1;omega⟩:Out cb mb _ w x))
  exact this
 have hsz5:(w4.setCell ⟨cb,1,none⟩ (.slice A4 (at_+1) k4)).heap.size=w4.heap.size:=by simp
 rw[<-hsz5]at hwz
 clear hpush q1 q0 qf hown4 hat4 hg4 d0 d1 hsz5
 generalize w4.setCell ⟨cb,1,none⟩ (.slice A4 (at_+1) k4)=w5 at *
 refine(D1.out w5 hb5.out).mono ?_
 rintro e w6 ⟨rfl,hb6⟩
 have F3:=hid (F1.out.step hb6)
 have dm:=F3.out.blk.cell 0
 have dp:=F3.out.blk.cell 1
 simp only[List.getElem?_toArray,List.getElem?_cons_zero,List.getElem?_cons_succ]at dm dp
 obtain⟨gp,cp,hA⟩:=deZ F3.out.prev
 injection hA with e1 _ e3
 subst e1 e3
 have F4:=hid (F3.out.alloc (.cells #[.int .u8 x, .int .u8 y, .int .u8 z] 340))
 have hl:=HLK.out _ _ _ _ _ F4.out.drew
 obtain⟨oc,ofz,ob⟩:=own_cells (i:=at_) F4.out.drew.prev (by omega)
 have hne:gp≠cb:=fun e=>kZ F4.out.prev F4.out.blk (by decide) (congrArg some e)
 have HNE:=hid hne
 have oci:(njZ (ps++ [-1]))[at_]? =some (.int .i64 (-1)):=by
  unfold njZ
  have:=HPS.out
  simp[<-this]
 rw[oci]at oc
 clear dm dp hne oci
 have dm:=F4.out.drew.blk.cell 0
 have dp:=F4.out.drew.blk.cell 1
 simp only[List.getElem?_toArray,List.getElem?_cons_zero,List.getElem?_cons_succ]at dm dp
 have hkb:Blk (w6.alloc (.cells #[.int .u8 x, .int .u8 y, .int .u8 z] 340)).drew w6.heap.size 340 #[.int .u8 x, .int .u8 y, .int .u8 z]:=(Blk.made _ _ _).drew
 have z0:=hkb.cell 0
 have z1:=hkb.cell 1
 have z2:=hkb.cell 2
 simp only[List.getElem?_toArray,List.getElem?_cons_zero,List.getElem?_cons_succ]at z0 z1 z2
 clear hkb
 have oz:decide ((at_:Int)<((at_+1:Nat):Int))=true:=by simp;omega
 have oz0:¬(at_:Int)<0:=by omega
 have hcbz:=F3.out.blk.lt
 have hgpz:gp<w6.heap.size:=(World.ownsRow.lt F3.out.prev gp rfl).2
 rcases hcs with ⟨rfl,hs⟩|⟨p,rfl,hs,hv⟩
 ·rw[hs]at hl
  clear hs
  change (Instr.lookup _ _ _ _).run _ _= .ok (.tuple #[.int .i64 (0:Int),_]) _ at hl
  go_upto_region 3 with fail
  go_region_held3 (fun wx=>wx.cell? ⟨cb,0,none⟩=some (.map (some mb))/\wx.cell? ⟨w6.heap.size,0,none⟩=some (.int .u8 x)/\wx.cell? ⟨w6.heap.size,1,none⟩=some (.int .u8 y)/\wx.cell? ⟨w6.heap.size,2,none⟩=some (.int .u8 z)/\(Instr.lookup 300 (.map (some mb)) (.agg #[.int .u8 x, .int .u8 y, .int .u8 z]) true).run Tryz.prog wx= .ok (.tuple #[.int .i64 (0:Int), .bool false]) wx) (exact⟨dm,z0,z1,z2,hl⟩) (fail)
  go_upto_region 6 with fail
  have F6:=hid F4.out.drew.drew
  have hkb':Blk (w6.alloc (.cells #[.int .u8 x, .int .u8 y, .int .u8 z] 340)).drew.drew w6.heap.size 340 #[.int .u8 x, .int .u8 y, .int .u8 z]:=(Blk.made _ _ _).drew.drew
  obtain⟨w9,hrun,r1,r2⟩:=F6.out.map.update (val:= .int .i64 (at_:Int)) (d:= .lit (.int .i64 (at_:Int))) (ps:= []) law3 Tryz.underlying300 (by unfold maxLen;omega) HKEY.out (plainElem_int Tryz.underlying3 (WalkArith.wf_i64 (by omega)))
  have dm6:=F6.out.blk.cell 0
  simp only[List.getElem?_toArray,List.getElem?_cons_zero]at dm6
  have z0':=hkb'.cell 0
  have z1':=hkb'.cell 1
  have z2':=hkb'.cell 2
  simp only[List.getElem?_toArray,List.getElem?_cons_zero,List.getElem?_cons_succ]at z0' z1' z2'
  clear hkb'
  clear hl dm dp z0 z1 z2 oc ofz hlt
  go_region
  refine bodyPost_end (results_none rfl _ _ _) rfl ?_
  exact⟨rfl,_,F6.out.upd r1 r2,F2.out.1,((((riZ F2.out.2 hb6).alloc ((riZ F2.out.2 hb6).lt fun k hk=>hk.1) _).drew.drew).grown r2 (((riZ F2.out.2 hb6).alloc ((riZ F2.out.2 hb6).lt fun k hk=>hk.1) _).drew.drew.lt fun k hk=>hk.1) (fun k e hk=>by injection e with e;exact hk.2.2.1 e.symm))⟩
 ·rw[hs,hv]at hl
  clear hs hv
  go_upto_region 3 with fail
  go_region_held3 (fun wx=>wx.cell? ⟨cb,0,none⟩=some (.map (some mb))/\wx.cell? ⟨w6.heap.size,0,none⟩=some (.int .u8 x)/\wx.cell? ⟨w6.heap.size,1,none⟩=some (.int .u8 y)/\wx.cell? ⟨w6.heap.size,2,none⟩=some (.int .u8 z)/\(Instr.lookup 300 (.map (some mb)) (.agg #[.int .u8 x, .int .u8 y, .int .u8 z]) true).run Tryz.prog wx= .ok (.tuple #[.int .i64 (p:Int), .bool true]) wx) (exact⟨dm,z0,z1,z2,hl⟩) (fail)
  go_upto_region 6 with fail
  have F6:=hid (((F3.out.put (i:=at_) (p:Int) (by omega)).alloc (.cells #[.int .u8 x, .int .u8 y, .int .u8 z] 340)).drew.drew)
  have hkb':Blk ((w6.setCell ⟨gp,at_,none⟩ (.int .i64 (p:Int))).alloc (.cells #[.int .u8 x, .int .u8 y, .int .u8 z] 340)).drew.drew w6.heap.size 340 #[.int .u8 x, .int .u8 y, .int .u8 z]:=(Blk.made_at _ _ _ (by simp)).drew.drew
  obtain⟨w9,hrun,r1,r2⟩:=F6.out.map.update (val:= .int .i64 (at_:Int)) (d:= .lit (.int .i64 (at_:Int))) (ps:= []) law3 Tryz.underlying300 (by unfold maxLen;omega) HKEY.out (plainElem_int Tryz.underlying3 (WalkArith.wf_i64 (by omega)))
  have dm6:=F6.out.blk.cell 0
  simp only[List.getElem?_toArray,List.getElem?_cons_zero]at dm6
  have z0':=hkb'.cell 0
  have z1':=hkb'.cell 1
  have z2':=hkb'.cell 2
  simp only[List.getElem?_toArray,List.getElem?_cons_zero,List.getElem?_cons_succ]at z0' z1' z2'
  clear hkb'
  clear hl dm dp z0 z1 z2 oc ofz hlt
  go_region
  refine bodyPost_end (results_none rfl _ _ _) rfl ?_
  have hk8:=(((riZ F2.out.2 hb6).set (p:=⟨gp,at_,none⟩) (hfZb F2.out.1) (.int .i64 (p:Int))).alloc (((riZ F2.out.2 hb6).set (p:=⟨gp,at_,none⟩) (hfZb F2.out.1) (.int .i64 (p:Int))).lt fun k hk=>hk.1) (.cells #[.int .u8 x, .int .u8 y, .int .u8 z] 340)).drew.drew
  have hF:=F6.out.upd r1 r2
  have hps:(ps++ [-1]).set at_ (p:Int)=ps++ [cpZ (some p)]:=by
   have:=HPS.out
   subst this
   simp[cpZ]
  rw[hps]at hF
  exact⟨rfl,_,hF,F2.out.1,hk8.grown r2 (hk8.lt fun k hk=>hk.1) (fun k e hk=>by injection e with e;exact hk.2.2.1 e.symm)⟩
end Go.Proofs.YtmlaajebadfkoaaGreatDoor.Lz
namespace Go.Proofs.YtmlaajebadfkoaaGreatDoor.Lz
open Go.RowKit Go.Maps Mem Own Canon
theorem add_any(w:World)(cb mb base:Nat)(ls:List Nat)(A:Option Addr)(n c at_:Nat)(D:DataW Unit)(pv:Value)(hn:ls.length=n)(hN:n<=1000000)(hat:at_<n)(hba:base<=w.heap.size)(h8:∀x∈ls,x<=255)
 (ha:Row w base A n 1 (rZ .u8 ls))(hD:MapIs ls at_ D)(h:Ch w cb mb base ls at_ at_ D pv (uhZ ls at_)):
 Calls Tryz.prog 241 #[.pointer (some ⟨cb,0,none⟩), .slice A n c, .int .i64 at_] w fun e w'=>e= .returned (.tuple #[])/\∃D' pv',MapIs ls (at_+1) D'/\Ch w' cb mb base ls (at_+1) (at_+1) D' pv' (uhZ ls (at_+1))/\uqZ pv pv' w/\Kept (Out cb mb pv w) w w':=by
 rw[ehZb]
 by_cases hf:at_+3<=n
 ·refine(smZb w cb mb base ls A n c at_ D pv _ hn hN hf hba h8 (fbZb _ _) ha hD h).mono ?_
  rintro e w' ⟨rfl,pv',h1,h2,h3⟩
  exact⟨rfl,_,pv',hD.put h8 (by omega),h1,h2,h3⟩
 ·have e:glZ ls at_= -1:=by unfold glZ;rw[if_neg (by omega)]
  rw[e]
  refine(dkZb w cb mb base ls A n c at_ D pv _ hN (by omega) (by omega) hba h).mono ?_
  rintro e w' ⟨rfl,pv',h1,h2,h3⟩
  exact⟨rfl,_,pv',hD.skip (by omega),h1,h2,h3⟩
theorem ihZb(w:World)(cb:Nat)(ls:List Nat)(A:Option Addr)(n c at_:Nat)(hn:ls.length=n)(hN:n<=1000000)(hat:at_<=n)(hf:n<at_+3):
 Calls Tryz.prog 240 #[.pointer (some ⟨cb,0,none⟩), .slice A n c, .int .i64 at_] w fun e w'=>e= .returned (.tuple #[.int .i64 ((norm (dbZ ls at_)).1:Nat), .int .i64 ((norm (dbZ ls at_)).2:Nat)])/\Below w.heap.size w w':=by
 rw[fhZb (by omega)]
 have s1:IntKind.i64.wrap ((at_:Int)+3)=(at_:Int)+3:=by rw[IntWalk.i64_in _ (by omega)]
 have g1:decide ((n:Int)<(at_:Int)+3)=true:=by simp;omega
 clear hn
 go_enter Tryz.func240,Tryz.ntmps240
 go_wp2_with fail
 go_ret2
 exact⟨rfl,Below.refl _ _⟩
theorem ekZb(w:World)(cb mb base:Nat)(ls:List Nat)(A:Option Addr)(n c at_ m:Nat)(D:DataW Unit)(pv:Value)(hn:ls.length=n)(hN:n<=1000000)(hat:at_+3<=n)(hba:base<=w.heap.size)(h8:∀x∈ls,x<=255)
 (ha:Row w base A n 1 (rZ .u8 ls))(hD:MapIs ls at_ D)(h:Ch w cb mb base ls at_ m D pv (uhZ ls at_)):
 Calls Tryz.prog 240 #[.pointer (some ⟨cb,0,none⟩), .slice A n c, .int .i64 at_] w fun e w'=>e= .returned (.tuple #[.int .i64 ((norm (dbZ ls at_)).1:Nat), .int .i64 ((norm (dbZ ls at_)).2:Nat)])/\Below w.heap.size w w':=by
 have hg:∀i,i<ls.length->ls.getD i 0<=255:=fun i hi=>by
  rw[List.getD_eq_getElem?_getD,List.getElem?_eq_getElem hi]
  exact h8 _ (List.getElem_mem hi)
 have g0:=hg at_ (by omega)
 have gg1:=hg (at_+1) (by omega)
 have g2:=hg (at_+2) (by omega)
 have hk3:rcZ ls at_=(ls.getD at_ 0,ls.getD (at_+1) 0,ls.getD (at_+2) 0):=rfl
 have D1:Hid (∀wx,Below w.heap.size w wx->Calls Tryz.prog 278 #[.slice A n c, .int .i64 at_] wx fun e w'=>e= .returned (.agg #[.int .u8 (ls.getD at_ 0), .int .u8 (ls.getD (at_+1) 0), .int .u8 (ls.getD (at_+2) 0)])/\Below wx.heap.size wx w'):=fun wx hb=>ffZb wx A n c ls at_ hn hN hat ((ha.below (hb.mono hba)).mono (by have:=hb.size;omega))
 have D2:Hid (∀wx p,Below w.heap.size w wx->p<=at_->Calls Tryz.prog 279 #[.slice A n c, .int .i64 p, .int .i64 at_] wx fun e w'=>e= .returned (.int .i64 (alike ls p at_:Nat))/\Below wx.heap.size wx w'):=fun wx p hb hp=>zjZb wx A n c ls p at_ hn hN hp (by omega) ((ha.below (hb.mono hba)).mono (by have:=hb.size;omega))
 have HLK:Hid (∀wx:World,Below w.heap.size w wx->(Instr.lookup 300 (.map (some mb)) (.agg #[.int .u8 (ls.getD at_ 0), .int .u8 (ls.getD (at_+1) 0), .int .u8 (ls.getD (at_+2) 0)]) true).run Tryz.prog wx= .ok (.tuple #[.int .i64 (dpZ (qbZ ls (rcZ ls at_) at_)), .bool (qbZ ls (rcZ ls at_) at_).isSome]) wx):=fun wx hb=>fpZb (h.step hb).map hD g0 gg1 g2
 have hcs:=vqZ (qbZ ls (rcZ ls at_) at_)
 have HP:Hid (∀E,E<=at_->∀p,qbZ ls (rcZ ls at_) E=some p->p<E/\∃gp cp,pv= .slice (some ⟨gp,0,none⟩) at_ cp/\w.cell? ⟨gp,p,none⟩=some (.int .i64 (cpZ (qbZ ls (rcZ ls at_) p)))/\gp<w.heap.size):=fun E hE p hp=>by
  obtain⟨h1,h2,h3,h4⟩:=thZ hp
  refine⟨h1,?_⟩
  obtain⟨at2,rfl⟩:∃k,at_=k+1:=⟨at_-1,by omega⟩
  obtain⟨gp,cp,rfl⟩:=deZ h.prev
  have hc:=(own_cells (i:=p) h.prev (by omega)).1
  refine⟨gp,cp,rfl,?_,(World.ownsRow.lt h.prev gp rfl).2⟩
  rw[hc]
  unfold njZ
  rw[List.getElem?_map,xjZb (by omega)]
  unfold glZ
  rw[if_pos (by omega),h3]
  rfl
 have d0:=h.blk.cell 0
 have d1:=h.blk.cell 1
 simp only[List.getElem?_toArray,List.getElem?_cons_zero,List.getElem?_cons_succ]at d0 d1
 have s1:IntKind.i64.wrap ((at_:Int)+3)=(at_:Int)+3:=by rw[IntWalk.i64_in _ (by omega)]
 have g1:decide ((n:Int)<(at_:Int)+3)=false:=by simp;omega
 have HS:=hid (At.start ls at_)
 have hcl:=h.blk.lt
 obtain⟨R,hR⟩:∃R,R=norm (dbZ ls at_):=⟨_,rfl⟩
 have HNX:Hid (∀E p nd,At ls at_ E nd->qbZ ls (rcZ ls at_) E=some p->at_-p<=4095->At ls at_ p (if nd.1<alike ls p at_ then(alike ls p at_,at_-p)else nd)):=fun E p nd h1 h2 h3=>h1.next (by omega) h2 h3
 have HE1:Hid (∀E nd,At ls at_ E nd->qbZ ls (rcZ ls at_) E=none->R=nd):=fun E nd h1 h2=>hR.trans <| h1.none (by omega) h2
 have HE2:Hid (∀E p nd,At ls at_ E nd->qbZ ls (rcZ ls at_) E=some p->4095<at_-p->R=nd):=fun E p nd h1 h2 h3=>hR.trans <| h1.far (by omega) h2 h3
 have HE3:Hid (∀E nd,At ls at_ E nd->nd.1=257->R=nd):=fun E nd h1 h2=>hR.trans <| h1.full h2
 have HAL:Hid (∀p,alike ls p at_<=257):=fun p=>otZ ls p at_
 rw[<-hR]
 generalize ls.getD at_ 0=x at *
 generalize ls.getD (at_+1) 0=y at *
 generalize ls.getD (at_+2) 0=z at *
 clear h hD ha h8 hg hk3 hn hR
 have d0':w.drew.cell? ⟨cb,0,none⟩=some (.map (some mb)):=d0
 have hl0:=HLK.out w.drew (Below.refl _ _).drew
 have HC:=hid hcs
 clear hcs
 obtain⟨lo,hlo⟩:∃lo,lo=qbZ ls (rcZ ls at_) at_:=⟨_,rfl⟩
 rw[<-hlo]at HLK hl0 HC
 have HLO:=hid hlo
 clear hlo
 go_enter Tryz.func240,Tryz.ntmps240
 go_upto_region 3 with fail
 go_region_held3 (fun wx=>wx.cell? ⟨cb,0,none⟩=some (.map (some mb))/\(Instr.lookup 300 (.map (some mb)) (.agg #[.int .u8 x, .int .u8 y, .int .u8 z]) true).run Tryz.prog wx= .ok (.tuple #[.int .i64 (dpZ lo), .bool lo.isSome]) wx) (first|exact⟨d0',hl0⟩|exact k0) (first|(go_at_call 278;(with_reducible refine(D1.out _ (by(repeat(first|(with_reducible first|exact Below.refl _ _|assumption|refine Below.drew ?_|refine below_drewN ?_ _|refine aZ ?_|refine cZ (by assumption) ?_)|((with_reducible first|refine jZ ?_ ?_|refine eZ ?_ ?_|refine gZ (by assumption) ?_ ?_);(focus(first|(simp;done)|(simp;omega)|omega|(simp at *;omega)))))))).mono ?_);rintro e w1 ⟨rfl,hb1⟩;have k0:w1.cell? ⟨cb,0,none⟩=some (.map (some mb))/\(Instr.lookup 300 (.map (some mb)) (.agg #[.int .u8 x, .int .u8 y, .int .u8 z]) true).run Tryz.prog w1= .ok (.tuple #[.int .i64 (dpZ lo), .bool lo.isSome]) w1:=⟨(hb1.cell (p:=⟨cb,_,none⟩) hcl).trans d0',HLK.out _ (by(repeat(first|(with_reducible first|exact Below.refl _ _|assumption|refine Below.drew ?_|refine below_drewN ?_ _|refine aZ ?_|refine cZ (by assumption) ?_)|((with_reducible first|refine jZ ?_ ?_|refine eZ ?_ ?_|refine gZ (by assumption) ?_ ?_);(focus(first|(simp;done)|(simp;omega)|omega|(simp at *;omega)))))))⟩))
 have HB1:Hid (Below w.heap.size w w1):=cZ hb1 (Below.drew (Below.refl w.heap.size w))
 clear k0 hb1 hl0 d0' HLK d0 g0 gg1 g2
 rcases HC.out with ⟨h1,h2⟩|⟨p0,h1,h2,h3⟩
 ·have hR:Hid (R=(0,0)):=HE1.out at_ _ HS.out (HLO.out.symm.trans h1)
  rw[h2]
  clear HC HLO
  generalize dpZ lo=zz
  clear h1 h2
  go_wp2_with fail
  go_loopw [6,7,8] (fun a b _ wr=>a= .int .i64 0/\b= .int .i64 0/\Hid (Below w.heap.size w wr)) (fun _ _ _ _=>0)
  case atStart=>exact⟨rfl,rfl,HB1⟩
  case round=>
   obtain⟨rfl,rfl,HB⟩:=hrel
   go_wp2_with fail
   go_ret2
   exact⟨by rw[hR.out];rfl,HB.out⟩
 ·have HV:Hid (qbZ ls (rcZ ls at_) at_=some p0):=HLO.out.symm.trans h1
  rw[h2,h3]
  have hp0:=(HP.out at_ (Nat.le_refl _) p0 HV.out).1
  clear HC HLO h1 h2 h3
  go_wp2_with fail
  go_loopw [6,7,8] (fun a b v wr=>∃ (E n1 n2:Nat) (vi:Int),a= .int .i64 n1/\b= .int .i64 n2/\v= .int .i64 vi/\n1<=257/\Hid (E<=at_/\At ls at_ E (n1,n2))/\Hid (vi=cpZ (qbZ ls (rcZ ls at_) E))/\Hid (Below w.heap.size w wr)) (fun _ _ v _=>(intOf v+1).toNat)
  case atStart=>exact⟨at_,0,0,p0,rfl,rfl,rfl,by omega,⟨Nat.le_refl _,HS.out⟩,by show(p0:Int)=_;rw[HV.out];rfl,HB1.out⟩
  case round=>
   obtain⟨E,n1,n2,vi,rfl,rfl,rfl,hn1,HA,HVI,HB⟩:=hrel
   clear hp0 HV
   obtain⟨lo,hlo⟩:∃lo,lo=qbZ ls (rcZ ls at_) E:=⟨_,rfl⟩
   cases lo with
   |none=>
    have hvi:vi= -1:=by have:=HVI.out;rw[<-hlo]at this;exact this
    have hR:=hid (HE1.out E _ HA.out.2 hlo.symm)
    clear hlo HVI
    subst hvi
    go_wp2_with fail
    go_ret2
    exact⟨by rw[hR.out];rfl,HB.out⟩
   |some p=>
    have hvi:vi=(p:Nat):=by have:=HVI.out;rw[<-hlo]at this;exact this
    obtain⟨hpE,gp,cp,hpv,hcell,hgl⟩:=HP.out E HA.out.1 p hlo.symm
    have hEa:=HA.out.1
    have HL:Hid (qbZ ls (rcZ ls at_) E=some p):=hlo.symm
    clear hlo HVI
    subst hvi
    obtain⟨d,hd⟩:∃d,d=at_-p:=⟨_,rfl⟩
    have g2:((p:Int) != -1)=true:=by rw[bne_iff_ne];omega
    have s2:IntKind.i64.wrap ((at_:Int)-(p:Int))=(d:Int):=by rw[IntWalk.i64_in _ (by omega)];omega
    by_cases hw:d<=4095
    ·have g3:decide ((d:Int)<=4095)=true:=by simp;omega
     have g3':decide (d<=4095)=true:=by simp;omega
     by_cases h257:n1<257
     ·have g4:decide ((n1:Int)<257)=true:=by simp;omega
      have g4':decide (n1<257)=true:=by simp;omega
      have hA2:=HNX.out E p _ HA.out.2 HL.out (by omega)
      have d1':=(HB.out.cell (p:=⟨cb,1,none⟩) hcl).trans d1
      have c1':=(HB.out.cell (p:=⟨gp,p,none⟩) hgl).trans hcell
      have hd':=hid hd
      have HPV:=hid hpv
      have HCL:=hid hcell
      have HA3:=hid hA2
      clear hd hpv hcell c1' hA2 d1'
      go_wp2_with fail
      refine(D2.out wr p HB.out (by omega)).mono ?_
      rintro e w2 ⟨rfl,hb2⟩
      have HB2:Hid (Below w.heap.size w w2):=cZ hb2 HB.out
      have hal:=HAL.out p
      generalize alike ls p at_=a at *
      have d1':=(HB2.out.cell (p:=⟨cb,1,none⟩) hcl).trans d1
      have c1':=(HB2.out.cell (p:=⟨gp,p,none⟩) hgl).trans HCL.out
      have hpv:=HPV.out
      subst hpv
      have x1:(0:Int)<=(p:Int):=by omega
      have x2:(p:Int)<(at_:Int):=by omega
      have hom:cpZ (qbZ ls (rcZ ls at_) p)<(p:Int)/\ -1<=cpZ (qbZ ls (rcZ ls at_) p):=by
       cases hq:qbZ ls (rcZ ls at_) p with
       |none=>exact⟨by show(-1:Int)<_;omega,by show(-1:Int)<= -1;omega⟩
       |some q=>exact⟨by have:=(thZ hq).1;show((q:Nat):Int)<_;omega,by show(-1:Int)<=((q:Nat):Int);omega⟩
      obtain⟨vi,hvi⟩:∃vi,vi=cpZ (qbZ ls (rcZ ls at_) p):=⟨_,rfl⟩
      rw[<-hvi]at c1' hom
      have HVI:=hid hvi
      obtain⟨hv1,hv2⟩:=hom
      clear hvi HCL d1 HB hb2
      by_cases hlt:n1<a
      ·have g5:decide ((n1:Int)<(a:Int))=true:=by simp;omega
       have g5':decide (n1<a)=true:=by simp;omega
       have HA4:Hid (p<=at_/\At ls at_ p (a,d)):=⟨by omega,by have h:=HA3.out;rw[if_pos hlt]at h;rw[hd'.out];exact h⟩
       go_wp2_with fail
       go_roundw
       case measure=>go_light;simp[intOf];omega
       case rel=>go_light;exact⟨p,a,d,vi,rfl,rfl,rfl,hal,HA4.out,HVI.out,HB2.out⟩
      ·have g5:decide ((n1:Int)<(a:Int))=false:=by simp;omega
       have g5':decide (n1<a)=false:=by simp;omega
       have HA4:Hid (p<=at_/\At ls at_ p (n1,n2)):=⟨by omega,by have h:=HA3.out;rw[if_neg hlt]at h;exact h⟩
       go_wp2_with fail
       go_roundw
       case measure=>go_light;simp[intOf];omega
       case rel=>go_light;exact⟨p,n1,n2,vi,rfl,rfl,rfl,hn1,HA4.out,HVI.out,HB2.out⟩
     ·have hR:=hid (HE3.out E _ HA.out.2 (show n1=257 by omega))
      have g4:decide ((n1:Int)<257)=false:=by simp;omega
      have g4':decide (n1<257)=false:=by simp;omega
      clear hd hpv hcell
      go_wp2_with fail
      go_ret2
      exact⟨by rw[hR.out];rfl,HB.out⟩
    ·have hR:=hid (HE2.out E p _ HA.out.2 HL.out (by omega))
     have g3:decide ((d:Int)<=4095)=false:=by simp;omega
     have g3':decide (d<=4095)=false:=by simp;omega
     clear hd hpv hcell
     go_wp2_with fail
     go_ret2
     exact⟨by rw[hR.out];rfl,HB.out⟩
theorem long_any(w:World)(cb mb base:Nat)(ls:List Nat)(A:Option Addr)(n c at_ m:Nat)(D:DataW Unit)(pv:Value)(hn:ls.length=n)(hN:n<=1000000)(hat:at_<n)(hba:base<=w.heap.size)(h8:∀x∈ls,x<=255)
 (ha:Row w base A n 1 (rZ .u8 ls))(hD:MapIs ls at_ D)(h:Ch w cb mb base ls at_ m D pv (uhZ ls at_)):
 Calls Tryz.prog 240 #[.pointer (some ⟨cb,0,none⟩), .slice A n c, .int .i64 at_] w fun e w'=>e= .returned (.tuple #[.int .i64 ((norm (dbZ ls at_)).1:Nat), .int .i64 ((norm (dbZ ls at_)).2:Nat)])/\Below w.heap.size w w':=by
 by_cases hf:at_+3<=n
 ·exact ekZb w cb mb base ls A n c at_ m D pv hn hN hf hba h8 ha hD h
 ·exact ihZb w cb ls A n c at_ hn hN (by omega) (by omega)
end Go.Proofs.YtmlaajebadfkoaaGreatDoor.Lz
namespace Go.Proofs.YtmlaajebadfkoaaGreatDoor.Lz
open Go.RowKit Go.Maps Mem Own Canon
open Go.Proofs.YtmlaajebadfkoaaGreatDoor.Toks (Tk)
open Go.Proofs.YtmlaajebadfkoaaGreatDoor.Huff (xeZ igZ wmZ)
structure FS (w0 w:World) (cb mb:Nat) (l:List Nat) (at_:Nat) (D:DataW Unit) (pv vt:Value) (k:Nat) (ts:List Tk):Prop where
 ch:Ch w cb mb w0.heap.size l at_ at_ D pv (uhZ l at_)
 map:MapIs l at_ D
 own:w.ownsRow w0.heap.size 241 3 vt k (xeZ ts)
 bel:Below w0.heap.size w0 w
section
variable {w0 w w':World} {cb mb:Nat} {l:List Nat} {at_ k:Nat} {D:DataW Unit} {pv vt:Value} {ts:List Tk}
theorem FS.step(h:FS w0 w cb mb l at_ D pv vt k ts)(hb:Below w.heap.size w w'):FS w0 w' cb mb l at_ D pv vt k ts:=
 ⟨h.ch.step hb,h.map,fZ h.own (fun x hx=>hb.block x (World.ownsRow.lt h.own x hx).2),h.bel.trans (hb.mono h.bel.size)⟩
theorem FS.alloc(h:FS w0 w cb mb l at_ D pv vt k ts)(o:Obj):FS w0 (w.alloc o) cb mb l at_ D pv vt k ts:=
 h.step (aZ (Below.refl _ _))
theorem FS.grown{vt':Value}{k':Nat}{ts':List Tk}(h:FS w0 w cb mb l at_ D pv vt k ts)(hg:w.grownBy w' vt.ownBlock)(ho:w'.ownsRow w0.heap.size 241 3 vt' k' (xeZ ts')):FS w0 w' cb mb l at_ D pv vt' k' ts':=by
 refine⟨⟨h.ch.blk.grown hg (fun e=>kZ h.own h.ch.blk (by decide) e.symm),epZ h.ch.map (hg.block mb h.ch.map.lt (fun e=>xnZ h.ch.map h.own e.symm)),fZ h.ch.prev (fun x hx=>hg.block x (World.ownsRow.lt h.ch.prev x hx).2 (fun e=> ?_)),h.ch.lo,h.ch.lm⟩,h.map,ho,⟨hg.os.trans h.bel.os,hg.tape.trans h.bel.tape,hg.output.trans h.bel.output,Nat.le_trans h.bel.size hg.size,fun x hx=>(hg.block x (by have:=h.bel.size;omega) (fun e=> ?_)).trans (h.bel.block x hx)⟩⟩
 ·rcases qcZ h.ch.prev h.own (by decide)with e1|e1
  ·rw[hx]at e1;cases e1
  ·exact e1 (hx.trans e)
 ·have:=(World.ownsRow.lt h.own x e.symm).1
  omega
theorem FS.added{D':DataW Unit}{pv':Value}(h:FS w0 w cb mb l at_ D pv vt k ts)(hm:MapIs l (at_+1) D')(hc:Ch w' cb mb w0.heap.size l (at_+1) (at_+1) D' pv' (uhZ l (at_+1)))(hk:Kept (Out cb mb pv w) w w'):FS w0 w' cb mb l (at_+1) D' pv' vt k ts:=by
 refine⟨hc,hm,fZ h.own (fun x hx=>hk.block x ⟨(World.ownsRow.lt h.own x hx).2,fun e=> ?_,fun e=> ?_,fun e=> ?_⟩),?_⟩
 ·subst e;exact kZ h.own h.ch.blk (by decide) hx
 ·subst e;exact xnZ h.ch.map h.own hx
 ·rcases qcZ h.ch.prev h.own (by decide)with e1|e1
  ·rw[e]at e1;cases e1
  ·exact e1 (e.trans hx.symm)
 ·have hb:Below w0.heap.size w w':=hk.below (fun x hx=>⟨by have:=h.bel.size;omega,by have:=h.ch.lo;omega,by have:=h.ch.lm;omega,fun e=>by have:=(World.ownsRow.lt h.ch.prev x e).1;omega⟩)
  exact h.bel.trans hb
end
theorem FS.start(w:World)(l:List Nat):FS w ((w.alloc (.map #[] 0)).alloc (.cells #[.map (some w.heap.size), .slice none 0 0] 302)) (w.heap.size+1) w.heap.size l 0 (.map []) (.slice none 0 0) (.slice none 0 0) 0 []:=
 ⟨⟨Blk.made_at _ _ _ (by simp),((World.ownsMap_made w _ _ _).alloc _),World.ownsRow_nil _ _ _ _,by omega,by omega⟩,MapIs.start l,World.ownsRow_nil _ _ _ _,aZ (aZ (Below.refl _ _))⟩
theorem tmZb(w:World)(A:Option Addr)(n c:Nat)(ls:List Nat)(hn:ls.length=n)(hN:n<=1000000)(h8:∀x∈ls,x<=255)(ha:Row w w.heap.size A n 1 (rZ .u8 ls)):
 Calls Tryz.prog 193 #[.slice A n c] w fun e w'=>∃v,e= .returned v/\w'.ownsRow w.heap.size 241 3 v (find ls).length (xeZ (find ls))/\Below w.heap.size w w':=by
 obtain⟨j0,hj0,hy0,hy1,hy2⟩:=info_parts wmZ
 obtain⟨R,hR⟩:∃R,R=find ls:=⟨_,rfl⟩
 have HF0:Hid (ebZ ls 0=R):=hR.symm
 rw[<-hR]
 have S0:=hid (FS.start w ls)
 have DL:Hid (∀wx cb mb D pv vt k ts at_,at_<n->FS w wx cb mb ls at_ D pv vt k ts->Calls Tryz.prog 240 #[.pointer (some ⟨cb,0,none⟩), .slice A n c, .int .i64 at_] wx fun e w'=>e= .returned (.tuple #[.int .i64 ((norm (dbZ ls at_)).1:Nat), .int .i64 ((norm (dbZ ls at_)).2:Nat)])/\Below wx.heap.size wx w'):=
  fun wx cb mb D pv vt k ts at_ h1 h2=>long_any wx cb mb w.heap.size ls A n c at_ at_ D pv hn hN h1 h2.bel.size h8 (ha.below h2.bel) h2.map h2.ch
 have DA:Hid (∀wx cb mb D pv vt k ts at_,at_<n->FS w wx cb mb ls at_ D pv vt k ts->Calls Tryz.prog 241 #[.pointer (some ⟨cb,0,none⟩), .slice A n c, .int .i64 at_] wx fun e w'=>e= .returned (.tuple #[])/\∃D' pv',FS w w' cb mb ls (at_+1) D' pv' vt k ts):=
  fun wx cb mb D pv vt k ts at_ h1 h2=>(add_any wx cb mb w.heap.size ls A n c at_ D pv hn hN h1 h2.bel.size h8 (ha.below h2.bel) h2.map h2.ch).mono fun e w' ⟨he,D',pv',q1,q2,_,q4⟩=>⟨he,D',pv',h2.added q1 q2 q4⟩
 have HBF:Hid (∀at_,at_<n->((norm (dbZ ls at_)).1=0/\(norm (dbZ ls at_)).2=0/\ebZ ls at_=⟨(ls.getD at_ 0:Nat),0,0⟩ :: ebZ ls (at_+1))∨(3<=(norm (dbZ ls at_)).1/\at_+(norm (dbZ ls at_)).1<=n/\ebZ ls at_=⟨0,((norm (dbZ ls at_)).1:Nat),((norm (dbZ ls at_)).2:Nat)⟩ :: ebZ ls (at_+(norm (dbZ ls at_)).1))):=fun at_ hat=>by
  by_cases h3:3<=(dbZ ls at_).1
  ·rw[ghZb h3]
   exact .inr ⟨h3,by have:=clZ (l:=ls) (at_:=at_) (by omega);omega,zjZ (by omega) h3⟩
  ·rw[yjZb h3]
   exact .inl ⟨rfl,rfl,ylZ (by omega) h3⟩
 have HEND:Hid (ebZ ls n= []):=xlZ (by omega)
 have HN:=hid hn
 have HA:Hid (∀wx at_,Below w.heap.size w wx->at_<n->∃b off,A=some ⟨b,off,none⟩/\wx.cell? ⟨b,off+at_,none⟩=some (.int .u8 (ls.getD at_ 0:Nat))/\b<w.heap.size):=fun wx at_ hb hat=>by
  obtain⟨b,off,rfl,hbl,hc⟩:=ha (by omega)
  have:=(hb.cell (p:=⟨b,_,none⟩) hbl).trans (hc at_ 0 hat (by omega))
  simp only[rZ,Nat.mul_one,Nat.add_zero]at this
  exact⟨b,off,rfl,this,hbl⟩
 clear hR hn h8 ha
 have hmk:=run_makeMap (P:=Tryz.prog) 300 w
 go_enter Tryz.func193,Tryz.ntmps193
 go_wp2_with fail
 clear hmk
 go_loopw [4,5] (fun u v wr=>∃ (at_ k:Nat) (D:DataW Unit) (pv:Value) (ts:List Tk),v= .int .i64 at_/\at_<=n/\k<=at_/\Hid (ts.length=k)/\Hid (ts++ebZ ls at_=R)/\Hid (FS w wr (w.heap.size+1) w.heap.size ls at_ D pv u k ts)) (fun _ v _=>n-(intOf v).toNat)
 case atStart=>exact⟨0,0,_,_,[],rfl,by omega,by omega,rfl,HF0.out,S0.out⟩
 case round=>
  obtain⟨w0,rfl⟩:∃w0:World,w0=wr:=⟨_,rfl⟩
  obtain⟨at_,k,D,pv,ts,rfl,hat,hk,HL,HR,HS⟩:=hrel
  clear HF0 S0
  obtain⟨AT,kT,rfl⟩:=bZ HS.out.own
  by_cases hlt:at_<n
  ·have g1:decide ((at_:Int)<(n:Int))=true:=by simp;omega
   have g1':decide (at_<n)=true:=by simp;omega
   have y0:(0:Int)<=(at_:Int):=by omega
   have y1:(at_:Int)<(n:Int):=by omega
   have zb:=HS.out.bel.size
   have zc:=HS.out.ch.blk.lt
   obtain⟨b,off,hA,hcell,hbl⟩:=HA.out w0 at_ HS.out.bel hlt
   subst hA
   have hbf:=HBF.out at_ hlt
   have DL1:=fun wx D pv vt k ts=>DL.out wx (w.heap.size+1) w.heap.size D pv vt k ts at_ hlt
   have S1:=hid (HS.out.alloc (.cells #[.int .u8 (ls.getD at_ 0:Nat), .int .i64 0, .int .i64 0] 241))
   have hD:=hid (DL1 _ _ _ _ _ _ S1.out)
   clear DL1
   generalize ls.getD at_ 0=x at *
   generalize norm (dbZ ls at_)=NR at *
   obtain⟨nr,dr⟩:=NR
   have HBFN:=hid hbf
   clear hbf DL
   go_wp2_with fail
   refine hD.out.mono ?_
   rintro e w1 ⟨rfl,hb1⟩
   have hb01:Below w0.heap.size w0 w1:=cZ hb1 (aZ (Below.refl _ _))
   have htb:Blk w1 w0.heap.size 241 #[.int .u8 x, .int .i64 0, .int .i64 0]:=(Blk.made _ _ _).step hb1
   have hz1:=htb.lt
   have HTB:=hid htb
   have t0:=htb.cell 0
   have t1:=htb.cell 1
   have t2:=htb.cell 2
   have f0:=htb.frozen 0
   have f1:=htb.frozen 1
   have f2:=htb.frozen 2
   simp only[List.getElem?_toArray,List.getElem?_cons_zero,List.getElem?_cons_succ]at t0 t1 t2
   clear hD hcell S1 htb
   have hbf2:=HBFN.out
   clear HBFN
   rcases hbf2 with ⟨h1,h2,h3⟩|⟨h1,h2,h3⟩
   ·subst h1 h2
    have HFF:=hid h3
    clear h3
    have S2:=hid (HS.out.step (show Below w0.heap.size w0 w1 by(repeat(first|(with_reducible first|exact Below.refl _ _|assumption|refine Below.drew ?_|refine below_drewN ?_ _|refine aZ ?_|refine cZ (by assumption) ?_)|((with_reducible first|refine jZ ?_ ?_|refine eZ ?_ ?_|refine gZ (by assumption) ?_ ?_);(focus(first|(simp;done)|(simp;omega)|omega|(simp at *;omega))))))))
    have hkm:k<1000001:=by omega
    go_wp2_with(at_builtin;refine hZ rfl (.tmp 35) (.tmp 37) 175 rfl w.heap.size 241 j0 _ 3 24 Tryz.underlying175 hj0 hy0 hy1 hy2 rfl (by decide) _ _ _ (by rfl) ((S2.out.alloc _).own) _ 1 1 [.int .u8 (x:Nat), .int .i64 0, .int .i64 0] (by rfl) (Src.of_blk (g:=w1.heap.size) (Blk.made_at _ _ _ (by simp)) 1 1 3 rfl) (by intro u hu;simp at hu;rcases hu with rfl|rfl|rfl<;>rfl) (by unfold maxLen;omega) (by omega) (by simp;omega) ?_;intro v4 w4 hown4 hg4 hat4)
    have hown5:w4.ownsRow w.heap.size 241 3 v4 (k+1) (xeZ (ts++ [⟨(x:Nat),0,0⟩])):=by rw[igZ];exact hown4
    have S4:=hid ((S2.out.alloc _).grown hg4 hown5)
    have HR2:Hid ((ts++ [⟨(x:Nat),0,0⟩])++ebZ ls (at_+1)=R):=by
     have h:=HR.out
     rw[HFF.out]at h
     rw[List.append_assoc]
     exact h
    have HL2:Hid ((ts++ [(⟨(x:Nat),0,0⟩:Tk)]).length=k+1):=by rw[List.length_append,HL.out];rfl
    generalize ts++ [(⟨(x:Nat),0,0⟩:Tk)]=ts2 at *
    clear hown4 hg4 hat4 hown5 S2 HFF HR HL t0 t1 t2 f0 f1 f2 HTB hb01 HS
    go_loopw [5,40] (fun v u wr=>∃ (j q:Nat) (D:DataW Unit) (pv:Value),u= .int .i64 j/\v= .int .i64 q/\q=at_+j/\j<=1/\Hid (FS w wr (w.heap.size+1) w.heap.size ls q D pv v4 (k+1) ts2)) (fun _ u _=>1-(intOf u).toNat)
    case atStart=>exact⟨0,at_,D,pv,rfl,rfl,rfl,by omega,S4.out⟩
    case round=>
     obtain⟨w5,rfl⟩:∃w5:World,w5=wr:=⟨_,rfl⟩
     obtain⟨j,q,D5,pv5,rfl,rfl,hq,hj,S5⟩:=hrel
     clear S4
     by_cases hjs:j<1
     ·have u1:decide ((j:Int)<(1:Int))=true:=by simp;omega
      have u1':decide (j<1)=true:=by simp;omega
      have u2:IntKind.i64.wrap ((q:Int)+1)=((q+1:Nat):Int):=by rw[IntWalk.i64_in _ (by omega)];omega
      have hqn:q<n:=by omega
      have HQ:=hid hq
      clear hq
      have u3:IntKind.i64.wrap ((j:Int)+1)=((j+1:Nat):Int):=by rw[IntWalk.i64_in _ (by omega)];omega
      go_wp2_with fail
      refine(DA.out w5 _ _ D5 pv5 v4 (k+1) ts2 q hqn S5.out).mono ?_
      rintro e w6 ⟨rfl,D6,pv6,S6⟩
      have S6:=hid S6
      clear S5
      go_wp2_with fail
      go_roundw
      case measure=>go_light;simp[intOf];omega
      case rel=>go_light;exact⟨j+1,q+1,D6,pv6,rfl,rfl,by have:=HQ.out;omega,by omega,S6.out⟩
     ·have u1:decide ((j:Int)<(1:Int))=false:=by simp;omega
      have u1':decide (j<1)=false:=by simp;omega
      have hq2:q=at_+1:=by omega
      subst hq2
      clear hq
      go_wp2_with fail
      go_roundw
      case measure=>go_light;simp[intOf];omega
      case rel=>go_light;exact⟨at_+1,k+1,D5,pv5,ts2,rfl,by omega,by omega,HL2.out,HR2.out,S5.out⟩
   ·have h3':3<=nr:=h1
    have h4':at_+nr<=n:=h2
    have HFF:=hid h3
    clear h1 h2 h3
    have q3:decide ((3:Int)<=(nr:Int))=true:=by simp;omega
    have q3':decide (3<=nr)=true:=by simp;omega
    have S2:=hid (HS.out.step (show Below w0.heap.size w0 (((w1.setCell ⟨w0.heap.size,0,none⟩ (.int .u8 0)).setCell ⟨w0.heap.size,1,none⟩ (.int .i64 nr)).setCell ⟨w0.heap.size,2,none⟩ (.int .i64 dr)) by(repeat(first|(with_reducible first|exact Below.refl _ _|assumption|refine Below.drew ?_|refine below_drewN ?_ _|refine aZ ?_|refine cZ (by assumption) ?_)|((with_reducible first|refine jZ ?_ ?_|refine eZ ?_ ?_|refine gZ (by assumption) ?_ ?_);(focus(first|(simp;done)|(simp;omega)|omega|(simp at *;omega))))))))
    have hkm:k<1000001:=by omega
    go_wp2_with(at_builtin;refine hZ rfl (.tmp 35) (.tmp 37) 175 rfl w.heap.size 241 j0 _ 3 24 Tryz.underlying175 hj0 hy0 hy1 hy2 rfl (by decide) _ _ _ (by rfl) ((S2.out.alloc _).own) _ 1 1 [.int .u8 0, .int .i64 (nr:Nat), .int .i64 (dr:Nat)] (by rfl) (Src.of_blk (g:=w1.heap.size) (Blk.made_at _ _ _ (by simp)) 1 1 3 rfl) (by intro u hu;simp at hu;rcases hu with rfl|rfl|rfl<;>rfl) (by unfold maxLen;omega) (by omega) (by simp;omega) ?_;intro v4 w4 hown4 hg4 hat4)
    have hown5:w4.ownsRow w.heap.size 241 3 v4 (k+1) (xeZ (ts++ [⟨0,(nr:Nat),(dr:Nat)⟩])):=by rw[igZ];exact hown4
    have S4:=hid ((S2.out.alloc _).grown hg4 hown5)
    have HR2:Hid ((ts++ [⟨0,(nr:Nat),(dr:Nat)⟩])++ebZ ls (at_+nr)=R):=by
     have h:=HR.out
     rw[HFF.out]at h
     rw[List.append_assoc]
     exact h
    have HL2:Hid ((ts++ [(⟨0,(nr:Nat),(dr:Nat)⟩:Tk)]).length=k+1):=by rw[List.length_append,HL.out];rfl
    generalize ts++ [(⟨0,(nr:Nat),(dr:Nat)⟩:Tk)]=ts2 at *
    clear hown4 hg4 hat4 hown5 S2 HFF HR HL t0 t1 t2 f0 f1 f2 HTB hb01 HS
    go_loopw [5,40] (fun v u wr=>∃ (j q:Nat) (D:DataW Unit) (pv:Value),u= .int .i64 j/\v= .int .i64 q/\q=at_+j/\j<=nr/\Hid (FS w wr (w.heap.size+1) w.heap.size ls q D pv v4 (k+1) ts2)) (fun _ u _=>nr-(intOf u).toNat)
    case atStart=>exact⟨0,at_,D,pv,rfl,rfl,rfl,by omega,S4.out⟩
    case round=>
     obtain⟨w5,rfl⟩:∃w5:World,w5=wr:=⟨_,rfl⟩
     obtain⟨j,q,D5,pv5,rfl,rfl,hq,hj,S5⟩:=hrel
     clear S4
     by_cases hjs:j<nr
     ·have u1:decide ((j:Int)<(nr:Int))=true:=by simp;omega
      have u1':decide (j<nr)=true:=by simp;omega
      have u2:IntKind.i64.wrap ((q:Int)+1)=((q+1:Nat):Int):=by rw[IntWalk.i64_in _ (by omega)];omega
      have hqn:q<n:=by omega
      have HQ:=hid hq
      clear hq
      have u3:IntKind.i64.wrap ((j:Int)+1)=((j+1:Nat):Int):=by rw[IntWalk.i64_in _ (by omega)];omega
      go_wp2_with fail
      refine(DA.out w5 _ _ D5 pv5 v4 (k+1) ts2 q hqn S5.out).mono ?_
      rintro e w6 ⟨rfl,D6,pv6,S6⟩
      have S6:=hid S6
      clear S5
      go_wp2_with fail
      go_roundw
      case measure=>go_light;simp[intOf];omega
      case rel=>go_light;exact⟨j+1,q+1,D6,pv6,rfl,rfl,by have:=HQ.out;omega,by omega,S6.out⟩
     ·have u1:decide ((j:Int)<(nr:Int))=false:=by simp;omega
      have u1':decide (j<nr)=false:=by simp;omega
      have hq2:q=at_+nr:=by omega
      subst hq2
      clear hq
      go_wp2_with fail
      go_roundw
      case measure=>go_light;simp[intOf];omega
      case rel=>go_light;exact⟨at_+nr,k+1,D5,pv5,ts2,rfl,by omega,by omega,HL2.out,HR2.out,S5.out⟩
  ·obtain rfl:at_=n:=by omega
   have hres:Hid (R=ts):=by have h:=HR.out;rw[HEND.out,List.append_nil]at h;exact h.symm
   have g1:decide ((at_:Int)<(at_:Int))=false:=by simp
   have g1':decide (at_<at_)=false:=by simp
   have F:=HS.out.own
   have FB:=HS.out.bel
   have HF:=hid F
   have HB9:=hid FB
   have hLk:=hid HL.out
   clear F FB HR HS HL DL DA HA HBF HEND
   go_wp2_with fail
   go_ret
   exact⟨_,rfl,by rw[hres.out,hLk.out];exact HF.out,HB9.out⟩
end Go.Proofs.YtmlaajebadfkoaaGreatDoor.Lz
namespace Go.Proofs.YtmlaajebadfkoaaGreatDoor.Lz
open Go.RowKit Mem Own Canon
open Go.Proofs.YtmlaajebadfkoaaGreatDoor.Toks (Tk dcZ pjZb)
end Go.Proofs.YtmlaajebadfkoaaGreatDoor.Lz
