/- The walk of the law  -/
import Derived.Test.YtfgdoknipbpfhaaGreatDoorZTwoBack34
import Derived.Test.YtfgdoknipbpfhaaGreatDoorZTwoBack39
namespace Go.Proofs.YtfgdoknipbpfhaaGreatDoor
open Go.Proofs.Tryz
section
variable{lf ls:List Nat}
theorem KO{bs pre post:List Bool}{x n:Nat}(hx:x<2 ^ n)(hb:∀i,bit bs i=bit (pre++(msb x n n++post)) i):AK bs pre.length n=x:=by rw[QE hb,NS x n hx _ pre post (by rw[AE]) n (Ak _),G0];simp
theorem VK{ls:List Nat}:∀ (c i j:Nat),j<BZ ls i c->ls[i+j]? =some 0
 |0,_,_,h=>by simp[BZ]at h
 |c+1,i,j,h=>by
  unfold BZ at h;split at h
  ·rename_i h0;cases j with
   |zero=>exact h0
   |succ j=>
    have:=VK (ls:=ls) c (i+1) j nj
    rwa [show i+(j+1)=i+1+j by omega]
  ·omega
theorem WT{ls:List Nat}:∀ (c i:Nat),BZ ls i c<c->ls[i+BZ ls i c]? ≠some 0
 |0,_,h=>nj
 |c+1,i,h=>by
  unfold BZ at h ⊢;split at h
  ·rename_i h0;rw[Ab h0];have:=WT (ls:=ls) c (i+1) (by omega)
   rwa [show i+(BZ ls (i+1) c+1)=i+1+BZ ls (i+1) c by omega]
  ·rename_i h0;rw[Aa h0];simpa using h0
theorem UZ{ls:List Nat}{i:Nat}:∀ {r:Nat},(∀j,j<r->ls[i+j]? =some 0)->ls.take (i+r)=ls.take i++List.replicate r 0
 |0,_=>rX
 |r+1,h=>by rw[show i+(r+1)=i+r+1 by omega,Cw,UZ fun j hj=>h j nj,h r nj,AE];simp[List.replicate_succ']
theorem Q0{bs:List Bool}{ls:List Nat}(y:okB ls=true):∀ (f i:Nat) (short:Bool) (pre post:List Bool) (F:Nat),i<=ls.length->ls.length<=i+f->f<=F->(short=true->ls[i]? ≠some 0)->
 (∀j,bit bs j=bit (pre++(DQ ls f i++post)) j)->pre.length+(DQ ls f i).length<=bs.length->
 BP bs ls.length (F+1) (ls.take i) short pre.length=(ls,0,pre.length+(DQ ls f i).length)
 |0,i,short,pre,post,F,hi,hf,_,_,_,_=>by have e:ls.take i=ls:=Cf nj;rw[Qw (by rw[e];exact Ak _),e,Ab y,DQ];simp
 |f+1,i,short,pre,post,F,hi,hf,hF,hsh,hb,hl=>by
  obtain⟨F,rfl⟩:∃F',F=F'+1:=⟨F-1,nj⟩;by_cases z:i<ls.length
  ·have E:(ls.take i).length=i:=oj;have hn:¬ls.length<=(ls.take i).length:=nj;have hx:ls[i]? =some (ls.getD i 0):=(by rw[Aq,Az z];rfl);have L:=(Ab0 y).2.1 _ (Bp hx);unfold DQ at hb hl ⊢;rw[Ab z]at hb hl ⊢;by_cases h0:ls.getD i 0=0
   ·rw[Ab h0]at hb hl ⊢;rw[h0]at hx;have r1:=LK hx 63;have M:=OB ls 64 i;have rf:=N3 ls 64 i hi;have rz:=VK (ls:=ls) 64 i;have re:=WT (ls:=ls) 64 i;have G:1<=BZ ls i 64:=(by show 1<=BZ ls i (63+1);omega);clear r1;generalize BZ ls i 64=r at *;rw[Ag,Ag,tZ,tZ]at hl;have a0:AK bs pre.length 4=0:=KO (post:=(msb (r-1) 6 6++DQ ls f (i+r))++post) ip (fun j=>by rw[hb j,AE (msb 0 4 4)])
    have a1:AK bs (pre.length+4) 6=r-1:=by
     have h:=KO (bs:=bs) (pre:=pre++msb 0 4 4) (post:=DQ ls f (i+r)++post) (x:=r-1) (n:=6) (by show r-1<64;omega) (fun j=>by rw[hb j];simp[List.append_assoc])
     rwa [Ag,tZ]at h
    have h3:¬(short=true∨ls.length-(ls.take i).length<=AK bs (pre.length+4) 6):=by
     rw[a1,E];rintro(h|h)
     ·exact hsh h hx
     ·omega
    rw[VM hn nj a0 h3,a1,Nat.sub_add_cancel G,<-UZ rz]
    have ih:=Q0 (bs:=bs) y f (i+r) (decide (r<64)) (pre++(msb 0 4 4++msb (r-1) 6 6)) post F rf nj nj (fun h=>re sH) (fun j=>by rw[hb j];simp[List.append_assoc])
     (by rw[Ag,Ag,tZ,tZ];omega)
    rw[Ag,Ag,tZ,tZ]at ih;rw[show pre.length+4+6=pre.length+(4+6) by omega,ih,Ag,Ag,tZ,tZ];congr 2;omega
   ·rw[Aa h0]at hb hl ⊢;rw[Ag,tZ]at hl;have a0:AK bs pre.length 4=ls.getD i 0:=KO (post:=DQ ls f (i+1)++post) (by show _<16;omega) (fun j=>by rw[hb j,AE (msb _ 4 4)]);have J:ls.take i++ [ls.getD i 0]=ls.take (i+1):=(by rw[Cw,hx];rfl);rw[VX hn nj (by rw[a0];exact h0),a0,J]
    have ih:=Q0 (bs:=bs) y f (i+1) false (pre++msb (ls.getD i 0) 4 4) post F nj nj nj (fun h=>by cases h) (fun j=>by rw[hb j];simp[List.append_assoc])
     pd
    rw[Ag,tZ]at ih;rw[ih,Ag,tZ];congr 2;omega
  ·have e:ls.take i=ls:=Cf nj;rw[J9 ls (f+1) i nj];rw[Qw (by rw[e];exact Ak _),e,Ab y];simp
theorem Ub{bs:List Bool}(i:okB ls=true)(pre post:List Bool)(hb:∀j,bit bs j=bit (pre++(ED ls++post)) j)(hl:pre.length+(ED ls).length<=bs.length):
 BP bs ls.length (ls.length+1) [] false pre.length=(ls,0,pre.length+(ED ls).length):=by
 have h:=Q0 (bs:=bs) i ls.length 0 false pre post ls.length nj nj (Ak _) (fun h=>by cases h) hb hl
 rwa [List.take_zero]at h
set_option maxRecDepth 100000 in
theorem kU{bs:List Bool}{t:Tk}(J:okB ls=true)(G:okB lf=true)(z:0<=t.lit/\t.lit<=255)(hm:Bb t.lit t.len t.dist=true)(hS:ls.getD (rZ t).sym.toNat 0≠0)
 (hD:t.len≠0->lf.getD (rZ t).dist.toNat 0≠0)(pre post:List Bool)(hb:∀j,bit bs j=bit (pre++(Ci ls lf t++post)) j)(hl:pre.length+(Ci ls lf t).length<=bs.length):
 CJ ls lf bs pre.length=(t,true,0,pre.length+(Ci ls lf t).length):=by
 have y:∀ {l:List Nat} {s:Nat},l.getD s 0≠0->l[s]? =some (l.getD s 0):=by
  intro l s h;rw[Aq]at h ⊢;cases hx:l[s]? with
  |none=>rw[hx]at h;exact absurd rfl h
  |some x=>rfl
 by_cases h0:t.len=0
 ·have hp:=Wz z.1 h0 hm;have hd:t.dist=0:=by unfold Bb at hm;rw[Ab h0]at hm;exact of_decide_eq_true hm
  unfold Ci at hb hl ⊢;rw[Ab h0,Cg]at hb hl ⊢;rw[hp]at hb hl hS ⊢;simp only[Int.toNat_natCast]at hb hl hS ⊢;have hg:=L7 J (y hS) hS (bs:=bs) pre post (fun i=>by rw[hb i,AE]) (by rw[Ff]at hl;exact hl);unfold CJ;rw[hg];simp only[ne_eq,not_true_eq_false,if_false];rw[Aa nj,Ab nj,Ff];obtain⟨a,b,c⟩:=t;simp only at h0 hd z ⊢;subst h0 hd;rw[Int.toNat_of_nonneg z.1]
 ·obtain⟨b,L,D,F,hp,Q,N,hL,hF⟩:=PL h0 hm;have hj:=bQ t z.1 nj (by unfold Fa;rw[Ab hm]);have hD:=hD h0;unfold Ci at hb hl ⊢;rw[Aa h0]at hb hl ⊢;rw[hp]at hb hl hS hD hj ⊢;simp only[Int.toNat_natCast,Nat.add_sub_cancel_left]at hb hl hS hD hj ⊢;simp only[List.length_append,Ff,tZ]at hl ⊢;have hg:=L7 J (y hS) hS (bs:=bs) pre (msb L b b++(word lf D++msb F D D)++post) (fun i=>by rw[hb i];simp[List.append_assoc]) nj;unfold CJ;rw[hg];simp only[ne_eq,not_true_eq_false,if_false];rw[Aa nj,Aa nj];simp only[Int.toNat_natCast];have M:EB lf bs (257+b) (pre.length+ls.getD (257+b) 0)=(t,0,pre.length+ls.getD (257+b) 0+b+lf.getD D 0+D):=by have q1:(pre++word ls (257+b)).length=pre.length+ls.getD (257+b) 0:=(by rw[Ag,Ff]);have q2:(pre++(word ls (257+b)++msb L b b)).length=pre.length+ls.getD (257+b) 0+b:=(by rw[Ag,Ag,Ff,tZ];omega);have q3:(pre++(word ls (257+b)++(msb L b b++word lf D))).length=pre.length+ls.getD (257+b) 0+b+lf.getD D 0:=(by rw[Ag,Ag,Ag,Ff,Ff,tZ];omega);have a1:=KO (bs:=bs) (pre:=pre++word ls (257+b)) (post:=(word lf D++msb F D D)++post) (x:=L) (n:=b) hL (fun i=>by rw[hb i];simp[List.append_assoc]);have a2:=L7 G (y hD) hD (bs:=bs) (pre++(word ls (257+b)++msb L b b)) (msb F D D++post) (fun i=>by rw[hb i];simp[List.append_assoc]) (by rw[q2];omega);have a3:=KO (bs:=bs) (pre:=pre++(word ls (257+b)++(msb L b b++word lf D))) (post:=post) (x:=F) (n:=D) hF (fun i=>by rw[hb i];simp[List.append_assoc]);rw[q1]at a1;rw[q2]at a2;rw[q3]at a3;unfold EB;simp only[Nat.add_sub_cancel_left];rw[Aa nj,a1,a2];simp only[ne_eq,not_true_eq_false,if_false,Int.toNat_natCast];rw[Aa nj,a3];simp only[Prod.mk.injEq];exact⟨hj.2,hj.1,trivial⟩
  have E:∀m:Tk×Int×Nat,m=(t,0,pre.length+ls.getD (257+b) 0+b+lf.getD D 0+D)->(m.1,decide (m.2.1=0),m.2.1,m.2.2)=(t,true,(0:Int),pre.length+(ls.getD (257+b) 0+(b+(lf.getD D 0+D)))):=by rintro m rfl;simp only[decide_true,Prod.mk.injEq,true_and];omega
  exact E _ M
theorem jW{bs:List Bool}(h:okB ls=true)(hS:ls.getD 256 0≠0)(pre post:List Bool)(hb:∀j,bit bs j=bit (pre++(word ls 256++post)) j)(hl:pre.length+(word ls 256).length<=bs.length):
 CJ ls lf bs pre.length=(⟨0,0,0⟩,false,0,pre.length+(word ls 256).length):=by
 have hs:ls[256]? =some (ls.getD 256 0):=by
  rw[Aq]at hS ⊢;cases hx:ls[256]? with
  |none=>rw[hx]at hS;exact absurd rfl hS
  |some x=>rfl
 have hg:=L7 h hs hS (bs:=bs) pre post (fun i=>by rw[hb i,AE]) (by rw[Ff]at hl;exact hl);unfold CJ;rw[hg];simp only[ne_eq,not_true_eq_false,if_false];rw[Ab (show((256:Nat):Int)=256 from rfl),Ff]
theorem Vx:∀ts:List Tk,0<=Cz ts/\(ts.length:Int)<=Cz ts
 | []=>⟨by simp[Cz],by simp[Cz]⟩
 |t :: ts=>by have:=Vx ts;rw[Cz,AD];omega
theorem UJ{ls lf:List Nat}{bs:List Bool}(y:okB ls=true)(h:okB lf=true)(hE:ls.getD 256 0≠0):∀ (rest done:List Tk) (M:Int) (F:Nat) (pre:List Bool),
 (∀t∈rest,(0<=t.lit/\t.lit<=255)/\Bb t.lit t.len t.dist=true/\ls.getD (rZ t).sym.toNat 0≠0/\(t.len≠0->lf.getD (rZ t).dist.toNat 0≠0))->0<=M->rest.length<F->
 (∀j,bit bs j=bit (pre++(rest.flatMap (Ci ls lf)++word ls 256)) j)->(pre++(rest.flatMap (Ci ls lf)++word ls 256)).length<=bs.length->bs.length<(pre++(rest.flatMap (Ci ls lf)++word ls 256)).length+8->
 EY ls lf bs F M done pre.length=if Cz rest<=M then(done++rest,0)else([],6)
 | [],done,M,F,pre,_,hM,hF,hb,hl,hl2=>by
  obtain⟨F,rfl⟩:∃F',F=F'+1:=⟨F-1,by simp at hF;omega⟩;simp only[List.flatMap_nil,List.nil_append,List.length_append]at hb hl hl2;have ht:=jW (lf:=lf) y hE (bs:=bs) pre [] (fun j=>by rw[hb j,Cg]) hl;rw[EY,ht];simp only[ne_eq,not_true_eq_false,if_false,if_true]
  have hp:Gw bs (pre.length+(word ls 256).length)=0:=by
   unfold Gw;rw[Aa];rw[not_or,Nat.not_le,Decidable.not_not];refine⟨nj,?_⟩
   have:∀m,AK bs (pre.length+(word ls 256).length) m=0:=by
    intro m
    induction m with
    |zero=>rfl
    |succ m ih=>rw[AK,ih,hb,Gh pf]
   exact this _
  rw[Ab hp,Ab (by simpa[Cz]using hM),Cg]
 |t :: rest,done,M,F,pre,hts,hM,hF,hb,hl,hl2=>by
  obtain⟨F,rfl⟩:∃F',F=F'+1:=⟨F-1,by simp at hF;omega⟩;obtain⟨h1,h2,h3,h4⟩:=hts t rX;simp only[List.flatMap_cons,List.append_assoc]at hb;simp only[List.flatMap_cons,List.length_append]at hl hl2;have ht:=kU y h h1 h2 h3 h4 (bs:=bs) pre (rest.flatMap (Ci ls lf)++word ls 256) hb nj;have z:=Vx rest;rw[EY,ht];simp only[ne_eq,not_true_eq_false,if_false,Bool.true_eq_false];by_cases i:M-max 1 t.len<0
  ·rw[Ab i,Aa (by rw[Cz];omega)]
  ·rw[Aa i]
   have ih:=UJ (bs:=bs) y h hE rest (done++ [t]) (M-max 1 t.len) F (pre++Ci ls lf t) (fun x hx=>hts x (Cn _ hx)) nj (by simp at hF;omega)
    (fun j=>by rw[hb j];simp[List.append_assoc]) (by simp only[List.length_append];omega) (by simp only[List.length_append];omega)
   rw[Ag]at ih;rw[ih,Cz,AE];by_cases hs:Cz rest<=M-max 1 t.len
   ·rw[Ab hs,Ab nj];rfl
   ·rw[Aa hs,Aa nj]
theorem Vl{ls lf:List Nat}:∀ {ts:List Tk},(∀t∈ts,ls.getD (rZ t).sym.toNat 0≠0)->ts.length<=(ts.flatMap (Ci ls lf)).length
 | [],_=>rX
 |t :: ts,h=>by
  have h1:=h t rX;have h2:=Vl (ls:=ls) (lf:=lf) (ts:=ts) (fun x hx=>h x (Cn _ hx));rw[CD,Ag,AD];have h3:ls.getD (rZ t).sym.toNat 0<=(Ci ls lf t).length:=by unfold Ci;rw[Ag,Ff];exact Nat.le_add_right _ _
  omega
theorem jB{ts:List Tk}(E:∀t∈ts,0<=t.lit/\t.lit<=255)(M:Eg ts=true)(most:Int):
 CE (bytesOf (FP ts)) most=if most<0 then([],13)else if Cz ts<=most then(ts,0)else([],6):=by
 have y:∀j,bit (BH (bytesOf (FP ts))) j=bit (FP ts) j:=VG _;have i:(FP ts).length<=(BH (bytesOf (FP ts))).length:=by rw[Fi,bytesOf_length];omega
 have G:(BH (bytesOf (FP ts))).length<(FP ts).length+8:=by rw[Fi,bytesOf_length];omega
 have N:∀t∈ts,(0<=t.lit/\t.lit<=255)/\Bb t.lit t.len t.dist=true/\(lsS ts).getD (rZ t).sym.toNat 0≠0/\(t.len≠0->(lsF ts).getD (rZ t).dist.toNat 0≠0):=by
  intro t ht;unfold Eg at M;have hm:=GE.1 M t ht;obtain⟨S,D,L,F,J,hS,hD,_⟩:=Ni t (E t ht).1 (E t ht).2 hm;have e1:(rZ t).sym.toNat=S:=by rw[J];rfl
  have e2:(rZ t).dist.toNat=D:=by rw[J];rfl
  exact⟨E t ht,hm,QS ht nj,fun h0=>QJ ht h0 nj⟩
 have U:=Vl (ls:=lsS ts) (lf:=lsF ts) (fun t ht=>(N t ht).2.2.1);unfold CE;generalize BH (bytesOf (FP ts))=bs at *;unfold FP at y i G;have Q:=i;simp only[List.length_append]at Q;have r1:=Ub (bs:=bs) (O5 ts) [] (ED (lsF ts)++(ts.flatMap (Ci (lsS ts) (lsF ts))++word (lsS ts) 256)) (fun j=>by rw[y j];simp[List.append_assoc]) (by simp only[List.length_nil];omega);have r2:=Ub (bs:=bs) (OY ts) (ED (lsS ts)) (ts.flatMap (Ci (lsS ts) (lsF ts))++word (lsS ts) 256) (fun j=>by rw[y j];simp[List.append_assoc]) nj;rw[W4]at r1;rw[WM]at r2;simp only[List.length_nil,Nat.zero_add]at r1;by_cases z:most<0
 ·rw[Ab z,Ab z]
 ·rw[Aa z,Aa z];simp only[r1,r2,ne_eq,not_true_eq_false,if_false];have h:=UJ (bs:=bs) (O5 ts) (OY ts) (Wu ts) ts [] most (bs.length+1) (ED (lsS ts)++ED (lsF ts)) N nj nj y i G;rw[Ag]at h;rw[h,FY]
end
variable{b0 base k n x:Nat}{w:World}{A:Option Addr}{held:Bool}
open Go.RowKit
theorem a2l{p:Prop}(h:p:=by have e3:x*2 ^ (7*i)=x % 128*2 ^ (7*i)+x / 128*(128*2 ^ (7*i)):=(by rw[<-Nat.mul_assoc,<-Fk];congr 1;omega);rw[e1,e2,e3,AD];simp only[Prod.mk.injEq,and_true];omega):p:=h
theorem gH:∀ (x i j:Nat) (rest:List Nat),i+(fZ x).length<=9->(0<i->0<x)->A0 (fZ x++rest) i j=(j+x*2 ^ (7*i),i+(fZ x).length,0):=by
 intro x
 induction x using Nat.strongRecOn with
 |_ x ih=>
  intro i j rest hl hi;by_cases h:x<128
  ·rw[Fp h]at hl ⊢;simp only[List.length_singleton]at hl;rw[Ez,FY,A0,Aa nj,Ab h,Nat.mod_eq_of_lt h];rfl
  ·rw[GW h]at hl ⊢;simp only[List.length_cons]at hl;rw[Ez,A0,Aa nj,Aa nj,ih (x / 128) nj (i+1) _ rest nj nj];have e1:(x % 128+128) % 128=x % 128:=nj;have e2:2 ^ (7*(i+1))=128*2 ^ (7*i):=by rw[show 7*(i+1)=7*i+7 by omega,Nat.pow_add];omega
   exact a2l
theorem fD(h:x<=2097151):(fZ x).length<=3:=by
 by_cases h1:x<128
 ·rw[Fp h1];simp
 ·rw[GW h1,AD];by_cases h2:x / 128<128
  ·rw[Fp h2];simp
  ·rw[GW h2,Fp nj];simp
theorem Kd(h:x<=32768)(rest:List Nat):BE 32768 (fZ x++rest)=(x,(fZ x).length,0):=by have hl:=fD (x:=x) nj;unfold BE;rw[gH x 0 0 rest nj nj];simp;omega
section
variable {T:List Nat} {way n p:Nat} {body t4 r1 r2 r3 r4 r5:List Nat}
theorem st1(h:T=way :: r1)(hw:way<=1):Di T=way/\hA1 T=1/\Ai6 T=0:=by
 subst h;have h1:Di (way :: r1)=way:=rfl;have h2:hE1 (way :: r1)=0:=by unfold hE1;rw[IQ];simp
 refine⟨h1,?_,?_⟩
 ·unfold hA1;rw[IU];simp
 ·unfold Ai6;rw[h1,h2,Aa nj]
theorem st2(h:T=way :: (fZ n++r2))(hw:way<=1)(hn:n<=32768):Aj0 T=n/\Ai4 T=1+(fZ n).length/\Ai8 T=0:=by
 obtain⟨_,h2,h3⟩:=st1 h hw;have hd:T.drop 1=fZ n++r2:=qy
 refine⟨?_,?_,?_⟩
 ·unfold Aj0 AV;rw[h2,h3,hd,Kd hn];simp
 ·unfold Ai4 uZ;rw[h2,h3,hd,Kd hn];simp
 ·unfold Ai8 wZ;rw[h2,h3,hd,Kd hn];simp
theorem st3(h:T=way :: (fZ n++(fZ p++r3)))(hw:way<=1)(hn:n<=32768)(hp:p<=32768)(i:n<=1032*p+64):Ai2 T=p/\hA3 T=1+(fZ n).length+(fZ p).length/\Aj8 T=0:=by
 obtain⟨h1,h2,h3⟩:=st2 h hw hn;have hd:T.drop (1+(fZ n).length)=fZ p++r3:=by rw[h,Nat.add_comm,List.drop_succ_cons,List.drop_left]
 have h4:Ai2 T=p:=by unfold Ai2 AV;rw[h2,h3,hd,Kd hp];simp
 refine⟨h4,?_,?_⟩
 ·unfold hA3 uZ;rw[h2,h3,hd,Kd hp];simp
 ·have h5:Aj4 T=0:=by unfold Aj4 wZ;rw[h2,h3,hd,Kd hp];simp
  unfold Aj8;rw[h4,h1,Aa nj,h5]
theorem st4(h:T=way :: (fZ n++(fZ p++(body++r4))))(hw:way<=1)(hn:n<=32768)(hp:p<=32768)(i:n<=1032*p+64)(hb:body.length=p):CR T=body/\Aj2 T=1+(fZ n).length+(fZ p).length+p/\hE6 T=0:=by
 obtain⟨h1,h2,h3⟩:=st3 h hw hn hp i;have hd:T.drop (1+(fZ n).length+(fZ p).length)=body++r4:=by rw[h,show 1+(fZ n).length+(fZ p).length=((fZ n).length+(fZ p).length)+1 by omega,List.drop_succ_cons,<-List.drop_drop,List.drop_left,List.drop_left]
 have hl:T.length=1+(fZ n).length+(fZ p).length+p+r4.length:=by rw[h];simp;omega
 refine⟨?_,?_,?_⟩
 ·unfold CR;rw[h1,h2,h3,Ie,Aa nj,hd,<-hb,List.take_left]
 ·unfold Aj2;rw[h1,h2,h3,IU,Aa nj]
 ·unfold hE6;rw[h1,h2,h3,IQ,Aa nj]
theorem st5(h:T=way :: (fZ n++(fZ p++(body++(t4++r5)))))(hw:way<=1)(hn:n<=32768)(hp:p<=32768)(i:n<=1032*p+64)(hb:body.length=p)(ht:t4.length=4):Aj6 T=1+(fZ n).length+(fZ p).length+p+4/\hE7 T=0:=by
 obtain⟨_,h2,h3⟩:=st4 h hw hn hp i hb;have hl:T.length=1+(fZ n).length+(fZ p).length+p+4+r5.length:=by rw[h];simp;omega
 refine⟨?_,?_⟩
 ·unfold Aj6;rw[h2,h3,IU,Aa nj]
 ·unfold hE7;rw[h2,h3,IQ,Aa nj]
end
theorem dV(l:List Nat):∀at_,Cz (Eb l at_)=((l.length-at_:Nat):Int):=by
 refine Qq (l:=l) (fun at_ h=> ?_) (fun at_ h h3 ih=> ?_) (fun at_ h h3 ih=> ?_)
 ·rw[NN h,Cz];omega
 ·have:=LR (l:=l) (at_:=at_) nj;rw[Lg h h3,Cz,ih];simp only;omega
 ·rw[KR h h3,Cz,ih];simp only;omega
theorem U8{ls lf:List Nat}:∀ {ts:List Tk},(∀t∈ts,Bb t.lit t.len t.dist=true/\ls.getD (rZ t).sym.toNat 0≠0/\(t.len≠0->lf.getD (rZ t).dist.toNat 0≠0))->Cz ts<=129*((ts.flatMap (Ci ls lf)).length:Int)
 | [],_=>by simp[Cz]
 |t :: ts,h=>by
  obtain⟨h0,h1,h2⟩:=h t rX;have ih:=U8 (ls:=ls) (lf:=lf) (ts:=ts) (fun x hx=>h x (Cn _ hx));rw[CD,Ag,Cz];have hw:=Ff ls (rZ t).sym.toNat
  have hl:max 1 t.len<=129*((Ci ls lf t).length:Int):=by
   unfold Ci;by_cases hz:t.len=0
   ·rw[Ab hz,Cg,hw,hz];omega
   ·have h3:=h2 hz;have i:=Ff lf (rZ t).dist.toNat;unfold Bb at h0;rw[Aa hz]at h0;have h0:=of_decide_eq_true h0;rw[Aa hz];simp only[List.length_append,hw,i];omega
  push_cast
  omega
theorem qA{bs:List Nat}(h8:∀x∈bs,x<=255)(hz:sqz bs=true):(sqO bs).length<bs.length/\bs.length<=1032*(sqO bs).length+64/\CE (sqO bs) bs.length=(find bs,0):=by
 unfold sqz at hz;simp only[Bool.and_eq_true,beq_iff_eq,decide_eq_true_eq]at hz;obtain⟨hE,hl⟩:=hz
 have y:Eg (find bs)=true:=by
  unfold sqE IL at hE;split at hE
  ·cases hE
  ·split at hE
   ·assumption
   ·cases hE
 have h:∀t∈find bs,0<=t.lit/\t.lit<=255:=fun t ht=>((find_ok h8 0).1 t ht).1;have hO:sqO bs=bytesOf (FP (find bs)):=by unfold sqO Ia;exact Ab hE
 have G:Cz (find bs)=(bs.length:Int):=dV bs 0
 have E:∀t∈find bs,Bb t.lit t.len t.dist=true/\(lsS (find bs)).getD (rZ t).sym.toNat 0≠0/\(t.len≠0->(lsF (find bs)).getD (rZ t).dist.toNat 0≠0):=by
  intro t ht;have i:=y;unfold Eg at i;have hm:=GE.1 i t ht;obtain⟨S,D,L,F,j,hS,hD,_⟩:=Ni t (h t ht).1 (h t ht).2 hm;have e1:(rZ t).sym.toNat=S:=by rw[j];rfl
  have e2:(rZ t).dist.toNat=D:=by rw[j];rfl
  exact⟨hm,QS ht nj,fun h0=>QJ ht h0 nj⟩
 have hb:=U8 E;have J:((find bs).flatMap (Ci (lsS (find bs)) (lsF (find bs)))).length<=(FP (find bs)).length:=by unfold FP;simp only[List.length_append];omega
 have z:=bytesOf_length (FP (find bs));rw[<-hO]at z;refine⟨hl,nj,?_⟩;rw[hO,jB h y,Aa nj,Ab nj]
theorem pC(bs:List Nat)(plain:Bool):Hj bs plain<=1:=by unfold Hj;split<;>omega
theorem XF{bs:List Nat}(plain:Bool)(h8:∀x∈bs,x<=255):(Ew bs plain).length<=bs.length/\bs.length<=1032*(Ew bs plain).length+64/\byE (Hj bs plain) bs.length (Ew bs plain).length (Ew bs plain)=0/\byO (Hj bs plain) bs.length (Ew bs plain).length (Ew bs plain)=bs:=by
 unfold Ew Hj;cases hc:(!plain&&sqz bs)
 ·simp only[Bool.false_eq_true,if_false];have h0:byE 0 bs.length bs.length bs=0:=by unfold byE;simp
  refine⟨Ak _,nj,h0,?_⟩;unfold byO;rw[h0];simp
 ·simp only[if_true]
  have hz:sqz bs=true:=by
   cases hz:sqz bs
   ·rw[hz,Bool.and_false]at hc;cases hc
   ·rfl
  obtain⟨h1,h2,h3⟩:=qA h8 hz;have hp:Gg (find bs) (bs.length:Int)=(bs,0):=oS h8 nj;have h0:byE 1 bs.length (sqO bs).length (sqO bs)=0:=by unfold byE;rw[h3,Aa nj];simp only;rw[hp];simp
  refine⟨nj,nj,h0,?_⟩;unfold byO;rw[h0,h3,Aa rX,Aa nj];simp only;rw[hp]
theorem gU(s:Nat):(Bv s).length=4:=rfl
theorem YL(bs:List Nat)(plain:Bool)(Al4:List Nat):Bm bs plain++Al4=Hj bs plain :: (fZ bs.length++(fZ (Ew bs plain).length++(Ew bs plain++(Bv (Bg (Em bs plain))++Al4)))):=by unfold Bm Em Jf;simp
theorem Yq(bs:List Nat)(plain:Bool):(Em bs plain).length=1+(fZ bs.length).length+(fZ (Ew bs plain).length).length+(Ew bs plain).length:=by unfold Em Jf;simp;omega
theorem QT(bs:List Nat)(plain:Bool):(Bm bs plain).length=(Em bs plain).length+4:=by unfold Bm;rw[Ag];rfl
theorem Qh{bs:List Nat}(plain:Bool)(Al4:List Nat)(h8:∀x∈bs,x<=255)(Aj0:bs.length<=32768):
 opE (Bm bs plain++Al4)=0/\opO (Bm bs plain++Al4)=bs/\opA (Bm bs plain++Al4)=(Bm bs plain).length:=by
 obtain⟨b1,b2,b3,b4⟩:=XF plain h8;have hw:=pC bs plain;have he:=YL bs plain Al4;obtain⟨T,hT⟩:=ii (Bm bs plain++Al4);rw[<-hT]at he ⊢;obtain⟨s1,_,_⟩:=st1 he hw;obtain⟨s2,_,_⟩:=st2 he hw Aj0;obtain⟨s3,_,_⟩:=st3 he hw Aj0 nj b2;obtain⟨s4,_,_⟩:=st4 he hw Aj0 nj b2 rfl;obtain⟨s5,s7⟩:=st5 he hw Aj0 nj b2 rfl (gU _);have hl:Aj6 T=(Bm bs plain).length:=by rw[s5,QT,Yq]
 have h:hE8 T=0:=by
  unfold hE8;rw[s7,Aa rX,hl,hT,List.take_left];unfold BI;have e1:(Bm bs plain).length-4=(Em bs plain).length:=by rw[QT];omega
  rw[e1,Aa (by rw[QT];omega)];have e2:(Bm bs plain).take (Em bs plain).length=Em bs plain:=by unfold Bm;exact List.take_left
  have e3:(Bm bs plain).drop (Em bs plain).length=Bv (Bg (Em bs plain)):=by unfold Bm;exact List.drop_left
  rw[e2,e3,Ab rfl]
 have hE:opE T=0:=by unfold opE;rw[h,Aa rX,s1,s2,s3,s4,b3]
 refine⟨hE,?_,?_⟩
 ·unfold opO;rw[hE,Aa rX,s1,s2,s3,s4,b4]
 ·unfold opA;rw[hE,Aa rX,hl]
theorem WG{c s:Nat}{e:TypeId}{xs:List Value}(h:w.ownsRow base e s (.slice A n c) n xs):Src w A n c s xs:=by
 refine⟨h.1,?_⟩;rcases h.2 with ⟨hv,h0⟩|⟨g,z,cur,hv,hb,hh,E,y,G,i⟩
 ·injection hv with e1 e2 e3;exact .inl ⟨e1,e2,e3⟩
 ·exact a2m
def blkE(x:List Nat):Int:=if opE x≠0 then opE x else if(Kv (opO x)).2≠0 then(Kv (opO x)).2 else if(Kv (opO x)).1.length=0 then 2 else 0
def blkO(x:List Nat):List Rec:=if blkE x=0 then(Kv (opO x)).1 else []
def Ny(bs:List Nat):Nat->Nat->List Rec->List Rec×Int×Nat
 |0,at_,acc=>(acc,0,at_)
 |k+1,at_,acc=>if blkE (bs.drop at_)≠0 then([],blkE (bs.drop at_),at_)else Ny bs k (at_+opA (bs.drop at_)) (acc++blkO (bs.drop at_))
theorem YG:∀ (x i j:Nat) (rest:List Nat),i<=9->x*2 ^ (7*i)<18446744073709551616->(0<i->0<x)->A0 (fZ x++rest) i j=(j+x*2 ^ (7*i),i+(fZ x).length,0):=by
 intro x
 induction x using Nat.strongRecOn with
 |_ x ih=>
  intro i j rest hl hx hi;by_cases h:x<128
  ·have h9:i=9->x=1:=fun e=>by subst e;have:=hi nj;have e9:(2:Nat) ^ (7*9)=9223372036854775808:=ip;rw[e9]at hx;omega
   rw[Fp h];rw[Ez,FY,A0,Aa nj,Ab h,Nat.mod_eq_of_lt h];rfl
  ·have hb:=NY hx nj;rw[GW h];rw[Ez,A0,Aa nj,Aa nj,ih (x / 128) nj (i+1) _ rest nj hb.2 nj];have e1:(x % 128+128) % 128=x % 128:=nj;have e2:2 ^ (7*(i+1))=128*2 ^ (7*i):=rm;exact a2l
theorem L3(h:x<18446744073709551616)(rest:List Nat):A0 (fZ x++rest) 0 0=(x,(fZ x).length,0):=by rw[YG x 0 0 rest nj sH nj];simp
theorem QX{most:Nat}(h:x<=most)(hm:most<=1000000000)(rest:List Nat):BE most (fZ x++rest)=(x,(fZ x).length,0):=by unfold BE;rw[L3 nj rest];simp;omega
theorem Nq{s:ByteArray}(h:s.size<=4000)(rest:List Nat):Cv 4000 (Bc s++rest)=(sB s,(Bc s).length,0):=by have hl:(sB s).length=s.size:=Lo s;unfold Cv Bc;rw[AE,QX h nj];simp only[List.length_append,hl,List.drop_left];rw[Aa rX,Aa nj,<-hl,List.take_left]
theorem CW{bs a b:List Nat}(h:bs.drop k=a++b):bs.drop (k+a.length)=b:=by rw[<-List.drop_drop,h,List.drop_left]
theorem cR{bs rest:List Nat}{r:Rec}(h:bs.drop k=CF true r++rest)(hr:BR r)(hl:Cq r=false):recR bs k 0=(r,k+(CF true r).length,0):=by
 obtain⟨h1,h2⟩:=IN hl;obtain⟨t0,t1,t2,t3⟩:=hr;have hh:CF true r++rest=fZ r.time.toNat++(r.level.toNat :: (Bc r.source++(Bc r.text++rest))):=by unfold CF Hg;simp
 have q0:bs.drop k=fZ r.time.toNat++(r.level.toNat :: (Bc r.source++(Bc r.text++rest))):=h.trans hh;have q1:=CW q0;have i:bs.drop (k+(fZ r.time.toNat).length)= [r.level.toNat]++(Bc r.source++(Bc r.text++rest)):=q1;have q2:=CW i;rw[J2]at q2;have q3:=CW q2;have eV:Dw bs k 0=r.time.toNat:=by unfold Dw;rw[Aa rX,q0,L3 nj]
 have eA:Ep bs k 0=k+(fZ r.time.toNat).length:=by unfold Ep;rw[Aa rX,q0,L3 nj]
 have eE:Ex bs k 0=0:=by unfold Ex;rw[Aa rX,q0,L3 nj]
 have E:k+(fZ r.time.toNat).length<bs.length:=by have:=Aw List.length i;simp at this;omega
 have eB:Er bs (k+(fZ r.time.toNat).length) 0=r.level.toNat:=by
  unfold Er;have e:(bs.drop (k+(fZ r.time.toNat).length))[0]? =bs[k+(fZ r.time.toNat).length]? :=by rw[Iy,Bt]
  rw[Aa rX,Aq,<-e,i];rfl
 have z:takeA bs (k+(fZ r.time.toNat).length) 0 1=k+(fZ r.time.toNat).length+1:=by rw[IU,Aa nj]
 have y:Bq bs (k+(fZ r.time.toNat).length) 0 1=0:=by rw[IQ,Aa nj]
 have s1:Cv 4000 (bs.drop (k+(fZ r.time.toNat).length+1))=(sB r.source,(Bc r.source).length,0):=by rw[q2,Nq h1]
 have s2:Cv 4000 (bs.drop (k+(fZ r.time.toNat).length+1+(Bc r.source).length))=(sB r.text,(Bc r.text).length,0):=by rw[q3,Nq h2]
 have z1:DV 4000 bs (k+(fZ r.time.toNat).length+1) 0=sB r.source:=by unfold DV;rw[Aa rX,s1]
 have z2:Df 4000 bs (k+(fZ r.time.toNat).length+1) 0=k+(fZ r.time.toNat).length+1+(Bc r.source).length:=by unfold Df;rw[Aa rX,s1]
 have z3:De 4000 bs (k+(fZ r.time.toNat).length+1) 0=0:=by unfold De;rw[Aa rX,s1]
 have y1:DV 4000 bs (k+(fZ r.time.toNat).length+1+(Bc r.source).length) 0=sB r.text:=by unfold DV;rw[Aa rX,s2]
 have y2:Df 4000 bs (k+(fZ r.time.toNat).length+1+(Bc r.source).length) 0=k+(fZ r.time.toNat).length+1+(Bc r.source).length+(Bc r.text).length:=by unfold Df;rw[Aa rX,s2]
 have y3:De 4000 bs (k+(fZ r.time.toNat).length+1+(Bc r.source).length) 0=0:=by unfold De;rw[Aa rX,s2]
 unfold recR;simp only[eV,eA,eE,eB,z,y,z1,z2,z3,y1,y2,y3,Vt];have j:(CF true r).length=(fZ r.time.toNat).length+1+(Bc r.source).length+(Bc r.text).length:=by unfold CF Hg;simp;omega
 rw[j,show((r.time.toNat:Nat):Int)=r.time by omega,show((r.level.toNat:Nat):Int)=r.level by omega];refine Prod.ext rfl (Prod.ext ?_ rfl);show k+_+1+_+_=k+_;omega
theorem Ux{bs:List Nat}:∀ (l:List Rec) (f k:Nat) (i:List Rec),bs.drop k=sZ true l->k<=bs.length->bs.length<=f+k->(∀r∈l,BR r)->(∀r∈l,Cq r=false)->LA f bs k i=(i++l,0)
 | [],f,k,i,h,hk,hf,_,_=>by
  have:(bs.drop k).length=0:=qy
  rw[AQ]at this;rw[pO nj,Cg]
 |r :: l,f,k,i,h,hk,hf,hok,hl=>by
  have hh:bs.drop k=CF true r++sZ true l:=qy
  have h2:=(NK true (hok r rX) (hl r rX)).2;have j:=Aw List.length hh;rw[Ag,AQ]at j;obtain⟨f,rfl⟩:∃f',f=f'+1:=⟨f-1,nj⟩;rw[LA,Aa nj,cR hh (hok r rX) (hl r rX),Aa rX];simp only;rw[Ux l f _ _ (CW hh) nj nj (fun x hx=>hok x sD) (fun x hx=>hl x sD)];simp
theorem Sy{l:List Rec}(h:∀r∈l,BR r)(hl:∀r∈l,Cq r=false):Kv (sZ true l)=(l,0):=by unfold Kv;rw[Ux l _ 0 [] rX nj nj h hl];rfl
theorem XN{l:List Rec}(pl:Bool)(Al4:List Nat)(i:∀r∈l,BR r)(hl:∀r∈l,Cq r=false)(h0:l≠ [])(hb:(sZ true l).length<=32768):
 blkE (Bm (sZ true l) pl++Al4)=0/\blkO (Bm (sZ true l) pl++Al4)=l/\opA (Bm (sZ true l) pl++Al4)=(Bm (sZ true l) pl).length:=by
 obtain⟨f1,f2,f3⟩:=Qh pl Al4 (Nd true i) hb;have hE:blkE (Bm (sZ true l) pl++Al4)=0:=by unfold blkE;rw[f1,f2,Sy i hl];simp only[ne_eq,not_true,if_false];rw[Aa];intro h;exact h0 (Gn h)
 refine⟨hE,?_,f3⟩;unfold blkO;rw[Ab hE,f2,Sy i hl]
theorem Ak8{bs:List Nat}(pl:Bool):∀ (cs:List Nat) (l:List Rec) (k:Nat) (i:List Rec),bs.drop k=(Og pl cs l).flatten->k<=bs.length->cs.sum=l.length->(∀c∈cs,1<=c)->(∀r∈l,BR r)->(∀r∈l,Cq r=false)->(sZ true l).length<=32768->Ny bs cs.length k i=(i++l,0,bs.length)
 | [],l,k,i,h,hk,hs,_,_,_,_=>by
  have:(bs.drop k).length=0:=qy
  rw[AQ]at this;have hl:l= []:=Gn (by simpa using hs.symm);have e:k=bs.length:=nj
  rw[hl,e];simp[Ny]
 |c :: cs,l,k,i,h,hk,hs,hp,hok,hl,hb=>by
  have hc:=hp c rX;rw[GC]at hs;have hh:bs.drop k=Bm (sZ true (l.take c)) pl++(Og pl cs (l.drop c)).flatten:=qy
  have y:=zX true l c;have h0:l.take c≠ []:=fun e=>by have:=Aw List.length e;rw[AY,Dg]at this;omega
  obtain⟨b1,b2,b3⟩:=XN pl (Og pl cs (l.drop c)).flatten (l:=l.take c) (fun r hr=>hok r (BX hr)) (fun r hr=>hl r (BX hr)) h0 nj;have j:=Aw List.length hh;rw[Ag,AQ]at j;rw[AD,Ny,hh,b1,Aa rX,b2,b3,Ak8 pl cs (l.drop c) _ _ (CW hh) nj nz (fun x hx=>hp x sD) (fun r hr=>hok r (Bz hr)) (fun r hr=>hl r (Bz hr)) nj];rw[AE,ER]
theorem Wv(l:List Rec):∀u∈Cs l,u.oneCell'=true:=by intro u hu;unfold Cs at hu;obtain⟨r,_,hr⟩:=List.mem_flatMap.1 hu;simp at hr;rcases hr with rfl|rfl|rfl|rfl<;>rfl
open Go.ChangeShapes Go.WideShapes Go.Joins Go.Deep
theorem oF{H:Type}{enc:TypeId×Value->H}{spare:Nat->Bool}{fuel:Nat}{len z:Nat}{x:DataW H×List MemPlace}
 (h:DataW.trod enc prog w base spare held fuel 24 [.slice A len z]=some x):
 ∃la:List Rec,la.length=len/\Row w w A len 4 (BW la)/\len<=z/\len<=9223372036854775807/\∀r∈la,BR r:=by
 obtain⟨h1,h2,h3⟩:=Xm underlying24 underlying43 my my ip 4 rfl h;refine⟨(List.range len).map fun i=>⟨Ju w A (i*4),Ju w A (i*4+1),Jr w A (i*4+2),Jr w A (i*4+3)⟩,rX,?_,h1,by unfold maxLen at h2;omega,?_⟩
 ·intro hn;obtain⟨b,y,rfl,hb,hc⟩:=h3 hn;refine⟨b,y,rfl,hb,fun i j hi hj=> ?_⟩
  have hg:((List.range len).map fun i=>(⟨Ju w (some ⟨b,y,none⟩) (i*4),Ju w (some ⟨b,y,none⟩) (i*4+1),Jr w (some ⟨b,y,none⟩) (i*4+2),Jr w (some ⟨b,y,none⟩) (i*4+3)⟩:Rec)).getD i GX=
   ⟨Ju w (some ⟨b,y,none⟩) (i*4),Ju w (some ⟨b,y,none⟩) (i*4+1),Jr w (some ⟨b,y,none⟩) (i*4+2),Jr w (some ⟨b,y,none⟩) (i*4+3)⟩:=by
   simp[List.getD,hi]
  unfold BW;rw[hg]
  match j,hj with
  |0,_=>obtain⟨v0,y0,n0,c0,t0⟩:=hc i hi 0 _ rfl;obtain⟨x0,e0,_,w0⟩:=DataW.trod_int underlying41 t0;simp only[List.cons.injEq,and_true]at e0;subst e0;rw[Mp (k:=i*4) c0];exact c0
  |1,_=>obtain⟨v0,y0,n0,c0,t0⟩:=hc i hi 1 _ rfl;obtain⟨x0,e0,_,w0⟩:=DataW.trod_int underlying5 t0;simp only[List.cons.injEq,and_true]at e0;subst e0;rw[Mp c0];exact c0
  |2,_=>obtain⟨v0,y0,n0,c0,t0⟩:=hc i hi 2 _ rfl;obtain⟨x0,e0,_,w0⟩:=DataW.trod_string underlying9 t0;simp only[List.cons.injEq,and_true]at e0;subst e0;rw[Vb c0];exact c0
  |3,_=>obtain⟨v0,y0,n0,c0,t0⟩:=hc i hi 3 _ rfl;obtain⟨x0,e0,_,w0⟩:=DataW.trod_string underlying9 t0;simp only[List.cons.injEq,and_true]at e0;subst e0;rw[Vb c0];exact c0
 ·intro r hr;obtain⟨i,hi,rfl⟩:=CH.1 hr;have hi:=Gl.1 hi;obtain⟨b,y,rfl,hb,hc⟩:=h3 nj;obtain⟨v0,y0,n0,c0,t0⟩:=hc i hi 0 _ rfl;obtain⟨x0,e0,_,w0⟩:=DataW.trod_int underlying41 t0;simp only[List.cons.injEq,and_true]at e0;subst e0;obtain⟨v1,y1,n1,c1,t1⟩:=hc i hi 1 _ rfl;obtain⟨x1,e1,_,w1⟩:=DataW.trod_int underlying5 t1;simp only[List.cons.injEq,and_true]at e1;subst e1;have b0:=bounds_u64 w0;have b1:=bounds_u8 w1;show BR ⟨_,_,_,_⟩;unfold BR;simp only;rw[Mp (k:=i*4) c0,Mp (k:=i*4+1) c1];omega
theorem G3{α:Type}{l:List α}(h:l.length=n+1):∃c t,l=c :: t/\t.length=n:=by
 cases l with
 |nil=>cases h
 |cons c t=>exact⟨c,t,rfl,Nat.succ.inj h⟩
theorem Yl{α:Type}{a:Array α}(h:a.size=6):∃c0 c1 c2 c3 c4 c5,a=#[c0,c1,c2,c3,c4,c5]:=by obtain⟨l⟩:=a;obtain⟨c0,t0,rfl,h0⟩:=G3 (n:=5) h;obtain⟨c1,t1,rfl,h1⟩:=G3 h0;obtain⟨c2,t2,rfl,h2⟩:=G3 h1;obtain⟨c3,t3,rfl,h3⟩:=G3 h2;obtain⟨c4,t4,rfl,h4⟩:=G3 h3;obtain⟨c5,t5,rfl,h5⟩:=G3 h4;obtain rfl:=W5.1 h5;exact⟨c0,c1,c2,c3,c4,c5,rfl⟩
theorem bH{P:Program}{H:Type}{enc:TypeId×Value->H}{spare:Nat->Bool}{r:Reach}{t:TypeId}{f0 f1 f2 f3 f4 f5:Field}{v:Value}{d:DataW H}{p:List MemPlace}(hs:P.underlying t=some (.struct #[f0,f1,f2,f3,f4,f5]))(i:oneCellFields P #[f0,f1,f2,f3,f4,f5]=true)(hC:P.cellsOf t=6)
 (hv:Value.okWide P w r b0 t v)(h:DataW.Trod enc P w base spare held t v d p):
 ∃ (v0 v1 v2 v3 v4 v5:Value) (y0 y1 y2 y3 y4 y5:DataW H×List MemPlace) (n:Nat),v= .agg #[v0,v1,v2,v3,v4,v5]/\
  DataW.trod enc P w base spare held n f0.type [v0]=some y0/\DataW.trod enc P w base spare held n f1.type [v1]=some y1/\DataW.trod enc P w base spare held n f2.type [v2]=some y2/\DataW.trod enc P w base spare held n f3.type [v3]=some y3/\DataW.trod enc P w base spare held n f4.type [v4]=some y4/\DataW.trod enc P w base spare held n f5.type [v5]=some y5:=by
 obtain⟨cs,rfl,y⟩:=okWide_struct hs hv;obtain⟨c0,c1,c2,c3,c4,c5,rfl⟩:=Yl (y.trans hC);obtain⟨fuel,hf⟩:=h;obtain⟨xs,n,_,_,hl,j,hf⟩:=DataW.trod_struct hs hf;obtain⟨y0,t0,rfl,l0⟩:=G3 (n:=5) j;obtain⟨y1,t1,rfl,l1⟩:=G3 l0;obtain⟨y2,t2,rfl,l2⟩:=G3 l1;obtain⟨y3,t3,rfl,l3⟩:=G3 l2;obtain⟨y4,t4,rfl,l4⟩:=G3 l3;obtain⟨y5,t5,rfl,l5⟩:=G3 l4;obtain rfl:=W5.1 l5;obtain⟨o0,k0⟩:=hone_of i 0 f0 rfl;obtain⟨o1,k1⟩:=hone_of i 1 f1 rfl;obtain⟨o2,k2⟩:=hone_of i 2 f2 rfl;obtain⟨o3,k3⟩:=hone_of i 3 f3 rfl;obtain⟨o4,k4⟩:=hone_of i 4 f4 rfl;obtain⟨o5,k5⟩:=hone_of i 5 f5 rfl;exact⟨c0,c1,c2,c3,c4,c5,y0,y1,y2,y3,y4,y5,n,rfl,by simpa[Value.cells,o0,k0]using hf 0 f0 rfl,by simpa[Value.cells,o1,k1]using hf 1 f1 rfl,by simpa[Value.cells,o2,k2]using hf 2 f2 rfl,by simpa[Value.cells,o3,k3]using hf 3 f3 rfl,by simpa[Value.cells,o4,k4]using hf 4 f4 rfl,by simpa[Value.cells,o5,k5]using hf 5 f5 rfl⟩
set_option maxRecDepth 100000 in
theorem opts{H:Type}{enc:TypeId×Value->H}{spare:Nat->Bool}{r:Reach}{v:Value}{d:DataW H}{p:List MemPlace}
 (hv:Value.okWide prog w r b0 23 v)(h:DataW.Trod enc prog w base spare held 23 v d p):∃o:Opt,v=o.val:=by
 obtain⟨c0,c1,c2,c3,c4,c5,y0,y1,y2,y3,y4,y5,n,rfl,h0,h1,h2,h3,h4,h5⟩:=bH underlying23 my my hv h;obtain⟨x0,e0,_,_⟩:=DataW.trod_int underlying3 h0;obtain⟨x1,e1,_⟩:=DataW.trod_bool underlying4 h1;obtain⟨x2,e2,_,_⟩:=DataW.trod_int underlying3 h2;obtain⟨x3,e3,_,_⟩:=DataW.trod_int underlying3 h3;obtain⟨x4,e4,_,_⟩:=DataW.trod_int underlying3 h4;obtain⟨x5,e5,_,_⟩:=DataW.trod_int underlying3 h5;simp only[List.cons.injEq,and_true]at e0 e1 e2 e3 e4 e5;subst e0 e1 e2 e3 e4 e5;exact⟨⟨x0,x1,x2,x3,x4,x5⟩,rfl⟩
end Go.Proofs.YtfgdoknipbpfhaaGreatDoor
