/- Plain: what toks.Wri -/
import Derived.Test.YtfgdoknipbpfhaaGreatDoorZBodyBack19
import Derived.Test.YtfgdoknipbpfhaaGreatDoorZBodyBack38
namespace Go.Proofs.YtfgdoknipbpfhaaGreatDoor
variable{lf ls:List Nat}
namespace TW
open Canon Huff Lens
open Toks (Tk Pc qZ EJ Bb bump CL Dp Dm lg pw Within Du Et)
theorem Li{bs pre post:List Bool}{x n:Nat}(hx:x<2 ^ n)(hb:∀i,bit bs i=bit (pre++(msb x n n++post)) i):yZ bs pre.length n=x:=by rw[Qg hb,MG x n hx _ pre post (by rw[AI]) n (Ak _),Gf];simp
theorem TN{ls:List Nat}:∀ (c i j:Nat),j<BM ls i c->ls[i+j]? =some 0
 |0,_,_,h=>by simp[BM]at h
 |c+1,i,j,h=>by
  unfold BM at h;split at h
  ·rename_i h0;cases j with
   |zero=>exact h0
   |succ j=>
    have:=TN (ls:=ls) c (i+1) j nj
    rwa [show i+(j+1)=i+1+j by omega]
  ·omega
theorem Vl{ls:List Nat}:∀ (c i:Nat),BM ls i c<c->ls[i+BM ls i c]? ≠some 0
 |0,_,h=>nj
 |c+1,i,h=>by
  unfold BM at h ⊢;split at h
  ·rename_i h0;rw[Ab h0];have:=Vl (ls:=ls) c (i+1) (by omega)
   rwa [show i+(BM ls (i+1) c+1)=i+1+BM ls (i+1) c by omega]
  ·rename_i h0;rw[Aa h0];simpa using h0
theorem Sk{ls:List Nat}{i:Nat}:∀ {r:Nat},(∀j,j<r->ls[i+j]? =some 0)->ls.take (i+r)=ls.take i++List.replicate r 0
 |0,_=>qT
 |r+1,h=>by rw[show i+(r+1)=i+r+1 by omega,BN,Sk fun j hj=>h j nj,h r nj,AI];simp[List.replicate_succ']
theorem O7{bs:List Bool}{ls:List Nat}(y:okB ls=true):∀ (f i:Nat) (short:Bool) (pre post:List Bool) (F:Nat),i<=ls.length->ls.length<=i+f->f<=F->(short=true->ls[i]? ≠some 0)->
 (∀j,bit bs j=bit (pre++(Df ls f i++post)) j)->pre.length+(Df ls f i).length<=bs.length->
 Bz bs ls.length (F+1) (ls.take i) short pre.length=(ls,0,pre.length+(Df ls f i).length)
 |0,i,short,pre,post,F,hi,hf,_,_,_,_=>by have e:ls.take i=ls:=Bw nj;rw[Pk (by rw[e];exact Ak _),e,Ab y,Df];simp
 |f+1,i,short,pre,post,F,hi,hf,hF,hsh,hb,hl=>by
  obtain⟨F,rfl⟩:∃F',F=F'+1:=⟨F-1,nj⟩;by_cases E:i<ls.length
  ·have z:(ls.take i).length=i:=pj;have hn:¬ls.length<=(ls.take i).length:=nj;have hx:ls[i]? =some (ls.getD i 0):=(by rw[Am,Aw E];rfl);have L:=(ok_parts y).2.1 _ (Be hx);unfold Df at hb hl ⊢;rw[Ab E]at hb hl ⊢;by_cases h0:ls.getD i 0=0
   ·rw[Ab h0]at hb hl ⊢;rw[h0]at hx;have r1:=Lb hx 63;have M:=P3 ls 64 i;have rf:=Nb ls 64 i hi;have rz:=TN (ls:=ls) 64 i;have re:=Vl (ls:=ls) 64 i;have J:1<=BM ls i 64:=(by show 1<=BM ls i (63+1);omega);clear r1;generalize BM ls i 64=r at *;rw[Ag,Ag,rZ,rZ]at hl;have a0:yZ bs pre.length 4=0:=Li (post:=(msb (r-1) 6 6++Df ls f (i+r))++post) ip (fun j=>by rw[hb j,AI (msb 0 4 4)])
    have a1:yZ bs (pre.length+4) 6=r-1:=by
     have h:=Li (bs:=bs) (pre:=pre++msb 0 4 4) (post:=Df ls f (i+r)++post) (x:=r-1) (n:=6) (by show r-1<64;omega) (fun j=>by rw[hb j];simp[List.append_assoc])
     rwa [Ag,rZ]at h
    have h3:¬(short=true∨ls.length-(ls.take i).length<=yZ bs (pre.length+4) 6):=by
     rw[a1,z];rintro(h|h)
     ·exact hsh h hx
     ·omega
    rw[Tt hn nj a0 h3,a1,Nat.sub_add_cancel J,<-Sk rz]
    have ih:=O7 (bs:=bs) y f (i+r) (decide (r<64)) (pre++(msb 0 4 4++msb (r-1) 6 6)) post F rf nj nj (fun h=>re ru) (fun j=>by rw[hb j];simp[List.append_assoc])
     (by rw[Ag,Ag,rZ,rZ];omega)
    rw[Ag,Ag,rZ,rZ]at ih;rw[show pre.length+4+6=pre.length+(4+6) by omega,ih,Ag,Ag,rZ,rZ];congr 2;omega
   ·rw[Aa h0]at hb hl ⊢;rw[Ag,rZ]at hl;have a0:yZ bs pre.length 4=ls.getD i 0:=Li (post:=Df ls f (i+1)++post) (by show _<16;omega) (fun j=>by rw[hb j,AI (msb _ 4 4)]);have G:ls.take i++ [ls.getD i 0]=ls.take (i+1):=(by rw[BN,hx];rfl);rw[TC hn nj (by rw[a0];exact h0),a0,G]
    have ih:=O7 (bs:=bs) y f (i+1) false (pre++msb (ls.getD i 0) 4 4) post F nj nj nj (fun h=>by cases h) (fun j=>by rw[hb j];simp[List.append_assoc])
     oy
    rw[Ag,rZ]at ih;rw[ih,Ag,rZ];congr 2;omega
  ·have e:ls.take i=ls:=Bw nj;rw[Ks ls (f+1) i nj];rw[Pk (by rw[e];exact Ak _),e,Ab y];simp
theorem Rg{bs:List Bool}(i:okB ls=true)(pre post:List Bool)(hb:∀j,bit bs j=bit (pre++(Ev ls++post)) j)(hl:pre.length+(Ev ls).length<=bs.length):
 Bz bs ls.length (ls.length+1) [] false pre.length=(ls,0,pre.length+(Ev ls).length):=by
 have h:=O7 (bs:=bs) i ls.length 0 false pre post ls.length nj nj (Ak _) (fun h=>by cases h) hb hl
 rwa [List.take_zero]at h
set_option maxRecDepth 100000 in
theorem aF{bs:List Bool}{t:Tk}(E:okB ls=true)(J:okB lf=true)(z:0<=t.lit/\t.lit<=255)(hm:Bb t.lit t.len t.dist=true)(hS:ls.getD (qZ t).sym.toNat 0≠0)
 (hD:t.len≠0->lf.getD (qZ t).dist.toNat 0≠0)(pre post:List Bool)(hb:∀j,bit bs j=bit (pre++(BS ls lf t++post)) j)(hl:pre.length+(BS ls lf t).length<=bs.length):
 Cx ls lf bs pre.length=(t,true,0,pre.length+(BS ls lf t).length):=by
 have y:∀ {l:List Nat} {s:Nat},l.getD s 0≠0->l[s]? =some (l.getD s 0):=by
  intro l s h;rw[Am]at h ⊢;cases hx:l[s]? with
  |none=>rw[hx]at h;exact absurd rfl h
  |some x=>rfl
 by_cases h0:t.len=0
 ·have hp:=VZ z.1 h0 hm;have hd:t.dist=0:=by unfold Bb at hm;rw[Ab h0]at hm;exact of_decide_eq_true hm
  unfold BS at hb hl ⊢;rw[Ab h0,BX]at hb hl ⊢;rw[hp]at hb hl hS ⊢;simp only[Int.toNat_natCast]at hb hl hS ⊢;have hg:=NO E (y hS) hS (bs:=bs) pre post (fun i=>by rw[hb i,AI]) (by rw[ET]at hl;exact hl);unfold Cx;rw[hg];simp only[ne_eq,not_true_eq_false,if_false];rw[Aa nj,Ab nj,ET];obtain⟨a,b,c⟩:=t;simp only at h0 hd z ⊢;subst h0 hd;rw[Int.toNat_of_nonneg z.1]
 ·obtain⟨b,L,D,F,hp,Q,N,hL,hF⟩:=OB h0 hm;have hj:=Toks.YJ t z.1 nj (by unfold EJ;rw[Ab hm]);have hD:=hD h0;unfold BS at hb hl ⊢;rw[Aa h0]at hb hl ⊢;rw[hp]at hb hl hS hD hj ⊢;simp only[Int.toNat_natCast,Nat.add_sub_cancel_left]at hb hl hS hD hj ⊢;simp only[List.length_append,ET,rZ]at hl ⊢;have hg:=NO E (y hS) hS (bs:=bs) pre (msb L b b++(word lf D++msb F D D)++post) (fun i=>by rw[hb i];simp[List.append_assoc]) nj;unfold Cx;rw[hg];simp only[ne_eq,not_true_eq_false,if_false];rw[Aa nj,Aa nj];simp only[Int.toNat_natCast];have M:Eu lf bs (257+b) (pre.length+ls.getD (257+b) 0)=(t,0,pre.length+ls.getD (257+b) 0+b+lf.getD D 0+D):=by have q1:(pre++word ls (257+b)).length=pre.length+ls.getD (257+b) 0:=(by rw[Ag,ET]);have q2:(pre++(word ls (257+b)++msb L b b)).length=pre.length+ls.getD (257+b) 0+b:=(by rw[Ag,Ag,ET,rZ];omega);have q3:(pre++(word ls (257+b)++(msb L b b++word lf D))).length=pre.length+ls.getD (257+b) 0+b+lf.getD D 0:=(by rw[Ag,Ag,Ag,ET,ET,rZ];omega);have a1:=Li (bs:=bs) (pre:=pre++word ls (257+b)) (post:=(word lf D++msb F D D)++post) (x:=L) (n:=b) hL (fun i=>by rw[hb i];simp[List.append_assoc]);have a2:=NO J (y hD) hD (bs:=bs) (pre++(word ls (257+b)++msb L b b)) (msb F D D++post) (fun i=>by rw[hb i];simp[List.append_assoc]) (by rw[q2];omega);have a3:=Li (bs:=bs) (pre:=pre++(word ls (257+b)++(msb L b b++word lf D))) (post:=post) (x:=F) (n:=D) hF (fun i=>by rw[hb i];simp[List.append_assoc]);rw[q1]at a1;rw[q2]at a2;rw[q3]at a3;unfold Eu;simp only[Nat.add_sub_cancel_left];rw[Aa nj,a1,a2];simp only[ne_eq,not_true_eq_false,if_false,Int.toNat_natCast];rw[Aa nj,a3];simp only[Prod.mk.injEq];exact⟨hj.2,hj.1,trivial⟩
  have G:∀m:Tk×Int×Nat,m=(t,0,pre.length+ls.getD (257+b) 0+b+lf.getD D 0+D)->(m.1,decide (m.2.1=0),m.2.1,m.2.2)=(t,true,(0:Int),pre.length+(ls.getD (257+b) 0+(b+(lf.getD D 0+D)))):=by rintro m rfl;simp only[decide_true,Prod.mk.injEq,true_and];omega
  exact G _ M
theorem ZV{bs:List Bool}(h:okB ls=true)(hS:ls.getD 256 0≠0)(pre post:List Bool)(hb:∀j,bit bs j=bit (pre++(word ls 256++post)) j)(hl:pre.length+(word ls 256).length<=bs.length):
 Cx ls lf bs pre.length=(⟨0,0,0⟩,false,0,pre.length+(word ls 256).length):=by
 have hs:ls[256]? =some (ls.getD 256 0):=by
  rw[Am]at hS ⊢;cases hx:ls[256]? with
  |none=>rw[hx]at hS;exact absurd rfl hS
  |some x=>rfl
 have hg:=NO h hs hS (bs:=bs) pre post (fun i=>by rw[hb i,AI]) (by rw[ET]at hl;exact hl);unfold Cx;rw[hg];simp only[ne_eq,not_true_eq_false,if_false];rw[Ab (show((256:Nat):Int)=256 from rfl),ET]
theorem Tz:∀ts:List Tk,0<=Cl ts/\(ts.length:Int)<=Cl ts
 | []=>⟨by simp[Cl],by simp[Cl]⟩
 |t :: ts=>by have:=Tz ts;rw[Cl,AD];omega
theorem R0{ls lf:List Nat}{bs:List Bool}(y:okB ls=true)(h:okB lf=true)(hE:ls.getD 256 0≠0):∀ (rest done:List Tk) (M:Int) (F:Nat) (pre:List Bool),
 (∀t∈rest,(0<=t.lit/\t.lit<=255)/\Bb t.lit t.len t.dist=true/\ls.getD (qZ t).sym.toNat 0≠0/\(t.len≠0->lf.getD (qZ t).dist.toNat 0≠0))->0<=M->rest.length<F->
 (∀j,bit bs j=bit (pre++(rest.flatMap (BS ls lf)++word ls 256)) j)->(pre++(rest.flatMap (BS ls lf)++word ls 256)).length<=bs.length->bs.length<(pre++(rest.flatMap (BS ls lf)++word ls 256)).length+8->
 ER ls lf bs F M done pre.length=if Cl rest<=M then(done++rest,0)else([],6)
 | [],done,M,F,pre,_,hM,hF,hb,hl,hl2=>by
  obtain⟨F,rfl⟩:∃F',F=F'+1:=⟨F-1,by simp at hF;omega⟩;simp only[List.flatMap_nil,List.nil_append,List.length_append]at hb hl hl2;have ht:=ZV (lf:=lf) y hE (bs:=bs) pre [] (fun j=>by rw[hb j,BX]) hl;rw[ER,ht];simp only[ne_eq,not_true_eq_false,if_false,if_true]
  have hp:FU bs (pre.length+(word ls 256).length)=0:=by
   unfold FU;rw[Aa];rw[not_or,Nat.not_le,Decidable.not_not];refine⟨nj,?_⟩
   have:∀m,yZ bs (pre.length+(word ls 256).length) m=0:=by
    intro m
    induction m with
    |zero=>rfl
    |succ m ih=>rw[yZ,ih,hb,FL pd]
   exact this _
  rw[Ab hp,Ab (by simpa[Cl]using hM),BX]
 |t :: rest,done,M,F,pre,hts,hM,hF,hb,hl,hl2=>by
  obtain⟨F,rfl⟩:∃F',F=F'+1:=⟨F-1,by simp at hF;omega⟩;obtain⟨h1,h2,h3,h4⟩:=hts t qT;simp only[List.flatMap_cons,List.append_assoc]at hb;simp only[List.flatMap_cons,List.length_append]at hl hl2;have ht:=aF y h h1 h2 h3 h4 (bs:=bs) pre (rest.flatMap (BS ls lf)++word ls 256) hb nj;have z:=Tz rest;rw[ER,ht];simp only[ne_eq,not_true_eq_false,if_false,Bool.true_eq_false];by_cases i:M-max 1 t.len<0
  ·rw[Ab i,Aa (by rw[Cl];omega)]
  ·rw[Aa i]
   have ih:=R0 (bs:=bs) y h hE rest (done++ [t]) (M-max 1 t.len) F (pre++BS ls lf t) (fun x hx=>hts x (Ce _ hx)) nj (by simp at hF;omega)
    (fun j=>by rw[hb j];simp[List.append_assoc]) (by simp only[List.length_append];omega) (by simp only[List.length_append];omega)
   rw[Ag]at ih;rw[ih,Cl,AI];by_cases hs:Cl rest<=M-max 1 t.len
   ·rw[Ab hs,Ab nj];rfl
   ·rw[Aa hs,Aa nj]
theorem Tp{ls lf:List Nat}:∀ {ts:List Tk},(∀t∈ts,ls.getD (qZ t).sym.toNat 0≠0)->ts.length<=(ts.flatMap (BS ls lf)).length
 | [],_=>qT
 |t :: ts,h=>by
  have h1:=h t qT;have h2:=Tp (ls:=ls) (lf:=lf) (ts:=ts) (fun x hx=>h x (Ce _ hx));rw[Cu,Ag,AD];have h3:ls.getD (qZ t).sym.toNat 0<=(BS ls lf t).length:=by unfold BS;rw[Ag,ET];exact Nat.le_add_right _ _
  omega
theorem ZB{ts:List Tk}(G:∀t∈ts,0<=t.lit/\t.lit<=255)(M:Dm ts=true)(most:Int):
 Cs (bytesOf (Fw ts)) most=if most<0 then([],13)else if Cl ts<=most then(ts,0)else([],6):=by
 have z:∀j,bit (Bp (bytesOf (Fw ts))) j=bit (Fw ts) j:=Tj _;have i:(Fw ts).length<=(Bp (bytesOf (Fw ts))).length:=by rw[EK,bytesOf_length];omega
 have E:(Bp (bytesOf (Fw ts))).length<(Fw ts).length+8:=by rw[EK,bytesOf_length];omega
 have J:∀t∈ts,(0<=t.lit/\t.lit<=255)/\Bb t.lit t.len t.dist=true/\(lsS ts).getD (qZ t).sym.toNat 0≠0/\(t.len≠0->(lsF ts).getD (qZ t).dist.toNat 0≠0):=by
  intro t ht;unfold Dm at M;have hm:=Gh.1 M t ht;obtain⟨S,D,L,F,N,hS,hD,_⟩:=Toks.L6 t (G t ht).1 (G t ht).2 hm;have e1:(qZ t).sym.toNat=S:=by rw[N];rfl
  have e2:(qZ t).dist.toNat=D:=by rw[N];rfl
  exact⟨G t ht,hm,Pd ht nj,fun h0=>O6 ht h0 nj⟩
 have Q:=Tp (ls:=lsS ts) (lf:=lsF ts) (fun t ht=>(J t ht).2.2.1);unfold Cs;generalize Bp (bytesOf (Fw ts))=bs at *;unfold Fw at z i E;have U:=i;simp only[List.length_append]at U;have r1:=Rg (bs:=bs) (QI ts) [] (Ev (lsF ts)++(ts.flatMap (BS (lsS ts) (lsF ts))++word (lsS ts) 256)) (fun j=>by rw[z j];simp[List.append_assoc]) (by simp only[List.length_nil];omega);have r2:=Rg (bs:=bs) (QE ts) (Ev (lsS ts)) (ts.flatMap (BS (lsS ts) (lsF ts))++word (lsS ts) 256) (fun j=>by rw[z j];simp[List.append_assoc]) nj;rw[Uu]at r1;rw[Uh]at r2;simp only[List.length_nil,Nat.zero_add]at r1;by_cases y:most<0
 ·rw[Ab y,Ab y]
 ·rw[Aa y,Aa y];simp only[r1,r2,ne_eq,not_true_eq_false,if_false];have h:=R0 (bs:=bs) (QI ts) (QE ts) (UL ts) ts [] most (bs.length+1) (Ev (lsS ts)++Ev (lsF ts)) J nj nj z i E;rw[Ag]at h;rw[h,EF]
end TW
end Go.Proofs.YtfgdoknipbpfhaaGreatDoor
