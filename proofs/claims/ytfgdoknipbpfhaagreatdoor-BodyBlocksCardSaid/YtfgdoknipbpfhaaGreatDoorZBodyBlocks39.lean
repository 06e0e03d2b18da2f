/- Plain: what toks.Wri -/
import Derived.Test.YtfgdoknipbpfhaaGreatDoorZBodyBlocks19
import Derived.Test.YtfgdoknipbpfhaaGreatDoorZBodyBlocks36
namespace Go.Proofs.YtfgdoknipbpfhaaGreatDoor
variable{lf ls:List Nat}
namespace TW
open Canon Huff Lens
open Toks (Tk Pc oZ Eu AW bump CA C7 Dc lg pw Within Dz El)
theorem KE{bs pre post:List Bool}{x n:Nat}(hx:x<2 ^ n)(hb:∀i,bit bs i=bit (pre++(msb x n n++post)) i):yZ bs pre.length n=x:=by rw[Pg hb,Mc x n hx _ pre post (by rw[AE]) n (Ak _),Gx];simp
theorem Vq{ls:List Nat}:∀ (c i j:Nat),j<BD ls i c->ls[i+j]? =some 0
 |0,_,_,h=>by simp[BD]at h
 |c+1,i,j,h=>by
  unfold BD at h;split at h
  ·rename_i h0;cases j with
   |zero=>exact h0
   |succ j=>
    have:=Vq (ls:=ls) c (i+1) j mw
    rwa [show i+(j+1)=i+1+j by omega]
  ·omega
theorem Up{ls:List Nat}:∀ (c i:Nat),BD ls i c<c->ls[i+BD ls i c]? ≠some 0
 |0,_,h=>mw
 |c+1,i,h=>by
  unfold BD at h ⊢;split at h
  ·rename_i h0;rw[Ab h0];have:=Up (ls:=ls) c (i+1) (by omega)
   rwa [show i+(BD ls (i+1) c+1)=i+1+BD ls (i+1) c by omega]
  ·rename_i h0;rw[Aa h0];simpa using h0
theorem TE{ls:List Nat}{i:Nat}:∀ {r:Nat},(∀j,j<r->ls[i+j]? =some 0)->ls.take (i+r)=ls.take i++List.replicate r 0
 |0,_=>oK
 |r+1,h=>by rw[show i+(r+1)=i+r+1 by omega,Cj,TE fun j hj=>h j mw,h r mw,AE];simp[List.replicate_succ']
theorem Pn{bs:List Bool}{ls:List Nat}(y:okB ls=true):∀ (f i:Nat) (short:Bool) (pre post:List Bool) (F:Nat),i<=ls.length->ls.length<=i+f->f<=F->(short=true->ls[i]? ≠some 0)->
 (∀j,bit bs j=bit (pre++(CW ls f i++post)) j)->pre.length+(CW ls f i).length<=bs.length->
 Bw bs ls.length (F+1) (ls.take i) short pre.length=(ls,0,pre.length+(CW ls f i).length)
 |0,i,short,pre,post,F,hi,hf,_,_,_,_=>by have e:ls.take i=ls:=BQ mw;rw[OO (by rw[e];exact Ak _),e,Ab y,CW];simp
 |f+1,i,short,pre,post,F,hi,hf,hF,hsh,hb,hl=>by
  obtain⟨F,rfl⟩:∃F',F=F'+1:=⟨F-1,mw⟩;by_cases E:i<ls.length
  ·have z:(ls.take i).length=i:=mQ;have hn:¬ls.length<=(ls.take i).length:=mw;have hx:ls[i]? =some (ls.getD i 0):=(by rw[Am,Az E];rfl);have L:=(ok_parts y).2.1 _ (Be hx);unfold CW at hb hl ⊢;rw[Ab E]at hb hl ⊢;by_cases h0:ls.getD i 0=0
   ·rw[Ab h0]at hb hl ⊢;rw[h0]at hx;have r1:=Kx hx 63;have M:=NF ls 64 i;have rf:=MJ ls 64 i hi;have rz:=Vq (ls:=ls) 64 i;have re:=Up (ls:=ls) 64 i;have G:1<=BD ls i 64:=(by show 1<=BD ls i (63+1);omega);clear r1;generalize BD ls i 64=r at *;rw[Ae,Ae,pZ,pZ]at hl;have a0:yZ bs pre.length 4=0:=KE (post:=(msb (r-1) 6 6++CW ls f (i+r))++post) ip (fun j=>by rw[hb j,AE (msb 0 4 4)])
    have a1:yZ bs (pre.length+4) 6=r-1:=by
     have h:=KE (bs:=bs) (pre:=pre++msb 0 4 4) (post:=CW ls f (i+r)++post) (x:=r-1) (n:=6) (by show r-1<64;omega) (fun j=>by rw[hb j];simp[List.append_assoc])
     rwa [Ae,pZ]at h
    have h3:¬(short=true∨ls.length-(ls.take i).length<=yZ bs (pre.length+4) 6):=by
     rw[a1,z];rintro(h|h)
     ·exact hsh h hx
     ·omega
    rw[Uw hn mw a0 h3,a1,Nat.sub_add_cancel G,<-TE rz]
    have ih:=Pn (bs:=bs) y f (i+r) (decide (r<64)) (pre++(msb 0 4 4++msb (r-1) 6 6)) post F rf mw mw (fun h=>re pf) (fun j=>by rw[hb j];simp[List.append_assoc])
     (by rw[Ae,Ae,pZ,pZ];omega)
    rw[Ae,Ae,pZ,pZ]at ih;rw[show pre.length+4+6=pre.length+(4+6) by omega,ih,Ae,Ae,pZ,pZ];congr 2;omega
   ·rw[Aa h0]at hb hl ⊢;rw[Ae,pZ]at hl;have a0:yZ bs pre.length 4=ls.getD i 0:=KE (post:=CW ls f (i+1)++post) (by show _<16;omega) (fun j=>by rw[hb j,AE (msb _ 4 4)]);have J:ls.take i++ [ls.getD i 0]=ls.take (i+1):=(by rw[Cj,hx];rfl);rw[UJ hn mw (by rw[a0];exact h0),a0,J]
    have ih:=Pn (bs:=bs) y f (i+1) false (pre++msb (ls.getD i 0) 4 4) post F mw mw mw (fun h=>by cases h) (fun j=>by rw[hb j];simp[List.append_assoc])
     mV
    rw[Ae,pZ]at ih;rw[ih,Ae,pZ];congr 2;omega
  ·have e:ls.take i=ls:=BQ mw;rw[JR ls (f+1) i mw];rw[OO (by rw[e];exact Ak _),e,Ab y];simp
theorem SY{bs:List Bool}(i:okB ls=true)(pre post:List Bool)(hb:∀j,bit bs j=bit (pre++(DP ls++post)) j)(hl:pre.length+(DP ls).length<=bs.length):
 Bw bs ls.length (ls.length+1) [] false pre.length=(ls,0,pre.length+(DP ls).length):=by
 have h:=Pn (bs:=bs) i ls.length 0 false pre post ls.length mw mw (Ak _) (fun h=>by cases h) hb hl
 rwa [List.take_zero]at h
set_option maxRecDepth 100000 in
theorem jO{bs:List Bool}{t:Tk}(J:okB ls=true)(G:okB lf=true)(z:0<=t.lit/\t.lit<=255)(hm:AW t.lit t.len t.dist=true)(hS:ls.getD (oZ t).sym.toNat 0≠0)
 (hD:t.len≠0->lf.getD (oZ t).dist.toNat 0≠0)(pre post:List Bool)(hb:∀j,bit bs j=bit (pre++(BH ls lf t++post)) j)(hl:pre.length+(BH ls lf t).length<=bs.length):
 Cq ls lf bs pre.length=(t,true,0,pre.length+(BH ls lf t).length):=by
 have y:∀ {l:List Nat} {s:Nat},l.getD s 0≠0->l[s]? =some (l.getD s 0):=by
  intro l s h;rw[Am]at h ⊢;cases hx:l[s]? with
  |none=>rw[hx]at h;exact absurd rfl h
  |some x=>rfl
 by_cases h0:t.len=0
 ·have hp:=QH z.1 h0 hm;have hd:t.dist=0:=by unfold AW at hm;rw[Ab h0]at hm;exact of_decide_eq_true hm
  unfold BH at hb hl ⊢;rw[Ab h0,BZ]at hb hl ⊢;rw[hp]at hb hl hS ⊢;simp only[Int.toNat_natCast]at hb hl hS ⊢;have hg:=M0 J (y hS) hS (bs:=bs) pre post (fun i=>by rw[hb i,AE]) (by rw[Ep]at hl;exact hl);unfold Cq;rw[hg];simp only[ne_eq,not_true_eq_false,if_false];rw[Aa mw,Ab mw,Ep];obtain⟨a,b,c⟩:=t;simp only at h0 hd z ⊢;subst h0 hd;rw[Int.toNat_of_nonneg z.1]
 ·obtain⟨b,L,D,F,hp,Q,N,hL,hF⟩:=OD h0 hm;have hj:=Toks.bW t z.1 mw (by unfold Eu;rw[Ab hm]);have hD:=hD h0;unfold BH at hb hl ⊢;rw[Aa h0]at hb hl ⊢;rw[hp]at hb hl hS hD hj ⊢;simp only[Int.toNat_natCast,Nat.add_sub_cancel_left]at hb hl hS hD hj ⊢;simp only[List.length_append,Ep,pZ]at hl ⊢;have hg:=M0 J (y hS) hS (bs:=bs) pre (msb L b b++(word lf D++msb F D D)++post) (fun i=>by rw[hb i];simp[List.append_assoc]) mw;unfold Cq;rw[hg];simp only[ne_eq,not_true_eq_false,if_false];rw[Aa mw,Aa mw];simp only[Int.toNat_natCast];have M:Eg lf bs (257+b) (pre.length+ls.getD (257+b) 0)=(t,0,pre.length+ls.getD (257+b) 0+b+lf.getD D 0+D):=by have q1:(pre++word ls (257+b)).length=pre.length+ls.getD (257+b) 0:=(by rw[Ae,Ep]);have q2:(pre++(word ls (257+b)++msb L b b)).length=pre.length+ls.getD (257+b) 0+b:=(by rw[Ae,Ae,Ep,pZ];omega);have q3:(pre++(word ls (257+b)++(msb L b b++word lf D))).length=pre.length+ls.getD (257+b) 0+b+lf.getD D 0:=(by rw[Ae,Ae,Ae,Ep,Ep,pZ];omega);have a1:=KE (bs:=bs) (pre:=pre++word ls (257+b)) (post:=(word lf D++msb F D D)++post) (x:=L) (n:=b) hL (fun i=>by rw[hb i];simp[List.append_assoc]);have a2:=M0 G (y hD) hD (bs:=bs) (pre++(word ls (257+b)++msb L b b)) (msb F D D++post) (fun i=>by rw[hb i];simp[List.append_assoc]) (by rw[q2];omega);have a3:=KE (bs:=bs) (pre:=pre++(word ls (257+b)++(msb L b b++word lf D))) (post:=post) (x:=F) (n:=D) hF (fun i=>by rw[hb i];simp[List.append_assoc]);rw[q1]at a1;rw[q2]at a2;rw[q3]at a3;unfold Eg;simp only[Nat.add_sub_cancel_left];rw[Aa mw,a1,a2];simp only[ne_eq,not_true_eq_false,if_false,Int.toNat_natCast];rw[Aa mw,a3];simp only[Prod.mk.injEq];exact⟨hj.2,hj.1,trivial⟩
  have E:∀m:Tk×Int×Nat,m=(t,0,pre.length+ls.getD (257+b) 0+b+lf.getD D 0+D)->(m.1,decide (m.2.1=0),m.2.1,m.2.2)=(t,true,(0:Int),pre.length+(ls.getD (257+b) 0+(b+(lf.getD D 0+D)))):=by rintro m rfl;simp only[decide_true,Prod.mk.injEq,true_and];omega
  exact E _ M
theorem i4{bs:List Bool}(h:okB ls=true)(hS:ls.getD 256 0≠0)(pre post:List Bool)(hb:∀j,bit bs j=bit (pre++(word ls 256++post)) j)(hl:pre.length+(word ls 256).length<=bs.length):
 Cq ls lf bs pre.length=(⟨0,0,0⟩,false,0,pre.length+(word ls 256).length):=by
 have hs:ls[256]? =some (ls.getD 256 0):=by
  rw[Am]at hS ⊢;cases hx:ls[256]? with
  |none=>rw[hx]at hS;exact absurd rfl hS
  |some x=>rfl
 have hg:=M0 h hs hS (bs:=bs) pre post (fun i=>by rw[hb i,AE]) (by rw[Ep]at hl;exact hl);unfold Cq;rw[hg];simp only[ne_eq,not_true_eq_false,if_false];rw[Ab (show((256:Nat):Int)=256 from rfl),Ep]
theorem Vg:∀ts:List Tk,0<=B4 ts/\(ts.length:Int)<=B4 ts
 | []=>⟨by simp[B4],by simp[B4]⟩
 |t :: ts=>by have:=Vg ts;rw[B4,AD];omega
theorem Tu{ls lf:List Nat}{bs:List Bool}(y:okB ls=true)(i:okB lf=true)(hE:ls.getD 256 0≠0):∀ (rest done:List Tk) (M:Int) (F:Nat) (pre:List Bool),
 (∀t∈rest,(0<=t.lit/\t.lit<=255)/\AW t.lit t.len t.dist=true/\ls.getD (oZ t).sym.toNat 0≠0/\(t.len≠0->lf.getD (oZ t).dist.toNat 0≠0))->0<=M->rest.length<F->
 (∀j,bit bs j=bit (pre++(rest.flatMap (BH ls lf)++word ls 256)) j)->(pre++(rest.flatMap (BH ls lf)++word ls 256)).length<=bs.length->bs.length<(pre++(rest.flatMap (BH ls lf)++word ls 256)).length+8->
 Er ls lf bs F M done pre.length=if B4 rest<=M then(done++rest,0)else([],6)
 | [],done,M,F,pre,_,hM,hF,hb,hl,hl2=>by
  obtain⟨F,rfl⟩:∃F',F=F'+1:=⟨F-1,by simp at hF;omega⟩;simp only[List.flatMap_nil,List.nil_append,List.length_append]at hb hl hl2;have ht:=i4 (lf:=lf) y hE (bs:=bs) pre [] (fun j=>by rw[hb j,BZ]) hl;rw[Er,ht];simp only[ne_eq,not_true_eq_false,if_false,if_true]
  have hp:Fx bs (pre.length+(word ls 256).length)=0:=by
   unfold Fx;rw[Aa];rw[not_or,Nat.not_le,Decidable.not_not];refine⟨mw,?_⟩
   have:∀m,yZ bs (pre.length+(word ls 256).length) m=0:=by
    intro m
    induction m with
    |zero=>rfl
    |succ m ih=>rw[yZ,ih,hb,Fi mW]
   exact this _
  rw[Ab hp,Ab (by simpa[B4]using hM),BZ]
 |t :: rest,done,M,F,pre,hts,hM,hF,hb,hl,hl2=>by
  obtain⟨F,rfl⟩:∃F',F=F'+1:=⟨F-1,by simp at hF;omega⟩;obtain⟨h1,h2,h3,h4⟩:=hts t oK;simp only[List.flatMap_cons,List.append_assoc]at hb;simp only[List.flatMap_cons,List.length_append]at hl hl2;have ht:=jO y i h1 h2 h3 h4 (bs:=bs) pre (rest.flatMap (BH ls lf)++word ls 256) hb mw;have z:=Vg rest;rw[Er,ht];simp only[ne_eq,not_true_eq_false,if_false,Bool.true_eq_false];by_cases h:M-max 1 t.len<0
  ·rw[Ab h,Aa (by rw[B4];omega)]
  ·rw[Aa h]
   have ih:=Tu (bs:=bs) y i hE rest (done++ [t]) (M-max 1 t.len) F (pre++BH ls lf t) (fun x hx=>hts x (BR _ hx)) mw (by simp at hF;omega)
    (fun j=>by rw[hb j];simp[List.append_assoc]) (by simp only[List.length_append];omega) (by simp only[List.length_append];omega)
   rw[Ae]at ih;rw[ih,B4,AE];by_cases hs:B4 rest<=M-max 1 t.len
   ·rw[Ab hs,Ab mw];rfl
   ·rw[Aa hs,Aa mw]
theorem U4{ls lf:List Nat}:∀ {ts:List Tk},(∀t∈ts,ls.getD (oZ t).sym.toNat 0≠0)->ts.length<=(ts.flatMap (BH ls lf)).length
 | [],_=>oK
 |t :: ts,h=>by
  have h1:=h t oK;have h2:=U4 (ls:=ls) (lf:=lf) (ts:=ts) (fun x hx=>h x (BR _ hx));rw[Cm,Ae,AD];have h3:ls.getD (oZ t).sym.toNat 0<=(BH ls lf t).length:=by unfold BH;rw[Ae,Ep];exact Nat.le_add_right _ _
  omega
theorem iF{ts:List Tk}(E:∀t∈ts,0<=t.lit/\t.lit<=255)(N:Dc ts=true)(most:Int):
 Cg (bytesOf (Fc ts)) most=if most<0 then([],13)else if B4 ts<=most then(ts,0)else([],6):=by
 have z:∀j,bit (Bi (bytesOf (Fc ts))) j=bit (Fc ts) j:=RY _;have i:(Fc ts).length<=(Bi (bytesOf (Fc ts))).length:=by rw[Es,bytesOf_length];omega
 have G:(Bi (bytesOf (Fc ts))).length<(Fc ts).length+8:=by rw[Es,bytesOf_length];omega
 have J:∀t∈ts,(0<=t.lit/\t.lit<=255)/\AW t.lit t.len t.dist=true/\(lsS ts).getD (oZ t).sym.toNat 0≠0/\(t.len≠0->(lsF ts).getD (oZ t).dist.toNat 0≠0):=by
  intro t ht;unfold Dc at N;have hm:=FJ.1 N t ht;obtain⟨S,D,L,F,M,hS,hD,_⟩:=Toks.Mm t (E t ht).1 (E t ht).2 hm;have e1:(oZ t).sym.toNat=S:=by rw[M];rfl
  have e2:(oZ t).dist.toNat=D:=by rw[M];rfl
  exact⟨E t ht,hm,Py ht mw,fun h0=>Ps ht h0 mw⟩
 have U:=U4 (ls:=lsS ts) (lf:=lsF ts) (fun t ht=>(J t ht).2.2.1);unfold Cg;generalize Bi (bytesOf (Fc ts))=bs at *;unfold Fc at z i G;have Q:=i;simp only[List.length_append]at Q;have r1:=SY (bs:=bs) (O2 ts) [] (DP (lsF ts)++(ts.flatMap (BH (lsS ts) (lsF ts))++word (lsS ts) 256)) (fun j=>by rw[z j];simp[List.append_assoc]) (by simp only[List.length_nil];omega);have r2:=SY (bs:=bs) (OY ts) (DP (lsS ts)) (ts.flatMap (BH (lsS ts) (lsF ts))++word (lsS ts) 256) (fun j=>by rw[z j];simp[List.append_assoc]) mw;rw[Qg]at r1;rw[PY]at r2;simp only[List.length_nil,Nat.zero_add]at r1;by_cases y:most<0
 ·rw[Ab y,Ab y]
 ·rw[Aa y,Aa y];simp only[r1,r2,ne_eq,not_true_eq_false,if_false];have h:=Tu (bs:=bs) (O2 ts) (OY ts) (Ua ts) ts [] most (bs.length+1) (DP (lsS ts)++DP (lsF ts)) J mw mw z i G;rw[Ae]at h;rw[h,Fq]
end TW
end Go.Proofs.YtfgdoknipbpfhaaGreatDoor
