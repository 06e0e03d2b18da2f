/- Plain: what toks.Wri -/
import Derived.Test.YtfgdoknipbpfhaaGreatDoorZBodyOpened19
import Derived.Test.YtfgdoknipbpfhaaGreatDoorZBodyOpened36
namespace Go.Proofs.YtfgdoknipbpfhaaGreatDoor
variable{lf ls:List Nat}
namespace TW
open Canon Huff Lens
open Toks (Tk Pc oZ ED A0 bump CJ Dq Dk lg pw Within Du Em)
theorem Kz{bs pre post:List Bool}{x n:Nat}(hx:x<2 ^ n)(hb:∀i,bit bs i=bit (pre++(msb x n n++post)) i):zZ bs pre.length n=x:=by rw[O3 hb,L3 x n hx _ pre post (by rw[AJ]) n (Aq _),Gn];simp
theorem Uv{ls:List Nat}:∀ (c i j:Nat),j<BH ls i c->ls[i+j]? =some 0
 |0,_,_,h=>by simp[BH]at h
 |c+1,i,j,h=>by
  unfold BH at h;split at h
  ·rename_i h0;cases j with
   |zero=>exact h0
   |succ j=>
    have:=Uv (ls:=ls) c (i+1) j mz
    rwa [show i+(j+1)=i+1+j by omega]
  ·omega
theorem Q7{ls:List Nat}:∀ (c i:Nat),BH ls i c<c->ls[i+BH ls i c]? ≠some 0
 |0,_,h=>mz
 |c+1,i,h=>by
  unfold BH at h ⊢;split at h
  ·rename_i h0;rw[Ae h0];have:=Q7 (ls:=ls) c (i+1) (by omega)
   rwa [show i+(BH ls (i+1) c+1)=i+1+BH ls (i+1) c by omega]
  ·rename_i h0;rw[Ab h0];simpa using h0
theorem Se{ls:List Nat}{i:Nat}:∀ {r:Nat},(∀j,j<r->ls[i+j]? =some 0)->ls.take (i+r)=ls.take i++List.replicate r 0
 |0,_=>pI
 |r+1,h=>by rw[show i+(r+1)=i+r+1 by omega,Cm,Se fun j hj=>h j mz,h r mz,AJ];simp[List.replicate_succ']
theorem O2{bs:List Bool}{ls:List Nat}(y:okB ls=true):∀ (f i:Nat) (short:Bool) (pre post:List Bool) (F:Nat),i<=ls.length->ls.length<=i+f->f<=F->(short=true->ls[i]? ≠some 0)->
 (∀j,bit bs j=bit (pre++(Da ls f i++post)) j)->pre.length+(Da ls f i).length<=bs.length->
 Bz bs ls.length (F+1) (ls.take i) short pre.length=(ls,0,pre.length+(Da ls f i).length)
 |0,i,short,pre,post,F,hi,hf,_,_,_,_=>by have e:ls.take i=ls:=BV mz;rw[Oy (by rw[e];exact Aq _),e,Ae y,Da];simp
 |f+1,i,short,pre,post,F,hi,hf,hF,hsh,hb,hl=>by
  obtain⟨F,rfl⟩:∃F',F=F'+1:=⟨F-1,mz⟩;by_cases E:i<ls.length
  ·have z:(ls.take i).length=i:=nX;have hn:¬ls.length<=(ls.take i).length:=mz;have hx:ls[i]? =some (ls.getD i 0):=(by rw[Ar,AD E];rfl);have M:=(ok_parts y).2.1 _ (Bg hx);unfold Da at hb hl ⊢;rw[Ae E]at hb hl ⊢;by_cases h0:ls.getD i 0=0
   ·rw[Ae h0]at hb hl ⊢;rw[h0]at hx;have r1:=Kv hx 63;have N:=PH ls 64 i;have rf:=Mw ls 64 i hi;have rz:=Uv (ls:=ls) 64 i;have re:=Q7 (ls:=ls) 64 i;have G:1<=BH ls i 64:=(by show 1<=BH ls i (63+1);omega);clear r1;generalize BH ls i 64=r at *;rw[Aj,Aj,pZ,pZ]at hl;have a0:zZ bs pre.length 4=0:=Kz (post:=(msb (r-1) 6 6++Da ls f (i+r))++post) ip (fun j=>by rw[hb j,AJ (msb 0 4 4)])
    have a1:zZ bs (pre.length+4) 6=r-1:=by
     have h:=Kz (bs:=bs) (pre:=pre++msb 0 4 4) (post:=Da ls f (i+r)++post) (x:=r-1) (n:=6) (by show r-1<64;omega) (fun j=>by rw[hb j];simp[List.append_assoc])
     rwa [Aj,pZ]at h
    have h3:¬(short=true∨ls.length-(ls.take i).length<=zZ bs (pre.length+4) 6):=by
     rw[a1,z];rintro(h|h)
     ·exact hsh h hx
     ·omega
    rw[Ti hn mz a0 h3,a1,Nat.sub_add_cancel G,<-Se rz]
    have ih:=O2 (bs:=bs) y f (i+r) (decide (r<64)) (pre++(msb 0 4 4++msb (r-1) 6 6)) post F rf mz mz (fun h=>re p5) (fun j=>by rw[hb j];simp[List.append_assoc])
     (by rw[Aj,Aj,pZ,pZ];omega)
    rw[Aj,Aj,pZ,pZ]at ih;rw[show pre.length+4+6=pre.length+(4+6) by omega,ih,Aj,Aj,pZ,pZ];congr 2;omega
   ·rw[Ab h0]at hb hl ⊢;rw[Aj,pZ]at hl;have a0:zZ bs pre.length 4=ls.getD i 0:=Kz (post:=Da ls f (i+1)++post) (by show _<16;omega) (fun j=>by rw[hb j,AJ (msb _ 4 4)]);have J:ls.take i++ [ls.getD i 0]=ls.take (i+1):=(by rw[Cm,hx];rfl);rw[Tv hn mz (by rw[a0];exact h0),a0,J]
    have ih:=O2 (bs:=bs) y f (i+1) false (pre++msb (ls.getD i 0) 4 4) post F mz mz mz (fun h=>by cases h) (fun j=>by rw[hb j];simp[List.append_assoc])
     ny
    rw[Aj,pZ]at ih;rw[ih,Aj,pZ];congr 2;omega
  ·have e:ls.take i=ls:=BV mz;rw[JW ls (f+1) i mz];rw[Oy (by rw[e];exact Aq _),e,Ae y];simp
theorem QZ{bs:List Bool}(i:okB ls=true)(pre post:List Bool)(hb:∀j,bit bs j=bit (pre++(Er ls++post)) j)(hl:pre.length+(Er ls).length<=bs.length):
 Bz bs ls.length (ls.length+1) [] false pre.length=(ls,0,pre.length+(Er ls).length):=by
 have h:=O2 (bs:=bs) i ls.length 0 false pre post ls.length mz mz (Aq _) (fun h=>by cases h) hb hl
 rwa [List.take_zero]at h
set_option maxRecDepth 100000 in
theorem Wv{bs:List Bool}{t:Tk}(J:okB ls=true)(G:okB lf=true)(z:0<=t.lit/\t.lit<=255)(hm:A0 t.lit t.len t.dist=true)(hS:ls.getD (oZ t).sym.toNat 0≠0)
 (hD:t.len≠0->lf.getD (oZ t).dist.toNat 0≠0)(pre post:List Bool)(hb:∀j,bit bs j=bit (pre++(BK ls lf t++post)) j)(hl:pre.length+(BK ls lf t).length<=bs.length):
 Cy ls lf bs pre.length=(t,true,0,pre.length+(BK ls lf t).length):=by
 have y:∀ {l:List Nat} {s:Nat},l.getD s 0≠0->l[s]? =some (l.getD s 0):=by
  intro l s h;rw[Ar]at h ⊢;cases hx:l[s]? with
  |none=>rw[hx]at h;exact absurd rfl h
  |some x=>rfl
 by_cases h0:t.len=0
 ·have hp:=Vd z.1 h0 hm;have hd:t.dist=0:=by unfold A0 at hm;rw[Ae h0]at hm;exact of_decide_eq_true hm
  unfold BK at hb hl ⊢;rw[Ae h0,Ce]at hb hl ⊢;rw[hp]at hb hl hS ⊢;simp only[Int.toNat_natCast]at hb hl hS ⊢;have hg:=MV J (y hS) hS (bs:=bs) pre post (fun i=>by rw[hb i,AJ]) (by rw[Ez]at hl;exact hl);unfold Cy;rw[hg];simp only[ne_eq,not_true_eq_false,if_false];rw[Ab mz,Ae mz,Ez];obtain⟨a,b,c⟩:=t;simp only at h0 hd z ⊢;subst h0 hd;rw[Int.toNat_of_nonneg z.1]
 ·obtain⟨b,L,D,F,hp,Q,N,hL,hF⟩:=Oj h0 hm;have hj:=Toks.iY t z.1 mz (by unfold ED;rw[Ae hm]);have hD:=hD h0;unfold BK at hb hl ⊢;rw[Ab h0]at hb hl ⊢;rw[hp]at hb hl hS hD hj ⊢;simp only[Int.toNat_natCast,Nat.add_sub_cancel_left]at hb hl hS hD hj ⊢;simp only[List.length_append,Ez,pZ]at hl ⊢;have hg:=MV J (y hS) hS (bs:=bs) pre (msb L b b++(word lf D++msb F D D)++post) (fun i=>by rw[hb i];simp[List.append_assoc]) mz;unfold Cy;rw[hg];simp only[ne_eq,not_true_eq_false,if_false];rw[Ab mz,Ab mz];simp only[Int.toNat_natCast];have M:Ep lf bs (257+b) (pre.length+ls.getD (257+b) 0)=(t,0,pre.length+ls.getD (257+b) 0+b+lf.getD D 0+D):=by have q1:(pre++word ls (257+b)).length=pre.length+ls.getD (257+b) 0:=(by rw[Aj,Ez]);have q2:(pre++(word ls (257+b)++msb L b b)).length=pre.length+ls.getD (257+b) 0+b:=(by rw[Aj,Aj,Ez,pZ];omega);have q3:(pre++(word ls (257+b)++(msb L b b++word lf D))).length=pre.length+ls.getD (257+b) 0+b+lf.getD D 0:=(by rw[Aj,Aj,Aj,Ez,Ez,pZ];omega);have a1:=Kz (bs:=bs) (pre:=pre++word ls (257+b)) (post:=(word lf D++msb F D D)++post) (x:=L) (n:=b) hL (fun i=>by rw[hb i];simp[List.append_assoc]);have a2:=MV G (y hD) hD (bs:=bs) (pre++(word ls (257+b)++msb L b b)) (msb F D D++post) (fun i=>by rw[hb i];simp[List.append_assoc]) (by rw[q2];omega);have a3:=Kz (bs:=bs) (pre:=pre++(word ls (257+b)++(msb L b b++word lf D))) (post:=post) (x:=F) (n:=D) hF (fun i=>by rw[hb i];simp[List.append_assoc]);rw[q1]at a1;rw[q2]at a2;rw[q3]at a3;unfold Ep;simp only[Nat.add_sub_cancel_left];rw[Ab mz,a1,a2];simp only[ne_eq,not_true_eq_false,if_false,Int.toNat_natCast];rw[Ab mz,a3];simp only[Prod.mk.injEq];exact⟨hj.2,hj.1,trivial⟩
  have E:∀m:Tk×Int×Nat,m=(t,0,pre.length+ls.getD (257+b) 0+b+lf.getD D 0+D)->(m.1,decide (m.2.1=0),m.2.1,m.2.2)=(t,true,(0:Int),pre.length+(ls.getD (257+b) 0+(b+(lf.getD D 0+D)))):=by rintro m rfl;simp only[decide_true,Prod.mk.injEq,true_and];omega
  exact E _ M
theorem V6{bs:List Bool}(h:okB ls=true)(hS:ls.getD 256 0≠0)(pre post:List Bool)(hb:∀j,bit bs j=bit (pre++(word ls 256++post)) j)(hl:pre.length+(word ls 256).length<=bs.length):
 Cy ls lf bs pre.length=(⟨0,0,0⟩,false,0,pre.length+(word ls 256).length):=by
 have hs:ls[256]? =some (ls.getD 256 0):=by
  rw[Ar]at hS ⊢;cases hx:ls[256]? with
  |none=>rw[hx]at hS;exact absurd rfl hS
  |some x=>rfl
 have hg:=MV h hs hS (bs:=bs) pre post (fun i=>by rw[hb i,AJ]) (by rw[Ez]at hl;exact hl);unfold Cy;rw[hg];simp only[ne_eq,not_true_eq_false,if_false];rw[Ae (show((256:Nat):Int)=256 from rfl),Ez]
theorem Uj:∀ts:List Tk,0<=Cg ts/\(ts.length:Int)<=Cg ts
 | []=>⟨by simp[Cg],by simp[Cg]⟩
 |t :: ts=>by have:=Uj ts;rw[Cg,AI];omega
theorem RX{ls lf:List Nat}{bs:List Bool}(y:okB ls=true)(h:okB lf=true)(hE:ls.getD 256 0≠0):∀ (rest done:List Tk) (M:Int) (F:Nat) (pre:List Bool),
 (∀t∈rest,(0<=t.lit/\t.lit<=255)/\A0 t.lit t.len t.dist=true/\ls.getD (oZ t).sym.toNat 0≠0/\(t.len≠0->lf.getD (oZ t).dist.toNat 0≠0))->0<=M->rest.length<F->
 (∀j,bit bs j=bit (pre++(rest.flatMap (BK ls lf)++word ls 256)) j)->(pre++(rest.flatMap (BK ls lf)++word ls 256)).length<=bs.length->bs.length<(pre++(rest.flatMap (BK ls lf)++word ls 256)).length+8->
 EA ls lf bs F M done pre.length=if Cg rest<=M then(done++rest,0)else([],6)
 | [],done,M,F,pre,_,hM,hF,hb,hl,hl2=>by
  obtain⟨F,rfl⟩:∃F',F=F'+1:=⟨F-1,by simp at hF;omega⟩;simp only[List.flatMap_nil,List.nil_append,List.length_append]at hb hl hl2;have ht:=V6 (lf:=lf) y hE (bs:=bs) pre [] (fun j=>by rw[hb j,Ce]) hl;rw[EA,ht];simp only[ne_eq,not_true_eq_false,if_false,if_true]
  have hp:FP bs (pre.length+(word ls 256).length)=0:=by
   unfold FP;rw[Ab];rw[not_or,Nat.not_le,Decidable.not_not];refine⟨mz,?_⟩
   have:∀m,zZ bs (pre.length+(word ls 256).length) m=0:=by
    intro m
    induction m with
    |zero=>rfl
    |succ m ih=>rw[zZ,ih,hb,Fw nz]
   exact this _
  rw[Ae hp,Ae (by simpa[Cg]using hM),Ce]
 |t :: rest,done,M,F,pre,hts,hM,hF,hb,hl,hl2=>by
  obtain⟨F,rfl⟩:∃F',F=F'+1:=⟨F-1,by simp at hF;omega⟩;obtain⟨h1,h2,h3,h4⟩:=hts t pI;simp only[List.flatMap_cons,List.append_assoc]at hb;simp only[List.flatMap_cons,List.length_append]at hl hl2;have ht:=Wv y h h1 h2 h3 h4 (bs:=bs) pre (rest.flatMap (BK ls lf)++word ls 256) hb mz;have z:=Uj rest;rw[EA,ht];simp only[ne_eq,not_true_eq_false,if_false,Bool.true_eq_false];by_cases i:M-max 1 t.len<0
  ·rw[Ae i,Ab (by rw[Cg];omega)]
  ·rw[Ab i]
   have ih:=RX (bs:=bs) y h hE rest (done++ [t]) (M-max 1 t.len) F (pre++BK ls lf t) (fun x hx=>hts x (BW _ hx)) mz (by simp at hF;omega)
    (fun j=>by rw[hb j];simp[List.append_assoc]) (by simp only[List.length_append];omega) (by simp only[List.length_append];omega)
   rw[Aj]at ih;rw[ih,Cg,AJ];by_cases hs:Cg rest<=M-max 1 t.len
   ·rw[Ae hs,Ae mz];rfl
   ·rw[Ab hs,Ab mz]
theorem T7{ls lf:List Nat}:∀ {ts:List Tk},(∀t∈ts,ls.getD (oZ t).sym.toNat 0≠0)->ts.length<=(ts.flatMap (BK ls lf)).length
 | [],_=>pI
 |t :: ts,h=>by
  have h1:=h t pI;have h2:=T7 (ls:=ls) (lf:=lf) (ts:=ts) (fun x hx=>h x (BW _ hx));rw[Ct,Aj,AI];have h3:ls.getD (oZ t).sym.toNat 0<=(BK ls lf t).length:=by unfold BK;rw[Aj,Ez];exact Nat.le_add_right _ _
  omega
theorem nA{ts:List Tk}(E:∀t∈ts,0<=t.lit/\t.lit<=255)(J:Dk ts=true)(most:Int):
 Cp (bytesOf (Fk ts)) most=if most<0 then([],13)else if Cg ts<=most then(ts,0)else([],6):=by
 have z:∀j,bit (Bq (bytesOf (Fk ts))) j=bit (Fk ts) j:=QB _;have i:(Fk ts).length<=(Bq (bytesOf (Fk ts))).length:=by rw[EC,bytesOf_length];omega
 have G:(Bq (bytesOf (Fk ts))).length<(Fk ts).length+8:=by rw[EC,bytesOf_length];omega
 have M:∀t∈ts,(0<=t.lit/\t.lit<=255)/\A0 t.lit t.len t.dist=true/\(lsS ts).getD (oZ t).sym.toNat 0≠0/\(t.len≠0->(lsF ts).getD (oZ t).dist.toNat 0≠0):=by
  intro t ht;unfold Dk at J;have hm:=FW.1 J t ht;obtain⟨S,D,L,F,N,hS,hD,_⟩:=Toks.L1 t (E t ht).1 (E t ht).2 hm;have e1:(oZ t).sym.toNat=S:=by rw[N];rfl
  have e2:(oZ t).dist.toNat=D:=by rw[N];rfl
  exact⟨E t ht,hm,O1 ht mz,fun h0=>OV ht h0 mz⟩
 have Q:=T7 (ls:=lsS ts) (lf:=lsF ts) (fun t ht=>(M t ht).2.2.1);unfold Cp;generalize Bq (bytesOf (Fk ts))=bs at *;unfold Fk at z i G;have U:=i;simp only[List.length_append]at U;have r1:=QZ (bs:=bs) (Of ts) [] (Er (lsF ts)++(ts.flatMap (BK (lsS ts) (lsF ts))++word (lsS ts) 256)) (fun j=>by rw[z j];simp[List.append_assoc]) (by simp only[List.length_nil];omega);have r2:=QZ (bs:=bs) (N9 ts) (Er (lsS ts)) (ts.flatMap (BK (lsS ts) (lsF ts))++word (lsS ts) 256) (fun j=>by rw[z j];simp[List.append_assoc]) mz;rw[Un]at r1;rw[Ua]at r2;simp only[List.length_nil,Nat.zero_add]at r1;by_cases y:most<0
 ·rw[Ae y,Ae y]
 ·rw[Ab y,Ab y];simp only[r1,r2,ne_eq,not_true_eq_false,if_false];have h:=RX (bs:=bs) (Of ts) (N9 ts) (Qo ts) ts [] most (bs.length+1) (Er (lsS ts)++Er (lsF ts)) M mz mz z i G;rw[Aj]at h;rw[h,FA]
end TW
end Go.Proofs.YtfgdoknipbpfhaaGreatDoor
