/- The walk of the law  -/
import Derived.Test.YtfgdoknipbpfhaaGreatDoorZBodyIndex17
import Derived.Test.YtfgdoknipbpfhaaGreatDoorZBodyIndex40
import Derived.Test.YtfgdoknipbpfhaaGreatDoorZBodyIndex38
import Derived.Test.YtfgdoknipbpfhaaGreatDoorZBodyIndex42
namespace Go.Proofs.YtfgdoknipbpfhaaGreatDoor
open Go.Proofs.Tryz
section
variable{lf ls:List Nat}
namespace TW
open Canon Huff Lens
open Toks (Tk Pc rZ EQ Bd bump CZ Eg DJ lg pw Within Eu EU)
theorem KZ{bs pre post:List Bool}{x n:Nat}(hx:x<2 ^ n)(hb:∀i,bit bs i=bit (pre++(msb x n n++post)) i):AN bs pre.length n=x:=by rw[N5 hb,Mg x n hx _ pre post (by rw[AK]) n (Am _),Gl];simp
theorem Rv{ls:List Nat}:∀ (c i j:Nat),j<BZ ls i c->ls[i+j]? =some 0
 |0,_,_,h=>by simp[BZ]at h
 |c+1,i,j,h=>by
  unfold BZ at h;split at h
  ·rename_i h0;cases j with
   |zero=>exact h0
   |succ j=>
    have:=Rv (ls:=ls) c (i+1) j nB
    rwa [show i+(j+1)=i+1+j by omega]
  ·omega
theorem TB{ls:List Nat}:∀ (c i:Nat),BZ ls i c<c->ls[i+BZ ls i c]? ≠some 0
 |0,_,h=>nB
 |c+1,i,h=>by
  unfold BZ at h ⊢;split at h
  ·rename_i h0;rw[Ag h0];have:=TB (ls:=ls) c (i+1) (by omega)
   rwa [show i+(BZ ls (i+1) c+1)=i+1+BZ ls (i+1) c by omega]
  ·rename_i h0;rw[Ae h0];simpa using h0
theorem VX{ls:List Nat}{i:Nat}:∀ {r:Nat},(∀j,j<r->ls[i+j]? =some 0)->ls.take (i+r)=ls.take i++List.replicate r 0
 |0,_=>pR
 |r+1,h=>by rw[show i+(r+1)=i+r+1 by omega,Ca,VX fun j hj=>h j nB,h r nB,AK];simp[List.replicate_succ']
theorem PU{bs:List Bool}{ls:List Nat}(E:okB ls=true):∀ (f i:Nat) (short:Bool) (pre post:List Bool) (F:Nat),i<=ls.length->ls.length<=i+f->f<=F->(short=true->ls[i]? ≠some 0)->
 (∀j,bit bs j=bit (pre++(DV ls f i++post)) j)->pre.length+(DV ls f i).length<=bs.length->
 Bz bs ls.length (F+1) (ls.take i) short pre.length=(ls,0,pre.length+(DV ls f i).length)
 |0,i,short,pre,post,F,hi,hf,_,_,_,_=>by have e:ls.take i=ls:=Bp nB;rw[PP (by rw[e];exact Am _),e,Ag E,DV];simp
 |f+1,i,short,pre,post,F,hi,hf,hF,hsh,hb,hl=>by
  obtain⟨F,rfl⟩:∃F',F=F'+1:=⟨F-1,nB⟩;by_cases J:i<ls.length
  ·have G:(ls.take i).length=i:=nY;have hn:¬ls.length<=(ls.take i).length:=nB;have hx:ls[i]? =some (ls.getD i 0):=(by rw[Aq,AD J];rfl);have N:=(ok_parts E).2.1 _ (AY hx);unfold DV at hb hl ⊢;rw[Ag J]at hb hl ⊢;by_cases h0:ls.getD i 0=0
   ·rw[Ag h0]at hb hl ⊢;rw[h0]at hx;have r1:=KT hx 63;have Q:=OI ls 64 i;have rf:=MH ls 64 i hi;have rz:=Rv (ls:=ls) 64 i;have re:=TB (ls:=ls) 64 i;have L:1<=BZ ls i 64:=(by show 1<=BZ ls i (63+1);omega);clear r1;generalize BZ ls i 64=r at *;rw[Aj,Aj,uZ,uZ]at hl;have a0:AN bs pre.length 4=0:=KZ (post:=(msb (r-1) 6 6++DV ls f (i+r))++post) ji (fun j=>by rw[hb j,AK (msb 0 4 4)])
    have a1:AN bs (pre.length+4) 6=r-1:=by
     have h:=KZ (bs:=bs) (pre:=pre++msb 0 4 4) (post:=DV ls f (i+r)++post) (x:=r-1) (n:=6) (by show r-1<64;omega) (fun j=>by rw[hb j];simp[List.append_assoc])
     rwa [Aj,uZ]at h
    have h3:¬(short=true∨ls.length-(ls.take i).length<=AN bs (pre.length+4) 6):=by
     rw[a1,G];rintro(h|h)
     ·exact hsh h hx
     ·omega
    rw[Q4 hn nB a0 h3,a1,Nat.sub_add_cancel L,<-VX rz]
    have ih:=PU (bs:=bs) E f (i+r) (decide (r<64)) (pre++(msb 0 4 4++msb (r-1) 6 6)) post F rf nB nB (fun h=>re qh) (fun j=>by rw[hb j];simp[List.append_assoc])
     (by rw[Aj,Aj,uZ,uZ];omega)
    rw[Aj,Aj,uZ,uZ]at ih;rw[show pre.length+4+6=pre.length+(4+6) by omega,ih,Aj,Aj,uZ,uZ];congr 2;omega
   ·rw[Ae h0]at hb hl ⊢;rw[Aj,uZ]at hl;have a0:AN bs pre.length 4=ls.getD i 0:=KZ (post:=DV ls f (i+1)++post) (by show _<16;omega) (fun j=>by rw[hb j,AK (msb _ 4 4)]);have M:ls.take i++ [ls.getD i 0]=ls.take (i+1):=(by rw[Ca,hx];rfl);rw[Rj hn nB (by rw[a0];exact h0),a0,M]
    have ih:=PU (bs:=bs) E f (i+1) false (pre++msb (ls.getD i 0) 4 4) post F nB nB nB (fun h=>by cases h) (fun j=>by rw[hb j];simp[List.append_assoc])
     (by rw[Aj,uZ];omega)
    rw[Aj,uZ]at ih;rw[ih,Aj,uZ];congr 2;omega
  ·have e:ls.take i=ls:=Bp nB;rw[Ko ls (f+1) i nB];rw[PP (by rw[e];exact Am _),e,Ag E];simp
theorem TH{bs:List Bool}(i:okB ls=true)(pre post:List Bool)(hb:∀j,bit bs j=bit (pre++(Fk ls++post)) j)(hl:pre.length+(Fk ls).length<=bs.length):
 Bz bs ls.length (ls.length+1) [] false pre.length=(ls,0,pre.length+(Fk ls).length):=by
 have h:=PU (bs:=bs) i ls.length 0 false pre post ls.length nB nB (Am _) (fun h=>by cases h) hb hl
 rwa [List.take_zero]at h
set_option maxRecDepth 100000 in
theorem V7{bs:List Bool}{t:Tk}(M:okB ls=true)(N:okB lf=true)(G:0<=t.lit/\t.lit<=255)(hm:Bd t.lit t.len t.dist=true)(hS:ls.getD (rZ t).sym.toNat 0≠0)
 (hD:t.len≠0->lf.getD (rZ t).dist.toNat 0≠0)(pre post:List Bool)(hb:∀j,bit bs j=bit (pre++(BQ ls lf t++post)) j)(hl:pre.length+(BQ ls lf t).length<=bs.length):
 CG ls lf bs pre.length=(t,true,0,pre.length+(BQ ls lf t).length):=by
 have E:∀ {l:List Nat} {s:Nat},l.getD s 0≠0->l[s]? =some (l.getD s 0):=by
  intro l s h;rw[Aq]at h ⊢;cases hx:l[s]? with
  |none=>rw[hx]at h;exact absurd rfl h
  |some x=>rfl
 by_cases h0:t.len=0
 ·have hp:=TN G.1 h0 hm;have hd:t.dist=0:=by unfold Bd at hm;rw[Ag h0]at hm;exact of_decide_eq_true hm
  unfold BQ at hb hl ⊢;rw[Ag h0,Cx]at hb hl ⊢;rw[hp]at hb hl hS ⊢;simp only[Int.toNat_natCast]at hb hl hS ⊢;have hg:=Nf M (E hS) hS (bs:=bs) pre post (fun i=>by rw[hb i,AK]) (by rw[Fh]at hl;exact hl);unfold CG;rw[hg];simp only[ne_eq,not_true_eq_false,if_false];rw[Ae nB,Ag nB,Fh];obtain⟨a,b,c⟩:=t;simp only at h0 hd G ⊢;subst h0 hd;rw[Int.toNat_of_nonneg G.1]
 ·obtain⟨b,L,D,F,hp,Y,U,hL,hF⟩:=PD h0 hm;have hj:=Toks.ZY t G.1 nB (by unfold EQ;rw[Ag hm]);have hD:=hD h0;unfold BQ at hb hl ⊢;rw[Ae h0]at hb hl ⊢;rw[hp]at hb hl hS hD hj ⊢;simp only[Int.toNat_natCast,Nat.add_sub_cancel_left]at hb hl hS hD hj ⊢;simp only[List.length_append,Fh,uZ]at hl ⊢;have hg:=Nf M (E hS) hS (bs:=bs) pre (msb L b b++(word lf D++msb F D D)++post) (fun i=>by rw[hb i];simp[List.append_assoc]) nB;unfold CG;rw[hg];simp only[ne_eq,not_true_eq_false,if_false];rw[Ae nB,Ae nB];simp only[Int.toNat_natCast];have Q:EJ lf bs (257+b) (pre.length+ls.getD (257+b) 0)=(t,0,pre.length+ls.getD (257+b) 0+b+lf.getD D 0+D):=by have q1:(pre++word ls (257+b)).length=pre.length+ls.getD (257+b) 0:=(by rw[Aj,Fh]);have q2:(pre++(word ls (257+b)++msb L b b)).length=pre.length+ls.getD (257+b) 0+b:=(by rw[Aj,Aj,Fh,uZ];omega);have q3:(pre++(word ls (257+b)++(msb L b b++word lf D))).length=pre.length+ls.getD (257+b) 0+b+lf.getD D 0:=(by rw[Aj,Aj,Aj,Fh,Fh,uZ];omega);have a1:=KZ (bs:=bs) (pre:=pre++word ls (257+b)) (post:=(word lf D++msb F D D)++post) (x:=L) (n:=b) hL (fun i=>by rw[hb i];simp[List.append_assoc]);have a2:=Nf N (E hD) hD (bs:=bs) (pre++(word ls (257+b)++msb L b b)) (msb F D D++post) (fun i=>by rw[hb i];simp[List.append_assoc]) (by rw[q2];omega);have a3:=KZ (bs:=bs) (pre:=pre++(word ls (257+b)++(msb L b b++word lf D))) (post:=post) (x:=F) (n:=D) hF (fun i=>by rw[hb i];simp[List.append_assoc]);rw[q1]at a1;rw[q2]at a2;rw[q3]at a3;unfold EJ;simp only[Nat.add_sub_cancel_left];rw[Ae nB,a1,a2];simp only[ne_eq,not_true_eq_false,if_false,Int.toNat_natCast];rw[Ae nB,a3];simp only[Prod.mk.injEq];exact⟨hj.2,hj.1,trivial⟩
  have J:∀m:Tk×Int×Nat,m=(t,0,pre.length+ls.getD (257+b) 0+b+lf.getD D 0+D)->(m.1,decide (m.2.1=0),m.2.1,m.2.2)=(t,true,(0:Int),pre.length+(ls.getD (257+b) 0+(b+(lf.getD D 0+D)))):=by rintro m rfl;simp only[decide_true,Prod.mk.injEq,true_and];omega
  exact J _ Q
theorem l9{bs:List Bool}(h:okB ls=true)(hS:ls.getD 256 0≠0)(pre post:List Bool)(hb:∀j,bit bs j=bit (pre++(word ls 256++post)) j)(hl:pre.length+(word ls 256).length<=bs.length):
 CG ls lf bs pre.length=(⟨0,0,0⟩,false,0,pre.length+(word ls 256).length):=by
 have hs:ls[256]? =some (ls.getD 256 0):=by
  rw[Aq]at hS ⊢;cases hx:ls[256]? with
  |none=>rw[hx]at hS;exact absurd rfl hS
  |some x=>rfl
 have hg:=Nf h hs hS (bs:=bs) pre post (fun i=>by rw[hb i,AK]) (by rw[Fh]at hl;exact hl);unfold CG;rw[hg];simp only[ne_eq,not_true_eq_false,if_false];rw[Ag (show((256:Nat):Int)=256 from rfl),Fh]
theorem Rg:∀ts:List Tk,0<=Cu ts/\(ts.length:Int)<=Cu ts
 | []=>⟨by simp[Cu],by simp[Cu]⟩
 |t :: ts=>by have:=Rg ts;rw[Cu,AI];omega
theorem VK{ls lf:List Nat}{bs:List Bool}(E:okB ls=true)(i:okB lf=true)(hE:ls.getD 256 0≠0):∀ (rest done:List Tk) (M:Int) (F:Nat) (pre:List Bool),
 (∀t∈rest,(0<=t.lit/\t.lit<=255)/\Bd t.lit t.len t.dist=true/\ls.getD (rZ t).sym.toNat 0≠0/\(t.len≠0->lf.getD (rZ t).dist.toNat 0≠0))->0<=M->rest.length<F->
 (∀j,bit bs j=bit (pre++(rest.flatMap (BQ ls lf)++word ls 256)) j)->(pre++(rest.flatMap (BQ ls lf)++word ls 256)).length<=bs.length->bs.length<(pre++(rest.flatMap (BQ ls lf)++word ls 256)).length+8->
 Fg ls lf bs F M done pre.length=if Cu rest<=M then(done++rest,0)else([],6)
 | [],done,M,F,pre,_,hM,hF,hb,hl,hl2=>by
  obtain⟨F,rfl⟩:∃F',F=F'+1:=⟨F-1,by simp at hF;omega⟩;simp only[List.flatMap_nil,List.nil_append,List.length_append]at hb hl hl2;have ht:=l9 (lf:=lf) E hE (bs:=bs) pre [] (fun j=>by rw[hb j,Cx]) hl;rw[Fg,ht];simp only[ne_eq,not_true_eq_false,if_false,if_true]
  have hp:FZ bs (pre.length+(word ls 256).length)=0:=by
   unfold FZ;rw[Ae];rw[not_or,Nat.not_le,Decidable.not_not];refine⟨nB,?_⟩
   have:∀m,AN bs (pre.length+(word ls 256).length) m=0:=by
    intro m
    induction m with
    |zero=>rfl
    |succ m ih=>rw[AN,ih,hb,Kf nU]
   exact this _
  rw[Ag hp,Ag (by simpa[Cu]using hM),Cx]
 |t :: rest,done,M,F,pre,hts,hM,hF,hb,hl,hl2=>by
  obtain⟨F,rfl⟩:∃F',F=F'+1:=⟨F-1,by simp at hF;omega⟩;obtain⟨h1,h2,h3,h4⟩:=hts t pR;simp only[List.flatMap_cons,List.append_assoc]at hb;simp only[List.flatMap_cons,List.length_append]at hl hl2;have ht:=V7 E i h1 h2 h3 h4 (bs:=bs) pre (rest.flatMap (BQ ls lf)++word ls 256) hb nB;have G:=Rg rest;rw[Fg,ht];simp only[ne_eq,not_true_eq_false,if_false,Bool.true_eq_false];by_cases h:M-max 1 t.len<0
  ·rw[Ag h,Ae (by rw[Cu];omega)]
  ·rw[Ae h]
   have ih:=VK (bs:=bs) E i hE rest (done++ [t]) (M-max 1 t.len) F (pre++BQ ls lf t) (fun x hx=>hts x (Cm _ hx)) nB (by simp at hF;omega)
    (fun j=>by rw[hb j];simp[List.append_assoc]) (by simp only[List.length_append];omega) (by simp only[List.length_append];omega)
   rw[Aj]at ih;rw[ih,Cu,AK];by_cases hs:Cu rest<=M-max 1 t.len
   ·rw[Ag hs,Ag nB];rfl
   ·rw[Ae hs,Ae nB]
theorem Q1{ls lf:List Nat}:∀ {ts:List Tk},(∀t∈ts,ls.getD (rZ t).sym.toNat 0≠0)->ts.length<=(ts.flatMap (BQ ls lf)).length
 | [],_=>pR
 |t :: ts,h=>by
  have h1:=h t pR;have h2:=Q1 (ls:=ls) (lf:=lf) (ts:=ts) (fun x hx=>h x (Cm _ hx));rw[Dm,Aj,AI];have h3:ls.getD (rZ t).sym.toNat 0<=(BQ ls lf t).length:=by unfold BQ;rw[Aj,Fh];exact Nat.le_add_right _ _
  omega
theorem lJ{ts:List Tk}(M:∀t∈ts,0<=t.lit/\t.lit<=255)(Q:DJ ts=true)(most:Int):
 Cy (bytesOf (FC ts)) most=if most<0 then([],13)else if Cu ts<=most then(ts,0)else([],6):=by
 have G:∀j,bit (Bv (bytesOf (FC ts))) j=bit (FC ts) j:=Tm _;have i:(FC ts).length<=(Bv (bytesOf (FC ts))).length:=by rw[EY,bytesOf_length];omega
 have J:(Bv (bytesOf (FC ts))).length<(FC ts).length+8:=by rw[EY,bytesOf_length];omega
 have N:∀t∈ts,(0<=t.lit/\t.lit<=255)/\Bd t.lit t.len t.dist=true/\(lsS ts).getD (rZ t).sym.toNat 0≠0/\(t.len≠0->(lsF ts).getD (rZ t).dist.toNat 0≠0):=by
  intro t ht;unfold DJ at Q;have hm:=EL.1 Q t ht;obtain⟨S,D,L,F,U,hS,hD,_⟩:=Toks.MY t (M t ht).1 (M t ht).2 hm;have e1:(rZ t).sym.toNat=S:=by rw[U];rfl
  have e2:(rZ t).dist.toNat=D:=by rw[U];rfl
  exact⟨M t ht,hm,Oj ht nB,fun h0=>Oe ht h0 nB⟩
 have Z:=Q1 (ls:=lsS ts) (lf:=lsF ts) (fun t ht=>(N t ht).2.2.1);unfold Cy;generalize Bv (bytesOf (FC ts))=bs at *;unfold FC at G i J;have Y:=i;simp only[List.length_append]at Y;have r1:=TH (bs:=bs) (OB ts) [] (Fk (lsF ts)++(ts.flatMap (BQ (lsS ts) (lsF ts))++word (lsS ts) 256)) (fun j=>by rw[G j];simp[List.append_assoc]) (by simp only[List.length_nil];omega);have r2:=TH (bs:=bs) (Ow ts) (Fk (lsS ts)) (ts.flatMap (BQ (lsS ts) (lsF ts))++word (lsS ts) 256) (fun j=>by rw[G j];simp[List.append_assoc]) nB;rw[Tg]at r1;rw[S5]at r2;simp only[List.length_nil,Nat.zero_add]at r1;by_cases E:most<0
 ·rw[Ag E,Ag E]
 ·rw[Ae E,Ae E];simp only[r1,r2,ne_eq,not_true_eq_false,if_false];have h:=VK (bs:=bs) (OB ts) (Ow ts) (Ql ts) ts [] most (bs.length+1) (Fk (lsS ts)++Fk (lsF ts)) N nB nB G i J;rw[Aj]at h;rw[h,Ey]
end TW
end
variable{b0 base n x:Nat}{w:World}{A:Option Addr}{held:Bool}
namespace Block
open Go.RowKit Mem Own Canon
open Nums Crc
end Block
namespace Block
open NumPut Crc Nums
theorem Yk:∀ (x i j:Nat) (rest:List Nat),i+(gZ x).length<=9->(0<i->0<x)->Bt (gZ x++rest) i j=(j+x*2 ^ (7*i),i+(gZ x).length,0):=by
 intro x
 induction x using Nat.strongRecOn with
 |_ x ih=>
  intro i j rest hl hi;by_cases h:x<128
  ·rw[Fe h]at hl ⊢;simp only[List.length_singleton]at hl;rw[En,Ey,Bt,Ae nB,Ag h,Nat.mod_eq_of_lt h];rfl
  ·rw[Gd h]at hl ⊢;simp only[List.length_cons]at hl;rw[En,Bt,Ae nB,Ae nB,ih (x / 128) nB (i+1) _ rest nB nB];have e1:(x % 128+128) % 128=x % 128:=nB;have e2:2 ^ (7*(i+1))=128*2 ^ (7*i):=by rw[show 7*(i+1)=7*i+7 by omega,Nat.pow_add];omega
   have e3:x*2 ^ (7*i)=x % 128*2 ^ (7*i)+x / 128*(128*2 ^ (7*i)):=(by rw[<-Nat.mul_assoc,<-Ex];congr 1;omega);rw[e1,e2,e3,AI];simp only[Prod.mk.injEq,and_true];omega
theorem X0(h:x<=2097151):(gZ x).length<=3:=by
 by_cases h1:x<128
 ·rw[Fe h1];simp
 ·rw[Gd h1,AI];by_cases h2:x / 128<128
  ·rw[Fe h2];simp
  ·rw[Gd h2,Fe nB];simp
theorem Kc(h:x<=32768)(rest:List Nat):BM 32768 (gZ x++rest)=(x,(gZ x).length,0):=by have hl:=X0 (x:=x) nB;unfold BM;rw[Yk x 0 0 rest nB nB];simp;omega
section
variable {T:List Nat} {way n p:Nat} {body t4 r1 r2 r3 r4 r5:List Nat}
theorem st1(h:T=way :: r1)(hw:way<=1):Eo T=way/\hA1 T=1/\hE2 T=0:=by
 subst h;have h1:Eo (way :: r1)=way:=rfl;have h2:hE1 (way :: r1)=0:=by unfold hE1;rw[Kr];simp
 refine⟨h1,?_,?_⟩
 ·unfold hA1;rw[Kt];simp
 ·unfold hE2;rw[h1,h2,Ae nB]
theorem st2(h:T=way :: (gZ n++r2))(hw:way<=1)(hn:n<=32768):hN T=n/\hA2 T=1+(gZ n).length/\hE3 T=0:=by
 obtain⟨_,h2,h3⟩:=st1 h hw;have hd:T.drop 1=gZ n++r2:=pf
 refine⟨?_,?_,?_⟩
 ·unfold hN Bh;rw[h2,h3,hd,Kc hn];simp
 ·unfold hA2 AR;rw[h2,h3,hd,Kc hn];simp
 ·unfold hE3 AU;rw[h2,h3,hd,Kc hn];simp
theorem st3(h:T=way :: (gZ n++(gZ p++r3)))(hw:way<=1)(hn:n<=32768)(hp:p<=32768)(i:n<=1032*p+64):hP T=p/\hA3 T=1+(gZ n).length+(gZ p).length/\hE5 T=0:=by
 obtain⟨h1,h2,h3⟩:=st2 h hw hn;have hd:T.drop (1+(gZ n).length)=gZ p++r3:=by rw[h,Nat.add_comm,List.drop_succ_cons,List.drop_left]
 have h4:hP T=p:=by unfold hP Bh;rw[h2,h3,hd,Kc hp];simp
 refine⟨h4,?_,?_⟩
 ·unfold hA3 AR;rw[h2,h3,hd,Kc hp];simp
 ·have h5:hE4 T=0:=by unfold hE4 AU;rw[h2,h3,hd,Kc hp];simp
  unfold hE5;rw[h4,h1,Ae nB,h5]
theorem st4(h:T=way :: (gZ n++(gZ p++(body++r4))))(hw:way<=1)(hn:n<=32768)(hp:p<=32768)(i:n<=1032*p+64)(hb:body.length=p):Di T=body/\hA4 T=1+(gZ n).length+(gZ p).length+p/\hE6 T=0:=by
 obtain⟨h1,h2,h3⟩:=st3 h hw hn hp i;have hd:T.drop (1+(gZ n).length+(gZ p).length)=body++r4:=by rw[h,show 1+(gZ n).length+(gZ p).length=((gZ n).length+(gZ p).length)+1 by omega,List.drop_succ_cons,<-List.drop_drop,List.drop_left,List.drop_left]
 have hl:T.length=1+(gZ n).length+(gZ p).length+p+r4.length:=by rw[h];simp;omega
 refine⟨?_,?_,?_⟩
 ·unfold Di;rw[h1,h2,h3,JW,Ae nB,hd,<-hb,List.take_left]
 ·unfold hA4;rw[h1,h2,h3,Kt,Ae nB]
 ·unfold hE6;rw[h1,h2,h3,Kr,Ae nB]
theorem st5(h:T=way :: (gZ n++(gZ p++(body++(t4++r5)))))(hw:way<=1)(hn:n<=32768)(hp:p<=32768)(i:n<=1032*p+64)(hb:body.length=p)(ht:t4.length=4):hA5 T=1+(gZ n).length+(gZ p).length+p+4/\hE7 T=0:=by
 obtain⟨_,h2,h3⟩:=st4 h hw hn hp i hb;have hl:T.length=1+(gZ n).length+(gZ p).length+p+4+r5.length:=by rw[h];simp;omega
 refine⟨?_,?_⟩
 ·unfold hA5;rw[h2,h3,Kt,Ae nB]
 ·unfold hE7;rw[h2,h3,Kr,Ae nB]
end
end Block
namespace Block
open NumPut Crc Nums
open Toks (Tk Bd)
open Huff (Cu Cy word Fh bytesOf bytesOf_length)
theorem XG(l:List Nat):∀at_,Cu (Lz.Du l at_)=((l.length-at_:Nat):Int):=by
 refine Lz.OS (l:=l) (fun at_ h=> ?_) (fun at_ h h3 ih=> ?_) (fun at_ h h3 ih=> ?_)
 ·rw[Lz.MK h,Cu];omega
 ·have:=Lz.MP (l:=l) (at_:=at_) nB;rw[Lz.LC h h3,Cu,ih];simp only;omega
 ·rw[Lz.Lk h h3,Cu,ih];simp only;omega
theorem QO{ls lf:List Nat}:∀ {ts:List Tk},(∀t∈ts,Bd t.lit t.len t.dist=true/\ls.getD (Toks.rZ t).sym.toNat 0≠0/\(t.len≠0->lf.getD (Toks.rZ t).dist.toNat 0≠0))->Cu ts<=129*((ts.flatMap (TW.BQ ls lf)).length:Int)
 | [],_=>by simp[Cu]
 |t :: ts,h=>by
  obtain⟨h0,h1,h2⟩:=h t pR;have ih:=QO (ls:=ls) (lf:=lf) (ts:=ts) (fun x hx=>h x (Cm _ hx));rw[Dm,Aj,Cu];have hw:=Fh ls (Toks.rZ t).sym.toNat
  have hl:max 1 t.len<=129*((TW.BQ ls lf t).length:Int):=by
   unfold TW.BQ;by_cases hz:t.len=0
   ·rw[Ag hz,Cx,hw,hz];omega
   ·have h3:=h2 hz;have i:=Fh lf (Toks.rZ t).dist.toNat;unfold Bd at h0;rw[Ae hz]at h0;have h0:=of_decide_eq_true h0;rw[Ae hz];simp only[List.length_append,hw,i];omega
  push_cast
  omega
theorem lR{bs:List Nat}(h8:∀x∈bs,x<=255)(hz:sqz bs=true):(sqO bs).length<bs.length/\bs.length<=1032*(sqO bs).length+64/\Cy (sqO bs) bs.length=(Lz.find bs,0):=by
 unfold sqz at hz;simp only[Bool.and_eq_true,beq_iff_eq,decide_eq_true_eq]at hz;obtain⟨hE,hl⟩:=hz
 have j:Toks.DJ (Lz.find bs)=true:=by
  unfold sqE TW.Ib at hE;split at hE
  ·cases hE
  ·split at hE
   ·assumption
   ·cases hE
 have h:∀t∈Lz.find bs,0<=t.lit/\t.lit<=255:=fun t ht=>((Lz.find_ok h8 0).1 t ht).1;have hO:sqO bs=bytesOf (TW.FC (Lz.find bs)):=by unfold sqO TW.G9;exact Ag hE
 have M:Cu (Lz.find bs)=(bs.length:Int):=XG bs 0
 have J:∀t∈Lz.find bs,Bd t.lit t.len t.dist=true/\(TW.lsS (Lz.find bs)).getD (Toks.rZ t).sym.toNat 0≠0/\(t.len≠0->(TW.lsF (Lz.find bs)).getD (Toks.rZ t).dist.toNat 0≠0):=by
  intro t ht;have i:=j;unfold Toks.DJ at i;have hm:=EL.1 i t ht;obtain⟨S,D,L,F,E,hS,hD,_⟩:=Toks.MY t (h t ht).1 (h t ht).2 hm;have e1:(Toks.rZ t).sym.toNat=S:=by rw[E];rfl
  have e2:(Toks.rZ t).dist.toNat=D:=by rw[E];rfl
  exact⟨hm,TW.Oj ht nB,fun h0=>TW.Oe ht h0 nB⟩
 have hb:=QO J;have N:((Lz.find bs).flatMap (TW.BQ (TW.lsS (Lz.find bs)) (TW.lsF (Lz.find bs)))).length<=(TW.FC (Lz.find bs)).length:=by unfold TW.FC;simp only[List.length_append];omega
 have G:=bytesOf_length (TW.FC (Lz.find bs));rw[<-hO]at G;refine⟨hl,nB,?_⟩;rw[hO,TW.lJ h j,Ae nB,Ag nB]
theorem kY(bs:List Nat)(plain:Bool):FJ bs plain<=1:=by unfold FJ;split<;>omega
theorem kR{bs:List Nat}(plain:Bool)(h8:∀x∈bs,x<=255):(CD bs plain).length<=bs.length/\bs.length<=1032*(CD bs plain).length+64/\byE (FJ bs plain) bs.length (CD bs plain).length (CD bs plain)=0/\byO (FJ bs plain) bs.length (CD bs plain).length (CD bs plain)=bs:=by
 unfold CD FJ;cases hc:(!plain&&sqz bs)
 ·simp only[Bool.false_eq_true,if_false];have h0:byE 0 bs.length bs.length bs=0:=by unfold byE;simp
  refine⟨Am _,nB,h0,?_⟩;unfold byO;rw[h0];simp
 ·simp only[if_true]
  have hz:sqz bs=true:=by
   cases hz:sqz bs
   ·rw[hz,Bool.and_false]at hc;cases hc
   ·rfl
  obtain⟨h1,h2,h3⟩:=lR h8 hz;have hp:Lz.FQ (Lz.find bs) (bs.length:Int)=(bs,0):=Lz.X5 h8 nB;have h0:byE 1 bs.length (sqO bs).length (sqO bs)=0:=by unfold byE;rw[h3,Ae nB];simp only;rw[hp];simp
  refine⟨nB,nB,h0,?_⟩;unfold byO;rw[h0,h3,Ae pR,Ae nB];simp only;rw[hp]
theorem kW(s:Nat):(CU s).length=4:=rfl
theorem Zc(bs:List Nat)(plain:Bool)(more:List Nat):Cs bs plain++more=FJ bs plain :: (gZ bs.length++(gZ (CD bs plain).length++(CD bs plain++(CU (Ct (Do bs plain))++more)))):=by unfold Cs Do IK;simp
theorem YQ(bs:List Nat)(plain:Bool):(Do bs plain).length=1+(gZ bs.length).length+(gZ (CD bs plain).length).length+(CD bs plain).length:=by unfold Do IK;simp;omega
theorem PN(bs:List Nat)(plain:Bool):(Cs bs plain).length=(Do bs plain).length+4:=by unfold Cs;rw[Aj];rfl
theorem Pw{bs:List Nat}(plain:Bool)(more:List Nat)(h8:∀x∈bs,x<=255)(hN:bs.length<=32768):
 opE (Cs bs plain++more)=0/\opO (Cs bs plain++more)=bs/\opA (Cs bs plain++more)=(Cs bs plain).length:=by
 obtain⟨b1,b2,b3,b4⟩:=kR plain h8;have hw:=kY bs plain;have he:=Zc bs plain more;obtain⟨T,hT⟩:=jc (Cs bs plain++more);rw[<-hT]at he ⊢;obtain⟨s1,_,_⟩:=st1 he hw;obtain⟨s2,_,_⟩:=st2 he hw hN;obtain⟨s3,_,_⟩:=st3 he hw hN nB b2;obtain⟨s4,_,_⟩:=st4 he hw hN nB b2 rfl;obtain⟨s5,s7⟩:=st5 he hw hN nB b2 rfl (kW _);have hl:hA5 T=(Cs bs plain).length:=by rw[s5,PN,YQ]
 have h:hE8 T=0:=by
  unfold hE8;rw[s7,Ae pR,hl,hT,List.take_left];unfold C7;have e1:(Cs bs plain).length-4=(Do bs plain).length:=by rw[PN];omega
  rw[e1,Ae (by rw[PN];omega)];have e2:(Cs bs plain).take (Do bs plain).length=Do bs plain:=by unfold Cs;exact List.take_left
  have e3:(Cs bs plain).drop (Do bs plain).length=CU (Ct (Do bs plain)):=by unfold Cs;exact List.drop_left
  rw[e2,e3,Ag rfl]
 have hE:opE T=0:=by unfold opE;rw[h,Ae pR,s1,s2,s3,s4,b3]
 refine⟨hE,?_,?_⟩
 ·unfold opO;rw[hE,Ae pR,s1,s2,s3,s4,b4]
 ·unfold opA;rw[hE,Ae pR,hl]
end Block
namespace Block
open Go.RowKit Mem Own Canon
open Nums Crc NumPut
end Block
namespace Block
open Go.RowKit Mem Own Canon
open Nums Crc NumPut
theorem Tn{c s:Nat}{e:TypeId}{xs:List Value}(h:w.ownsRow base e s (.slice A n c) n xs):Src w A n c s xs:=by
 refine⟨h.1,?_⟩;rcases h.2 with ⟨hv,h0⟩|⟨g,G,cur,hv,hb,hh,J,E,L,i⟩
 ·injection hv with e1 e2 e3;exact .inl ⟨e1,e2,e3⟩
 ·injection hv with e1 e2 e3;refine .inr ⟨⟨g,0,none⟩,e1,fun j u hu=> ?_⟩;rw[add_none,B0,Blk.cell hh];rw[<-i,Gn]at hu;split at hu
  ·simpa using hu
  ·cases hu
end Block
namespace One
open Recs Block Nums NumPut Opts Crc
theorem YL:∀ (x i j:Nat) (rest:List Nat),i<=9->x*2 ^ (7*i)<18446744073709551616->(0<i->0<x)->Bt (gZ x++rest) i j=(j+x*2 ^ (7*i),i+(gZ x).length,0):=by
 intro x
 induction x using Nat.strongRecOn with
 |_ x ih=>
  intro i j rest hl hx hi;by_cases h:x<128
  ·have h9:i=9->x=1:=fun e=>by subst e;have:=hi nB;have e9:(2:Nat) ^ (7*9)=9223372036854775808:=ji;rw[e9]at hx;omega
   rw[Fe h];rw[En,Ey,Bt,Ae nB,Ag h,Nat.mod_eq_of_lt h];rfl
  ·have hb:=M9 hx nB;rw[Gd h];rw[En,Bt,Ae nB,Ae nB,ih (x / 128) nB (i+1) _ rest nB hb.2 nB];have e1:(x % 128+128) % 128=x % 128:=nB;have e2:2 ^ (7*(i+1))=128*2 ^ (7*i):=pm;have e3:x*2 ^ (7*i)=x % 128*2 ^ (7*i)+x / 128*(128*2 ^ (7*i)):=(by rw[<-Nat.mul_assoc,<-Ex];congr 1;omega);rw[e1,e2,e3,AI];simp only[Prod.mk.injEq,and_true];omega
theorem UW(h:x<18446744073709551616)(rest:List Nat):Bt (gZ x++rest) 0 0=(x,(gZ x).length,0):=by rw[YL x 0 0 rest nB qh nB];simp
theorem O0{most:Nat}(h:x<=most)(hm:most<=1000000000)(rest:List Nat):BM most (gZ x++rest)=(x,(gZ x).length,0):=by unfold BM;rw[UW nB rest];simp;omega
theorem Tc{s:ByteArray}(h:s.size<=4000)(rest:List Nat):Cz 4000 (BY s++rest)=(sB s,(BY s).length,0):=by have hl:(sB s).length=s.size:=LH s;unfold Cz BY;rw[AK,O0 h nB];simp only[List.length_append,hl,List.drop_left];rw[Ae pR,Ae nB,<-hl,List.take_left]
theorem ES{bs a b:List Nat}{k:Nat}(h:bs.drop k=a++b):bs.drop (k+a.length)=b:=by rw[<-List.drop_drop,h,List.drop_left]
end One
namespace One
open Go.RowKit Mem Own Canon NumPut Nums Opts
open Recs Block
open Crc (TabAt)
theorem SV(l:List Rec):∀u∈BX l,u.oneCell'=true:=by intro u hu;unfold BX at hu;obtain⟨r,_,hr⟩:=List.mem_flatMap.1 hu;simp at hr;rcases hr with rfl|rfl|rfl|rfl<;>rfl
end One
namespace Open
open Go.ChangeShapes Go.WideShapes Go.RowKit Go.Joins Go.Deep Mem Recs Opts
theorem UM{H:Type}{enc:TypeId×Value->H}{spare:Nat->Bool}{fuel:Nat}{len G:Nat}{x:DataW H×List MemPlace}
 (h:DataW.trod enc prog w base spare held fuel 24 [.slice A len G]=some x):
 ∃la:List Rec,la.length=len/\Row w w A len 4 (Cp la)/\len<=G/\len<=9223372036854775807/\∀r∈la,CA r:=by
 obtain⟨h1,h2,h3⟩:=Wh underlying24 underlying43 ni ni ji 4 rfl h;refine⟨(List.range len).map fun i=>⟨IS w A (i*4),IS w A (i*4+1),IQ w A (i*4+2),IQ w A (i*4+3)⟩,pR,?_,h1,by unfold maxLen at h2;omega,?_⟩
 ·intro hn;obtain⟨b,E,rfl,hb,hc⟩:=h3 hn;refine⟨b,E,rfl,hb,fun i j hi hj=> ?_⟩
  have hg:((List.range len).map fun i=>(⟨IS w (some ⟨b,E,none⟩) (i*4),IS w (some ⟨b,E,none⟩) (i*4+1),IQ w (some ⟨b,E,none⟩) (i*4+2),IQ w (some ⟨b,E,none⟩) (i*4+3)⟩:Rec)).getD i GC=
   ⟨IS w (some ⟨b,E,none⟩) (i*4),IS w (some ⟨b,E,none⟩) (i*4+1),IQ w (some ⟨b,E,none⟩) (i*4+2),IQ w (some ⟨b,E,none⟩) (i*4+3)⟩:=by
   simp[List.getD,hi]
  unfold Cp;rw[hg]
  match j,hj with
  |0,_=>obtain⟨v0,y0,n0,c0,t0⟩:=hc i hi 0 _ rfl;obtain⟨x0,e0,_,w0⟩:=DataW.trod_int underlying41 t0;simp only[List.cons.injEq,and_true]at e0;subst e0;rw[Nt (k:=i*4) c0];exact c0
  |1,_=>obtain⟨v0,y0,n0,c0,t0⟩:=hc i hi 1 _ rfl;obtain⟨x0,e0,_,w0⟩:=DataW.trod_int underlying5 t0;simp only[List.cons.injEq,and_true]at e0;subst e0;rw[Nt c0];exact c0
  |2,_=>obtain⟨v0,y0,n0,c0,t0⟩:=hc i hi 2 _ rfl;obtain⟨x0,e0,_,w0⟩:=DataW.trod_string underlying9 t0;simp only[List.cons.injEq,and_true]at e0;subst e0;rw[Qs c0];exact c0
  |3,_=>obtain⟨v0,y0,n0,c0,t0⟩:=hc i hi 3 _ rfl;obtain⟨x0,e0,_,w0⟩:=DataW.trod_string underlying9 t0;simp only[List.cons.injEq,and_true]at e0;subst e0;rw[Qs c0];exact c0
 ·intro r hr;obtain⟨i,hi,rfl⟩:=Cl.1 hr;have hi:=FA.1 hi;obtain⟨b,E,rfl,hb,hc⟩:=h3 nB;obtain⟨v0,y0,n0,c0,t0⟩:=hc i hi 0 _ rfl;obtain⟨x0,e0,_,w0⟩:=DataW.trod_int underlying41 t0;simp only[List.cons.injEq,and_true]at e0;subst e0;obtain⟨v1,y1,n1,c1,t1⟩:=hc i hi 1 _ rfl;obtain⟨x1,e1,_,w1⟩:=DataW.trod_int underlying5 t1;simp only[List.cons.injEq,and_true]at e1;subst e1;have b0:=bounds_u64 w0;have b1:=bounds_u8 w1;show CA ⟨_,_,_,_⟩;unfold CA;simp only;rw[Nt (k:=i*4) c0,Nt (k:=i*4+1) c1];omega
theorem GX{α:Type}{l:List α}(h:l.length=n+1):∃c t,l=c :: t/\t.length=n:=by
 cases l with
 |nil=>cases h
 |cons c t=>exact⟨c,t,rfl,Nat.succ.inj h⟩
theorem Yt{α:Type}{a:Array α}(h:a.size=6):∃c0 c1 c2 c3 c4 c5,a=#[c0,c1,c2,c3,c4,c5]:=by obtain⟨l⟩:=a;obtain⟨c0,t0,rfl,h0⟩:=GX (n:=5) h;obtain⟨c1,t1,rfl,h1⟩:=GX h0;obtain⟨c2,t2,rfl,h2⟩:=GX h1;obtain⟨c3,t3,rfl,h3⟩:=GX h2;obtain⟨c4,t4,rfl,h4⟩:=GX h3;obtain⟨c5,t5,rfl,h5⟩:=GX h4;obtain rfl:=LL.1 h5;exact⟨c0,c1,c2,c3,c4,c5,rfl⟩
theorem Xo{P:Program}{H:Type}{enc:TypeId×Value->H}{spare:Nat->Bool}{r:Reach}{t:TypeId}{f0 f1 f2 f3 f4 f5:Field}{v:Value}{d:DataW H}{p:List MemPlace}(hs:P.underlying t=some (.struct #[f0,f1,f2,f3,f4,f5]))(i:oneCellFields P #[f0,f1,f2,f3,f4,f5]=true)(hC:P.cellsOf t=6)
 (hv:Value.okWide P w r b0 t v)(h:DataW.Trod enc P w base spare held t v d p):
 ∃ (v0 v1 v2 v3 v4 v5:Value) (y0 y1 y2 y3 y4 y5:DataW H×List MemPlace) (n:Nat),v= .agg #[v0,v1,v2,v3,v4,v5]/\
  DataW.trod enc P w base spare held n f0.type [v0]=some y0/\DataW.trod enc P w base spare held n f1.type [v1]=some y1/\DataW.trod enc P w base spare held n f2.type [v2]=some y2/\DataW.trod enc P w base spare held n f3.type [v3]=some y3/\DataW.trod enc P w base spare held n f4.type [v4]=some y4/\DataW.trod enc P w base spare held n f5.type [v5]=some y5:=by
 obtain⟨cs,rfl,E⟩:=okWide_struct hs hv;obtain⟨c0,c1,c2,c3,c4,c5,rfl⟩:=Yt (E.trans hC);obtain⟨fuel,hf⟩:=h;obtain⟨xs,n,_,_,hl,j,hf⟩:=DataW.trod_struct hs hf;obtain⟨y0,t0,rfl,l0⟩:=GX (n:=5) j;obtain⟨y1,t1,rfl,l1⟩:=GX l0;obtain⟨y2,t2,rfl,l2⟩:=GX l1;obtain⟨y3,t3,rfl,l3⟩:=GX l2;obtain⟨y4,t4,rfl,l4⟩:=GX l3;obtain⟨y5,t5,rfl,l5⟩:=GX l4;obtain rfl:=LL.1 l5;obtain⟨o0,k0⟩:=hone_of i 0 f0 rfl;obtain⟨o1,k1⟩:=hone_of i 1 f1 rfl;obtain⟨o2,k2⟩:=hone_of i 2 f2 rfl;obtain⟨o3,k3⟩:=hone_of i 3 f3 rfl;obtain⟨o4,k4⟩:=hone_of i 4 f4 rfl;obtain⟨o5,k5⟩:=hone_of i 5 f5 rfl;exact⟨c0,c1,c2,c3,c4,c5,y0,y1,y2,y3,y4,y5,n,rfl,by simpa[Value.cells,o0,k0]using hf 0 f0 rfl,by simpa[Value.cells,o1,k1]using hf 1 f1 rfl,by simpa[Value.cells,o2,k2]using hf 2 f2 rfl,by simpa[Value.cells,o3,k3]using hf 3 f3 rfl,by simpa[Value.cells,o4,k4]using hf 4 f4 rfl,by simpa[Value.cells,o5,k5]using hf 5 f5 rfl⟩
set_option maxRecDepth 100000 in
theorem opts{H:Type}{enc:TypeId×Value->H}{spare:Nat->Bool}{r:Reach}{v:Value}{d:DataW H}{p:List MemPlace}
 (hv:Value.okWide prog w r b0 23 v)(h:DataW.Trod enc prog w base spare held 23 v d p):∃o:Opt,v=o.val:=by
 obtain⟨c0,c1,c2,c3,c4,c5,y0,y1,y2,y3,y4,y5,n,rfl,h0,h1,h2,h3,h4,h5⟩:=Xo underlying23 ni ni hv h;obtain⟨x0,e0,_,_⟩:=DataW.trod_int underlying3 h0;obtain⟨x1,e1,_⟩:=DataW.trod_bool underlying4 h1;obtain⟨x2,e2,_,_⟩:=DataW.trod_int underlying3 h2;obtain⟨x3,e3,_,_⟩:=DataW.trod_int underlying3 h3;obtain⟨x4,e4,_,_⟩:=DataW.trod_int underlying3 h4;obtain⟨x5,e5,_,_⟩:=DataW.trod_int underlying3 h5;simp only[List.cons.injEq,and_true]at e0 e1 e2 e3 e4 e5;subst e0 e1 e2 e3 e4 e5;exact⟨⟨x0,x1,x2,x3,x4,x5⟩,rfl⟩
end Open
end Go.Proofs.YtfgdoknipbpfhaaGreatDoor
