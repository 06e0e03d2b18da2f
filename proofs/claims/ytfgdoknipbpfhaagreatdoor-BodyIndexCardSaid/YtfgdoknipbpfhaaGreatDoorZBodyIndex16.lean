/- Plain: numbers by pl -/
import Derived.Test.YtfgdoknipbpfhaaGreatDoorZBodyIndex2
import Derived.BigRegion
import Derived.Deep.LoopGhost
import Derived.IntWalk
namespace Go.Proofs.YtfgdoknipbpfhaaGreatDoor
variable{a a' b b' i limit m n s x:Nat}{S l:List Nat}
namespace Srt
def seg(f:Nat->Nat)(a b:Nat):List Nat:=(List.range' a (b-a)).map f
theorem seg_length(f:Nat->Nat)(a b:Nat):(seg f a b).length=b-a:=by simp[seg]
theorem Jn(f:Nat->Nat)(a b i:Nat)(h:i<(seg f a b).length):(seg f a b)[i]=f (a+i):=by simp[seg]
theorem UR{f g:Nat->Nat}(h:∀i,a<=i->i<b->f i=g i):seg f a b=seg g a b:=by refine List.ext_getElem (by rw[seg_length,seg_length]) fun i h1 h2=> ?_;rw[seg_length]at h1;rw[Jn,Jn];exact h _ nB nB
theorem UI{f g:Nat->Nat}(hd:b-a=b'-a')(h:∀i,i<b-a->f (a+i)=g (a'+i)):seg f a b=seg g a' b':=by refine List.ext_getElem (by rw[seg_length,seg_length,hd]) fun i h1 h2=> ?_;rw[seg_length]at h1;rw[Jn,Jn];exact h _ h1
theorem seg_append(f:Nat->Nat)(h1:a<=m)(h2:m<=b):seg f a b=seg f a m++seg f m b:=by
 refine List.ext_getElem (by rw[Aj,seg_length,seg_length,seg_length];omega) fun i h3 h4=> ?_;rw[Jn];rw[seg_length]at h3;by_cases hi:i<m-a
 ·rw[List.getElem_append_left (by rw[seg_length];omega),Jn]
 ·rw[List.getElem_append_right (by rw[seg_length];omega),Jn,seg_length];congr 1;omega
def rot(f:Nat->Nat)(a m b:Nat)(i:Nat):Nat:=if a<=i/\i<a+(b-m)then f (i+(m-a))else if a+(b-m)<=i/\i<b then f (i-(b-m))else f i
theorem cN(f:Nat->Nat)(h:i<a):rot f a m b i=f i:=by unfold rot;rw[Ae nB,Ae nB]
theorem Ut(f:Nat->Nat)(h1:a<=i)(h2:i<a+(b-m)):rot f a m b i=f (i+(m-a)):=by unfold rot;rw[Ag ⟨h1,h2⟩]
theorem Uj(f:Nat->Nat)(h1:a+(b-m)<=i)(h2:i<b):rot f a m b i=f (i-(b-m)):=by unfold rot;rw[Ae nB,Ag ⟨h1,h2⟩]
theorem XM(f:Nat->Nat)(ha:a<=m)(hm:m<=b)(h:b<=i):rot f a m b i=f i:=by unfold rot;rw[Ae nB,Ae nB]
theorem YT(f:Nat->Nat)(ha:a<=m)(hm:m<=b):(seg (rot f a m b) a b).Perm (seg f a b):=by rw[seg_append (rot f a m b) (m:=a+(b-m)) nB nB,seg_append f ha hm];rw[UI (f:=rot f a m b) (g:=f) (a:=a) (b:=a+(b-m)) (a':=m) (b':=b) nB (fun i hi=>by rw[Ut f nB nB];congr 1;omega)];rw[UI (f:=rot f a m b) (g:=f) (a:=a+(b-m)) (b:=b) (a':=a) (b':=m) nB (fun i hi=>by rw[Uj f nB nB];congr 1;omega)];exact List.perm_append_comm
section
variable (k:Nat->Nat)
def Lt(x y:Nat):Prop:=k x<k y∨(k x=k y/\x<y)
def Sor(f:Nat->Nat)(a b:Nat):Prop:=∀i j,a<=i->i<j->j<b->Lt k (f i) (f j)
def Low(f:Nat->Nat)(a m b:Nat):Prop:=∀i j,a<=i->i<m->m<=j->j<b->f i<f j
def Crs(f:Nat->Nat)(a m e b:Nat):Prop:=∀i j,a<=i->i<m->e<=j->j<b->Lt k (f i) (f j)
end
variable {k:Nat->Nat}
theorem Lt.trans{y z:Nat}(h1:Lt k x y)(h2:Lt k y z):Lt k x z:=by unfold Lt at *;omega
theorem Sor.sub{f:Nat->Nat}(h:Sor k f a b)(h1:a<=a')(h2:b'<=b):Sor k f a' b':=fun i j hi hij hj=>h i j nB hij nB
theorem Sor.congr{f g:Nat->Nat}(h:Sor k f a b)(he:∀i,a<=i->i<b->g i=f i):Sor k g a b:=fun i j hi hij hj=>by rw[he i hi nB,he j nB hj];exact h i j hi hij hj
theorem split{f:Nat->Nat}{e:Nat}(h1:a<=s)(h2:s<=m)(h3:m<=e)(h4:e<=b)(hl:Sor k f a m)(hr:Sor k f m b)(G:Low f a m b)
 (c1:Crs k f a s e b)(c2:∀i j,m<=i->i<e->s<=j->j<m->Lt k (f i) (f j)):
 (seg (rot f s m e) a b).Perm (seg f a b)/\(∀i,(i<a∨b<=i)->rot f s m e i=f i)/\
 Sor k (rot f s m e) a s/\Sor k (rot f s m e) s (s+(e-m))/\Low (rot f s m e) a s (s+(e-m))/\
 Sor k (rot f s m e) (s+(e-m)) e/\Sor k (rot f s m e) e b/\Low (rot f s m e) (s+(e-m)) e b/\Crs k (rot f s m e) a (s+(e-m)) (s+(e-m)) b:=by
 have p1:∀i,i<s->rot f s m e i=f i:=fun i hi=>cN f hi;have p2:∀i,s<=i->i<s+(e-m)->rot f s m e i=f (i+(m-s)):=fun i hi h=>Ut f hi h;have p3:∀i,s+(e-m)<=i->i<e->rot f s m e i=f (i-(e-m)):=fun i hi h=>Uj f hi h;have p4:∀i,e<=i->rot f s m e i=f i:=fun i hi=>XM f h2 h3 hi;refine⟨?_,fun i hi=> ?_,?_,?_,?_,?_,?_,?_,?_⟩
 ·rw[seg_append (rot f s m e) h1 (by omega:s<=b),seg_append (rot f s m e) (by omega:s<=e) h4,seg_append f h1 (by omega:s<=b),seg_append f (by omega:s<=e) h4];refine List.Perm.append ?_ (List.Perm.append (YT f h2 h3) ?_)
  ·rw[UR (fun i _ hi=>p1 i hi)]
  ·rw[UR (fun i hi _=>p4 i hi)]
 ·rcases hi with hi|hi
  ·exact p1 i nB
  ·exact p4 i nB
 ·exact(hl.sub (Am a) h2).congr fun i _ hi=>p1 i hi
 ·intro i j hi J hj;rw[p2 i hi nB,p2 j nB hj];exact hr _ _ nB nB nB
 ·intro i j hi h hj E;rw[p1 i h,p2 j hj E];exact G _ _ hi nB nB nB
 ·intro i j hi J hj;rw[p3 i hi nB,p3 j nB hj];exact hl _ _ nB nB nB
 ·intro i j hi J hj;rw[p4 i hi,p4 j nB];exact hr _ _ nB J hj
 ·intro i j hi h hj E;rw[p3 i hi h,p4 j hj];exact G _ _ nB nB nB E
 ·intro i j hi h hj E;by_cases x1:i<s
  ·rw[p1 i x1];by_cases x2:j<e
   ·rw[p3 j hj x2];exact hl _ _ hi nB nB
   ·rw[p4 j nB];exact c1 _ _ hi x1 nB E
  ·rw[p2 i nB h];by_cases x2:j<e
   ·rw[p3 j hj x2];exact c2 _ _ nB nB nB nB
   ·rw[p4 j nB];exact hr _ _ nB nB nB
end Srt
namespace Srt
open Go.RowKit Mem Own
end Srt
namespace Lens
open Srt
abbrev It:=Nat×List Nat
def zY(x:It):Bool:=x.2.length==1
def ET:List It->List It
 |x :: y :: t=>(x.1+y.1,x.2++y.2) :: ET t
 |_=> []
def mrg:List It->List It->List It
 | [],ps=>ps
 |l :: ls,[]=>l :: ls
 |l :: ls,p :: ps=>if l.1<=p.1 then l :: mrg ls (p :: ps)else p :: mrg (l :: ls) ps
termination_by ls ps=>ls.length+ps.length
def rowN(L:List It):Nat->List It
 |0=>L
 |r+1=>mrg L (ET (rowN L r))
theorem JV(ps:List It):mrg [] ps=ps:=by rw[mrg]
theorem KE(ls:List It):mrg ls []=ls:=by
 cases ls with
 |nil=>rw[mrg]
 |cons l ls=>rw[mrg]
theorem Lq{l p:It}{ls ps:List It}(h:l.1<=p.1):mrg (l :: ls) (p :: ps)=l :: mrg ls (p :: ps):=by rw[mrg,Ag h]
theorem Lo{l p:It}{ls ps:List It}(h:¬l.1<=p.1):mrg (l :: ls) (p :: ps)=p :: mrg (l :: ls) ps:=by rw[mrg,Ae h]
theorem Mz{M:List It->List It->Prop}(h1:∀ps,M [] ps)(h2:∀l ls,M (l :: ls) [])(h3:∀l ls p ps,l.1<=p.1->M ls (p :: ps)->M (l :: ls) (p :: ps))
 (h4:∀l ls p ps,¬l.1<=p.1->M (l :: ls) ps->M (l :: ls) (p :: ps)):∀ls ps,M ls ps:=by
 intro ls ps;obtain⟨n,hn⟩:=jc (ls.length+ps.length)
 induction n generalizing ls ps with
 |zero=>
  match ls,ps with
  | [],ps=>exact h1 ps
  |l :: ls,ps=>simp only[List.length_cons]at hn;omega
 |succ n ih=>
  match ls,ps with
  | [],ps=>exact h1 ps
  |l :: ls,[]=>exact h2 l ls
  |l :: ls,p :: ps=>
   simp only[List.length_cons]at hn;by_cases h:l.1<=p.1
   ·exact h3 l ls p ps h (ih ls (p :: ps) pW)
   ·exact h4 l ls p ps h (ih (l :: ls) ps pW)
theorem MC(ls ps:List It):(mrg ls ps).length=ls.length+ps.length:=by
 refine Mz (M:=fun ls ps=>(mrg ls ps).length=ls.length+ps.length) ?_ ?_ ?_ ?_ ls ps
 ·intro ps;rw[JV];simp
 ·intro l ls;rw[KE];simp
 ·intro l ls p ps h ih;rw[Lq h,AI,ih];simp only[List.length_cons];omega
 ·intro l ls p ps h ih;rw[Lo h,AI,ih];simp only[List.length_cons];omega
theorem Mu{ls ps:List It}{x:It}:x∈mrg ls ps↔x∈ls∨x∈ps:=by
 refine Mz (M:=fun ls ps=>x∈mrg ls ps↔x∈ls∨x∈ps) ?_ ?_ ?_ ?_ ls ps
 ·intro ps;rw[JV];simp
 ·intro l ls;rw[KE];simp
 ·intro l ls p ps h ih;rw[Lq h,BK,ih];simp only[List.mem_cons];exact or_assoc.symm
 ·intro l ls p ps h ih;rw[Lo h,BK,ih];simp only[List.mem_cons];exact or_left_comm
theorem YA(ls ps:List It)(hl:∀x∈ls,zY x=true)(hp:∀x∈ps,zY x=false)(t:Nat)(ht:t<=ls.length+ps.length):
 ∃n q,n+q=t/\n<=ls.length/\q<=ps.length/\((mrg ls ps).take t).Perm (ls.take n++ps.take q)/\((mrg ls ps).take t).countP zY=n:=by
 revert t
 refine Mz (M:=fun ls ps=>(∀x∈ls,zY x=true)->(∀x∈ps,zY x=false)->∀t,t<=ls.length+ps.length->
  ∃n q,n+q=t/\n<=ls.length/\q<=ps.length/\((mrg ls ps).take t).Perm (ls.take n++ps.take q)/\((mrg ls ps).take t).countP zY=n) ?_ ?_ ?_ ?_ ls ps hl hp
 ·intro ps _ hp t ht;rw[JV];refine⟨0,t,nB,nB,by simpa using ht,pR,?_⟩;rw[List.countP_eq_zero];intro x hx;rw[hp x (CN hx)];simp
 ·intro l ls hl _ t ht;rw[KE];refine⟨t,0,nB,by simpa using ht,nB,pR,?_⟩;have:((l :: ls).take t).countP zY=((l :: ls).take t).length:=List.countP_eq_length.2 fun x hx=>hl x (CN hx);rw[this,Bc];simp at ht;simp only[List.length_cons];omega
 ·intro l ls p ps h ih hl hp t ht;rw[Lq h];rcases t with _|t
  ·exact⟨0,0,rfl,nB,nB,pR,pR⟩
  ·obtain⟨n,q,h1,h2,h3,h4,h5⟩:=ih (fun x hx=>hl x (Cm _ hx)) hp t pX;refine⟨n+1,q,nB,pW,h3,?_,?_⟩
   ·simpa using h4
   ·rw[List.take_succ_cons,List.countP_cons,h5,hl l pR];rfl
 ·intro l ls p ps h ih hl hp t ht;rw[Lo h];rcases t with _|t
  ·exact⟨0,0,rfl,nB,nB,pR,pR⟩
  ·obtain⟨n,q,h1,h2,h3,h4,h5⟩:=ih hl (fun x hx=>hp x (Cm _ hx)) t pX;refine⟨n,q+1,nB,h2,pW,?_,?_⟩
   ·rw[List.take_succ_cons,List.take_succ_cons];refine(h4.cons p).trans ?_;exact(List.perm_middle).symm
   ·rw[List.take_succ_cons,List.countP_cons,h5,hp p pR];rfl
theorem Ky(x y:It)(t:List It):ET (x :: y :: t)=(x.1+y.1,x.2++y.2) :: ET t:=rfl
theorem Lc:∀l:List It,(ET l).length=l.length / 2
 | []=>rfl
 | [_]=>by simp[ET]
 |_ :: _ :: t=>by rw[Ky,AI,Lc t];simp only[List.length_cons];omega
theorem Kl:∀ {l:List It} {p:It},p∈ET l->∃x y,x∈l/\y∈l/\p=(x.1+y.1,x.2++y.2)
 | [],p,h=>by simp[ET]at h
 | [_],p,h=>by simp[ET]at h
 |x :: y :: t,p,h=>by
  rw[Ky]at h;rcases BK.1 h with h|h
  ·exact⟨x,y,pR,pR,h⟩
  ·obtain⟨a,b,ha,hb,he⟩:=Kl h;exact⟨a,b,by simp[ha],by simp[hb],he⟩
def flat(l:List It):List Nat:=l.flatMap (·.2)
theorem Mw(x:It)(l:List It):flat (x :: l)=x.2++flat l:=by simp[flat]
theorem OY(a b:List It):flat (a++b)=flat a++flat b:=by simp[flat]
theorem T7:∀ (l:List It) (q:Nat),2*q<=l.length->flat ((ET l).take q)=flat (l.take (2*q))
 |_,0,_=>by simp[flat]
 | [],q+1,h=>pS
 | [_],q+1,h=>by simp at h;omega
 |x :: y :: t,q+1,h=>by rw[Ky,show 2*(q+1)=2*q+1+1 by omega,List.take_succ_cons,List.take_succ_cons,List.take_succ_cons,Mw,Mw,Mw,T7 t q (by simp only[List.length_cons]at h;omega)];simp
def lv(k:Nat->Nat)(S:List Nat):List It:=S.map fun s=>(k s,[s])
theorem Ox{k:Nat->Nat}:∀x∈lv k S,zY x=true:=by intro x hx;obtain⟨s,_,rfl⟩:=Cl.1 hx;rfl
theorem Js(k:Nat->Nat)(S:List Nat):(lv k S).length=S.length:=by simp[lv]
theorem RG(k:Nat->Nat)(S:List Nat):flat (lv k S)=S:=by
 induction S with
 |nil=>rfl
 |cons s t ih=>unfold lv at ih ⊢;rw[CE,Mw,ih];rfl
theorem Rq(k:Nat->Nat)(S:List Nat)(n:Nat):(lv k S).take n=lv k (S.take n):=by simp[lv,List.map_take]
section
variable {k:Nat->Nat} {S:List Nat}
theorem Nz(r:Nat):∀x∈rowN (lv k S) r,x.2≠ []:=by
 induction r with
 |zero=>intro x hx;obtain⟨s,_,rfl⟩:=Cl.1 hx;simp
 |succ r ih=>
  intro x hx;rcases Mu.1 hx with h|h
  ·obtain⟨s,_,rfl⟩:=Cl.1 h;simp
  ·obtain⟨a,b,ha,hb,rfl⟩:=Kl h;simp[ih a ha]
theorem TQ{l:List It}(h:∀x∈l,x.2≠ []):∀x∈ET l,zY x=false:=by intro x hx;obtain⟨a,b,ha,hb,rfl⟩:=Kl hx;have h1:=FW.2 (h a ha);have h2:=FW.2 (h b hb);unfold zY;rw[GF,Aj];omega
theorem KV:(rowN (lv k S) 0).length=S.length:=Js k S
theorem Ol(r:Nat):(rowN (lv k S) (r+1)).length=S.length+(rowN (lv k S) r).length / 2:=by rw[rowN,MC,Lc,Js]
theorem P8(hn:0<S.length):∀r,(rowN (lv k S) r).length+(S.length-1) / 2 ^ r=2*S.length-1
 |0=>by rw[KV];simp;omega
 |r+1=>by have ih:=P8 hn r;rw[Ol,Dl,<-LK];omega
theorem SY(hl:1<=limit)(hn:0<S.length)(h:S.length<=2 ^ limit):2*S.length-2<=(rowN (lv k S) (limit-1)).length:=by
 have h1:=P8 (k:=k) hn (limit-1)
 have h2:(S.length-1) / 2 ^ (limit-1)<2:=by
  rw[Nat.div_lt_iff_lt_mul (Gk _)];have:2 ^ limit=2*2 ^ (limit-1):=by obtain⟨m,rfl⟩:∃m,limit=m+1:=⟨limit-1,nB⟩;rw[Dl,Nat.add_sub_cancel,Nat.mul_comm]
  omega
 omega
theorem PZ{M:Nat}(hk:∀s∈S,k s<=M):∀r,∀x∈rowN (lv k S) r,x.1<=2 ^ r*M
 |0=>by intro x hx;obtain⟨s,hs,rfl⟩:=Cl.1 hx;simpa using hk s hs
 |r+1=>by
  intro x hx;have hp:M<=2 ^ (r+1)*M:=Nat.le_mul_of_pos_left _ (Gk _);rcases Mu.1 hx with h|h
  ·obtain⟨s,hs,rfl⟩:=Cl.1 h;exact Bm (hk s hs) hp
  ·obtain⟨a,b,ha,hb,rfl⟩:=Kl h;have h1:=PZ hk r a ha;have h2:=PZ hk r b hb;rw[Dl,Nat.mul_right_comm];show a.1+b.1<=_;omega
def nl(X:List It)(t:Nat):Nat:=(X.take t).countP zY
def Ci(k:Nat->Nat)(S:List Nat):Nat->Nat->Nat->Nat
 |0,t,s=>if s∈S.take (nl (rowN (lv k S) 0) t)then 1 else 0
 |r+1,t,s=>(if s∈S.take (nl (rowN (lv k S) (r+1)) t)then 1 else 0)+Ci k S r (2*(t-nl (rowN (lv k S) (r+1)) t)) s
theorem Mp(t:Nat)(ht:t<=S.length):nl (rowN (lv k S) 0) t=t:=by unfold nl rowN;have:((lv k S).take t).countP zY=((lv k S).take t).length:=List.countP_eq_length.2 fun x hx=>Ox x (CN hx);rw[this,Bc,Js];omega
theorem row_take(r t:Nat)(ht:t<=(rowN (lv k S) (r+1)).length):∃n q,n+q=t/\n<=S.length/\2*q<=(rowN (lv k S) r).length/\nl (rowN (lv k S) (r+1)) t=n/\
 ((rowN (lv k S) (r+1)).take t).Perm ((lv k S).take n++(ET (rowN (lv k S) r)).take q):=by
 rw[rowN,MC]at ht;obtain⟨n,q,h1,h2,h3,h4,h5⟩:=YA (lv k S) (ET (rowN (lv k S) r)) Ox (TQ (Nz r)) t ht;rw[Js]at h2;rw[Lc]at h3;exact⟨n,q,h1,h2,nB,h5,h4⟩
theorem TG(hS:S.Nodup)(n s:Nat):(S.take n).count s=if s∈S.take n then 1 else 0:=by have h:=hS.sublist (List.take_sublist n S);rw[h.count]
theorem PW(hS:S.Nodup):∀ (r t:Nat),t<=(rowN (lv k S) r).length->∀s,(flat ((rowN (lv k S) r).take t)).count s=Ci k S r t s
 |0,t,ht,s=>by rw[KV]at ht;rw[Ci,Mp t ht,<-TG hS,rowN,Rq,RG]
 |r+1,t,ht,s=>by obtain⟨n,q,h1,h2,h3,h4,h5⟩:=row_take r t ht;rw[Ci,h4,show t-n=q by omega,<-PW hS r (2*q) h3 s,<-TG hS];have:(flat ((rowN (lv k S) (r+1)).take t)).Perm (flat ((lv k S).take n++(ET (rowN (lv k S) r)).take q)):=h5.flatMap_right _;rw[this.count_eq,OY,List.count_append,T7 _ _ h3,Rq,RG]
end
def ins(k:Nat->Nat)(x:Nat):List Nat->List Nat
 | []=> [x]
 |y :: t=>if k x<k y then x :: y :: t else y :: ins k x t
theorem KN(k:Nat->Nat)(x:Nat):∀l,(ins k x l).Perm (x :: l)
 | []=>List.Perm.refl _
 |y :: t=>by
  rw[ins];split
  ·exact List.Perm.refl _
  ·exact((KN k x t).cons y).trans (List.Perm.swap x y t)
theorem Ts{k:Nat->Nat}{x:Nat}:∀ {l:List Nat},l.Pairwise (Lt k)->(∀y∈l,y<x)->(ins k x l).Pairwise (Lt k)
 | [],_,_=>by simp[ins]
 |y :: t,h,hx=>by
  rw[FN]at h;rw[ins];split
  ·rename_i i;refine FN.2 ⟨fun z hz=> ?_,FN.2 h⟩;rcases BK.1 hz with rfl|hz
   ·exact .inl i
   ·exact Lt.trans (.inl i) (h.1 z hz)
  ·rename_i j;refine FN.2 ⟨fun z hz=> ?_,Ts h.2 fun z hz=>hx z (Cm _ hz)⟩;rcases BK.1 ((KN k x t).mem_iff.1 hz)with rfl|hz
   ·have:=hx y pR;unfold Lt;omega
   ·exact h.1 z hz
def Bb(k:Nat->Nat):Nat->List Nat
 |0=> []
 |n+1=>if k n=0 then Bb k n else ins k n (Bb k n)
def used(k:Nat->Nat):Nat->List Nat
 |0=> []
 |n+1=>if k n=0 then used k n else used k n++ [n]
theorem Yi{k:Nat->Nat}:s∈used k n↔s<n/\k s≠0:=by
 induction n with
 |zero=>simp[used]
 |succ n ih=>
  rw[used];split
  ·rename_i h0;rw[ih];constructor
   ·rintro⟨h1,h2⟩;exact⟨nB,h2⟩
   ·rintro⟨h1,h2⟩;refine⟨?_,h2⟩;rcases Nat.lt_or_eq_of_le (Nat.lt_succ_iff.1 h1)with h|h
    ·exact h
    ·subst h;exact absurd h0 h2
  ·rename_i h0;rw[Bx,ih,Em];constructor
   ·rintro(⟨h1,h2⟩|rfl)
    ·exact⟨nB,h2⟩
    ·exact⟨nB,h0⟩
   ·rintro⟨h1,h2⟩;rcases Nat.lt_or_eq_of_le (Nat.lt_succ_iff.1 h1)with h|h
    ·exact .inl ⟨h,h2⟩
    ·exact .inr h
theorem SB(k:Nat->Nat):∀n,(used k n).length<=n
 |0=>by simp[used]
 |n+1=>by
  have:=SB k n;rw[used];split
  ·omega
  ·simp;omega
theorem KL(k:Nat->Nat):∀n,(Bb k n).Perm (used k n)
 |0=>List.Perm.refl _
 |n+1=>by
  rw[Bb,used];split
  ·exact KL k n
  ·refine(KN k n _).trans ?_;refine((KL k n).cons n).trans ?_;exact(List.perm_append_singleton n (used k n)).symm
theorem Kj{k:Nat->Nat}:s∈Bb k n↔s<n/\k s≠0:=by rw[(KL k n).mem_iff,Yi]
theorem IH(k:Nat->Nat):∀n,(Bb k n).Pairwise (Lt k)
 |0=>by simp[Bb]
 |n+1=>by
  rw[Bb];split
  ·exact IH k n
  ·exact Ts (IH k n) fun y hy=>(Kj.1 hy).1
theorem Lt.irrefl{k:Nat->Nat}:¬Lt k x x:=by unfold Lt;omega
theorem Ys(k:Nat->Nat)(n:Nat):(Bb k n).Nodup:=(IH k n).imp fun h e=>ql
theorem Og(k:Nat->Nat)(n:Nat):(Bb k n).length<=n:=by rw[(KL k n).length_eq];exact SB k n
def Jy(ks:List Nat)(limit:Nat):List Nat:=
 let k:=fun s=>ks.getD s 0
 let S:=Bb k ks.length
 if S.length<2 then(List.range ks.length).map fun s=>if s∈S then 1 else 0
 else(List.range ks.length).map (Ci k S (limit-1) (2*S.length-2))
def EI(ks:List Nat)(limit:Int):Int:=
 if ks.length>300∨limit<1∨limit>15 then 13 else if(Bb (fun s=>ks.getD s 0) ks.length).length>2 ^ limit.toNat then 6 else 0
def Dy(ks:List Nat)(limit:Int):List Nat:=if EI ks limit=0 then Jy ks limit.toNat else []
end Lens
namespace Lens
open Srt
def Asc(l:List It):Prop:=l.Pairwise fun x y=>x.1<=y.1
theorem Yc{k:Nat->Nat}(h:S.Pairwise (Lt k)):Asc (lv k S):=by unfold Asc lv;rw[List.pairwise_map];exact h.imp fun hx=>by unfold Lt at hx;show k _<=k _;omega
def sm(f:Nat->Nat):List Nat->Nat
 | []=>0
 |s :: t=>f s+sm f t
theorem Kh(f:Nat->Nat)(a b:List Nat):sm f (a++b)=sm f a+sm f b:=by
 induction a with
 |nil=>simp[sm]
 |cons x t ih=>rw[En,sm,sm,ih];omega
theorem lS{f:Nat->Nat}{a b:List Nat}(h:a.Perm b):sm f a=sm f b:=by
 induction h with
 |nil=>rfl
 |cons x _ ih=>rw[sm,sm,ih]
 |swap x y l=>simp only[sm];omega
 |trans _ _ h1 h2=>rw[h1,h2]
theorem Iq{f g:Nat->Nat}(h:∀s∈l,f s=g s):sm f l=sm g l:=by
 induction l with
 |nil=>rfl
 |cons x t ih=>rw[sm,sm,h x pR,ih fun s hs=>h s (Cm _ hs)]
theorem Wy{f g:Nat->Nat}(h:∀s∈l,f s<=g s):sm f l<=sm g l:=by
 induction l with
 |nil=>exact Am _
 |cons x t ih=>have h1:=h x pR;have h2:=ih fun s hs=>h s (Cm _ hs);rw[sm,sm];omega
theorem XR(f g:Nat->Nat)(l:List Nat):sm (fun s=>f s+g s) l=sm f l+sm g l:=by
 induction l with
 |nil=>rfl
 |cons x t ih=>rw[sm,sm,sm,ih];omega
theorem Xy(c:Nat)(f:Nat->Nat)(l:List Nat):sm (fun s=>c*f s) l=c*sm f l:=by
 induction l with
 |nil=>simp[sm]
 |cons x t ih=>rw[sm,sm,ih,Nat.mul_add]
theorem JU(c:Nat)(l:List Nat):sm (fun _=>c) l=l.length*c:=by
 induction l with
 |nil=>simp[sm]
 |cons x t ih=>rw[sm,ih,AI,Ex];omega
section
variable {k:Nat->Nat} {S:List Nat}
theorem Xg(r:Nat):∀x∈rowN (lv k S) r,x.1=sm k x.2/\∀s∈x.2,s∈S:=by
 induction r with
 |zero=>intro x hx;obtain⟨s,hs,rfl⟩:=Cl.1 hx;exact⟨by simp[sm],qk⟩
 |succ r ih=>
  intro x hx;rcases Mu.1 hx with h|h
  ·obtain⟨s,hs,rfl⟩:=Cl.1 h;exact⟨by simp[sm],qk⟩
  ·obtain⟨a,b,ha,hb,rfl⟩:=Kl h;refine⟨?_,fun s hs=> ?_⟩
   ·show a.1+b.1=sm k (a.2++b.2);rw[Kh,(ih a ha).1,(ih b hb).1]
   ·rcases Bx.1 hs with h|h
    ·exact(ih a ha).2 s h
    ·exact(ih b hb).2 s h
theorem k7(ls ps:List It)(hl:∀x∈ls,zY x=true)(hp:∀x∈ps,zY x=false)(ha:Asc ls)(t:Nat)(ht:t<=ls.length+ps.length):
 ∀n,((mrg ls ps).take t).countP zY=n->∀x,ls[n]? =some x->∀p∈ps.take (t-n),p.1<x.1:=by
 revert t
 refine Mz (M:=fun ls ps=>(∀x∈ls,zY x=true)->(∀x∈ps,zY x=false)->Asc ls->∀t,t<=ls.length+ps.length->
  ∀n,((mrg ls ps).take t).countP zY=n->∀x,ls[n]? =some x->∀p∈ps.take (t-n),p.1<x.1) ?_ ?_ ?_ ?_ ls ps hl hp ha
 ·intro ps _ _ _ t _ n _ x hx;simp at hx
 ·intro l ls _ _ _ t _ n _ x _ p hp;simp at hp
 ·intro l ls p ps h ih hl hp ha t ht n hn x hx q hq;rw[Lq h]at hn;rcases t with _|t
  ·simp at hn;subst hn;simp at hq
  ·rw[List.take_succ_cons,List.countP_cons,hl l pR]at hn;simp only[if_true]at hn;subst hn;rw[List.getElem?_cons_succ]at hx;rw[show ∀m,t+1-(m+1)=t-m from fun m=>nB]at hq;exact ih (fun x hx=>hl x (Cm _ hx)) hp (FN.1 ha).2 t pX _ rfl x hx q hq
 ·intro l ls p ps h ih hl hp ha t ht n hn x hx q hq;rw[Lo h]at hn;rcases t with _|t
  ·simp at hn;subst hn;simp at hq
  ·rw[List.take_succ_cons,List.countP_cons,hp p pR]at hn;simp only[Bool.false_eq_true,if_false,Nat.add_zero]at hn;have i:n<=t:=(by have:=List.countP_le_length (p:=zY) (l:=(mrg (l :: ls) ps).take t);rw[Bc]at this;omega);rw[show t+1-n=(t-n)+1 by omega,List.take_succ_cons]at hq;rcases BK.1 hq with rfl|hq
   ·have:l.1<=x.1:=by
     rcases n with _|n
     ·simp at hx;rw[hx];exact Am _
     ·rw[List.getElem?_cons_succ]at hx;exact(FN.1 ha).1 x (AY hx)
    omega
   ·exact ih hl (fun x hx=>hp x (Cm _ hx)) ha t pX n hn x hx q hq
theorem Sm:∀ {l:List It} {q:Nat} {x:It},x∈l.take (2*q)->2*q<=l.length->∃p∈(ET l).take q,x.1<=p.1
 |_,0,x,hx,_=>pT
 | [],q+1,x,_,h=>pS
 | [_],q+1,x,_,h=>by simp at h;omega
 |a :: b :: t,q+1,x,hx,h=>by
  rw[show 2*(q+1)=2*q+1+1 by omega,List.take_succ_cons,List.take_succ_cons]at hx;rw[Ky,List.take_succ_cons];rcases BK.1 hx with rfl|hx
  ·exact⟨_,CP,Nat.le_add_right _ _⟩
  ·rcases BK.1 hx with rfl|hx
   ·exact⟨_,CP,Nat.le_add_left _ _⟩
   ·obtain⟨p,hp,i⟩:=Sm hx (by simp only[List.length_cons]at h;omega);exact⟨p,Cm _ hp,i⟩
theorem Xu(r t:Nat)(ht:t<=(rowN (lv k S) r).length):nl (rowN (lv k S) r) t<=S.length/\∀x∈(lv k S).take (nl (rowN (lv k S) r) t),x∈(rowN (lv k S) r).take t:=by
 rcases r with _|r
 ·rw[KV]at ht;rw[Mp t ht];exact⟨ht,fun x hx=>hx⟩
 ·obtain⟨n,q,h1,h2,h3,h4,h5⟩:=row_take r t ht;rw[h4];exact⟨h2,fun x hx=>h5.mem_iff.2 (List.mem_append_left _ hx)⟩
theorem Q9(hS:S.Pairwise (Lt k))(r t:Nat)(ht:t<=(rowN (lv k S) (r+1)).length):
 2*(t-nl (rowN (lv k S) (r+1)) t)<=(rowN (lv k S) r).length/\nl (rowN (lv k S) r) (2*(t-nl (rowN (lv k S) (r+1)) t))<=nl (rowN (lv k S) (r+1)) t:=by
 obtain⟨n,q,h1,h2,h3,h4,h5⟩:=row_take r t ht;rw[h4,show t-n=q by omega];refine⟨h3,?_⟩;obtain⟨g1,g2⟩:=Xu r (2*q) h3;rcases Nat.lt_or_ge n (nl (rowN (lv k S) r) (2*q))with h|h
 ·exfalso;have i:n<(lv k S).length:=by rw[Js];omega
  have hx:(lv k S)[n]∈(lv k S).take (nl (rowN (lv k S) r) (2*q)):=List.mem_take_iff_getElem.2 ⟨n,nB,rfl⟩;obtain⟨p,hp,j⟩:=Sm (g2 _ hx) h3;have hc:=k7 (lv k S) (ET (rowN (lv k S) r)) Ox (TQ (Nz r)) (Yc hS) t (by rw[Js,Lc];rw[Ol]at ht;exact ht) n h4 _ (AD i) p (by rw[show t-n=q by omega];exact hp);omega
 ·exact h
theorem Uf(hS:S.Pairwise (Lt k)){m s:Nat}(hs:s ∉ S.take m):∀r t,t<=(rowN (lv k S) r).length->nl (rowN (lv k S) r) t<=m->Ci k S r t s=0
 |0,t,ht,h=>by rw[Ci,Ae];exact fun hm=>hs (List.take_subset_take_left _ h hm)
 |r+1,t,ht,h=>by obtain⟨h1,h2⟩:=Q9 hS r t ht;rw[Ci,Ae fun hm=>hs (List.take_subset_take_left _ h hm),Uf hS hs r _ h1 nB]
theorem QW(r t s:Nat):Ci k S r t s<=r+1:=by
 induction r generalizing t with
 |zero=>rw[Ci];split<;>omega
 |succ r ih=>rw[Ci];have:=ih (2*(t-nl (rowN (lv k S) (r+1)) t));split<;>omega
theorem weigh(hS:S.Pairwise (Lt k)):∀r t,t<=(rowN (lv k S) r).length->sm (fun s=>2 ^ (r+1-Ci k S r t s)) S+2 ^ r*t=S.length*2 ^ (r+1)
 |0,t,ht=>by
  have hN:S.Nodup:=hS.imp fun h e=>ql
  rw[KV]at ht;have e:sm (fun s=>2 ^ (0+1-Ci k S 0 t s)) S=sm (fun s=>2 ^ (0+1-Ci k S 0 t s)) (S.take t)+sm (fun s=>2 ^ (0+1-Ci k S 0 t s)) (S.drop t):=by rw[<-Kh,EX]
  have e1:sm (fun s=>2 ^ (0+1-Ci k S 0 t s)) (S.take t)=sm (fun _=>1) (S.take t):=Iq fun s hs=>by rw[Ci,Mp t ht,Ag hs]
  have e2:sm (fun s=>2 ^ (0+1-Ci k S 0 t s)) (S.drop t)=sm (fun _=>2) (S.drop t):=Iq fun s hs=>by rw[Ci,Mp t ht,Ae];intro i;have:=List.nodup_append.1 (by rw[EX];exact hN:(S.take t++S.drop t).Nodup);exact this.2.2 s i s hs rfl
  rw[e,e1,e2,JU,JU,Bc,AZ,Nat.min_eq_left ht];omega
 |r+1,t,ht=>by
  have hN:S.Nodup:=hS.imp fun h e=>ql
  obtain⟨h1,h2⟩:=Q9 hS r t ht;have ih:=weigh hS r _ h1;obtain⟨n',q,g1,g2,g3,g4,_⟩:=row_take r t ht;have e0:∀s,Ci k S (r+1) t s=(if s∈S.take n' then 1 else 0)+Ci k S r (2*q) s:=fun s=>by rw[Ci,g4,show t-n'=q by omega]
  rw[g4,show t-n'=q by omega]at h1 h2 ih
  have e:sm (fun s=>2 ^ (r+1+1-Ci k S (r+1) t s)) S=sm (fun s=>2 ^ (r+1-Ci k S r (2*q) s)) (S.take n')+sm (fun s=>2 ^ (r+1-Ci k S r (2*q) s)+2 ^ (r+1)) (S.drop n'):=by
   rw[<-EX n' S,Kh,EX];congr 1
   ·refine Iq fun s hs=> ?_;rw[e0,Ag hs];congr 1;omega
   ·refine Iq fun s hs=> ?_;have i:s ∉ S.take n':=(by intro i;have:=List.nodup_append.1 (by rw[EX];exact hN:(S.take n'++S.drop n').Nodup);exact this.2.2 s i s hs rfl);rw[e0,Ae i,Uf hS i r (2*q) h1 h2];simp only[Nat.add_zero,Nat.sub_zero];rw[Dl 2 (r+1)];omega
  rw[e,XR,JU,AZ,<-Nat.add_assoc,<-Kh,EX];have e5:2 ^ (r+1)*t=n'*2 ^ (r+1)+2 ^ r*(2*q):=by rw[<-g1,Nat.mul_add,Nat.mul_comm _ n',<-Nat.mul_assoc,<-Dl]
  have e6:(S.length-n')*2 ^ (r+1)+n'*2 ^ (r+1)=S.length*2 ^ (r+1):=by rw[<-Ex,Nat.sub_add_cancel g2]
  have e7:S.length*2 ^ (r+1+1)=S.length*2 ^ (r+1)+S.length*2 ^ (r+1):=by rw[Dl 2 (r+1),<-Nat.mul_assoc];omega
  omega
theorem full(hS:S.Pairwise (Lt k))(hn:2<=S.length)(hl:1<=limit)(h:S.length<=2 ^ limit):
 sm (fun s=>2 ^ (limit-Ci k S (limit-1) (2*S.length-2) s)) S=2 ^ limit/\∀s∈S,1<=Ci k S (limit-1) (2*S.length-2) s:=by
 have ht:=SY (k:=k) hl nB h;have hw:=weigh hS (limit-1) _ ht;rw[show limit-1+1=limit by omega]at hw;have e3:2 ^ (limit-1)*(2*S.length-2)+2 ^ limit=S.length*2 ^ limit:=by obtain⟨m,rfl⟩:∃m,limit=m+1:=⟨limit-1,nB⟩;obtain⟨n,E⟩:∃n,S.length=n+1:=⟨S.length-1,nB⟩;rw[E,Nat.add_sub_cancel,show 2*(n+1)-2=2*n by omega,Dl,Ex,Nat.one_mul,<-Nat.mul_assoc,Nat.mul_comm n]
 have i:sm (fun s=>2 ^ (limit-Ci k S (limit-1) (2*S.length-2) s)) S=2 ^ limit:=nB
 refine⟨i,fun s hs=> ?_⟩;rcases Nat.eq_zero_or_pos (Ci k S (limit-1) (2*S.length-2) s)with h0|h0
 ·exfalso;obtain⟨a,b,j⟩:=List.append_of_mem hs;have e4:sm (fun s=>2 ^ (limit-Ci k S (limit-1) (2*S.length-2) s)) S=sm (fun s=>2 ^ (limit-Ci k S (limit-1) (2*S.length-2) s)) (a++s :: b):=AM _ j;rw[i,Kh,sm,h0]at e4;have e5:∀T:List Nat,T.length<=sm (fun s=>2 ^ (limit-Ci k S (limit-1) (2*S.length-2) s)) T:=fun T=>by have:=Wy (f:=fun _=>1) (g:=fun s=>2 ^ (limit-Ci k S (limit-1) (2*S.length-2) s)) (l:=T) fun s _=>Gk _;rw[JU]at this;omega
  have h1:=e5 a;have h2:=e5 b;have h3:S.length=a.length+(b.length+1):=by rw[j,Aj,AI]
  simp only[Nat.sub_zero]at e4;omega
 ·exact h0
theorem XY(r t s:Nat)(hs:s ∉ S):Ci k S r t s=0:=by
 induction r generalizing t with
 |zero=>rw[Ci,Ae fun h=>hs (CN h)]
 |succ r ih=>rw[Ci,Ae fun h=>hs (CN h),ih]
end
end Lens
namespace Srt
open Go.RowKit Mem Own
end Srt
namespace Srt
open Go.RowKit Mem Own
def Drawn(w wr:World):Prop:=∃q,wr=w.drewN q
theorem Drawn.refl(w:World):Drawn w w:=⟨0,(World.drewN_zero w).symm⟩
theorem Drawn.more{w wr:World}(h:Drawn w wr)(q:Nat):Drawn w (wr.drewN q):=by obtain⟨p,rfl⟩:=h;exact⟨p+q,EW _ _ _⟩
end Srt
end Go.Proofs.YtfgdoknipbpfhaaGreatDoor
