/- Plain: numbers by pl -/
import Derived.Test.YtfgdoknipbpfhaaGreatDoorZTwoBack2
import Derived.BigRegion
import Derived.Deep.LoopGhost
import Derived.IntWalk
namespace Go.Proofs.YtfgdoknipbpfhaaGreatDoor
open Go.Proofs.Tryz
open Go.Lib (hid)
set_option maxHeartbeats 2000000
set_option maxRecDepth 100000
variable{A N a a' b b' c e g i j m n p q s x:Nat}{w w1 wr:World}{S l:List Nat}
section
def seg(f:Nat->Nat)(a b:Nat):List Nat:=(List.range' a (b-a)).map f
theorem seg_length(f:Nat->Nat)(a b:Nat):(seg f a b).length=b-a:=by simp[seg]
theorem Hp(f:Nat->Nat)(a b i:Nat)(h:i<(seg f a b).length):(seg f a b)[i]=f (a+i):=by simp[seg]
theorem Js{f g:Nat->Nat}(h:∀i,a<=i->i<b->f i=g i):seg f a b=seg g a b:=by refine List.ext_getElem (by rw[seg_length,seg_length]) fun i h1 h2=> ?_;rw[seg_length]at h1;rw[Hp,Hp];exact h _ nj nj
theorem RP{f g:Nat->Nat}(hd:b-a=b'-a')(h:∀i,i<b-a->f (a+i)=g (a'+i)):seg f a b=seg g a' b':=by refine List.ext_getElem (by rw[seg_length,seg_length,hd]) fun i h1 h2=> ?_;rw[seg_length]at h1;rw[Hp,Hp];exact h _ h1
theorem seg_append(f:Nat->Nat)(h1:a<=m)(h2:m<=b):seg f a b=seg f a m++seg f m b:=by
 refine List.ext_getElem (by rw[Ag,seg_length,seg_length,seg_length];omega) fun i h3 h4=> ?_;rw[Hp];rw[seg_length]at h3;by_cases hi:i<m-a
 ·rw[List.getElem_append_left rk,Hp]
 ·rw[List.getElem_append_right rk,Hp,seg_length];congr 1;omega
theorem J5{f:Nat->Nat}:x∈seg f a b↔∃i,a<=i/\i<b/\f i=x:=by
 unfold seg;rw[CH];constructor
 ·rintro⟨i,hi,rfl⟩;rw[List.mem_range'_1]at hi;exact⟨i,hi.1,nj,rfl⟩
 ·rintro⟨i,h1,h2,rfl⟩;exact⟨i,List.mem_range'_1.2 ⟨h1,nj⟩,rfl⟩
theorem Sp(f:Nat->Nat)(h:b<=a):seg f a b= []:=Gn rk
def swp(f:Nat->Nat)(p q:Nat)(i:Nat):Nat:=if i=p then f q else if i=q then f p else f i
def swr(f:Nat->Nat)(a b n:Nat)(i:Nat):Nat:=if a<=i/\i<a+n then f (b+(i-a))else if b<=i/\i<b+n then f (a+(i-b))else f i
def Al1(f:Nat->Nat)(a m b:Nat)(i:Nat):Nat:=if a<=i/\i<a+(b-m)then f (i+(m-a))else if a+(b-m)<=i/\i<b then f (i-(b-m))else f i
theorem dT(f:Nat->Nat)(a b:Nat):swr f a b 0=f:=by funext i;unfold swr;rw[Aa nj,Aa nj]
theorem cQ(f:Nat->Nat)(a b n:Nat)(h:a+n<b):swp (swr f a b n) (a+n) (b+n)=swr f a b (n+1):=by
 funext i
 unfold swp swr
 repeat' split
 all_goals first|rfl|(exfalso;omega)|(congr 1;omega)
theorem a2q{p:Prop}(h:p:=by
  unfold Al1 swr
  repeat' split
  all_goals first|rfl|(exfalso;omega)|(congr 1;omega)):p:=h
theorem XJ(f:Nat->Nat)(a i j:Nat)(h:j<i):Al1 f a (a+i) (a+i+j)=Al1 (swr f a (a+i) j) (a+j) (a+i) (a+i+j):=by
 funext x
 exact a2q
theorem Xk(f:Nat->Nat)(a i j:Nat)(h:i<j):Al1 f a (a+i) (a+i+j)=Al1 (swr f a (a+j) i) a (a+i) (a+j):=by
 funext x
 exact a2q
theorem qW(f:Nat->Nat)(a i:Nat):Al1 f a (a+i) (a+i+i)=swr f a (a+i) i:=by
 funext x
 exact a2q
theorem Mu(f:Nat->Nat)(ha:a<=m)(hb:m<=b)(h:a=m∨m=b):Al1 f a m b=f:=by
 funext x
 unfold Al1
 repeat' split
 all_goals first|rfl|(exfalso;omega)|(congr 1;omega)
theorem p8(f:Nat->Nat)(a t:Nat):swp (Al1 f a (a+1) (a+1+t)) (a+t) (a+t+1)=Al1 f a (a+1) (a+1+(t+1)):=by
 funext x
 unfold swp Al1
 repeat' split
 all_goals first|rfl|(exfalso;omega)|(congr 1;omega)
theorem UE(f:Nat->Nat)(m j:Nat)(h:j<m):swp (Al1 f (j+1) m (m+1)) (j+1) j=Al1 f j m (m+1):=by
 funext x
 unfold swp Al1
 repeat' split
 all_goals first|rfl|(exfalso;omega)|(congr 1;omega)
theorem NT(f:Nat->Nat)(h:i<a):Al1 f a m b i=f i:=by unfold Al1;rw[Aa nj,Aa nj]
theorem Ly(f:Nat->Nat)(h1:a<=i)(h2:i<a+(b-m)):Al1 f a m b i=f (i+(m-a)):=by unfold Al1;rw[Ab ⟨h1,h2⟩]
theorem Ph(f:Nat->Nat)(h1:a+(b-m)<=i)(h2:i<b):Al1 f a m b i=f (i-(b-m)):=by unfold Al1;rw[Aa nj,Ab ⟨h1,h2⟩]
theorem Sl(f:Nat->Nat)(ha:a<=m)(hm:m<=b)(h:b<=i):Al1 f a m b i=f i:=by unfold Al1;rw[Aa nj,Aa nj]
theorem bF(f:Nat->Nat)(ha:a<=m)(hm:m<=b):(seg (Al1 f a m b) a b).Perm (seg f a b):=by rw[seg_append (Al1 f a m b) (m:=a+(b-m)) nj nj,seg_append f ha hm];rw[RP (f:=Al1 f a m b) (g:=f) (a:=a) (b:=a+(b-m)) (a':=m) (b':=b) nj (fun i hi=>by rw[Ly f nj nj];congr 1;omega)];rw[RP (f:=Al1 f a m b) (g:=f) (a:=a+(b-m)) (b:=b) (a':=a) (b':=m) nj (fun i hi=>by rw[Ph f nj nj];congr 1;omega)];exact List.perm_append_comm
section
variable (k:Nat->Nat)
def Lt(x y:Nat):Prop:=k x<k y∨(k x=k y/\x<y)
def Sor(f:Nat->Nat)(a b:Nat):Prop:=∀i j,a<=i->i<j->j<b->Lt k (f i) (f j)
def Low(f:Nat->Nat)(a m b:Nat):Prop:=∀i j,a<=i->i<m->m<=j->j<b->f i<f j
def Crs(f:Nat->Nat)(a m e b:Nat):Prop:=∀i j,a<=i->i<m->e<=j->j<b->Lt k (f i) (f j)
def Mer(f f':Nat->Nat)(a b:Nat):Prop:=Sor k f' a b/\(seg f' a b).Perm (seg f a b)/\∀i,(i<a∨b<=i)->f' i=f i
end
variable {k:Nat->Nat}
theorem Lt.trans{y z:Nat}(h1:Lt k x y)(h2:Lt k y z):Lt k x z:=by unfold Lt at *;omega
theorem Sor.le{f:Nat->Nat}(h:Sor k f a b)(hi:a<=i)(y:i<=j)(hj:j<b):f i=f j∨Lt k (f i) (f j):=by
 rcases Nat.eq_or_lt_of_le y with e|e
 ·exact .inl (by rw[e])
 ·exact .inr (h i j hi e hj)
theorem Mer.refl{f:Nat->Nat}(h:Sor k f a b):Mer k f f a b:=⟨h,List.Perm.refl _,fun _ _=>rfl⟩
theorem Sor.few{f:Nat->Nat}(h:b<=a+1):Sor k f a b:=fun i j _ _ _=>nj
theorem Sor.sub{f:Nat->Nat}(h:Sor k f a b)(h1:a<=a')(h2:b'<=b):Sor k f a' b':=fun i j hi hij hj=>h i j nj hij nj
theorem Sor.congr{f g:Nat->Nat}(h:Sor k f a b)(he:∀i,a<=i->i<b->g i=f i):Sor k g a b:=fun i j hi hij hj=>by rw[he i hi nj,he j nj hj];exact h i j hi hij hj
theorem Sor.join{f:Nat->Nat}(h1:Sor k f a m)(h2:Sor k f m b)(h3:Crs k f a m m b):Sor k f a b:=fun i j hi hij hj=>by
 by_cases e:j<m
 ·exact h1 i j hi hij e
 ·by_cases e':i<m
  ·exact h3 i j hi e' nj hj
  ·exact h2 i j nj hij hj
theorem Mer.mem{f f':Nat->Nat}(h:Mer k f f' a b)(h1:a<=i)(h2:i<b):∃i',a<=i'/\i'<b/\f i'=f' i:=
 J5.1 (h.2.1.mem_iff.1 (J5.2 ⟨i,h1,h2,rfl⟩))
theorem Mer.join{f g h:Nat->Nat}(y:a<=m)(z:m<=b)(h1:Mer k f g a m)(h2:Mer k g h m b)(hc:Crs k f a m m b):Mer k f h a b:=by
 refine⟨Sor.join (m:=m) (h1.1.congr fun i _ hi=>h2.2.2 i nj) h2.1 fun i j hi him hj hjb=> ?_,?_,fun i hi=> ?_⟩
 ·rw[h2.2.2 i nj];obtain⟨i',a1,a2,a3⟩:=h1.mem hi him;obtain⟨j',b1,b2,b3⟩:=h2.mem hj hjb;rw[<-a3,<-b3,h1.2.2 j' nj];exact hc i' j' a1 a2 b1 b2
 ·rw[seg_append h y z,seg_append f y z];refine List.Perm.append ?_ ?_
  ·rw[Js (fun i _ hi=>h2.2.2 i nj)];exact h1.2.1
  ·refine h2.2.1.trans ?_;rw[Js (fun i hi _=>h1.2.2 i nj)]
 ·rw[h2.2.2 i nj,h1.2.2 i nj]
theorem Mer.trans{f g h:Nat->Nat}(hp:(seg g a b).Perm (seg f a b))(ho:∀i,(i<a∨b<=i)->g i=f i)(h2:Mer k g h a b):Mer k f h a b:=
 ⟨h2.1,h2.2.1.trans hp,fun i hi=>(h2.2.2 i hi).trans (ho i hi)⟩
theorem Ae1{f:Nat->Nat}(h1:a<=s)(h2:s<=m)(h3:m<=e)(h4:e<=b)(hl:Sor k f a m)(hr:Sor k f m b)(z:Low f a m b)
 (c1:Crs k f a s e b)(c2:∀i j,m<=i->i<e->s<=j->j<m->Lt k (f i) (f j)):
 (seg (Al1 f s m e) a b).Perm (seg f a b)/\(∀i,(i<a∨b<=i)->Al1 f s m e i=f i)/\
 Sor k (Al1 f s m e) a s/\Sor k (Al1 f s m e) s (s+(e-m))/\Low (Al1 f s m e) a s (s+(e-m))/\
 Sor k (Al1 f s m e) (s+(e-m)) e/\Sor k (Al1 f s m e) e b/\Low (Al1 f s m e) (s+(e-m)) e b/\Crs k (Al1 f s m e) a (s+(e-m)) (s+(e-m)) b:=by
 have p1:∀i,i<s->Al1 f s m e i=f i:=fun i hi=>NT f hi;have p2:∀i,s<=i->i<s+(e-m)->Al1 f s m e i=f (i+(m-s)):=fun i hi h=>Ly f hi h;have p3:∀i,s+(e-m)<=i->i<e->Al1 f s m e i=f (i-(e-m)):=fun i hi h=>Ph f hi h;have p4:∀i,e<=i->Al1 f s m e i=f i:=fun i hi=>Sl f h2 h3 hi;refine⟨?_,fun i hi=> ?_,?_,?_,?_,?_,?_,?_,?_⟩
 ·rw[seg_append (Al1 f s m e) h1 (by omega:s<=b),seg_append (Al1 f s m e) (by omega:s<=e) h4,seg_append f h1 (by omega:s<=b),seg_append f (by omega:s<=e) h4];refine List.Perm.append ?_ (List.Perm.append (bF f h2 h3) ?_)
  ·rw[Js (fun i _ hi=>p1 i hi)]
  ·rw[Js (fun i hi _=>p4 i hi)]
 ·rcases hi with hi|hi
  ·exact p1 i nj
  ·exact p4 i nj
 ·exact(hl.sub (Ak a) h2).congr fun i _ hi=>p1 i hi
 ·intro i j hi E hj;rw[p2 i hi nj,p2 j nj hj];exact hr _ _ nj nj nj
 ·intro i j hi h hj y;rw[p1 i h,p2 j hj y];exact z _ _ hi nj nj nj
 ·intro i j hi E hj;rw[p3 i hi nj,p3 j nj hj];exact hl _ _ nj nj nj
 ·intro i j hi E hj;rw[p4 i hi,p4 j nj];exact hr _ _ nj E hj
 ·intro i j hi h hj y;rw[p3 i hi h,p4 j hj];exact z _ _ nj nj nj y
 ·intro i j hi h hj y;by_cases x1:i<s
  ·rw[p1 i x1];by_cases x2:j<e
   ·rw[p3 j hj x2];exact hl _ _ hi nj nj
   ·rw[p4 j nj];exact c1 _ _ hi x1 nj y
  ·rw[p2 i nj h];by_cases x2:j<e
   ·rw[p3 j hj x2];exact c2 _ _ nj nj nj nj
   ·rw[p4 j nj];exact hr _ _ nj nj nj
theorem a1z{p:Prop}(h:p:=by
  rcases y1 with y1|y1
  ·rw[y1];rcases y2 with y2|y2
   ·rw[<-y2];exact y3
   ·exact y3.trans y2
  ·rcases y2 with y2|y2
   ·rw[<-y2];exact y1.trans y3
   ·exact(y1.trans y3).trans y2):p:=h
theorem oV{f:Nat->Nat}(h2:s<=m)(h3:m<=e)(hl:Sor k f a m)(hr:Sor k f m b)(y:Low f a m b)
 (h:s=a∨e=b∨(a<s/\e<b/\k (f (s-1))<=k (f e))):Crs k f a s e b:=by
 intro i j hi E hj z;rcases h with h|h|⟨x1,x2,x3⟩
 ·omega
 ·omega
 ·have y1:=hl.le hi (by omega:i<=s-1) nj;have y2:=hr.le h3 hj z;have y3:Lt k (f (s-1)) (f e):=by have:=y (s-1) e nj nj h3 x2;unfold Lt;omega
  exact a1z
theorem QF{f:Nat->Nat}(h1:a<=s)(h4:e<=b)(hl:Sor k f a m)(hr:Sor k f m b)
 (h:s=m∨e=m∨(s<m/\m<e/\k (f (e-1))<k (f s))):∀i j,m<=i->i<e->s<=j->j<m->Lt k (f i) (f j):=by
 intro i j hi z hj y;rcases h with h|h|⟨x1,x2,x3⟩
 ·omega
 ·omega
 ·have y1:=hr.le hi (by omega:i<=e-1) nj;have y2:=hl.le h1 hj y;have y3:Lt k (f (e-1)) (f s):= .inl x3;exact a1z
theorem Us{f:Nat->Nat}(h1:a<=s)(h2:s<=m)(hl:Sor k f a m)(h:Low f a m (m+1))(g1:s=a∨k (f (s-1))<=k (f m))(g2:s=m∨k (f m)<k (f s)):
 Mer k f (Al1 f s m (m+1)) a (m+1):=by
 have c1:Crs k f a s (m+1) (m+1):=fun i j _ _ _ _=>nj
 have c2:=QF (k:=k) (f:=f) (a:=a) (s:=s) (m:=m) (e:=m+1) (b:=m+1) h1 (Ak _) hl (Sor.few nj) (by
  rcases g2 with g2|g2
  ·exact .inl g2
  ·by_cases e:s=m
   ·exact .inl e
   ·exact .inr (.inr ⟨nj,nj,by simpa using g2⟩))
 obtain⟨hp,ho,s1,s2,l1,s3,s4,l2,hc⟩:=Ae1 h1 h2 (by omega:m<=m+1) (Ak _) hl (Sor.few nj) h c1 c2;refine⟨?_,hp,ho⟩;rw[show s+(m+1-m)=s+1 by omega]at *;refine Sor.join (m:=s+1) (Sor.join s1 s2 fun i j hi hi' hj hj'=> ?_) s3 hc;obtain rfl:j=s:=nj
 rw[NT f hi',Ly f (Ak _) nj,show j+(m-j)=m by omega];rcases g1 with g1|g1
 ·omega
 ·have y1:=hl.le hi (by omega:i<=j-1) nj;have y2:=h (j-1) m nj nj (Ak _) nj;have y3:Lt k (f (j-1)) (f m):=by unfold Lt;omega
  rcases y1 with y1|y1
  ·rw[y1];exact y3
  ·exact y1.trans y3
theorem m4{f:Nat->Nat}(h3:a+1<=e)(h4:e<=b)(hr:Sor k f (a+1) b)(h:Low f a (a+1) b)(g1:e=b∨k (f a)<=k (f e))(g2:e=a+1∨k (f (e-1))<k (f a)):
 Mer k f (Al1 f a (a+1) e) a b:=by
 have c1:Crs k f a a e b:=fun i j _ _ _ _=>nj
 have c2:=QF (k:=k) (f:=f) (a:=a) (s:=a) (m:=a+1) (e:=e) (b:=b) (Ak _) h4 (Sor.few nj) hr (by
  rcases g2 with g2|g2
  ·exact .inr (.inl g2)
  ·by_cases e':e=a+1
   ·exact .inr (.inl e')
   ·exact .inr (.inr ⟨nj,nj,g2⟩))
 obtain⟨hp,ho,s1,s2,l1,s3,s4,l2,hc⟩:=Ae1 (Ak a) (by omega:a<=a+1) h3 h4 (Sor.few nj) hr h c1 c2;refine⟨?_,hp,ho⟩;rw[show a+(e-(a+1))=e-1 by omega]at *;refine Sor.join (m:=e-1) s2 (Sor.join (m:=e) s3 s4 fun i j hi hi' hj hj'=> ?_) hc;obtain rfl:i=e-1:=nj
 rw[Sl f nj h3 hj,Ph f nj hi',show e-1-(e-(a+1))=a by omega];rcases g1 with g1|g1
 ·omega
 ·have y1:=hr.le nj hj hj';have y2:=h a e (Ak _) nj nj nj;have y3:Lt k (f a) (f e):=by unfold Lt;omega
  rcases y1 with y1|y1
  ·rw[<-y1];exact y3
  ·exact y3.trans y1
theorem eI{f f0:Nat->Nat}(h0:∀i j,a<=i->i<j->j<b->f0 i<f0 j)(h1:(seg f a m).Perm (seg f0 a m))(h2:(seg f m b).Perm (seg f0 m b)):Low f a m b:=by intro i j hi y hj h;obtain⟨i',a1,a2,a3⟩:=J5.1 (h1.mem_iff.1 (J5.2 ⟨i,hi,y,rfl⟩));obtain⟨j',b1,b2,b3⟩:=J5.1 (h2.mem_iff.1 (J5.2 ⟨j,hj,h,rfl⟩));rw[<-a3,<-b3];exact h0 i' j' a1 nj b2
theorem Ug{f g:Nat->Nat}(h0:∀i j,a<=i->i<j->j<b->f i<f j)(hm:Mer k f g a m)(hb:m<b)(h:a<=m)(h1:a<=s)(h2:s<=m)
 (g1:s=a∨k (g (s-1))<=k (g m))(g2:s=m∨k (g m)<k (g s)):Mer k f (Al1 g s m (m+1)) a (m+1):=by
 have y:g m=f m:=hm.2.2 m nj;refine Mer.trans (g:=g) ?_ (fun i hi=>hm.2.2 i nj) (Us h1 h2 hm.1 (fun i j hi hi' hj hj'=> ?_) g1 g2)
 ·rw[seg_append g h (by omega:m<=m+1),seg_append f h (by omega:m<=m+1)];refine hm.2.1.append ?_;rw[Js (fun i hi hi'=>hm.2.2 i nj)]
 ·obtain rfl:j=m:=by omega
  obtain⟨i',a1,a2,a3⟩:=hm.mem hi hi';rw[<-a3,y];exact h0 i' j a1 a2 hb
def Al2(k:Nat->Nat)(f0 f:Nat->Nat)(a b:Nat):Prop:=Sor k f a b/\(seg f a b).Perm (seg f0 a b)
theorem Al2.congr{f0 f g:Nat->Nat}(h:Al2 k f0 f a b)(he:∀i,a<=i->i<b->g i=f i):Al2 k f0 g a b:=⟨h.1.congr he,by rw[Js he];exact h.2⟩
theorem Al2.mer{f0 f g:Nat->Nat}(h:a<=m)(i:m<=b)(h1:Al2 k f0 f a m)(h2:Al2 k f0 f m b)(hm:Mer k f g a b):Al2 k f0 g a b:=
 ⟨hm.1,hm.2.1.trans (by rw[seg_append f h i,seg_append f0 h i];exact h1.2.append h2.2)⟩
theorem Al2.nil{f0 f:Nat->Nat}(h:b<=a):Al2 k f0 f a b:=⟨Sor.few nj,by rw[Sp f h,Sp f0 h]⟩
def Bl(k:Nat->Nat)(f0 f:Nat->Nat)(n s c:Nat):Prop:=Al2 k f0 f (min (s*c) n) (min (s*(c+1)) n)
def Ph1(k:Nat->Nat)(f0 f:Nat->Nat)(n c:Nat):Prop:=(∀c',c'<c->Bl k f0 f n 20 c')/\∀i,20*c<=i->f i=f0 i
def Ph2(k:Nat->Nat)(f0 f:Nat->Nat)(n s c:Nat):Prop:=(∀c',c'<c->Bl k f0 f n (2*s) c')/\∀c',2*c<=c'->Bl k f0 f n s c'
theorem Ph1.start(f:Nat->Nat)(n:Nat):Ph1 k f f n 0:=⟨fun c' h=>nj,fun _ _=>rfl⟩
theorem Ph1.step{f0 f g:Nat->Nat}(h:Ph1 k f0 f n c)(hm:Mer k f g (20*c) (20*c+20))(hn:20*c+20<=n):Ph1 k f0 g n (c+1):=by
 refine⟨fun c' hc=> ?_,fun i hi=> ?_⟩
 ·by_cases e:c'=c
  ·subst e;unfold Bl;rw[Nat.min_eq_left nj,Nat.min_eq_left nj];refine⟨hm.1,hm.2.1.trans ?_⟩;rw[Js (g:=f0) (fun i hi _=>h.2 i hi)];exact List.Perm.refl _
  ·exact(h.1 c' nj).congr fun i _ hi=>hm.2.2 i nj
 ·rw[hm.2.2 i nj,h.2 i nj]
theorem Ph1.done{f0 f g:Nat->Nat}(h:Ph1 k f0 f n c)(hm:Mer k f g (20*c) n)(hn:n<20*c+20)(j:20*c<=n):Ph2 k f0 g n 20 0:=by
 refine⟨fun c' h=>nj,fun c' _=> ?_⟩;rcases Nat.lt_trichotomy c' c with e|e|e
 ·exact(h.1 c' e).congr fun i _ hi=>hm.2.2 i nj
 ·subst e;unfold Bl;rw[Nat.min_eq_left nj,Nat.min_eq_right nj];refine⟨hm.1,hm.2.1.trans ?_⟩;rw[Js (fun i hi _=>h.2 i hi)]
 ·exact Al2.nil nj
theorem Ph2.parts{f0 f:Nat->Nat}(h0:∀i j,i<j->j<n->f0 i<f0 j)(h:Ph2 k f0 f n s c)(hA:A=2*s*c)(hm:A+s<=n)(hb:b=min (A+2*s) n):
 Al2 k f0 f A (A+s)/\Al2 k f0 f (A+s) b/\Low f A (A+s) b:=by
 have e1:s*(2*c)=A:=by rw[hA,Nat.mul_comm 2 s,Nat.mul_assoc]
 have e2:s*(2*c+1)=A+s:=by rw[Nat.mul_add,e1,CZ]
 have e3:s*(2*c+1+1)=A+2*s:=by rw[Nat.mul_add,e2];omega
 have x1:=h.2 (2*c) nj;have x2:=h.2 (2*c+1) nj;unfold Bl at x1 x2;rw[e1,e2,Nat.min_eq_left nj,Nat.min_eq_left nj]at x1;rw[e2,e3,Nat.min_eq_left nj,<-hb]at x2;exact⟨x1,x2,eI (f0:=f0) (fun i j _ hij hj=>h0 i j hij nj) x1.2 x2.2⟩
theorem Ph2.far{f0 f g:Nat->Nat}(h:Ph2 k f0 f n s c)(hA:A=2*s*c)(hb:b=A+2*s)(ho:∀i,(i<A∨b<=i∨n<=i)->g i=f i)(hx:Bl k f0 g n (2*s) c):Ph2 k f0 g n s (c+1):=by
 refine⟨fun c' hc=> ?_,fun c' hc=> ?_⟩
 ·by_cases e:c'=c
  ·subst e;exact hx
  ·have:2*s*(c'+1)<=2*s*c:=Nat.mul_le_mul_left _ nj;exact(h.1 c' nj).congr fun i _ hi=>ho i nj
 ·have e1:s*(2*(c+1))=b:=by rw[hb,hA,Nat.mul_add 2 c 1,Nat.mul_add,Nat.mul_comm 2 s,Nat.mul_assoc s 2 c]
  have:s*(2*(c+1))<=s*c':=Nat.mul_le_mul_left _ hc;exact(h.2 c' nj).congr fun i hi hi'=>ho i nj
theorem Ph2.step{f0 f g:Nat->Nat}(h:Ph2 k f0 f n s c)(hA:A=2*s*c)(hb:b=A+2*s)(hn:b<=n)(h1:Al2 k f0 f A (A+s))(h2:Al2 k f0 f (A+s) b)(hm:Mer k f g A b):Ph2 k f0 g n s (c+1):=by
 refine h.far hA hb (fun i hi=>hm.2.2 i nj) ?_;have e3:2*s*(c+1)=b:=qn
 unfold Bl;rw[e3,<-hA,Nat.min_eq_left nj,Nat.min_eq_left hn];exact Al2.mer nj nj h1 h2 hm
theorem Ph2.last{f0 f:Nat->Nat}(h:Ph2 k f0 f n s c)(hA:A=2*s*c)(hb:b=A+2*s)(hn:n<b)(hx:Al2 k f0 f (min A n) n):∀c',Bl k f0 f n (2*s) c':=by
 intro c';have e3:2*s*(c+1)=b:=qn
 rcases Nat.lt_trichotomy c' c with e|e|e
 ·exact h.1 c' e
 ·subst e;unfold Bl;rw[e3,<-hA,Nat.min_eq_right (show n<=b by omega)];exact hx
 ·have:2*s*(c+1)<=2*s*c':=Nat.mul_le_mul_left _ nj;exact Al2.nil nj
theorem Ph2.last_few{f0 f:Nat->Nat}(h:Ph2 k f0 f n s c)(hA:A=2*s*c)(hb:b=A+2*s)(hn:n<b)(hm:n<=A+s):∀c',Bl k f0 f n (2*s) c':=by
 refine h.last hA hb hn ?_;have e1:s*(2*c)=A:=by rw[hA,Nat.mul_comm 2 s,Nat.mul_assoc]
 have e2:s*(2*c+1)=A+s:=by rw[Nat.mul_add,e1,CZ]
 have x1:=h.2 (2*c) nj;unfold Bl at x1;rw[e1,e2,Nat.min_eq_right hm]at x1;exact x1
theorem Ph2.last_more{f0 f g:Nat->Nat}(h:Ph2 k f0 f n s c)(hA:A=2*s*c)(hb:b=A+2*s)(hn:n<b)(hm:A+s<=n)(h1:Al2 k f0 f A (A+s))(h2:Al2 k f0 f (A+s) n)(hg:Mer k f g A n):∀c',Bl k f0 g n (2*s) c':=by
 have h':Ph2 k f0 g n s (c+1):=by
  refine h.far hA hb (fun i hi=>hg.2.2 i nj) ?_;have e3:2*s*(c+1)=b:=qn
  unfold Bl;rw[e3,<-hA,Nat.min_eq_left nj,Nat.min_eq_right nj];exact Al2.mer nj hm h1 h2 hg
 intro c';have e3:2*s*(c+1)=b:=qn
 by_cases e:c'<c+1
 ·exact h'.1 c' e
 ·have:2*s*(c+1)<=2*s*c':=Nat.mul_le_mul_left _ nj;exact Al2.nil nj
theorem Ph2.next{f0 f:Nat->Nat}(h:∀c',Bl k f0 f n s c'):Ph2 k f0 f n s 0:=⟨fun c' h=>nj,fun c' _=>h c'⟩
theorem Ph2.all{f0 f:Nat->Nat}(h:Ph2 k f0 f n s 0)(hs:n<=s):Al2 k f0 f 0 n:=by have x:=h.2 0 nj;unfold Bl at x;rw[Nat.mul_zero,Nat.zero_min,Ca,CZ,Nat.min_eq_right hs]at x;exact x
end
open Go.RowKit
def Dat(w:World)(g n:Nat)(f:Nat->Nat):Prop:=∃cs:Array Value,Blk w g 3 cs/\n<=cs.size/\∀i,i<n->cs[i]? =some (.int .i64 (f i:Nat))
theorem Dat.cell{f:Nat->Nat}(h:Dat w g n f)(hi:i<n):w.cell? ⟨g,i,none⟩=some (.int .i64 (f i:Nat)):=by obtain⟨cs,hb,_,hc⟩:=h;rw[hb.cell];exact hc i hi
theorem Dat.frozen{f:Nat->Nat}(h:Dat w g n f)(i:Nat):w.frozen? ⟨g,i,none⟩=false:=by obtain⟨cs,hb,_,_⟩:=h;exact hb.frozen i
theorem Dat.lt{f:Nat->Nat}(h:Dat w g n f):g<w.heap.size:=by obtain⟨cs,hb,_,_⟩:=h;exact hb.lt
theorem Dat.drew{f:Nat->Nat}(h:Dat w g n f):Dat w.drew g n f:=h
theorem Dat.drewN{f:Nat->Nat}(h:Dat w g n f)(k:Nat):Dat (w.drewN k) g n f:=h
theorem Dat.swap{f:Nat->Nat}(h:Dat w g n f)(hp:p<n)(hq:q<n)(j:p≠q):
 Dat ((w.setCell ⟨g,p,none⟩ (.int .i64 (f q:Nat))).setCell ⟨g,q,none⟩ (.int .i64 (f p:Nat))) g n (swp f p q):=by
 obtain⟨cs,hb,hs,hc⟩:=h;refine⟨_,(hb.set p _).set q _,by simpa using hs,fun i hi=> ?_⟩;rw[Gp,Gp];unfold swp;by_cases e1:q=i
 ·subst e1;rw[Ab rfl,Ab sj,Aa (Ba j),Ab rfl]
 ·rw[Aa e1];by_cases e2:p=i
  ·subst e2;rw[Ab rfl,Ab nj,Ab rfl]
  ·rw[Aa e2,Aa (Ba e2),Aa (Ba e1),hc i hi]
def Put(g n:Nat)(f:Nat->Nat)(w w':World):Prop:=Dat w' g n f/\Kept (fun b=>b<w.heap.size/\b≠g) w w'
theorem Put.trans{f f':Nat->Nat}{w2:World}(h1:Put g n f w w1)(h2:Put g n f' w1 w2):Put g n f' w w2:=by have hz:=h1.2.size;exact⟨h2.1,h1.2.trans ⟨h2.2.os,h2.2.tape,h2.2.output,h2.2.size,fun b hb=>h2.2.block b ⟨by have:=hb.1;omega,hb.2⟩⟩⟩
theorem Put.swap{f:Nat->Nat}(h:Put g n f w w1)(hp:p<n)(hq:q<n)(i:p≠q):
 Put g n (swp f p q) w ((w1.setCell ⟨g,p,none⟩ (.int .i64 (f q:Nat))).setCell ⟨g,q,none⟩ (.int .i64 (f p:Nat))):=
 ⟨h.1.swap hp hq i,(h.2.set (fun hb=>hb.2 rfl) _).set (fun hb=>hb.2 rfl) _⟩
theorem Put.drew{f:Nat->Nat}(h:Put g n f w w1):Put g n f w w1.drew:=⟨h.1.drew,h.2.drew⟩
theorem Put.drewN{f:Nat->Nat}(h:Put g n f w w1)(k:Nat):Put g n f w (w1.drewN k):=⟨h.1.drewN k,h.2.drewN k⟩
theorem Put.refl{f:Nat->Nat}(h:Dat w g n f):Put g n f w w:=⟨h,Kept.refl _ _⟩
theorem Y7(w:World)(g n c a b m:Nat)(f:Nat->Nat)(u:Value)(hN:n<=9223372036854775807)(y:a+m<=b)(hb:b+m<=n)(hd:Dat w g n f):
 Calls prog 397 #[.slice (some ⟨g,0,none⟩) n c,a,b,m,u] w fun e w'=>e= .returned (.tuple #[])/\Put g n (swr f a b m) w w':=by
 have p0:Put g n (swr f a b 0) w w:=by rw[dT];exact Put.refl hd
 clear hd;go_enter func397,ntmps397;go_wp2_with fail;go_loopw [10] (fun i wr=>∃k:Nat,k<=m/\i= .int .i64 k/\Hid (Put g n (swr f a b k) w wr)) (fun i _=>m-(intOf i).toNat)
 case atStart=>exact⟨0,Bf _,rfl,p0⟩
 case round=>
  clear p0;obtain⟨k,hk,rfl,hp⟩:=hrel;by_cases z:k<m
  ·have c1:=hp.out.1.cell (i:=a+k) nj;have c2:=hp.out.1.cell (i:=b+k) nj;have f1:=hp.out.1.frozen (a+k);have f2:=hp.out.1.frozen (b+k);have h:=(hp.out.swap (p:=a+k) (q:=b+k) nj nj nj).drew;rw[cQ f a b k nj]at h;have j:=hid h;clear h;generalize swr f a b k (a+k)=v1 at *;generalize swr f a b k (b+k)=v2 at *;have s1:IntKind.i64.wrap ((a:Int)+(k:Int))=(a:Int)+(k:Int):=Ar _ nj;have s2:IntKind.i64.wrap ((b:Int)+(k:Int))=(b:Int)+(k:Int):=Ar _ nj;have x1:(0:Int)<=(a:Int)+(k:Int):=nj;have x2:(0:Int)<=(b:Int)+(k:Int):=nj;have x3:(a:Int)+(k:Int)<(n:Int):=nj;have x4:(b:Int)+(k:Int)<(n:Int):=nj;have x5:((a:Int)+(k:Int)).toNat=a+k:=nj;have x6:((b:Int)+(k:Int)).toNat=b+k:=nj;go_wp2_with fail;go_region;clear s1 s2 x5 x6;go_wp2_with fail;go_roundw
   case rel=>go_light;exact⟨k+1,nj,jr,j⟩
   case measure=>exact jq
  ·obtain rfl:k=m:=by omega
   go_wp2_with fail;refine bodyPost_end (Cb rfl _ _ _) rfl ⟨rfl,hp.out⟩
theorem YJ(g n c:Nat)(u:Value)(hN:n<=4611686018427387904):∀ (wx:World) (x y z:Int) (a b m:Nat) (f:Nat->Nat),x=a->y=b->z=m->a+m<=b->b+m<=n->Dat wx g n f->
 Calls prog 397 #[.slice (some ⟨g,0,none⟩) n c,x,y,z,u] wx fun e w'=>e= .returned (.tuple #[])/\Put g n (swr f a b m) wx w':=by
 intro wx x y z a b m f h1 h2 h3 h4 h5 h6;subst h1 h2 h3;exact Y7 wx g n c a b m f u nj h4 h5 h6
def Rotd(g n:Nat)(w:World)(fin:Nat->Nat)(m i j:Nat)(wr:World):Prop:=∃f,Put g n f w wr/\Al1 f (m-i) m (m+j)=fin
theorem Rotd.gt{y f:Nat->Nat}(h:Put g n f w wr)(hr:Al1 f (m-i) m (m+j)=y)(h1:Put g n (swr f (m-i) m j) wr w1)(z:j<i)(E:i<=m):Rotd g n w y m (i-j) j w1:=by refine⟨_,h.trans h1,?_⟩;have:=XJ f (m-i) i j z;rw[show m-i+i=m by omega,show m-i+j=m-(i-j) by omega]at this;rw[<-this,hr]
theorem Rotd.lt{y f:Nat->Nat}(h:Put g n f w wr)(hr:Al1 f (m-i) m (m+j)=y)(h1:Put g n (swr f (m-i) (m+j-i) i) wr w1)(z:i<j)(E:i<=m):Rotd g n w y m i (j-i) w1:=by refine⟨_,h.trans h1,?_⟩;have:=Xk f (m-i) i j z;rw[show m-i+i=m by omega,show m-i+j=m+j-i by omega,show m+j-i=m+(j-i) by omega]at this;rw[show m+j-i=m+(j-i) by omega,<-this,hr]
theorem Rotd.eq{j f:Nat->Nat}(h:Put g n f w wr)(hr:Al1 f (m-i) m (m+i)=j)(h1:Put g n (swr f (m-i) m i) wr w1)(y:i<=m):Put g n j w w1:=by have:=qW f (m-i) i;rw[show m-i+i=m by omega]at this;rw[<-hr,this];exact h.trans h1
theorem Yo(w:World)(g n c a m b:Nat)(f:Nat->Nat)(u:Value)(hN:n<=4611686018427387904)(Q:a<m)(U:m<b)(hb:b<=n)(hd:Dat w g n f):
 Calls prog 387 #[.slice (some ⟨g,0,none⟩) n c,a,m,b,u] w fun e w'=>e= .returned (.tuple #[])/\Put g n (Al1 f a m b) w w':=by
 have p0:Hid (Rotd g n w (Al1 f a m b) m (m-a) (b-m) w):=⟨f,Put.refl hd,by rw[show m-(m-a)=a by omega,show m+(b-m)=b by omega]⟩;generalize Al1 f a m b=J at *;have C:=hid (YJ g n c u hN);clear hd;go_enter func387,ntmps387;go_wp2_with fail;go_loopw [10,11] (fun iv jv wr=>∃i j:Nat,0<i/\0<j/\i<=m/\m+j<=n/\iv= .int .i64 i/\jv= .int .i64 j/\Hid (Rotd g n w J m i j wr)) (fun i j _=>(intOf i).toNat+(intOf j).toNat)
 case atStart=>exact⟨m-a,b-m,nj,nj,nj,nj,Aw (Value.int .i64) nj,Aw (Value.int .i64) nj,p0⟩
 case round=>
  clear p0;obtain⟨i,j,hi,hj,z,M,rfl,rfl,hp⟩:=hrel;obtain⟨f',E,G⟩:=hp.out;have HR:=hid G;have HP:=hid E;clear G hp E;by_cases L:j<i
  ·have b1:((i:Int) != (j:Int))=true:=sj;go_wp2_with fail;refine(C.out _ _ _ _ (m-i) m j f' nj rfl rfl nj nj HP.out.1).mono ?_;rintro e w1 ⟨rfl,h⟩;have y:=hid (Rotd.gt HP.out HR.out h L z);clear h b1;go_wp2_with fail;go_roundw
   case rel=>go_light;exact⟨i-j,j,nj,hj,nj,M,Aw (Value.int .i64) nj,rfl,y⟩
   case measure=>exact jq
  ·by_cases N:i<j
   ·have b1:((i:Int) != (j:Int))=true:=sj;go_wp2_with fail;refine(C.out _ _ _ _ (m-i) (m+j-i) i f' nj nj rfl nj nj HP.out.1).mono ?_;rintro e w1 ⟨rfl,h⟩;have y:=hid (Rotd.lt HP.out HR.out h N z);clear h b1;go_wp2_with fail;go_roundw
    case rel=>go_light;exact⟨i,j-i,nj,nj,nj,nj,rfl,Aw (Value.int .i64) nj,y⟩
    case measure=>exact jq
   ·obtain rfl:i=j:=by omega
    go_wp2_with fail;refine(C.out _ _ _ _ (m-i) m i f' nj rfl rfl nj nj HP.out.1).mono ?_;rintro e w1 ⟨rfl,h⟩;have y:=hid (Rotd.eq HP.out HR.out h z);clear h;go_wp2_with fail;refine bodyPost_end (Cb rfl _ _ _) rfl ⟨rfl,y.out⟩
abbrev It:=Nat×List Nat
def CL(x:It):Bool:=x.2.length==1
def Ey:List It->List It
 |x :: y :: t=>(x.1+y.1,x.2++y.2) :: Ey t
 |_=> []
def mrg:List It->List It->List It
 | [],ps=>ps
 |l :: ls,[]=>l :: ls
 |l :: ls,p :: ps=>if l.1<=p.1 then l :: mrg ls (p :: ps)else p :: mrg (l :: ls) ps
termination_by ls ps=>ls.length+ps.length
def Ae3(L:List It):Nat->List It
 |0=>L
 |r+1=>mrg L (Ey (Ae3 L r))
theorem Ky(ps:List It):mrg [] ps=ps:=by rw[mrg]
theorem Lw(ls:List It):mrg ls []=ls:=by
 cases ls with
 |nil=>rw[mrg]
 |cons l ls=>rw[mrg]
theorem LM{l p:It}{ls ps:List It}(h:l.1<=p.1):mrg (l :: ls) (p :: ps)=l :: mrg ls (p :: ps):=by rw[mrg,Ab h]
theorem LJ{l p:It}{ls ps:List It}(h:¬l.1<=p.1):mrg (l :: ls) (p :: ps)=p :: mrg (l :: ls) ps:=by rw[mrg,Aa h]
theorem MD{M:List It->List It->Prop}(h1:∀ps,M [] ps)(h2:∀l ls,M (l :: ls) [])(h3:∀l ls p ps,l.1<=p.1->M ls (p :: ps)->M (l :: ls) (p :: ps))
 (h4:∀l ls p ps,¬l.1<=p.1->M (l :: ls) ps->M (l :: ls) (p :: ps)):∀ls ps,M ls ps:=by
 intro ls ps;obtain⟨n,hn⟩:=ii (ls.length+ps.length)
 induction n generalizing ls ps with
 |zero=>
  match ls,ps with
  | [],ps=>exact h1 ps
  |l :: ls,ps=>simp only[List.length_cons]at hn;omega
 |succ n ih=>
  match ls,ps with
  | [],ps=>exact h1 ps
  |l :: ls,[]=>exact h2 l ls
  |l :: ls,p :: ps=>
   simp only[List.length_cons]at hn;by_cases h:l.1<=p.1
   ·exact h3 l ls p ps h (ih ls (p :: ps) se)
   ·exact h4 l ls p ps h (ih (l :: ls) ps se)
theorem Nn(ls ps:List It):(mrg ls ps).length=ls.length+ps.length:=by
 refine MD (M:=fun ls ps=>(mrg ls ps).length=ls.length+ps.length) ?_ ?_ ?_ ?_ ls ps
 ·intro ps;rw[Ky];simp
 ·intro l ls;rw[Lw];simp
 ·intro l ls p ps h ih;rw[LM h,AD,ih];simp only[List.length_cons];omega
 ·intro l ls p ps h ih;rw[LJ h,AD,ih];simp only[List.length_cons];omega
theorem Sd{ls ps:List It}{x:It}:x∈mrg ls ps↔x∈ls∨x∈ps:=by
 refine MD (M:=fun ls ps=>x∈mrg ls ps↔x∈ls∨x∈ps) ?_ ?_ ?_ ?_ ls ps
 ·intro ps;rw[Ky];simp
 ·intro l ls;rw[Lw];simp
 ·intro l ls p ps h ih;rw[LM h,AO,ih];simp only[List.mem_cons];exact or_assoc.symm
 ·intro l ls p ps h ih;rw[LJ h,AO,ih];simp only[List.mem_cons];exact or_left_comm
theorem aG(ls ps:List It)(hl:∀x∈ls,CL x=true)(hp:∀x∈ps,CL x=false)(t:Nat)(ht:t<=ls.length+ps.length):
 ∃n q,n+q=t/\n<=ls.length/\q<=ps.length/\((mrg ls ps).take t).Perm (ls.take n++ps.take q)/\((mrg ls ps).take t).countP CL=n:=by
 revert t
 refine MD (M:=fun ls ps=>(∀x∈ls,CL x=true)->(∀x∈ps,CL x=false)->∀t,t<=ls.length+ps.length->
  ∃n q,n+q=t/\n<=ls.length/\q<=ps.length/\((mrg ls ps).take t).Perm (ls.take n++ps.take q)/\((mrg ls ps).take t).countP CL=n) ?_ ?_ ?_ ?_ ls ps hl hp
 ·intro ps _ hp t ht;rw[Ky];refine⟨0,t,nj,nj,by simpa using ht,rX,?_⟩;rw[List.countP_eq_zero];intro x hx;rw[hp x (BX hx)];simp
 ·intro l ls hl _ t ht;rw[Lw];refine⟨t,0,nj,by simpa using ht,nj,rX,?_⟩;have:((l :: ls).take t).countP CL=((l :: ls).take t).length:=List.countP_eq_length.2 fun x hx=>hl x (BX hx);rw[this,AY];simp at ht;simp only[List.length_cons];omega
 ·intro l ls p ps h ih hl hp t ht;rw[LM h];rcases t with _|t
  ·exact⟨0,0,rfl,nj,nj,rX,rX⟩
  ·obtain⟨n,q,h1,h2,h3,h4,h5⟩:=ih (fun x hx=>hl x (Cn _ hx)) hp t sf;refine⟨n+1,q,nj,se,h3,?_,?_⟩
   ·simpa using h4
   ·rw[List.take_succ_cons,List.countP_cons,h5,hl l rX];rfl
 ·intro l ls p ps h ih hl hp t ht;rw[LJ h];rcases t with _|t
  ·exact⟨0,0,rfl,nj,nj,rX,rX⟩
  ·obtain⟨n,q,h1,h2,h3,h4,h5⟩:=ih hl (fun x hx=>hp x (Cn _ hx)) t sf;refine⟨n,q+1,nj,h2,se,?_,?_⟩
   ·rw[List.take_succ_cons,List.take_succ_cons];refine(h4.cons p).trans ?_;exact(List.perm_middle).symm
   ·rw[List.take_succ_cons,List.countP_cons,h5,hp p rX];rfl
theorem Ls(x y:It)(t:List It):Ey (x :: y :: t)=(x.1+y.1,x.2++y.2) :: Ey t:=rfl
theorem Rt{l:List It}(h:l.length<=1):Ey l= []:=by
 match l with
 | []=>rfl
 | [_]=>rfl
 |_ :: _ :: _=>simp at h
theorem J7:∀l:List It,(Ey l).length=l.length / 2
 | []=>rfl
 | [_]=>by simp[Ey]
 |_ :: _ :: t=>by rw[Ls,AD,J7 t];simp only[List.length_cons];omega
theorem NM:∀ {l:List It} {p:It},p∈Ey l->∃x y,x∈l/\y∈l/\p=(x.1+y.1,x.2++y.2)
 | [],p,h=>by simp[Ey]at h
 | [_],p,h=>by simp[Ey]at h
 |x :: y :: t,p,h=>by
  rw[Ls]at h;rcases AO.1 h with h|h
  ·exact⟨x,y,rX,rX,h⟩
  ·obtain⟨a,b,ha,hb,he⟩:=NM h;exact⟨a,b,by simp[ha],by simp[hb],he⟩
def lv(k:Nat->Nat)(S:List Nat):List It:=S.map fun s=>(k s,[s])
theorem My{k:Nat->Nat}:∀x∈lv k S,CL x=true:=by intro x hx;obtain⟨s,_,rfl⟩:=CH.1 hx;rfl
theorem G4(k:Nat->Nat)(S:List Nat):(lv k S).length=S.length:=by simp[lv]
section
variable {k:Nat->Nat} {S:List Nat}
theorem OM(r:Nat):∀x∈Ae3 (lv k S) r,x.2≠ []:=by
 induction r with
 |zero=>intro x hx;obtain⟨s,_,rfl⟩:=CH.1 hx;simp
 |succ r ih=>
  intro x hx;rcases Sd.1 hx with h|h
  ·obtain⟨s,_,rfl⟩:=CH.1 h;simp
  ·obtain⟨a,b,ha,hb,rfl⟩:=NM h;simp[ih a ha]
theorem Sa{l:List It}(h:∀x∈l,x.2≠ []):∀x∈Ey l,CL x=false:=by intro x hx;obtain⟨a,b,ha,hb,rfl⟩:=NM hx;have h1:=Gm.2 (h a ha);have h2:=Gm.2 (h b hb);unfold CL;rw[FW,Ag];omega
theorem LU:(Ae3 (lv k S) 0).length=S.length:=G4 k S
theorem PD(r:Nat):(Ae3 (lv k S) (r+1)).length=S.length+(Ae3 (lv k S) r).length / 2:=by rw[Ae3,Nn,J7,G4]
theorem Pb(hn:0<S.length):∀r,(Ae3 (lv k S) r).length+(S.length-1) / 2 ^ r=2*S.length-1
 |0=>by rw[LU];simp;omega
 |r+1=>by have ih:=Pb hn r;rw[PD,FX,<-Ov];omega
theorem T5(hl:1<=i)(hn:0<S.length)(h:S.length<=2 ^ i):2*S.length-2<=(Ae3 (lv k S) (i-1)).length:=by
 have h1:=Pb (k:=k) hn (i-1)
 have h2:(S.length-1) / 2 ^ (i-1)<2:=by
  rw[Nat.div_lt_iff_lt_mul (GA _)];have:2 ^ i=2*2 ^ (i-1):=by obtain⟨m,rfl⟩:∃m,i=m+1:=⟨i-1,nj⟩;rw[FX,Nat.add_sub_cancel,Nat.mul_comm]
  omega
 omega
theorem O3{M:Nat}(hk:∀s∈S,k s<=M):∀r,∀x∈Ae3 (lv k S) r,x.1<=2 ^ r*M
 |0=>by intro x hx;obtain⟨s,hs,rfl⟩:=CH.1 hx;simpa using hk s hs
 |r+1=>by
  intro x hx;have hp:M<=2 ^ (r+1)*M:=Nat.le_mul_of_pos_left _ (GA _);rcases Sd.1 hx with h|h
  ·obtain⟨s,hs,rfl⟩:=CH.1 h;exact AN (hk s hs) hp
  ·obtain⟨a,b,ha,hb,rfl⟩:=NM h;have h1:=O3 hk r a ha;have h2:=O3 hk r b hb;rw[FX,Nat.mul_right_comm];show a.1+b.1<=_;omega
def nl(X:List It)(t:Nat):Nat:=(X.take t).countP CL
theorem X8(X:List It)(i:Nat)(x:It)(h:X[i]? =some x):nl X (i+1)=nl X i+if CL x=true then 1 else 0:=by unfold nl;rw[Cw,h,Option.toList_some,List.countP_append];by_cases hx:CL x=true<;>simp[hx]
theorem RY(X:List It):nl X 0=0:=by simp[nl]
def Ck(k:Nat->Nat)(S:List Nat):Nat->Nat->Nat->Nat
 |0,t,s=>if s∈S.take (nl (Ae3 (lv k S) 0) t)then 1 else 0
 |r+1,t,s=>(if s∈S.take (nl (Ae3 (lv k S) (r+1)) t)then 1 else 0)+Ck k S r (2*(t-nl (Ae3 (lv k S) (r+1)) t)) s
theorem Mv(t:Nat)(ht:t<=S.length):nl (Ae3 (lv k S) 0) t=t:=by unfold nl Ae3;have:((lv k S).take t).countP CL=((lv k S).take t).length:=List.countP_eq_length.2 fun x hx=>My x (BX hx);rw[this,AY,G4];omega
theorem Ae5(r t:Nat)(ht:t<=(Ae3 (lv k S) (r+1)).length):∃n q,n+q=t/\n<=S.length/\2*q<=(Ae3 (lv k S) r).length/\nl (Ae3 (lv k S) (r+1)) t=n/\
 ((Ae3 (lv k S) (r+1)).take t).Perm ((lv k S).take n++(Ey (Ae3 (lv k S) r)).take q):=by
 rw[Ae3,Nn]at ht;obtain⟨n,q,h1,h2,h3,h4,h5⟩:=aG (lv k S) (Ey (Ae3 (lv k S) r)) My (Sa (OM r)) t ht;rw[G4]at h2;rw[J7]at h3;exact⟨n,q,h1,h2,nj,h5,h4⟩
end
def ins(k:Nat->Nat)(x:Nat):List Nat->List Nat
 | []=> [x]
 |y :: t=>if k x<k y then x :: y :: t else y :: ins k x t
theorem OI(k:Nat->Nat)(x:Nat):∀l,(ins k x l).Perm (x :: l)
 | []=>List.Perm.refl _
 |y :: t=>by
  rw[ins];split
  ·exact List.Perm.refl _
  ·exact((OI k x t).cons y).trans (List.Perm.swap x y t)
theorem RR{k:Nat->Nat}{x:Nat}:∀ {l:List Nat},l.Pairwise (Lt k)->(∀y∈l,y<x)->(ins k x l).Pairwise (Lt k)
 | [],_,_=>by simp[ins]
 |y :: t,h,hx=>by
  rw[Gk]at h;rw[ins];split
  ·rename_i i;refine Gk.2 ⟨fun z hz=> ?_,Gk.2 h⟩;rcases AO.1 hz with rfl|hz
   ·exact .inl i
   ·exact Lt.trans (.inl i) (h.1 z hz)
  ·rename_i j;refine Gk.2 ⟨fun z hz=> ?_,RR h.2 fun z hz=>hx z (Cn _ hz)⟩;rcases AO.1 ((OI k x t).mem_iff.1 hz)with rfl|hz
   ·have:=hx y rX;unfold Lt;omega
   ·exact h.1 z hz
def yZ(k:Nat->Nat):Nat->List Nat
 |0=> []
 |n+1=>if k n=0 then yZ k n else ins k n (yZ k n)
def Aa1(k:Nat->Nat):Nat->List Nat
 |0=> []
 |n+1=>if k n=0 then Aa1 k n else Aa1 k n++ [n]
theorem OD{k:Nat->Nat}:s∈Aa1 k n↔s<n/\k s≠0:=by
 induction n with
 |zero=>simp[Aa1]
 |succ n ih=>
  rw[Aa1];split
  ·rename_i h0;rw[ih];constructor
   ·rintro⟨h1,h2⟩;exact⟨nj,h2⟩
   ·rintro⟨h1,h2⟩;refine⟨?_,h2⟩;rcases Nat.lt_or_eq_of_le (Nat.lt_succ_iff.1 h1)with h|h
    ·exact h
    ·subst h;exact absurd h0 h2
  ·rename_i h0;rw[BJ,ih,Eo];constructor
   ·rintro(⟨h1,h2⟩|rfl)
    ·exact⟨nj,h2⟩
    ·exact⟨nj,h0⟩
   ·rintro⟨h1,h2⟩;rcases Nat.lt_or_eq_of_le (Nat.lt_succ_iff.1 h1)with h|h
    ·exact .inl ⟨h,h2⟩
    ·exact .inr h
theorem Qx(k:Nat->Nat):∀n,(Aa1 k n).Pairwise (·< ·)
 |0=>by simp[Aa1]
 |n+1=>by
  rw[Aa1];split
  ·exact Qx k n
  ·refine List.pairwise_append.2 ⟨Qx k n,rX,fun a ha b hb=> ?_⟩;rw[Eo]at hb;subst hb;exact(OD.1 ha).1
theorem Sm(k:Nat->Nat):∀n,(Aa1 k n).length<=n
 |0=>by simp[Aa1]
 |n+1=>by
  have:=Sm k n;rw[Aa1];split
  ·omega
  ·simp;omega
theorem JY(k:Nat->Nat):∀n,(yZ k n).Perm (Aa1 k n)
 |0=>List.Perm.refl _
 |n+1=>by
  rw[yZ,Aa1];split
  ·exact JY k n
  ·refine(OI k n _).trans ?_;refine((JY k n).cons n).trans ?_;exact(List.perm_append_singleton n (Aa1 k n)).symm
theorem J6{k:Nat->Nat}:s∈yZ k n↔s<n/\k s≠0:=by rw[(JY k n).mem_iff,OD]
theorem JL(k:Nat->Nat):∀n,(yZ k n).Pairwise (Lt k)
 |0=>by simp[yZ]
 |n+1=>by
  rw[yZ];split
  ·exact JL k n
  ·exact RR (JL k n) fun y hy=>(J6.1 hy).1
theorem Lt.irrefl{k:Nat->Nat}:¬Lt k x x:=by unfold Lt;omega
theorem dH(k:Nat->Nat)(n:Nat):(yZ k n).Nodup:=(JL k n).imp fun h e=>sM
theorem PT(k:Nat->Nat)(n:Nat):(yZ k n).length<=n:=by rw[(JY k n).length_eq];exact Sm k n
theorem bW{k:Nat->Nat}(h:l.Pairwise (Lt k))(hp:l.Perm (Aa1 k n)):l=yZ k n:=by refine List.Perm.eq_of_pairwise ?_ h (JL k n) (hp.trans (JY k n).symm);intro a b _ _ h1 h2;exact absurd (h1.trans h2) Lt.irrefl
def Jj(ks:List Nat)(limit:Nat):List Nat:=
 let k:=fun s=>ks.getD s 0
 let S:=yZ k ks.length
 if S.length<2 then(List.range ks.length).map fun s=>if s∈S then 1 else 0
 else(List.range ks.length).map (Ck k S (limit-1) (2*S.length-2))
def EQ(ks:List Nat)(limit:Int):Int:=
 if ks.length>300∨limit<1∨limit>15 then 13 else if(yZ (fun s=>ks.getD s 0) ks.length).length>2 ^ limit.toNat then 6 else 0
def Dr(ks:List Nat)(limit:Int):List Nat:=if EQ ks limit=0 then Jj ks limit.toNat else []
def Asc(l:List It):Prop:=l.Pairwise fun x y=>x.1<=y.1
theorem pB{k:Nat->Nat}(h:S.Pairwise (Lt k)):Asc (lv k S):=by unfold Asc lv;rw[List.pairwise_map];exact h.imp fun hx=>by unfold Lt at hx;show k _<=k _;omega
def sm(f:Nat->Nat):List Nat->Nat
 | []=>0
 |s :: t=>f s+sm f t
theorem Lq(f:Nat->Nat)(a b:List Nat):sm f (a++b)=sm f a+sm f b:=by
 induction a with
 |nil=>simp[sm]
 |cons x t ih=>rw[Ez,sm,sm,ih];omega
theorem XM{f:Nat->Nat}{a b:List Nat}(h:a.Perm b):sm f a=sm f b:=by
 induction h with
 |nil=>rfl
 |cons x _ ih=>rw[sm,sm,ih]
 |swap x y l=>simp only[sm];omega
 |trans _ _ h1 h2=>rw[h1,h2]
theorem I1{f g:Nat->Nat}(h:∀s∈l,f s=g s):sm f l=sm g l:=by
 induction l with
 |nil=>rfl
 |cons x t ih=>rw[sm,sm,h x rX,ih fun s hs=>h s (Cn _ hs)]
theorem lS{f g:Nat->Nat}(h:∀s∈l,f s<=g s):sm f l<=sm g l:=by
 induction l with
 |nil=>exact Ak _
 |cons x t ih=>have h1:=h x rX;have h2:=ih fun s hs=>h s (Cn _ hs);rw[sm,sm];omega
theorem oD(f g:Nat->Nat)(l:List Nat):sm (fun s=>f s+g s) l=sm f l+sm g l:=by
 induction l with
 |nil=>rfl
 |cons x t ih=>rw[sm,sm,sm,ih];omega
theorem nH(c:Nat)(f:Nat->Nat)(l:List Nat):sm (fun s=>c*f s) l=c*sm f l:=by
 induction l with
 |nil=>simp[sm]
 |cons x t ih=>rw[sm,sm,ih,Nat.mul_add]
theorem Kx(c:Nat)(l:List Nat):sm (fun _=>c) l=l.length*c:=by
 induction l with
 |nil=>simp[sm]
 |cons x t ih=>rw[sm,ih,AD,Fk];omega
section
variable {k:Nat->Nat} {S:List Nat}
theorem Xo(ls ps:List It)(hl:∀x∈ls,CL x=true)(hp:∀x∈ps,CL x=false)(ha:Asc ls)(t:Nat)(ht:t<=ls.length+ps.length):
 ∀n,((mrg ls ps).take t).countP CL=n->∀x,ls[n]? =some x->∀p∈ps.take (t-n),p.1<x.1:=by
 revert t
 refine MD (M:=fun ls ps=>(∀x∈ls,CL x=true)->(∀x∈ps,CL x=false)->Asc ls->∀t,t<=ls.length+ps.length->
  ∀n,((mrg ls ps).take t).countP CL=n->∀x,ls[n]? =some x->∀p∈ps.take (t-n),p.1<x.1) ?_ ?_ ?_ ?_ ls ps hl hp ha
 ·intro ps _ _ _ t _ n _ x hx;simp at hx
 ·intro l ls _ _ _ t _ n _ x _ p hp;simp at hp
 ·intro l ls p ps h ih hl hp ha t ht n hn x hx q hq;rw[LM h]at hn;rcases t with _|t
  ·simp at hn;subst hn;simp at hq
  ·rw[List.take_succ_cons,List.countP_cons,hl l rX]at hn;simp only[if_true]at hn;subst hn;rw[List.getElem?_cons_succ]at hx;rw[show ∀m,t+1-(m+1)=t-m from fun m=>nj]at hq;exact ih (fun x hx=>hl x (Cn _ hx)) hp (Gk.1 ha).2 t sf _ rfl x hx q hq
 ·intro l ls p ps h ih hl hp ha t ht n hn x hx q hq;rw[LJ h]at hn;rcases t with _|t
  ·simp at hn;subst hn;simp at hq
  ·rw[List.take_succ_cons,List.countP_cons,hp p rX]at hn;simp only[Bool.false_eq_true,if_false,Nat.add_zero]at hn;have i:n<=t:=(by have:=List.countP_le_length (p:=CL) (l:=(mrg (l :: ls) ps).take t);rw[AY]at this;omega);rw[show t+1-n=(t-n)+1 by omega,List.take_succ_cons]at hq;rcases AO.1 hq with rfl|hq
   ·have:l.1<=x.1:=by
     rcases n with _|n
     ·simp at hx;rw[hx];exact Ak _
     ·rw[List.getElem?_cons_succ]at hx;exact(Gk.1 ha).1 x (Bp hx)
    omega
   ·exact ih hl (fun x hx=>hp x (Cn _ hx)) ha t sf n hn x hx q hq
theorem Sb:∀ {l:List It} {q:Nat} {x:It},x∈l.take (2*q)->2*q<=l.length->∃p∈(Ey l).take q,x.1<=p.1
 |_,0,x,hx,_=>r9
 | [],q+1,x,_,h=>rY
 | [_],q+1,x,_,h=>by simp at h;omega
 |a :: b :: t,q+1,x,hx,h=>by
  rw[show 2*(q+1)=2*q+1+1 by omega,List.take_succ_cons,List.take_succ_cons]at hx;rw[Ls,List.take_succ_cons];rcases AO.1 hx with rfl|hx
  ·exact⟨_,CP,Nat.le_add_right _ _⟩
  ·rcases AO.1 hx with rfl|hx
   ·exact⟨_,CP,Nat.le_add_left _ _⟩
   ·obtain⟨p,hp,i⟩:=Sb hx (by simp only[List.length_cons]at h;omega);exact⟨p,Cn _ hp,i⟩
theorem OX(r t:Nat)(ht:t<=(Ae3 (lv k S) r).length):nl (Ae3 (lv k S) r) t<=S.length/\∀x∈(lv k S).take (nl (Ae3 (lv k S) r) t),x∈(Ae3 (lv k S) r).take t:=by
 rcases r with _|r
 ·rw[LU]at ht;rw[Mv t ht];exact⟨ht,fun x hx=>hx⟩
 ·obtain⟨n,q,h1,h2,h3,h4,h5⟩:=Ae5 r t ht;rw[h4];exact⟨h2,fun x hx=>h5.mem_iff.2 (List.mem_append_left _ hx)⟩
theorem RF(hS:S.Pairwise (Lt k))(r t:Nat)(ht:t<=(Ae3 (lv k S) (r+1)).length):
 2*(t-nl (Ae3 (lv k S) (r+1)) t)<=(Ae3 (lv k S) r).length/\nl (Ae3 (lv k S) r) (2*(t-nl (Ae3 (lv k S) (r+1)) t))<=nl (Ae3 (lv k S) (r+1)) t:=by
 obtain⟨n,q,h1,h2,h3,h4,h5⟩:=Ae5 r t ht;rw[h4,show t-n=q by omega];refine⟨h3,?_⟩;obtain⟨g1,g2⟩:=OX r (2*q) h3;rcases Nat.lt_or_ge n (nl (Ae3 (lv k S) r) (2*q))with h|h
 ·exfalso;have i:n<(lv k S).length:=by rw[G4];omega
  have hx:(lv k S)[n]∈(lv k S).take (nl (Ae3 (lv k S) r) (2*q)):=List.mem_take_iff_getElem.2 ⟨n,nj,rfl⟩;obtain⟨p,hp,j⟩:=Sb (g2 _ hx) h3;have hc:=Xo (lv k S) (Ey (Ae3 (lv k S) r)) My (Sa (OM r)) (pB hS) t (by rw[G4,J7];rw[PD]at ht;exact ht) n h4 _ (Az i) p (by rw[show t-n=q by omega];exact hp);omega
 ·exact h
theorem Rj(hS:S.Pairwise (Lt k)){m s:Nat}(hs:s ∉ S.take m):∀r t,t<=(Ae3 (lv k S) r).length->nl (Ae3 (lv k S) r) t<=m->Ck k S r t s=0
 |0,t,ht,h=>by rw[Ck,Aa];exact fun hm=>hs (List.take_subset_take_left _ h hm)
 |r+1,t,ht,h=>by obtain⟨h1,h2⟩:=RF hS r t ht;rw[Ck,Aa fun hm=>hs (List.take_subset_take_left _ h hm),Rj hS hs r _ h1 nj]
theorem Rm(r t s:Nat):Ck k S r t s<=r+1:=by
 induction r generalizing t with
 |zero=>rw[Ck];split<;>omega
 |succ r ih=>rw[Ck];have:=ih (2*(t-nl (Ae3 (lv k S) (r+1)) t));split<;>omega
theorem Aa6(hS:S.Pairwise (Lt k)):∀r t,t<=(Ae3 (lv k S) r).length->sm (fun s=>2 ^ (r+1-Ck k S r t s)) S+2 ^ r*t=S.length*2 ^ (r+1)
 |0,t,ht=>by
  have hN:S.Nodup:=hS.imp fun h e=>sM
  rw[LU]at ht;have e:sm (fun s=>2 ^ (0+1-Ck k S 0 t s)) S=sm (fun s=>2 ^ (0+1-Ck k S 0 t s)) (S.take t)+sm (fun s=>2 ^ (0+1-Ck k S 0 t s)) (S.drop t):=by rw[<-Lq,ER]
  have e1:sm (fun s=>2 ^ (0+1-Ck k S 0 t s)) (S.take t)=sm (fun _=>1) (S.take t):=I1 fun s hs=>by rw[Ck,Mv t ht,Ab hs]
  have e2:sm (fun s=>2 ^ (0+1-Ck k S 0 t s)) (S.drop t)=sm (fun _=>2) (S.drop t):=I1 fun s hs=>by rw[Ck,Mv t ht,Aa];intro i;have:=List.nodup_append.1 (by rw[ER];exact hN:(S.take t++S.drop t).Nodup);exact this.2.2 s i s hs rfl
  rw[e,e1,e2,Kx,Kx,AY,AQ,Nat.min_eq_left ht];omega
 |r+1,t,ht=>by
  have hN:S.Nodup:=hS.imp fun h e=>sM
  obtain⟨h1,h2⟩:=RF hS r t ht;have ih:=Aa6 hS r _ h1;obtain⟨n',q,g1,g2,g3,g4,_⟩:=Ae5 r t ht;have e0:∀s,Ck k S (r+1) t s=(if s∈S.take n' then 1 else 0)+Ck k S r (2*q) s:=fun s=>by rw[Ck,g4,show t-n'=q by omega]
  rw[g4,show t-n'=q by omega]at h1 h2 ih
  have e:sm (fun s=>2 ^ (r+1+1-Ck k S (r+1) t s)) S=sm (fun s=>2 ^ (r+1-Ck k S r (2*q) s)) (S.take n')+sm (fun s=>2 ^ (r+1-Ck k S r (2*q) s)+2 ^ (r+1)) (S.drop n'):=by
   rw[<-ER n' S,Lq,ER];congr 1
   ·refine I1 fun s hs=> ?_;rw[e0,Ab hs];congr 1;omega
   ·refine I1 fun s hs=> ?_;have i:s ∉ S.take n':=(by intro i;have:=List.nodup_append.1 (by rw[ER];exact hN:(S.take n'++S.drop n').Nodup);exact this.2.2 s i s hs rfl);rw[e0,Aa i,Rj hS i r (2*q) h1 h2];simp only[Nat.add_zero,Nat.sub_zero];rw[FX 2 (r+1)];omega
  rw[e,oD,Kx,AQ,<-Nat.add_assoc,<-Lq,ER];have e5:2 ^ (r+1)*t=n'*2 ^ (r+1)+2 ^ r*(2*q):=by rw[<-g1,Nat.mul_add,Nat.mul_comm _ n',<-Nat.mul_assoc,<-FX]
  have e6:(S.length-n')*2 ^ (r+1)+n'*2 ^ (r+1)=S.length*2 ^ (r+1):=by rw[<-Fk,Nat.sub_add_cancel g2]
  have e7:S.length*2 ^ (r+1+1)=S.length*2 ^ (r+1)+S.length*2 ^ (r+1):=by rw[FX 2 (r+1),<-Nat.mul_assoc];omega
  omega
theorem Al3(hS:S.Pairwise (Lt k))(hn:2<=S.length)(hl:1<=i)(h:S.length<=2 ^ i):
 sm (fun s=>2 ^ (i-Ck k S (i-1) (2*S.length-2) s)) S=2 ^ i/\∀s∈S,1<=Ck k S (i-1) (2*S.length-2) s:=by
 have ht:=T5 (k:=k) hl nj h;have hw:=Aa6 hS (i-1) _ ht;rw[show i-1+1=i by omega]at hw;have e3:2 ^ (i-1)*(2*S.length-2)+2 ^ i=S.length*2 ^ i:=by obtain⟨m,rfl⟩:∃m,i=m+1:=⟨i-1,nj⟩;obtain⟨n,z⟩:∃n,S.length=n+1:=⟨S.length-1,nj⟩;rw[z,Nat.add_sub_cancel,show 2*(n+1)-2=2*n by omega,FX,Fk,Nat.one_mul,<-Nat.mul_assoc,Nat.mul_comm n]
 have j:sm (fun s=>2 ^ (i-Ck k S (i-1) (2*S.length-2) s)) S=2 ^ i:=nj
 refine⟨j,fun s hs=> ?_⟩;rcases Nat.eq_zero_or_pos (Ck k S (i-1) (2*S.length-2) s)with h0|h0
 ·exfalso;obtain⟨a,b,y⟩:=List.append_of_mem hs;have e4:sm (fun s=>2 ^ (i-Ck k S (i-1) (2*S.length-2) s)) S=sm (fun s=>2 ^ (i-Ck k S (i-1) (2*S.length-2) s)) (a++s :: b):=Aw _ y;rw[j,Lq,sm,h0]at e4;have e5:∀T:List Nat,T.length<=sm (fun s=>2 ^ (i-Ck k S (i-1) (2*S.length-2) s)) T:=fun T=>by have:=lS (f:=fun _=>1) (g:=fun s=>2 ^ (i-Ck k S (i-1) (2*S.length-2) s)) (l:=T) fun s _=>GA _;rw[Kx]at this;omega
  have h1:=e5 a;have h2:=e5 b;have h3:S.length=a.length+(b.length+1):=by rw[y,Ag,AD]
  simp only[Nat.sub_zero]at e4;omega
 ·exact h0
theorem ZW(r t s:Nat)(hs:s ∉ S):Ck k S r t s=0:=by
 induction r generalizing t with
 |zero=>rw[Ck,Aa fun h=>hs (BX h)]
 |succ r ih=>rw[Ck,Aa fun h=>hs (BX h),ih]
end
def All(N n:Nat)(f:Nat->Nat):Prop:=∀i,i<n->f i<N
theorem All.mer{k f f':Nat->Nat}(h:All N n f)(hm:Mer k f f' a b)(hb:b<=n):All N n f':=fun i hi=>by
 by_cases e:a<=i/\i<b
 ·obtain⟨i',h1,h2,h3⟩:=hm.mem e.1 e.2;rw[<-h3];exact h i' nj
 ·rw[hm.2.2 i nj];exact h i hi
theorem All.rot{N n a m b:Nat}{f:Nat->Nat}(h:All N n f)(j:a<=m)(y:m<=b)(hb:b<=n):All N n (Al1 f a m b):=fun i hi=>by
 unfold Al1;split
 ·exact h _ nj
 ·split
  ·exact h _ nj
  ·exact h i hi
def FL(a b:Nat):Int:=if a<b then-1 else if b<a then 1 else 0
theorem Mr(h:a<b):FL a b<0:=by unfold FL;rw[Ab h];omega
theorem Mn(h:¬a<b):0<=FL a b:=by unfold FL;rw[Aa h];split<;>omega
def CmpOk(Bo g N:Nat)(w0:World)(k:Nat->Nat):Prop:=∀ (x y:Nat) (w:World),x<N->y<N->Kept (fun b=>b<w0.heap.size/\b≠g) w0 w->
 Calls prog 347 #[x,y, .pointer (some ⟨Bo,0,none⟩)] w fun e w'=>e= .returned (.int .i64 (FL (k x) (k y)))/\∃q,w'=w.drewN q
theorem CmpOk.keep{Bo:Nat}{w0:World}{k:Nat->Nat}(h:CmpOk Bo g N w0 k)(hk:Kept (fun b=>b<w0.heap.size/\b≠g) w0 w1):CmpOk Bo g N w1 k:=by intro x y w hx hy hw;have hz:=hk.size;exact h x y w hx hy (hk.trans ⟨hw.os,hw.tape,hw.output,hw.size,fun b hb=>hw.block b ⟨by have:=hb.1;omega,hb.2⟩⟩)
def Jb(k f:Nat->Nat)(g n a b:Nat)(w:World)(e:Ending)(w':World):Prop:=e= .returned (.tuple #[])/\∃f',Put g n f' w w'/\Mer k f f' a b
def Ob(k f:Nat->Nat)(g n a m:Nat)(w:World)(wr:World):Prop:=∃f',Put g n f' w wr/\Mer k f f' a m
def QN(k f1:Nat->Nat)(g n m j:Nat)(w:World)(wr:World):Prop:=Put g n (Al1 f1 j m (m+1)) w wr/\(j=m∨k (f1 m)<k (f1 j))
theorem a3m{p:Prop}(h:p:=by
  go_wp2_with fail;go_roundw
  case rel=>exact jm
  case measure=>exact jq):p:=h
theorem rA(w:World)(Bo g n c a b N:Nat)(k f:Nat->Nat)(hN:n<=4611686018427387904)(ab:a<=b)(hb:b<=n)(h0:∀i j,a<=i->i<j->j<b->f i<f j)(E:All N n f)(hd:Dat w g n f)(hc:CmpOk Bo g N w k):
 Calls prog 373 #[.slice (some ⟨g,0,none⟩) n c,a,b, .func (Fn.func 347) #[] #[.pointer (some ⟨Bo,0,none⟩)]] w (Jb k f g n a b w):=by
 have H0:=hid h0;have HC:=hid hc;have HD:=hid hd;have HA:=hid E;clear h0 hc hd E;have eK:∀args w,(callFunc 347 args).run prog w= .ok (.enter 347 args) w:=fun args w=>sq
 by_cases ag:a<b
 ·have p0:Hid (Ob k f g n a (a+1) w w):=⟨f,Put.refl HD.out,Mer.refl (Sor.few nj)⟩;go_enter func373,ntmps373;go_wp2_with fail;go_loopw [8] (fun i wr=>∃m:Nat,a+1<=m/\m<=b/\i= .int .i64 m/\Hid (Ob k f g n a m w wr)) (fun i _=>b-(intOf i).toNat)
  case atStart=>exact⟨a+1,nj,nj,jr,p0⟩
  case round=>
   clear p0;obtain⟨m,af,ae,rfl,hI⟩:=hrel;by_cases Z:m<b
   ·obtain⟨f1,Q,z⟩:=hI.out;have q0:Hid (QN k f1 g n m m w wr):=(by refine⟨?_, .inl rfl⟩;rw[Mu f1 (Ak _) nj (.inl rfl)];exact Q);have HM:=hid z;have aa:=hid (HA.out.mer z nj);clear hI Q z;obtain⟨wo,rfl⟩:=ii wr;go_wp2_with fail;go_loopw [9] (fun jv wr=>∃j:Nat,a<=j/\j<=m/\jv= .int .i64 j/\Hid (QN k f1 g n m j w wr)) (fun j _=>(intOf j).toNat)
    case atStart=>exact⟨m,nj,nj,rfl,q0⟩
    case round=>
     clear q0;obtain⟨j,M,U,rfl,hQ⟩:=hrel;have c1:=hQ.out.1.1.cell (i:=j) nj;rw[Ly f1 (Ak _) nj,show j+(m-j)=m by omega]at c1;have ac:=hQ.out.1.1.frozen j;by_cases ah:a<j
     ·have c2:=hQ.out.1.1.cell (i:=j-1) nj;rw[NT f1 nj]at c2;have f2:=hQ.out.1.1.frozen (j-1);have h:=fun q=>HC.out (f1 m) (f1 (j-1)) (wr.drewN q) (aa.out m nj) (aa.out (j-1) nj) (hQ.out.1.2.drewN q);have s1:IntKind.i64.wrap ((j:Int)-1)=(j:Int)-1:=Ar _ nj;have x3:(0:Int)<=(j:Int):=nj;have x4:(j:Int)<(n:Int):=nj;have x1:(0:Int)<=(j:Int)-1:=nj;have y1:(1:Int)<=(j:Int):=nj;have y3:0<j:=nj;have y4:(0:Int)<(j:Int):=nj;have x2:(j:Int)-1<(n:Int):=nj;have x5:((j:Int)-1).toNat=j-1:=nj;obtain⟨cv,y⟩:=ii (FL (k (f1 m)) (k (f1 (j-1))));by_cases hk:k (f1 m)<k (f1 (j-1))
      ·have d1:cv<0:=(by rw[y];exact Mr hk);rw[<-y]at h;have L:∀q,Hid (QN k f1 g n m (j-1) w (((wr.drewN q).setCell ⟨g,j,none⟩ (.int .i64 (f1 (j-1):Nat))).setCell ⟨g,j-1,none⟩ (.int .i64 (f1 m:Nat)))):=(by intro q;have Y:=(hQ.out.1.drewN q).swap (p:=j) (q:=j-1) nj nj nj;have e:=UE f1 m (j-1) nj;rw[show j-1+1=j by omega]at e;rw[e,NT f1 nj,Ly f1 (Ak _) nj,show j+(m-j)=m by omega]at Y;exact⟨Y, .inr hk⟩);clear y;generalize f1 m=v1 at *;generalize f1 (j-1)=v2 at *;go_wp2_with fail;go_quiet ((go_at_call 347;exact Calls.quiet_of (h _)));go_wp2_with fail;go_region;have J:=L (nq+1);clear L s1 x5 h hk c1 c2 hQ;go_wp2_with fail;go_roundw
       case rel=>go_light;exact⟨j-1,nj,nj,Aw (Value.int .i64) nj,J⟩
       case measure=>exact jq
      ·have d1:¬cv<0:=(by rw[y];have:=Mn hk;omega);rw[<-y]at h;have HX:∀q,Hid (Ob k f g n a (m+1) w (wr.drewN q)):=fun q=>⟨_,hQ.out.1.drewN q,Ug H0.out HM.out Z nj M U (.inr nj) hQ.out.2⟩;clear y hk;generalize f1 m=v1 at *;generalize f1 (j-1)=v2 at *;go_wp2_with fail;go_quiet ((go_at_call 347;exact Calls.quiet_of (h _)));have G:=HX nq;clear HX s1 x5 h c1 c2 hQ;exact a3m
     ·obtain rfl:j=a:=by omega
      have HX:∀q,Hid (Ob k f g n j (m+1) w (wr.drewN q)):=fun q=>⟨_,hQ.out.1.drewN q,Ug H0.out HM.out Z nj M U (.inl rfl) hQ.out.2⟩;have d0:=ig (j<j);have d1:=ig ((j:Int)<j);generalize f1 m=v1 at *;go_wp2_with fail;go_quiet (fail);have G:=HX nq;clear HX c1 hQ d0 d1;exact a3m
   ·obtain rfl:m=b:=by omega
    go_wp2_with fail;refine bodyPost_end (Cb rfl _ _ _) rfl ⟨rfl,hI.out⟩
 ·obtain rfl:a=b:=by omega
  go_enter func373,ntmps373;go_wp2_with fail;refine wp_loop_rounds 1 ?_;rw[rounds_succ];go_wp2_with fail;refine bodyPost_end (Cb rfl _ _ _) rfl ⟨rfl,f,Put.refl HD.out,Mer.refl (Sor.few nj)⟩
def Drawn(w wr:World):Prop:=∃q,wr=w.drewN q
theorem Drawn.refl(w:World):Drawn w w:=⟨0,(World.drewN_zero w).symm⟩
theorem Drawn.more(h:Drawn w wr)(q:Nat):Drawn w (wr.drewN q):=by obtain⟨p,rfl⟩:=h;exact⟨p+q,Gy _ _ _⟩
theorem Drawn.kept{K:Nat->Prop}(h:Drawn w wr):Kept K w wr:=by obtain⟨p,rfl⟩:=h;exact(Kept.refl _ _).drewN p
theorem Drawn.dat{f:Nat->Nat}(h:Drawn w wr)(hd:Dat w g n f):Dat wr g n f:=by obtain⟨p,rfl⟩:=h;exact hd.drewN p
theorem Drawn.put{f:Nat->Nat}(h:Drawn w wr)(hd:Dat w g n f):Put g n f w wr:=⟨h.dat hd,h.kept⟩
def IF(P:Nat->Prop)(lo hi i j:Nat):Prop:=(i=lo∨P (i-1))/\(j=hi∨¬P j)
theorem Zw(w:World)(Bo g n c a b N:Nat)(k f:Nat->Nat)(hN:n<=4611686018427387904)(af:a+1<b)(hb:b<=n)(hr:Sor k f (a+1) b)(G:Low f a (a+1) b)(J:All N n f)(hd:Dat w g n f)(hc:CmpOk Bo g N w k):
 Calls prog 374 #[.slice (some ⟨g,0,none⟩) n c,a, .int .i64 ((a+1:Nat):Int),b, .func (Fn.func 347) #[] #[.pointer (some ⟨Bo,0,none⟩)]] w (Jb k f g n a b w):=by
 have eK:∀args w,(callFunc 347 args).run prog w= .ok (.enter 347 args) w:=fun args w=>sq
 have HR:=hid hr;have HL:=hid G;have HC:=hid hc;have HD:=hid hd;have HA:=hid J;obtain⟨m,hm⟩:=ii (a+1);have b0:((m:Int)-(a:Int)==1)=true:=sj
 rw[<-hm];have HM:=hid hm;have ae:a+1<=m:=nj
 have aj:m<=a+1:=nj
 clear hr G hc hd J hm;go_enter func374,ntmps374;go_wp2_with fail;go_loopw [10,11] (fun iv jv wr=>∃i j:Nat,m<=i/\i<=j/\j<=b/\iv= .int .i64 i/\jv= .int .i64 j/\Hid (IF (fun i=>k (f i)<k (f a)) m b i j)/\Hid (Drawn w wr)) (fun i j _=>(intOf j).toNat-(intOf i).toNat)
 case atStart=>exact⟨m,b,nj,nj,nj,rfl,rfl,⟨.inl rfl, .inl rfl⟩,Drawn.refl w⟩
 case round=>
  obtain⟨i,j,aa,ag,ai,rfl,rfl,hQ,hD⟩:=hrel;by_cases ab:i<j
  ·obtain⟨h,hh⟩:=ii ((i+j) / 2);have ah:i<=h:=nj;have ak:h<j:=nj;have hE:Hid (((i:Int)+(j:Int)) / 2=(h:Int)):=rN;clear hh;have c1:=(hD.out.dat HD.out).cell (i:=h) nj;have c2:=(hD.out.dat HD.out).cell (i:=a) nj;have y:=fun q=>HC.out (f h) (f a) (wr.drewN q) (HA.out h nj) (HA.out a nj) ((hD.out.more q).kept);have x3:(0:Int)<=(h:Int):=nj;have x4:(h:Int)<(n:Int):=nj;have x5:(0:Int)<=(a:Int):=nj;have x6:(a:Int)<(n:Int):=nj;obtain⟨cv,z⟩:=ii (FL (k (f h)) (k (f a)));rw[<-z]at y;have E:∀q,Hid (Drawn w (wr.drewN q)):=fun q=>hD.out.more q;by_cases hk:k (f h)<k (f a)
   ·have d1:cv<0:=(by rw[z];exact Mr hk);have HX:Hid (IF (fun i=>k (f i)<k (f a)) m b (h+1) j):=⟨.inr hk,hQ.out.2⟩;clear z hk hQ;generalize f h=v1 at *;generalize f a=v2 at *;go_wp2_with fail;rw[hE.out];go_quiet ((go_at_call 347;exact Calls.quiet_of (y _)));have Q:=E nq;clear E y c1 c2 hD;go_wp2_with fail;go_roundw
    case rel=>go_light;exact⟨h+1,j,nj,nj,nj,jr,rfl,HX,Q⟩
    case measure=>exact jq
   ·have d1:¬cv<0:=(by rw[z];have:=Mn hk;omega);have HX:Hid (IF (fun i=>k (f i)<k (f a)) m b i h):=⟨hQ.out.1, .inr hk⟩;clear z hk hQ;generalize f h=v1 at *;generalize f a=v2 at *;go_wp2_with fail;rw[hE.out];go_quiet ((go_at_call 347;exact Calls.quiet_of (y _)));have Q:=E nq;clear E y c1 c2 hD;go_wp2_with fail;go_roundw
    case rel=>go_light;exact⟨i,h,nj,nj,nj,rfl,rfl,HX,Q⟩
    case measure=>exact jq
  ·obtain rfl:i=j:=by omega
   have p0:Hid (Put g n (Al1 f a m (m+0)) w wr):=(by show Put _ _ _ _ _;rw[Bt,Mu f nj (Ak _) (.inr rfl)];exact hD.out.put HD.out);have HF:Hid (Jb k f g n a b w (.returned (.tuple #[]))=Jb k f g n a b w (.returned (.tuple #[]))):=rfl
   have Y:Hid (Mer k f (Al1 f a m i) a b):=by
    have e:=HM.out;subst e;refine m4 aa nj HR.out HL.out ?_ ?_
    ·rcases hQ.out.2 with h|h
     ·exact .inl h
     ·exact .inr nj
    ·exact hQ.out.1
   clear hD hQ HF;obtain⟨wo,rfl⟩:=ii wr;go_wp2_with fail;go_loopw [13] (fun kv wr=>∃t:Nat,m+t<=i/\kv= .int .i64 ((a+t:Nat):Int)/\Hid (Put g n (Al1 f a m (m+t)) w wr)) (fun kv _=>i-(intOf kv).toNat)
   case atStart=>exact⟨0,nj,rfl,p0⟩
   case round=>
    clear p0;obtain⟨t,ht,rfl,hp⟩:=hrel;by_cases ab:m+t<i
    ·obtain⟨p,L⟩:=ii (a+t);have c1:=hp.out.1.cell (i:=p) nj;have c2:=hp.out.1.cell (i:=p+1) nj;have f1:=hp.out.1.frozen p;have f2:=hp.out.1.frozen (p+1);have M:=(hp.out.swap (p:=p) (q:=p+1) nj nj nj).drew;have e:=p8 f a t;rw[<-HM.out,<-L]at e;rw[e]at M;have Z:=hid M;rw[<-L];have al:p<i-1:=nj;have U:a+(t+1)=p+1:=nj;have ac:=hid U;clear M e hp L U;generalize Al1 f a m (m+t) p=v1 at *;generalize Al1 f a m (m+t) (p+1)=v2 at *;have s1:IntKind.i64.wrap ((p:Int)+1)=(p:Int)+1:=Ar _ nj;have x1:(0:Int)<=(p:Int):=nj;have x2:(0:Int)<=(p:Int)+1:=nj;have x3:(p:Int)<(n:Int):=nj;have x4:(p:Int)+1<(n:Int):=nj;have x6:((p:Int)+1).toNat=p+1:=nj;have x7:(p:Int)<(i:Int)-1:=nj;go_wp2_with fail;go_region;clear s1 x6;go_wp2_with fail;go_roundw
     case rel=>go_light;exact⟨t+1,nj,Aw (Value.int .i64) (by have:=ac.out;omega),Z⟩
     case measure=>exact jq
    ·obtain rfl:m+t=i:=by omega
     have x7:¬(a+t<m+t-1):=nj;have x8:¬(((a+t:Nat):Int)<((m+t:Nat):Int)-1):=nj;go_wp2_with fail;refine Bx (v:= .tuple #[]) (Cb rfl _ _ _) rfl ⟨rfl,_,hp.out,Y.out⟩
theorem mF(w:World)(Bo g n c a m N:Nat)(k f:Nat->Nat)(hN:n<=4611686018427387904)(aj:a+1<m)(hb:m+1<=n)(hl:Sor k f a m)(G:Low f a m (m+1))(J:All N n f)(hd:Dat w g n f)(hc:CmpOk Bo g N w k):
 Calls prog 374 #[.slice (some ⟨g,0,none⟩) n c,a,m, .int .i64 ((m+1:Nat):Int), .func (Fn.func 347) #[] #[.pointer (some ⟨Bo,0,none⟩)]] w (Jb k f g n a (m+1) w):=by
 have eK:∀args w,(callFunc 347 args).run prog w= .ok (.enter 347 args) w:=fun args w=>sq
 have HL:=hid hl;have ab:=hid G;have HC:=hid hc;have HD:=hid hd;have HA:=hid J;obtain⟨b,hm⟩:=ii (m+1);have b0:((m:Int)-(a:Int)==1)=false:=sj
 have b1:((b:Int)-(m:Int)==1)=true:=sj
 rw[<-hm];have HM:=hid hm;have ac:m+1<=b:=nj
 have ah:b<=m+1:=nj
 clear hl G hc hd J hm;go_enter func374,ntmps374;go_wp2_with fail;go_loopw [14,15] (fun iv jv wr=>∃i j:Nat,a<=i/\i<=j/\j<=m/\iv= .int .i64 i/\jv= .int .i64 j/\Hid (IF (fun i=>¬k (f m)<k (f i)) a m i j)/\Hid (Drawn w wr)) (fun i j _=>(intOf j).toNat-(intOf i).toNat)
 case atStart=>exact⟨a,m,nj,nj,nj,rfl,rfl,⟨.inl rfl, .inl rfl⟩,Drawn.refl w⟩
 case round=>
  obtain⟨i,j,Y,ae,Z,rfl,rfl,hQ,hD⟩:=hrel;by_cases aa:i<j
  ·obtain⟨h,hh⟩:=ii ((i+j) / 2);have ag:i<=h:=nj;have ai:h<j:=nj;have hE:Hid (((i:Int)+(j:Int)) / 2=(h:Int)):=rN;clear hh;have c1:=(hD.out.dat HD.out).cell (i:=h) nj;have c2:=(hD.out.dat HD.out).cell (i:=m) nj;have y:=fun q=>HC.out (f m) (f h) (wr.drewN q) (HA.out m nj) (HA.out h nj) ((hD.out.more q).kept);have x3:(0:Int)<=(h:Int):=nj;have x4:(h:Int)<(n:Int):=nj;have x5:(0:Int)<=(m:Int):=nj;have x6:(m:Int)<(n:Int):=nj;obtain⟨cv,z⟩:=ii (FL (k (f m)) (k (f h)));rw[<-z]at y;have E:∀q,Hid (Drawn w (wr.drewN q)):=fun q=>hD.out.more q;by_cases hk:k (f m)<k (f h)
   ·have d1:decide (cv<0)=true:=(by rw[z];have:=Mr hk;simpa using this);have HX:Hid (IF (fun i=>¬k (f m)<k (f i)) a m i h):=⟨hQ.out.1, .inr (fun hn=>hn hk)⟩;clear z hk hQ;generalize f h=v1 at *;generalize f m=v2 at *;go_wp2_with fail;rw[hE.out];go_quiet ((go_at_call 347;exact Calls.quiet_of (y _)));have M:=E nq;clear E y c1 c2 hD;go_wp2_with fail;go_roundw
    case rel=>go_light;exact⟨i,h,nj,nj,nj,rfl,rfl,HX,M⟩
    case measure=>exact jq
   ·have d1:decide (cv<0)=false:=(by rw[z];have:=Mn hk;simp;omega);have HX:Hid (IF (fun i=>¬k (f m)<k (f i)) a m (h+1) j):=⟨.inr hk,hQ.out.2⟩;clear z hk hQ;generalize f h=v1 at *;generalize f m=v2 at *;go_wp2_with fail;rw[hE.out];go_quiet ((go_at_call 347;exact Calls.quiet_of (y _)));have M:=E nq;clear E y c1 c2 hD;go_wp2_with fail;go_roundw
    case rel=>go_light;exact⟨h+1,j,nj,nj,nj,jr,rfl,HX,M⟩
    case measure=>exact jq
  ·obtain rfl:i=j:=by omega
   have p0:Hid (Put g n (Al1 f m m (m+1)) w wr):=by show Put _ _ _ _ _;rw[Mu f (Ak _) nj (.inl rfl)];exact hD.out.put HD.out
   have Q:Hid (Mer k f (Al1 f i m (m+1)) a (m+1)):=by
    refine Us Y Z HL.out ab.out ?_ ?_
    ·rcases hQ.out.1 with h|h
     ·exact .inl h
     ·exact .inr nj
    ·rcases hQ.out.2 with h|h
     ·exact .inl h
     ·exact .inr nj
   clear hD hQ;obtain⟨wo,rfl⟩:=ii wr;go_wp2_with fail;go_loopw [17] (fun kv wr=>∃t:Nat,i<=t/\t<=m/\kv= .int .i64 (t:Int)/\Hid (Put g n (Al1 f t m (m+1)) w wr)) (fun kv _=>(intOf kv).toNat)
   case atStart=>exact⟨m,nj,nj,rfl,p0⟩
   case round=>
    clear p0;obtain⟨t,af,ak,rfl,hp⟩:=hrel;by_cases aa:i<t
    ·have c1:=hp.out.1.cell (i:=t) nj;have c2:=hp.out.1.cell (i:=t-1) nj;have f1:=hp.out.1.frozen t;have f2:=hp.out.1.frozen (t-1);have L:=(hp.out.swap (p:=t) (q:=t-1) nj nj nj).drew;have e:=UE f m (t-1) nj;rw[show t-1+1=t by omega]at e;rw[e]at L;have U:=hid L;clear L e hp;generalize Al1 f t m (m+1) t=v1 at *;generalize Al1 f t m (m+1) (t-1)=v2 at *;have s1:IntKind.i64.wrap ((t:Int)-1)=(t:Int)-1:=Ar _ nj;have x1:(0:Int)<=(t:Int):=nj;have x2:(0:Int)<=(t:Int)-1:=nj;have x3:(t:Int)<(n:Int):=nj;have x4:(t:Int)-1<(n:Int):=nj;have x6:((t:Int)-1).toNat=t-1:=nj;have y1:(1:Int)<=(t:Int):=nj;have y3:0<t:=nj;have y4:(0:Int)<(t:Int):=nj;go_wp2_with fail;go_region;clear s1 x6;go_wp2_with fail;go_roundw
     case rel=>go_light;exact⟨t-1,nj,nj,Aw (Value.int .i64) nj,U⟩
     case measure=>exact jq
    ·obtain rfl:i=t:=by omega
     go_wp2_with fail;refine Bx (v:= .tuple #[]) (Cb rfl _ _ _) rfl ⟨rfl,_,hp.out,?_⟩;rw[HM.out];exact Q.out
def WX(Bo g n c N:Nat)(k:Nat->Nat)(d:Nat):Prop:=∀ (w:World) (a m b:Nat) (f:Nat->Nat),b-a<=d->a<m->m<b->b<=n->Sor k f a m->Sor k f m b->Low f a m b->All N n f->Dat w g n f->CmpOk Bo g N w k->
 Calls prog 374 #[.slice (some ⟨g,0,none⟩) n c,a,m,b, .func (Fn.func 347) #[] #[.pointer (some ⟨Bo,0,none⟩)]] w (Jb k f g n a b w)
def Jg(a m b mid lo hi:Nat):Prop:=(mid<m/\lo+b=mid+m/\hi=mid)∨(m<=mid/\lo=a/\hi=m)
structure Halves (k F1:Nat->Nat) (a s mid e b:Nat):Prop where
 s1:Sor k F1 a s
 s2:Sor k F1 s mid
 l1:Low F1 a s mid
 s3:Sor k F1 mid e
 s4:Sor k F1 e b
 l2:Low F1 mid e b
theorem Low.congr{f g:Nat->Nat}(h:Low f a m b)(he:∀i,a<=i->i<b->g i=f i):Low g a m b:=fun i j h1 h2 h3 h4=>by rw[he i h1 nj,he j nj h4];exact h i j h1 h2 h3 h4
theorem a3a{p:Prop}(h:p:=by
  go_wp2_with fail;go_meet
  case rel=>exact⟨true,rfl,fun _=>⟨h1,h2⟩,(fun h=>by cases h),rfl⟩):p:=h
theorem a3b{p:Prop}(h:p:=by
  go_wp2_with fail;go_meet
  case rel=>exact⟨false,rfl,(fun h=>by cases h),fun _=> .inr nj,rfl⟩):p:=h
theorem a3c{p:Prop}(h:p:=by
  go_wp2_with fail;go_meet
  case rel=>exact⟨false,rfl,(fun h=>by cases h),fun _=> .inl nj,rfl⟩):p:=h
theorem Zc(w:World)(Bo g n c a m b N:Nat)(k f:Nat->Nat)(d:Nat)(ih:WX Bo g n c N k d)(a3:b-a<=d+1)(hN:n<=4611686018427387904)(bc:a+1<m)(a5:m+1<b)(hb:b<=n)
 (hl:Sor k f a m)(hr:Sor k f m b)(ak:Low f a m b)(am:All N n f)(hd:Dat w g n f)(hc:CmpOk Bo g N w k):
 Calls prog 374 #[.slice (some ⟨g,0,none⟩) n c,a,m,b, .func (Fn.func 347) #[] #[.pointer (some ⟨Bo,0,none⟩)]] w (Jb k f g n a b w):=by
 have eK:∀args w,(callFunc 347 args).run prog w= .ok (.enter 347 args) w:=fun args w=>sq
 have IH:=hid ih;have HL:=hid hl;have HR:=hid hr;have aw:=hid ak;have HC:=hid hc;have HD:=hid hd;have HA:=hid am;have b0:((m:Int)-(a:Int)==1)=false:=sj
 have b1:((b:Int)-(m:Int)==1)=false:=sj
 obtain⟨mid,au⟩:=ii ((a+b) / 2);have E1:Hid (((a:Int)+(b:Int)) / 2=(mid:Int)):=rN
 obtain⟨nn,az⟩:=ii (mid+m);have E2:Hid ((mid:Int)+(m:Int)=(nn:Int)):=rN
 have E3:Hid ((nn:Int)-1=((nn-1:Nat):Int)):=rN
 obtain⟨p,hp⟩:=ii (nn-1);rw[<-hp]at E3;have M1:a<mid:=nj
 have M2:mid<b:=nj
 have M3:mid+m<=nn:=nj
 have M4:nn<=mid+m:=nj
 have M5:p+1<=nn:=nj
 have M6:nn<=p+1:=nj
 have M7:2*mid<=a+b:=nj
 have M8:a+b<=2*mid+1:=nj
 clear ih hl hr ak hc hd am au az hp;go_enter func374,ntmps374;go_upto_region 25 with fail;rw[E1.out];go_upto_region 26 with fail;rw[E2.out];go_upto_if 140 with fail;go_cut [20,21] (fun sv rv wx=>∃lo hi:Nat,sv= .int .i64 lo/\rv= .int .i64 hi/\Hid (Jg a m b mid lo hi)/\w=wx)
 case first=>
  by_cases ax:mid<m
  ·go_wp2_with fail;go_meet
   case rel=>exact⟨mid+m-b,mid,Aw (Value.int .i64) nj,rfl, .inl ⟨ax,nj,rfl⟩,rfl⟩
  ·go_wp2_with fail;go_meet
   case rel=>exact⟨a,m,rfl,rfl, .inr ⟨nj,rfl,rfl⟩,rfl⟩
 case rest=>as_aux_lemma=>
  obtain⟨lo,hi,rfl,rfl,E,rfl⟩:=hcut;have S1:a<=lo:=lk
  have S2:lo<=hi:=lk
  have S3:hi<=m:=lk
  have S4:hi<=mid:=lk
  have S5:nn<=lo+b:=lk
  go_wp2_with fail;rw[E3.out];go_loopw [20,21] (fun sv rv wr=>∃s r:Nat,lo<=s/\s<=r/\r<=hi/\sv= .int .i64 s/\rv= .int .i64 r/\Hid (IF (fun x=>¬k (f (p-x))<k (f x)) lo hi s r)/\Hid (Drawn w wr)) (fun i j _=>(intOf j).toNat-(intOf i).toNat)
  case atStart=>exact⟨lo,hi,nj,nj,nj,rfl,rfl,⟨.inl rfl, .inl rfl⟩,Drawn.refl w⟩
  case round=>as_aux_lemma=>
   obtain⟨s,r,a6,a4,a9,rfl,rfl,hQ,hD⟩:=hrel;by_cases a8:s<r
   ·obtain⟨h,hh⟩:=ii ((s+r) / 2);have a7:s<=h:=nj;have ba:h<r:=nj;have hE:Hid (((s:Int)+(r:Int)) / 2=(h:Int)):=rN;clear hh;have c1:=(hD.out.dat HD.out).cell (i:=p-h) nj;have c2:=(hD.out.dat HD.out).cell (i:=h) nj;have Y:=fun q=>HC.out (f (p-h)) (f h) (wr.drewN q) (HA.out (p-h) nj) (HA.out h nj) ((hD.out.more q).kept);have x3:(0:Int)<=(h:Int):=nj;have x4:(h:Int)<(n:Int):=nj;have x5:(0:Int)<=(p:Int)-(h:Int):=nj;have x6:(p:Int)-(h:Int)<(n:Int):=nj;have x7:(h:Int)<=(p:Int):=nj;have x8:h<=p:=nj;have s1:IntKind.i64.wrap ((p:Int)-(h:Int))=(p:Int)-(h:Int):=Ar _ nj;have s2:((p:Int)-(h:Int)).toNat=p-h:=nj;obtain⟨cv,af⟩:=ii (FL (k (f (p-h))) (k (f h)));rw[<-af]at Y;have ai:∀q,Hid (Drawn w (wr.drewN q)):=fun q=>hD.out.more q;have aq:Hid (((p:Int)-(h:Int)).toNat=p-h/\IntKind.i64.wrap ((p:Int)-(h:Int))=(p:Int)-(h:Int)):=⟨s2,s1⟩;by_cases hk:k (f (p-h))<k (f h)
    ·have d1:decide (cv<0)=true:=(by rw[af];have:=Mr hk;simpa using this);have HX:Hid (IF (fun x=>¬k (f (p-x))<k (f x)) lo hi s h):=⟨hQ.out.1, .inr (fun hn=>hn hk)⟩;clear af hk hQ s1 s2;generalize f h=v1 at *;generalize f (p-h)=v2 at *;go_wp2_with fail;rw[hE.out];obtain⟨s2,s1⟩:=aq.out;go_quiet ((go_at_call 347;exact Calls.quiet_of (Y _)));have ar:=ai nq;clear ai Y c1 c2 hD s1 s2;go_wp2_with fail;go_roundw
     case rel=>go_light;exact⟨s,h,nj,nj,nj,rfl,rfl,HX,ar⟩
     case measure=>exact jq
    ·have d1:decide (cv<0)=false:=(by rw[af];have:=Mn hk;simp;omega);have HX:Hid (IF (fun x=>¬k (f (p-x))<k (f x)) lo hi (h+1) r):=⟨.inr hk,hQ.out.2⟩;clear af hk hQ s1 s2;generalize f h=v1 at *;generalize f (p-h)=v2 at *;go_wp2_with fail;rw[hE.out];obtain⟨s2,s1⟩:=aq.out;go_quiet ((go_at_call 347;exact Calls.quiet_of (Y _)));have ar:=ai nq;clear ai Y c1 c2 hD s1 s2;go_wp2_with fail;go_roundw
     case rel=>go_light;exact⟨h+1,r,nj,nj,nj,jr,rfl,HX,ar⟩
     case measure=>exact jq
   ·obtain rfl:s=r:=by omega
    obtain⟨e,he⟩:=ii (nn-s);have e1:e+s<=nn:=nj;have e2:nn<=e+s:=nj;have E4:Hid ((nn:Int)-(s:Int)=(e:Int)):=rN;have ah:m<=e:=nj;have av:e<=b:=nj;have aj:s<=m:=nj
    have M:=Ae1 (k:=k) (f:=f) (a:=a) (s:=s) (m:=m) (e:=e) (b:=b) nj aj ah av HL.out HR.out aw.out
     (oV aj ah HL.out HR.out aw.out (by
       have h1:=hQ.out.1;have h2:=E.out;unfold Jg at h2;by_cases x:s=a
       ·exact .inl x
       ·by_cases y:e=b
        ·exact .inr (.inl y)
        ·refine .inr (.inr ⟨nj,nj,?_⟩);rcases h1 with h1|h1
         ·omega
         ·rw[show p-(s-1)=e by omega]at h1;omega))
     (QF nj av HL.out HR.out (by
       have h1:=hQ.out.2;have h2:=E.out;unfold Jg at h2;by_cases x:s=m
       ·exact .inl x
       ·by_cases y:e=m
        ·exact .inr (.inl y)
        ·refine .inr (.inr ⟨nj,nj,?_⟩);rcases h1 with h1|h1
         ·omega
         ·have h3:¬ ¬k (f (p-s))<k (f s):=h1;rw[show p-s=e-1 by omega]at h3;omega))
    have ab:s+(e-m)=mid:=nj;rw[ab]at M;obtain⟨Z,al,q1,q2,q3,q4,q5,q6,q7⟩:=M;have HH:Hid (Halves k (Al1 f s m e) a s mid e b):=⟨q1,q2,q3,q4,q5,q6⟩;have an:Hid (All N n (Al1 f s m e)):=HA.out.rot aj ah nj;have aa:Hid (∀G H,Mer k (Al1 f s m e) G a mid->Mer k G H mid b->Mer k f H a b):=fun G H h1 h2=>Mer.trans Z al (Mer.join nj nj h1 h2 q7);have a0:Hid ((s=m∨m=e)->Al1 f s m e=f):=Mu f aj ah;clear Z al q1 q2 q3 q4 q5 q6 q7 hQ he ab;have ag:=hD;clear hD;obtain⟨wo,rfl⟩:=ii wr;go_upto_region 39 with fail;rw[E4.out];go_cut [185] (fun v wx=>∃bb:Bool,v= .bool bb/\Hid (bb=true->s<m/\m<e)/\Hid (bb=false->m<=s∨e<=m)/\wo=wx)
    case first=>
     by_cases h1:s<m
     ·by_cases h2:m<e
      ·exact a3a
      ·exact a3b
     ·exact a3c
    case rest=>as_aux_lemma=>
     obtain⟨bb,rfl,ac,Q,rfl⟩:=hcut;go_upto_if 185 with fail;go_cut [20] (fun v wx=>v= .int .i64 s/\Hid (Put g n (Al1 f s m e) w wx))
     case first=>
      cases bb
      ·have h:=Q.out rfl;have e':=a0.out nj;have HP:Hid (Put g n (Al1 f s m e) w wo):=(by show Put _ _ _ _ _;rw[e'];exact ag.out.put HD.out);clear e';go_wp2_with fail;go_meet
       case rel=>exact⟨rfl,HP⟩
      ·obtain⟨h1,h2⟩:=ac.out rfl;go_wp2_with fail;refine(Yo wo g n c s m e f _ hN h1 h2 nj (ag.out.dat HD.out)).mono ?_;rintro ee w1 ⟨rfl,z⟩;have HP:Hid (Put g n (Al1 f s m e) w w1):=(ag.out.put HD.out).trans z;clear z;go_wp2_with fail;go_meet
       case rel=>exact⟨rfl,HP⟩
     case rest=>as_aux_lemma=>
      obtain⟨rfl,HP⟩:=hcut;clear ac Q ag;generalize Al1 f s m e=F1 at *;go_upto_region 41 with fail;obtain⟨w1,rfl⟩:=ii wc;go_cut [199] (fun v wx=>∃bb:Bool,v= .bool bb/\Hid (bb=true->a<s/\s<mid)/\Hid (bb=false->s<=a∨mid<=s)/\w1=wx)
      case first=>
       by_cases h1:a<s
       ·by_cases h2:s<mid
        ·exact a3a
        ·exact a3b
       ·exact a3c
      case rest=>as_aux_lemma=>
       obtain⟨bb,rfl,ac,Q,rfl⟩:=hcut;go_upto_if 199 with fail;go_cut [20] (fun v wx=>v= .int .i64 s/\∃F2,Hid (Put g n F2 w wx)/\Hid (Mer k F1 F2 a mid))
       case first=>
        cases bb
        ·have h:=Q.out rfl
         have ay:Hid (Mer k F1 F1 a mid):=Mer.refl (by
          rcases h with h|h
          ·have:s=a:=nj;have h2:=HH.out.s2;rw[this]at h2;exact h2
          ·have:s=mid:=nj;have h2:=HH.out.s1;rw[this]at h2;exact h2)
         go_wp2_with fail;go_meet
         case rel=>exact⟨rfl,F1,HP,ay⟩
        ·obtain⟨h1,h2⟩:=ac.out rfl;go_wp2_with fail;refine(IH.out w1 a s mid F1 nj h1 h2 nj HH.out.s1 HH.out.s2 HH.out.l1 an.out HP.out.1 (HC.out.keep HP.out.2)).mono ?_;rintro ee w2 ⟨rfl,F2,z,U⟩;have L:Hid (Put g n F2 w w2):=HP.out.trans z;have J:=hid U;clear z U;go_wp2_with fail;go_meet
         case rel=>exact⟨rfl,F2,L,J⟩
       case rest=>as_aux_lemma=>
        obtain⟨rfl,F2,L,J⟩:=hcut;clear ac Q HP;have k1:∀i,mid<=i->i<b->F2 i=F1 i:=fun i hi _=>J.out.2.2 i (.inr hi);have H3:Hid (Sor k F2 mid e):=HH.out.s3.congr (fun i h1 h2=>k1 i h1 nj);have H4:Hid (Sor k F2 e b):=HH.out.s4.congr (fun i h1 h2=>k1 i nj h2);have H5:Hid (Low F2 mid e b):=HH.out.l2.congr k1;have H6:Hid (All N n F2):=an.out.mer J.out nj;clear k1;by_cases h1:mid<e
        ·by_cases h2:e<b
         ·go_wp2_with fail;refine(IH.out _ mid e b F2 nj h1 h2 hb H3.out H4.out H5.out H6.out L.out.1 (HC.out.keep L.out.2)).mono ?_;rintro ee w3 ⟨rfl,F3,z,U⟩;have a1:Hid (Put g n F3 w w3):=L.out.trans z;have ae:Hid (Mer k f F3 a b):=aa.out F2 F3 J.out U;clear z U;go_wp2_with fail;refine bodyPost_end (Cb rfl _ _ _) rfl ⟨rfl,F3,a1.out,ae.out⟩
         ·have ae:Hid (Mer k f F2 a b):=aa.out F2 F2 J.out (Mer.refl (by have:e=b:=nj;have h3:=H3.out;rw[this]at h3;exact h3));go_wp2_with fail;refine bodyPost_end (Cb rfl _ _ _) rfl ⟨rfl,F2,L.out,ae.out⟩
        ·have ae:Hid (Mer k f F2 a b):=aa.out F2 F2 J.out (Mer.refl (by have:mid=e:=nj;have h3:=H4.out;rw[<-this]at h3;exact h3));go_wp2_with fail;refine bodyPost_end (Cb rfl _ _ _) rfl ⟨rfl,F2,L.out,ae.out⟩
theorem Rf(Bo g n c N:Nat)(k:Nat->Nat)(hN:n<=4611686018427387904):∀d,WX Bo g n c N k d
 |0=>fun w a m b f h1 h2 h3=>nj
 |d+1=>by
  intro w a m b f h1 h2 h3 h4 h5 h6 h7 h8 h9 h;by_cases e1:m=a+1
  ·subst e1;exact Zw w Bo g n c a b N k f hN h3 h4 h6 h7 h8 h9 h
  ·by_cases e2:b=m+1
   ·subst e2;exact mF w Bo g n c a m N k f hN nj h4 h5 h7 h8 h9 h
   ·exact Zc w Bo g n c a m b N k f d (Rf Bo g n c N k hN d) h1 hN nj nj h4 h5 h6 h7 h8 h9 h
theorem qC(Bo g n c N:Nat)(k:Nat->Nat)(hN:n<=4611686018427387904):∀ (w:World) (x y z:Int) (a m b:Nat) (f:Nat->Nat),x=a->y=m->z=b->a<m->m<b->b<=n->Sor k f a m->Sor k f m b->Low f a m b->All N n f->Dat w g n f->CmpOk Bo g N w k->
 Calls prog 374 #[.slice (some ⟨g,0,none⟩) n c,x,y,z, .func (Fn.func 347) #[] #[.pointer (some ⟨Bo,0,none⟩)]] w (Jb k f g n a b w):=by
 intro w x y z a m b f h1 h2 h3;subst h1 h2 h3;exact Rf Bo g n c N k hN (b-a) w a m b f (Ak _)
def VD(k f0:Nat->Nat)(g n:Nat)(w:World)(e:Ending)(w':World):Prop:=e= .returned (.tuple #[])/\∃f',Put g n f' w w'/\Al2 k f0 f' 0 n
structure Std (k f0 f:Nat->Nat) (N g n:Nat) (w wr:World):Prop where
 put:Put g n f w wr
 all:All N n f
theorem Std.next{k f0 f f':Nat->Nat}(h:Std k f0 f N g n w wr)(hp:Put g n f' wr w1)(hm:Mer k f f' a b)(hb:b<=n):Std k f0 f' N g n w w1:=⟨h.put.trans hp,h.all.mer hm hb⟩
theorem nB(w:World)(Bo g n c N:Nat)(k f0:Nat->Nat)(hN:n<=1000000)(h0:∀i j,i<j->j<n->f0 i<f0 j)(aa:All N n f0)(hd:Dat w g n f0)(hc:CmpOk Bo g N w k):
 Calls prog 361 #[.slice (some ⟨g,0,none⟩) n c,n, .func (Fn.func 347) #[] #[.pointer (some ⟨Bo,0,none⟩)]] w (VD k f0 g n w):=by
 have S:=hid (qC Bo g n c N k nj);have I:=hid (fun(wx:World) (a b:Nat) (f:Nat->Nat) h1 h2 h3 h4 h5 h6=>rA wx Bo g n c a b N k f nj h1 h2 h3 h4 h5 h6);have H0:=hid h0;have HC:=hid hc;have p0:Hid (Std k f0 f0 N g n w w):=⟨Put.refl hd,aa⟩;clear h0 aa hd hc;go_enter func361,ntmps361;go_wp2_with fail;go_loopw [7,8] (fun av bv wr=>∃ (q A B:Nat) (f:Nat->Nat),A<=n/\A+20<=B/\B<=A+20/\av= .int .i64 A/\bv= .int .i64 B/\Hid (A=20*q)/\Hid (Ph1 k f0 f n q)/\Hid (Std k f0 f N g n w wr)) (fun _ b _=>n+20-(intOf b).toNat)
 case atStart=>exact⟨0,0,20,f0,nj,nj,nj,rfl,rfl,rfl,Ph1.start f0 n,p0⟩
 case round=>
  clear p0;obtain⟨q,A,B,f,hA1,af,ah,rfl,rfl,hA,hP,hS⟩:=hrel;have Z:∀i j,A<=i->i<j->j<n->f i<f j:=fun i j h1 h2 h3=>by have:=hA.out;rw[hP.out.2 i nj,hP.out.2 j nj];exact H0.out i j h2 h3
  have M:=hid Z;clear Z;by_cases G:B<=n
  ·go_wp2_with fail;refine(I.out wr A B f nj G (fun i j h1 h2 h3=>M.out i j h1 h2 nj) hS.out.all hS.out.put.1 (HC.out.keep hS.out.put.2)).mono ?_;rintro e w1 ⟨rfl,f',Q,z⟩;have Y:Hid (Std k f0 f' N g n w w1):=hS.out.next Q z G;have U:Hid (Ph1 k f0 f' n (q+1)):=(by have e1:=hA.out;have e2:B=20*q+20:=nj;rw[e1,e2]at z;exact hP.out.step z nj);have ai:Hid (B=20*(q+1)):=(by show _=_;have:=hA.out;omega);clear Q z;go_wp2_with fail;go_roundw
   case rel=>go_light;exact⟨q+1,B,B+20,f',nj,nj,nj,rfl,jr,ai,U,Y⟩
   case measure=>exact jq
  ·obtain⟨wo,rfl⟩:=ii wr;go_wp2_with fail;refine(I.out wo A n f hA1 (Ak _) M.out hS.out.all hS.out.put.1 (HC.out.keep hS.out.put.2)).mono ?_;rintro e w1 ⟨rfl,f',Q,z⟩;have Y:Hid (Std k f0 f' N g n w w1):=hS.out.next Q z (Ak _);have U:Hid (Ph2 k f0 f' n 20 0):=(by have e1:=hA.out;rw[e1]at z;exact hP.out.done z nj nj);clear Q z M hS hP;go_wp2_with fail;go_loopw [6] (fun sv wr=>∃ (s:Nat) (f:Nat->Nat),20<=s/\s<=2*n+20/\sv= .int .i64 s/\Hid (Ph2 k f0 f n s 0)/\Hid (Std k f0 f N g n w wr)) (fun s _=>n-(intOf s).toNat)
   case atStart=>exact⟨20,f',nj,nj,rfl,U,Y⟩
   case round=>
    clear U Y;obtain⟨s,f1,ak,am,rfl,ab,ac⟩:=hrel;by_cases aj:s<n
    ·obtain⟨wp,rfl⟩:=ii wr;go_wp2_with fail;go_loopw [7,8] (fun av bv wr=>∃ (q A B:Nat) (f:Nat->Nat),A<=n/\A+2*s<=B/\B<=A+2*s/\av= .int .i64 A/\bv= .int .i64 B/\Hid (A=2*s*q)/\Hid (Ph2 k f0 f n s q)/\Hid (Std k f0 f N g n w wr)) (fun _ b _=>n+2*s-(intOf b).toNat)
     case atStart=>exact⟨0,0,2*s,f1,nj,nj,nj,rfl,jr,rR,ab,ac⟩
     case round=>as_aux_lemma=>
      clear ab ac;obtain⟨q,A,B,f,hA1,af,ah,rfl,rfl,hA,hP,hS⟩:=hrel;by_cases G:B<=n
      ·have h:=hP.out.parts H0.out hA.out nj (b:=B) nj;have y:=hid h;clear h;go_wp2_with fail;refine(S.out wr _ _ _ A (A+s) B f rfl nj rfl nj nj G y.out.1.1 y.out.2.1.1 y.out.2.2 hS.out.all hS.out.put.1 (HC.out.keep hS.out.put.2)).mono ?_;rintro e w2 ⟨rfl,f2,J,E⟩;have ae:Hid (Std k f0 f2 N g n w w2):=hS.out.next J E G;have L:Hid (Ph2 k f0 f2 n s (q+1)):=hP.out.step hA.out nj G y.out.1 y.out.2.1 E;have ag:Hid (B=2*s*(q+1)):=(by show _=_;have:=hA.out;rw[Nat.mul_add,<-this];omega);clear J E;go_wp2_with fail;go_roundw
       case rel=>go_light;exact⟨q+1,B,B+2*s,f2,nj,nj,nj,rfl,Aw (Value.int .i64) nj,ag,L,ae⟩
       case measure=>exact jq
      ·by_cases al:A+s<n
       ·have h:=hP.out.parts H0.out hA.out nj (b:=n) nj;have y:=hid h;clear h;go_wp2_with fail;refine(S.out wr _ _ _ A (A+s) n f rfl nj rfl nj nj (Ak _) y.out.1.1 y.out.2.1.1 y.out.2.2 hS.out.all hS.out.put.1 (HC.out.keep hS.out.put.2)).mono ?_;rintro e w2 ⟨rfl,f2,J,E⟩;have ae:Hid (Std k f0 f2 N g n w w2):=hS.out.next J E (Ak _);have L:Hid (Ph2 k f0 f2 n (2*s) 0):=Ph2.next (hP.out.last_more hA.out rfl nj nj y.out.1 y.out.2.1 E);clear J E;go_wp2_with fail;go_roundw
        case rel=>go_light;exact⟨2*s,f2,nj,nj,Aw (Value.int .i64) nj,L,ae⟩
        case measure=>exact jq
       ·have L:Hid (Ph2 k f0 f n (2*s) 0):=Ph2.next (hP.out.last_few hA.out rfl nj nj);go_wp2_with fail;go_roundw
        case rel=>go_light;exact⟨2*s,f,nj,nj,Aw (Value.int .i64) nj,L,hS⟩
        case measure=>exact jq
    ·go_wp2_with fail;refine bodyPost_end (Cb rfl _ _ _) rfl ⟨rfl,f1,ac.out.put,ab.out.all nj⟩
theorem qF(w:World)(Bo g n c N:Nat)(k f0:Nat->Nat)(hN:n<=1000000)(h0:∀i j,i<j->j<n->f0 i<f0 j)(y:All N n f0)(hd:Dat w g n f0)(hc:CmpOk Bo g N w k):
 Calls prog 346 #[.slice (some ⟨g,0,none⟩) n c, .func (Fn.func 347) #[] #[.pointer (some ⟨Bo,0,none⟩)]] w (VD k f0 g n w):=by
 have C:=hid (nB w Bo g n c N k f0 hN h0 y hd hc);clear h0 y hd hc;go_enter func346,ntmps346;go_wp2_with fail;refine C.out.mono ?_;rintro e w1 ⟨rfl,h⟩;have H:=hid h;clear h;go_wp2_with fail;refine bodyPost_end (Cb rfl _ _ _) rfl ⟨rfl,H.out⟩
theorem a2w{p:Prop}(h:p:=by go_wp2_with fail;refine wp_loop_rounds 1 ?_;rw[rounds_succ];go_wp2_with fail;refine bodyPost_end (Cb rfl _ _ _) rfl ⟨rfl,rfl⟩):p:=h
theorem pE(w:World)(u v:Value):
 Calls prog 373 #[v,ij,ij,u] w fun e w'=>e= .returned (.tuple #[])/\w=w':=by
 go_enter func373,ntmps373;exact a2w
theorem mJ(w:World)(u v:Value):
 Calls prog 361 #[v,ij,u] w fun e w'=>e= .returned (.tuple #[])/\w=w':=by
 go_enter func361,ntmps361;go_wp2_with fail;refine wp_loop_rounds 1 ?_;rw[rounds_succ];go_wp2_with fail;refine(pE _ _ _).mono ?_;rintro e w1 ⟨rfl,rfl⟩;exact a2w
theorem pH(w:World)(u:Value):
 Calls prog 346 #[(),u] w fun e w'=>e= .returned (.tuple #[])/\w=w':=by
 go_enter func346,ntmps346;go_wp2_with fail;refine(mJ _ _ _).mono ?_;rintro e w1 ⟨rfl,rfl⟩;go_wp2_with fail;refine bodyPost_end (Cb rfl _ _ _) rfl ⟨rfl,rfl⟩
end Go.Proofs.YtfgdoknipbpfhaaGreatDoor
