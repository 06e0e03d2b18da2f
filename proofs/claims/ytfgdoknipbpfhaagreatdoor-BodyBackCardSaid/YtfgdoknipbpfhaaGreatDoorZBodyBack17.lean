/- Plain: numbers by pl -/
import Derived.Test.YtfgdoknipbpfhaaGreatDoorZBodyBack2
import Derived.BigRegion
import Derived.Deep.LoopGhost
import Derived.IntWalk
namespace Go.Proofs.YtfgdoknipbpfhaaGreatDoor
open Go.Proofs.Tryz
open Go.Lib (hid)
set_option maxHeartbeats 2000000
set_option maxRecDepth 100000
variable{A N a a' b b' c e g i j m n p q s x:Nat}{w w1 wr:World}{S l:List Nat}
namespace Srt
def seg(f:Nat->Nat)(a b:Nat):List Nat:=(List.range' a (b-a)).map f
theorem seg_length(f:Nat->Nat)(a b:Nat):(seg f a b).length=b-a:=by simp[seg]
theorem G7(f:Nat->Nat)(a b i:Nat)(h:i<(seg f a b).length):(seg f a b)[i]=f (a+i):=by simp[seg]
theorem I5{f g:Nat->Nat}(h:∀i,a<=i->i<b->f i=g i):seg f a b=seg g a b:=by refine List.ext_getElem (by rw[seg_length,seg_length]) fun i h1 h2=> ?_;rw[seg_length]at h1;rw[G7,G7];exact h _ nj nj
theorem Rb{f g:Nat->Nat}(hd:b-a=b'-a')(h:∀i,i<b-a->f (a+i)=g (a'+i)):seg f a b=seg g a' b':=by refine List.ext_getElem (by rw[seg_length,seg_length,hd]) fun i h1 h2=> ?_;rw[seg_length]at h1;rw[G7,G7];exact h _ h1
theorem seg_append(f:Nat->Nat)(h1:a<=m)(h2:m<=b):seg f a b=seg f a m++seg f m b:=by
 refine List.ext_getElem (by rw[Ag,seg_length,seg_length,seg_length];omega) fun i h3 h4=> ?_;rw[G7];rw[seg_length]at h3;by_cases hi:i<m-a
 ·rw[List.getElem_append_left qv,G7]
 ·rw[List.getElem_append_right qv,G7,seg_length];congr 1;omega
theorem Kh{f:Nat->Nat}:x∈seg f a b↔∃i,a<=i/\i<b/\f i=x:=by
 unfold seg;rw[Co];constructor
 ·rintro⟨i,hi,rfl⟩;rw[List.mem_range'_1]at hi;exact⟨i,hi.1,nj,rfl⟩
 ·rintro⟨i,h1,h2,rfl⟩;exact⟨i,List.mem_range'_1.2 ⟨h1,nj⟩,rfl⟩
theorem Wh(f:Nat->Nat)(h:b<=a):seg f a b= []:=GC qv
def swp(f:Nat->Nat)(p q:Nat)(i:Nat):Nat:=if i=p then f q else if i=q then f p else f i
def swr(f:Nat->Nat)(a b n:Nat)(i:Nat):Nat:=if a<=i/\i<a+n then f (b+(i-a))else if b<=i/\i<b+n then f (a+(i-b))else f i
def rot(f:Nat->Nat)(a m b:Nat)(i:Nat):Nat:=if a<=i/\i<a+(b-m)then f (i+(m-a))else if a+(b-m)<=i/\i<b then f (i-(b-m))else f i
theorem fG(f:Nat->Nat)(a b:Nat):swr f a b 0=f:=by funext i;unfold swr;rw[Aa nj,Aa nj]
theorem d6(f:Nat->Nat)(a b n:Nat)(h:a+n<b):swp (swr f a b n) (a+n) (b+n)=swr f a b (n+1):=by
 funext i
 unfold swp swr
 repeat' split
 all_goals first|rfl|(exfalso;omega)|(congr 1;omega)
theorem bJ(f:Nat->Nat)(a i j:Nat)(h:j<i):rot f a (a+i) (a+i+j)=rot (swr f a (a+i) j) (a+j) (a+i) (a+i+j):=by
 funext x
 unfold rot swr
 repeat' split
 all_goals first|rfl|(exfalso;omega)|(congr 1;omega)
theorem aQ(f:Nat->Nat)(a i j:Nat)(h:i<j):rot f a (a+i) (a+i+j)=rot (swr f a (a+j) i) a (a+i) (a+j):=by
 funext x
 unfold rot swr
 repeat' split
 all_goals first|rfl|(exfalso;omega)|(congr 1;omega)
theorem Z3(f:Nat->Nat)(a i:Nat):rot f a (a+i) (a+i+i)=swr f a (a+i) i:=by
 funext x
 unfold rot swr
 repeat' split
 all_goals first|rfl|(exfalso;omega)|(congr 1;omega)
theorem NF(f:Nat->Nat)(ha:a<=m)(hb:m<=b)(h:a=m∨m=b):rot f a m b=f:=by
 funext x
 unfold rot
 repeat' split
 all_goals first|rfl|(exfalso;omega)|(congr 1;omega)
theorem ZI(f:Nat->Nat)(a t:Nat):swp (rot f a (a+1) (a+1+t)) (a+t) (a+t+1)=rot f a (a+1) (a+1+(t+1)):=by
 funext x
 unfold swp rot
 repeat' split
 all_goals first|rfl|(exfalso;omega)|(congr 1;omega)
theorem SY(f:Nat->Nat)(m j:Nat)(h:j<m):swp (rot f (j+1) m (m+1)) (j+1) j=rot f j m (m+1):=by
 funext x
 unfold swp rot
 repeat' split
 all_goals first|rfl|(exfalso;omega)|(congr 1;omega)
theorem MY(f:Nat->Nat)(h:i<a):rot f a m b i=f i:=by unfold rot;rw[Aa nj,Aa nj]
theorem KN(f:Nat->Nat)(h1:a<=i)(h2:i<a+(b-m)):rot f a m b i=f (i+(m-a)):=by unfold rot;rw[Ab ⟨h1,h2⟩]
theorem QD(f:Nat->Nat)(h1:a+(b-m)<=i)(h2:i<b):rot f a m b i=f (i-(b-m)):=by unfold rot;rw[Aa nj,Ab ⟨h1,h2⟩]
theorem Vr(f:Nat->Nat)(ha:a<=m)(hm:m<=b)(h:b<=i):rot f a m b i=f i:=by unfold rot;rw[Aa nj,Aa nj]
theorem dA(f:Nat->Nat)(ha:a<=m)(hm:m<=b):(seg (rot f a m b) a b).Perm (seg f a b):=by rw[seg_append (rot f a m b) (m:=a+(b-m)) nj nj,seg_append f ha hm];rw[Rb (f:=rot f a m b) (g:=f) (a:=a) (b:=a+(b-m)) (a':=m) (b':=b) nj (fun i hi=>by rw[KN f nj nj];congr 1;omega)];rw[Rb (f:=rot f a m b) (g:=f) (a:=a+(b-m)) (b:=b) (a':=a) (b':=m) nj (fun i hi=>by rw[QD f nj nj];congr 1;omega)];exact List.perm_append_comm
section
variable (k:Nat->Nat)
def Lt(x y:Nat):Prop:=k x<k y∨(k x=k y/\x<y)
def Sor(f:Nat->Nat)(a b:Nat):Prop:=∀i j,a<=i->i<j->j<b->Lt k (f i) (f j)
def Low(f:Nat->Nat)(a m b:Nat):Prop:=∀i j,a<=i->i<m->m<=j->j<b->f i<f j
def Crs(f:Nat->Nat)(a m e b:Nat):Prop:=∀i j,a<=i->i<m->e<=j->j<b->Lt k (f i) (f j)
def Mer(f f':Nat->Nat)(a b:Nat):Prop:=Sor k f' a b/\(seg f' a b).Perm (seg f a b)/\∀i,(i<a∨b<=i)->f' i=f i
end
variable {k:Nat->Nat}
theorem Lt.trans{y z:Nat}(h1:Lt k x y)(h2:Lt k y z):Lt k x z:=by unfold Lt at *;omega
theorem Sor.le{f:Nat->Nat}(h:Sor k f a b)(hi:a<=i)(y:i<=j)(hj:j<b):f i=f j∨Lt k (f i) (f j):=by
 rcases Nat.eq_or_lt_of_le y with e|e
 ·exact .inl (by rw[e])
 ·exact .inr (h i j hi e hj)
theorem Mer.refl{f:Nat->Nat}(h:Sor k f a b):Mer k f f a b:=⟨h,List.Perm.refl _,fun _ _=>rfl⟩
theorem Sor.few{f:Nat->Nat}(h:b<=a+1):Sor k f a b:=fun i j _ _ _=>nj
theorem Sor.sub{f:Nat->Nat}(h:Sor k f a b)(h1:a<=a')(h2:b'<=b):Sor k f a' b':=fun i j hi hij hj=>h i j nj hij nj
theorem Sor.congr{f g:Nat->Nat}(h:Sor k f a b)(he:∀i,a<=i->i<b->g i=f i):Sor k g a b:=fun i j hi hij hj=>by rw[he i hi nj,he j nj hj];exact h i j hi hij hj
theorem Sor.join{f:Nat->Nat}(h1:Sor k f a m)(h2:Sor k f m b)(h3:Crs k f a m m b):Sor k f a b:=fun i j hi hij hj=>by
 by_cases e:j<m
 ·exact h1 i j hi hij e
 ·by_cases e':i<m
  ·exact h3 i j hi e' nj hj
  ·exact h2 i j nj hij hj
theorem Mer.mem{f f':Nat->Nat}(h:Mer k f f' a b)(h1:a<=i)(h2:i<b):∃i',a<=i'/\i'<b/\f i'=f' i:=
 Kh.1 (h.2.1.mem_iff.1 (Kh.2 ⟨i,h1,h2,rfl⟩))
theorem Mer.join{f g h:Nat->Nat}(y:a<=m)(z:m<=b)(h1:Mer k f g a m)(h2:Mer k g h m b)(hc:Crs k f a m m b):Mer k f h a b:=by
 refine⟨Sor.join (m:=m) (h1.1.congr fun i _ hi=>h2.2.2 i nj) h2.1 fun i j hi him hj hjb=> ?_,?_,fun i hi=> ?_⟩
 ·rw[h2.2.2 i nj];obtain⟨i',a1,a2,a3⟩:=h1.mem hi him;obtain⟨j',b1,b2,b3⟩:=h2.mem hj hjb;rw[<-a3,<-b3,h1.2.2 j' nj];exact hc i' j' a1 a2 b1 b2
 ·rw[seg_append h y z,seg_append f y z];refine List.Perm.append ?_ ?_
  ·rw[I5 (fun i _ hi=>h2.2.2 i nj)];exact h1.2.1
  ·refine h2.2.1.trans ?_;rw[I5 (fun i hi _=>h1.2.2 i nj)]
 ·rw[h2.2.2 i nj,h1.2.2 i nj]
theorem Mer.trans{f g h:Nat->Nat}(hp:(seg g a b).Perm (seg f a b))(ho:∀i,(i<a∨b<=i)->g i=f i)(h2:Mer k g h a b):Mer k f h a b:=
 ⟨h2.1,h2.2.1.trans hp,fun i hi=>(h2.2.2 i hi).trans (ho i hi)⟩
theorem split{f:Nat->Nat}(h1:a<=s)(h2:s<=m)(h3:m<=e)(h4:e<=b)(hl:Sor k f a m)(hr:Sor k f m b)(z:Low f a m b)
 (c1:Crs k f a s e b)(c2:∀i j,m<=i->i<e->s<=j->j<m->Lt k (f i) (f j)):
 (seg (rot f s m e) a b).Perm (seg f a b)/\(∀i,(i<a∨b<=i)->rot f s m e i=f i)/\
 Sor k (rot f s m e) a s/\Sor k (rot f s m e) s (s+(e-m))/\Low (rot f s m e) a s (s+(e-m))/\
 Sor k (rot f s m e) (s+(e-m)) e/\Sor k (rot f s m e) e b/\Low (rot f s m e) (s+(e-m)) e b/\Crs k (rot f s m e) a (s+(e-m)) (s+(e-m)) b:=by
 have p1:∀i,i<s->rot f s m e i=f i:=fun i hi=>MY f hi;have p2:∀i,s<=i->i<s+(e-m)->rot f s m e i=f (i+(m-s)):=fun i hi h=>KN f hi h;have p3:∀i,s+(e-m)<=i->i<e->rot f s m e i=f (i-(e-m)):=fun i hi h=>QD f hi h;have p4:∀i,e<=i->rot f s m e i=f i:=fun i hi=>Vr f h2 h3 hi;refine⟨?_,fun i hi=> ?_,?_,?_,?_,?_,?_,?_,?_⟩
 ·rw[seg_append (rot f s m e) h1 (by omega:s<=b),seg_append (rot f s m e) (by omega:s<=e) h4,seg_append f h1 (by omega:s<=b),seg_append f (by omega:s<=e) h4];refine List.Perm.append ?_ (List.Perm.append (dA f h2 h3) ?_)
  ·rw[I5 (fun i _ hi=>p1 i hi)]
  ·rw[I5 (fun i hi _=>p4 i hi)]
 ·rcases hi with hi|hi
  ·exact p1 i nj
  ·exact p4 i nj
 ·exact(hl.sub (Ak a) h2).congr fun i _ hi=>p1 i hi
 ·intro i j hi E hj;rw[p2 i hi nj,p2 j nj hj];exact hr _ _ nj nj nj
 ·intro i j hi h hj y;rw[p1 i h,p2 j hj y];exact z _ _ hi nj nj nj
 ·intro i j hi E hj;rw[p3 i hi nj,p3 j nj hj];exact hl _ _ nj nj nj
 ·intro i j hi E hj;rw[p4 i hi,p4 j nj];exact hr _ _ nj E hj
 ·intro i j hi h hj y;rw[p3 i hi h,p4 j hj];exact z _ _ nj nj nj y
 ·intro i j hi h hj y;by_cases x1:i<s
  ·rw[p1 i x1];by_cases x2:j<e
   ·rw[p3 j hj x2];exact hl _ _ hi nj nj
   ·rw[p4 j nj];exact c1 _ _ hi x1 nj y
  ·rw[p2 i nj h];by_cases x2:j<e
   ·rw[p3 j hj x2];exact c2 _ _ nj nj nj nj
   ·rw[p4 j nj];exact hr _ _ nj nj nj
theorem jE{f:Nat->Nat}(h2:s<=m)(h3:m<=e)(hl:Sor k f a m)(hr:Sor k f m b)(y:Low f a m b)
 (h:s=a∨e=b∨(a<s/\e<b/\k (f (s-1))<=k (f e))):Crs k f a s e b:=by
 intro i j hi E hj z;rcases h with h|h|⟨x1,x2,x3⟩
 ·omega
 ·omega
 ·have y1:=hl.le hi (by omega:i<=s-1) nj;have y2:=hr.le h3 hj z;have y3:Lt k (f (s-1)) (f e):=by have:=y (s-1) e nj nj h3 x2;unfold Lt;omega
  rcases y1 with y1|y1
  ·rw[y1];rcases y2 with y2|y2
   ·rw[<-y2];exact y3
   ·exact y3.trans y2
  ·rcases y2 with y2|y2
   ·rw[<-y2];exact y1.trans y3
   ·exact(y1.trans y3).trans y2
theorem PM{f:Nat->Nat}(h1:a<=s)(h4:e<=b)(hl:Sor k f a m)(hr:Sor k f m b)
 (h:s=m∨e=m∨(s<m/\m<e/\k (f (e-1))<k (f s))):∀i j,m<=i->i<e->s<=j->j<m->Lt k (f i) (f j):=by
 intro i j hi z hj y;rcases h with h|h|⟨x1,x2,x3⟩
 ·omega
 ·omega
 ·have y1:=hr.le hi (by omega:i<=e-1) nj;have y2:=hl.le h1 hj y;have y3:Lt k (f (e-1)) (f s):= .inl x3;rcases y1 with y1|y1
  ·rw[y1];rcases y2 with y2|y2
   ·rw[<-y2];exact y3
   ·exact y3.trans y2
  ·rcases y2 with y2|y2
   ·rw[<-y2];exact y1.trans y3
   ·exact(y1.trans y3).trans y2
theorem SH{f:Nat->Nat}(h1:a<=s)(h2:s<=m)(hl:Sor k f a m)(h:Low f a m (m+1))(g1:s=a∨k (f (s-1))<=k (f m))(g2:s=m∨k (f m)<k (f s)):
 Mer k f (rot f s m (m+1)) a (m+1):=by
 have c1:Crs k f a s (m+1) (m+1):=fun i j _ _ _ _=>nj
 have c2:=PM (k:=k) (f:=f) (a:=a) (s:=s) (m:=m) (e:=m+1) (b:=m+1) h1 (Ak _) hl (Sor.few nj) (by
  rcases g2 with g2|g2
  ·exact .inl g2
  ·by_cases e:s=m
   ·exact .inl e
   ·exact .inr (.inr ⟨nj,nj,by simpa using g2⟩))
 obtain⟨hp,ho,s1,s2,l1,s3,s4,l2,hc⟩:=split h1 h2 (by omega:m<=m+1) (Ak _) hl (Sor.few nj) h c1 c2;refine⟨?_,hp,ho⟩;rw[show s+(m+1-m)=s+1 by omega]at *;refine Sor.join (m:=s+1) (Sor.join s1 s2 fun i j hi hi' hj hj'=> ?_) s3 hc;obtain rfl:j=s:=nj
 rw[MY f hi',KN f (Ak _) nj,show j+(m-j)=m by omega];rcases g1 with g1|g1
 ·omega
 ·have y1:=hl.le hi (by omega:i<=j-1) nj;have y2:=h (j-1) m nj nj (Ak _) nj;have y3:Lt k (f (j-1)) (f m):=by unfold Lt;omega
  rcases y1 with y1|y1
  ·rw[y1];exact y3
  ·exact y1.trans y3
theorem iK{f:Nat->Nat}(h3:a+1<=e)(h4:e<=b)(hr:Sor k f (a+1) b)(h:Low f a (a+1) b)(g1:e=b∨k (f a)<=k (f e))(g2:e=a+1∨k (f (e-1))<k (f a)):
 Mer k f (rot f a (a+1) e) a b:=by
 have c1:Crs k f a a e b:=fun i j _ _ _ _=>nj
 have c2:=PM (k:=k) (f:=f) (a:=a) (s:=a) (m:=a+1) (e:=e) (b:=b) (Ak _) h4 (Sor.few nj) hr (by
  rcases g2 with g2|g2
  ·exact .inr (.inl g2)
  ·by_cases e':e=a+1
   ·exact .inr (.inl e')
   ·exact .inr (.inr ⟨nj,nj,g2⟩))
 obtain⟨hp,ho,s1,s2,l1,s3,s4,l2,hc⟩:=split (Ak a) (by omega:a<=a+1) h3 h4 (Sor.few nj) hr h c1 c2;refine⟨?_,hp,ho⟩;rw[show a+(e-(a+1))=e-1 by omega]at *;refine Sor.join (m:=e-1) s2 (Sor.join (m:=e) s3 s4 fun i j hi hi' hj hj'=> ?_) hc;obtain rfl:i=e-1:=nj
 rw[Vr f nj h3 hj,QD f nj hi',show e-1-(e-(a+1))=a by omega];rcases g1 with g1|g1
 ·omega
 ·have y1:=hr.le nj hj hj';have y2:=h a e (Ak _) nj nj nj;have y3:Lt k (f a) (f e):=by unfold Lt;omega
  rcases y1 with y1|y1
  ·rw[<-y1];exact y3
  ·exact y3.trans y1
theorem Z1{f f0:Nat->Nat}(h0:∀i j,a<=i->i<j->j<b->f0 i<f0 j)(h1:(seg f a m).Perm (seg f0 a m))(h2:(seg f m b).Perm (seg f0 m b)):Low f a m b:=by intro i j hi y hj h;obtain⟨i',a1,a2,a3⟩:=Kh.1 (h1.mem_iff.1 (Kh.2 ⟨i,hi,y,rfl⟩));obtain⟨j',b1,b2,b3⟩:=Kh.1 (h2.mem_iff.1 (Kh.2 ⟨j,hj,h,rfl⟩));rw[<-a3,<-b3];exact h0 i' j' a1 nj b2
theorem Su{f g:Nat->Nat}(h0:∀i j,a<=i->i<j->j<b->f i<f j)(hm:Mer k f g a m)(hb:m<b)(h:a<=m)(h1:a<=s)(h2:s<=m)
 (g1:s=a∨k (g (s-1))<=k (g m))(g2:s=m∨k (g m)<k (g s)):Mer k f (rot g s m (m+1)) a (m+1):=by
 have y:g m=f m:=hm.2.2 m nj;refine Mer.trans (g:=g) ?_ (fun i hi=>hm.2.2 i nj) (SH h1 h2 hm.1 (fun i j hi hi' hj hj'=> ?_) g1 g2)
 ·rw[seg_append g h (by omega:m<=m+1),seg_append f h (by omega:m<=m+1)];refine hm.2.1.append ?_;rw[I5 (fun i hi hi'=>hm.2.2 i nj)]
 ·obtain rfl:j=m:=by omega
  obtain⟨i',a1,a2,a3⟩:=hm.mem hi hi';rw[<-a3,y];exact h0 i' j a1 a2 hb
def Ok(k:Nat->Nat)(f0 f:Nat->Nat)(a b:Nat):Prop:=Sor k f a b/\(seg f a b).Perm (seg f0 a b)
theorem Ok.congr{f0 f g:Nat->Nat}(h:Ok k f0 f a b)(he:∀i,a<=i->i<b->g i=f i):Ok k f0 g a b:=⟨h.1.congr he,by rw[I5 he];exact h.2⟩
theorem Ok.mer{f0 f g:Nat->Nat}(h:a<=m)(i:m<=b)(h1:Ok k f0 f a m)(h2:Ok k f0 f m b)(hm:Mer k f g a b):Ok k f0 g a b:=
 ⟨hm.1,hm.2.1.trans (by rw[seg_append f h i,seg_append f0 h i];exact h1.2.append h2.2)⟩
theorem Ok.nil{f0 f:Nat->Nat}(h:b<=a):Ok k f0 f a b:=⟨Sor.few nj,by rw[Wh f h,Wh f0 h]⟩
def Bl(k:Nat->Nat)(f0 f:Nat->Nat)(n s c:Nat):Prop:=Ok k f0 f (min (s*c) n) (min (s*(c+1)) n)
def Ph1(k:Nat->Nat)(f0 f:Nat->Nat)(n c:Nat):Prop:=(∀c',c'<c->Bl k f0 f n 20 c')/\∀i,20*c<=i->f i=f0 i
def Ph2(k:Nat->Nat)(f0 f:Nat->Nat)(n s c:Nat):Prop:=(∀c',c'<c->Bl k f0 f n (2*s) c')/\∀c',2*c<=c'->Bl k f0 f n s c'
theorem Ph1.start(f:Nat->Nat)(n:Nat):Ph1 k f f n 0:=⟨fun c' h=>nj,fun _ _=>rfl⟩
theorem Ph1.step{f0 f g:Nat->Nat}(h:Ph1 k f0 f n c)(hm:Mer k f g (20*c) (20*c+20))(hn:20*c+20<=n):Ph1 k f0 g n (c+1):=by
 refine⟨fun c' hc=> ?_,fun i hi=> ?_⟩
 ·by_cases e:c'=c
  ·subst e;unfold Bl;rw[Nat.min_eq_left nj,Nat.min_eq_left nj];refine⟨hm.1,hm.2.1.trans ?_⟩;rw[I5 (g:=f0) (fun i hi _=>h.2 i hi)];exact List.Perm.refl _
  ·exact(h.1 c' nj).congr fun i _ hi=>hm.2.2 i nj
 ·rw[hm.2.2 i nj,h.2 i nj]
theorem Ph1.done{f0 f g:Nat->Nat}(h:Ph1 k f0 f n c)(hm:Mer k f g (20*c) n)(hn:n<20*c+20)(j:20*c<=n):Ph2 k f0 g n 20 0:=by
 refine⟨fun c' h=>nj,fun c' _=> ?_⟩;rcases Nat.lt_trichotomy c' c with e|e|e
 ·exact(h.1 c' e).congr fun i _ hi=>hm.2.2 i nj
 ·subst e;unfold Bl;rw[Nat.min_eq_left nj,Nat.min_eq_right nj];refine⟨hm.1,hm.2.1.trans ?_⟩;rw[I5 (fun i hi _=>h.2 i hi)]
 ·exact Ok.nil nj
theorem Ph2.parts{f0 f:Nat->Nat}(h0:∀i j,i<j->j<n->f0 i<f0 j)(h:Ph2 k f0 f n s c)(hA:A=2*s*c)(hm:A+s<=n)(hb:b=min (A+2*s) n):
 Ok k f0 f A (A+s)/\Ok k f0 f (A+s) b/\Low f A (A+s) b:=by
 have e1:s*(2*c)=A:=by rw[hA,Nat.mul_comm 2 s,Nat.mul_assoc]
 have e2:s*(2*c+1)=A+s:=by rw[Nat.mul_add,e1,CO]
 have e3:s*(2*c+1+1)=A+2*s:=by rw[Nat.mul_add,e2];omega
 have x1:=h.2 (2*c) nj;have x2:=h.2 (2*c+1) nj;unfold Bl at x1 x2;rw[e1,e2,Nat.min_eq_left nj,Nat.min_eq_left nj]at x1;rw[e2,e3,Nat.min_eq_left nj,<-hb]at x2;exact⟨x1,x2,Z1 (f0:=f0) (fun i j _ hij hj=>h0 i j hij nj) x1.2 x2.2⟩
theorem Ph2.far{f0 f g:Nat->Nat}(h:Ph2 k f0 f n s c)(hA:A=2*s*c)(hb:b=A+2*s)(ho:∀i,(i<A∨b<=i∨n<=i)->g i=f i)(hx:Bl k f0 g n (2*s) c):Ph2 k f0 g n s (c+1):=by
 refine⟨fun c' hc=> ?_,fun c' hc=> ?_⟩
 ·by_cases e:c'=c
  ·subst e;exact hx
  ·have:2*s*(c'+1)<=2*s*c:=Nat.mul_le_mul_left _ nj;exact(h.1 c' nj).congr fun i _ hi=>ho i nj
 ·have e1:s*(2*(c+1))=b:=by rw[hb,hA,Nat.mul_add 2 c 1,Nat.mul_add,Nat.mul_comm 2 s,Nat.mul_assoc s 2 c]
  have:s*(2*(c+1))<=s*c':=Nat.mul_le_mul_left _ hc;exact(h.2 c' nj).congr fun i hi hi'=>ho i nj
theorem Ph2.step{f0 f g:Nat->Nat}(h:Ph2 k f0 f n s c)(hA:A=2*s*c)(hb:b=A+2*s)(hn:b<=n)(h1:Ok k f0 f A (A+s))(h2:Ok k f0 f (A+s) b)(hm:Mer k f g A b):Ph2 k f0 g n s (c+1):=by
 refine h.far hA hb (fun i hi=>hm.2.2 i nj) ?_;have e3:2*s*(c+1)=b:=p8
 unfold Bl;rw[e3,<-hA,Nat.min_eq_left nj,Nat.min_eq_left hn];exact Ok.mer nj nj h1 h2 hm
theorem Ph2.last{f0 f:Nat->Nat}(h:Ph2 k f0 f n s c)(hA:A=2*s*c)(hb:b=A+2*s)(hn:n<b)(hx:Ok k f0 f (min A n) n):∀c',Bl k f0 f n (2*s) c':=by
 intro c';have e3:2*s*(c+1)=b:=p8
 rcases Nat.lt_trichotomy c' c with e|e|e
 ·exact h.1 c' e
 ·subst e;unfold Bl;rw[e3,<-hA,Nat.min_eq_right (show n<=b by omega)];exact hx
 ·have:2*s*(c+1)<=2*s*c':=Nat.mul_le_mul_left _ nj;exact Ok.nil nj
theorem Ph2.last_few{f0 f:Nat->Nat}(h:Ph2 k f0 f n s c)(hA:A=2*s*c)(hb:b=A+2*s)(hn:n<b)(hm:n<=A+s):∀c',Bl k f0 f n (2*s) c':=by
 refine h.last hA hb hn ?_;have e1:s*(2*c)=A:=by rw[hA,Nat.mul_comm 2 s,Nat.mul_assoc]
 have e2:s*(2*c+1)=A+s:=by rw[Nat.mul_add,e1,CO]
 have x1:=h.2 (2*c) nj;unfold Bl at x1;rw[e1,e2,Nat.min_eq_right hm]at x1;exact x1
theorem Ph2.last_more{f0 f g:Nat->Nat}(h:Ph2 k f0 f n s c)(hA:A=2*s*c)(hb:b=A+2*s)(hn:n<b)(hm:A+s<=n)(h1:Ok k f0 f A (A+s))(h2:Ok k f0 f (A+s) n)(hg:Mer k f g A n):∀c',Bl k f0 g n (2*s) c':=by
 have h':Ph2 k f0 g n s (c+1):=by
  refine h.far hA hb (fun i hi=>hg.2.2 i nj) ?_;have e3:2*s*(c+1)=b:=p8
  unfold Bl;rw[e3,<-hA,Nat.min_eq_left nj,Nat.min_eq_right nj];exact Ok.mer nj hm h1 h2 hg
 intro c';have e3:2*s*(c+1)=b:=p8
 by_cases e:c'<c+1
 ·exact h'.1 c' e
 ·have:2*s*(c+1)<=2*s*c':=Nat.mul_le_mul_left _ nj;exact Ok.nil nj
theorem Ph2.next{f0 f:Nat->Nat}(h:∀c',Bl k f0 f n s c'):Ph2 k f0 f n s 0:=⟨fun c' h=>nj,fun c' _=>h c'⟩
theorem Ph2.all{f0 f:Nat->Nat}(h:Ph2 k f0 f n s 0)(hs:n<=s):Ok k f0 f 0 n:=by have x:=h.2 0 nj;unfold Bl at x;rw[Nat.mul_zero,Nat.zero_min,BP,CO,Nat.min_eq_right hs]at x;exact x
end Srt
namespace Srt
open Go.RowKit Mem Own
def Dat(w:World)(g n:Nat)(f:Nat->Nat):Prop:=∃cs:Array Value,Blk w g 3 cs/\n<=cs.size/\∀i,i<n->cs[i]? =some (.int .i64 (f i:Nat))
theorem Dat.cell{f:Nat->Nat}(h:Dat w g n f)(hi:i<n):w.cell? ⟨g,i,none⟩=some (.int .i64 (f i:Nat)):=by obtain⟨cs,hb,_,hc⟩:=h;rw[hb.cell];exact hc i hi
theorem Dat.frozen{f:Nat->Nat}(h:Dat w g n f)(i:Nat):w.frozen? ⟨g,i,none⟩=false:=by obtain⟨cs,hb,_,_⟩:=h;exact hb.frozen i
theorem Dat.lt{f:Nat->Nat}(h:Dat w g n f):g<w.heap.size:=by obtain⟨cs,hb,_,_⟩:=h;exact hb.lt
theorem Dat.drew{f:Nat->Nat}(h:Dat w g n f):Dat w.drew g n f:=h
theorem Dat.drewN{f:Nat->Nat}(h:Dat w g n f)(k:Nat):Dat (w.drewN k) g n f:=h
theorem Dat.swap{f:Nat->Nat}(h:Dat w g n f)(hp:p<n)(hq:q<n)(j:p≠q):
 Dat ((w.setCell ⟨g,p,none⟩ (.int .i64 (f q:Nat))).setCell ⟨g,q,none⟩ (.int .i64 (f p:Nat))) g n (swp f p q):=by
 obtain⟨cs,hb,hs,hc⟩:=h;refine⟨_,(hb.set p _).set q _,by simpa using hs,fun i hi=> ?_⟩;rw[FQ,FQ];unfold swp;by_cases e1:q=i
 ·subst e1;rw[Ab rfl,Ab rg,Aa (AZ j),Ab rfl]
 ·rw[Aa e1];by_cases e2:p=i
  ·subst e2;rw[Ab rfl,Ab nj,Ab rfl]
  ·rw[Aa e2,Aa (AZ e2),Aa (AZ e1),hc i hi]
def Put(g n:Nat)(f:Nat->Nat)(w w':World):Prop:=Dat w' g n f/\Kept (fun b=>b<w.heap.size/\b≠g) w w'
theorem Put.trans{f f':Nat->Nat}{w2:World}(h1:Put g n f w w1)(h2:Put g n f' w1 w2):Put g n f' w w2:=by have hz:=h1.2.size;exact⟨h2.1,h1.2.trans ⟨h2.2.os,h2.2.tape,h2.2.output,h2.2.size,fun b hb=>h2.2.block b ⟨by have:=hb.1;omega,hb.2⟩⟩⟩
theorem Put.swap{f:Nat->Nat}(h:Put g n f w w1)(hp:p<n)(hq:q<n)(i:p≠q):
 Put g n (swp f p q) w ((w1.setCell ⟨g,p,none⟩ (.int .i64 (f q:Nat))).setCell ⟨g,q,none⟩ (.int .i64 (f p:Nat))):=
 ⟨h.1.swap hp hq i,(h.2.set (fun hb=>hb.2 rfl) _).set (fun hb=>hb.2 rfl) _⟩
theorem Put.drew{f:Nat->Nat}(h:Put g n f w w1):Put g n f w w1.drew:=⟨h.1.drew,h.2.drew⟩
theorem Put.drewN{f:Nat->Nat}(h:Put g n f w w1)(k:Nat):Put g n f w (w1.drewN k):=⟨h.1.drewN k,h.2.drewN k⟩
theorem Put.refl{f:Nat->Nat}(h:Dat w g n f):Put g n f w w:=⟨h,Kept.refl _ _⟩
theorem fW(w:World)(g n c a b m:Nat)(f:Nat->Nat)(u:Value)(hN:n<=9223372036854775807)(y:a+m<=b)(hb:b+m<=n)(hd:Dat w g n f):
 Calls prog 397 #[.slice (some ⟨g,0,none⟩) n c,a,b,m,u] w fun e w'=>e= .returned (.tuple #[])/\Put g n (swr f a b m) w w':=by
 have p0:Put g n (swr f a b 0) w w:=by rw[fG];exact Put.refl hd
 clear hd;go_enter func397,ntmps397;go_wp2_with fail;go_loopw [10] (fun i wr=>∃k:Nat,k<=m/\i= .int .i64 k/\Hid (Put g n (swr f a b k) w wr)) (fun i _=>m-(intOf i).toNat)
 case atStart=>exact⟨0,CA _,rfl,p0⟩
 case round=>
  clear p0;obtain⟨k,hk,rfl,hp⟩:=hrel;by_cases z:k<m
  ·have c1:=hp.out.1.cell (i:=a+k) nj;have c2:=hp.out.1.cell (i:=b+k) nj;have f1:=hp.out.1.frozen (a+k);have f2:=hp.out.1.frozen (b+k);have h:=(hp.out.swap (p:=a+k) (q:=b+k) nj nj nj).drew;rw[d6 f a b k nj]at h;have j:=hid h;clear h;generalize swr f a b k (a+k)=v1 at *;generalize swr f a b k (b+k)=v2 at *;have s1:IntKind.i64.wrap ((a:Int)+(k:Int))=(a:Int)+(k:Int):=Ar _ nj;have s2:IntKind.i64.wrap ((b:Int)+(k:Int))=(b:Int)+(k:Int):=Ar _ nj;have x1:(0:Int)<=(a:Int)+(k:Int):=nj;have x2:(0:Int)<=(b:Int)+(k:Int):=nj;have x3:(a:Int)+(k:Int)<(n:Int):=nj;have x4:(b:Int)+(k:Int)<(n:Int):=nj;have x5:((a:Int)+(k:Int)).toNat=a+k:=nj;have x6:((b:Int)+(k:Int)).toNat=b+k:=nj;go_wp2_with fail;go_region;clear s1 s2 x5 x6;go_wp2_with fail;go_roundw
   case rel=>go_light;exact⟨k+1,nj,jr,j⟩
   case measure=>exact jq
  ·obtain rfl:k=m:=by omega
   go_wp2_with fail;refine bodyPost_end (BY rfl _ _ _) rfl ⟨rfl,hp.out⟩
theorem fC(g n c:Nat)(u:Value)(hN:n<=4611686018427387904):∀ (wx:World) (x y z:Int) (a b m:Nat) (f:Nat->Nat),x=a->y=b->z=m->a+m<=b->b+m<=n->Dat wx g n f->
 Calls prog 397 #[.slice (some ⟨g,0,none⟩) n c,x,y,z,u] wx fun e w'=>e= .returned (.tuple #[])/\Put g n (swr f a b m) wx w':=by
 intro wx x y z a b m f h1 h2 h3 h4 h5 h6;subst h1 h2 h3;exact fW wx g n c a b m f u nj h4 h5 h6
def Rotd(g n:Nat)(w:World)(fin:Nat->Nat)(m i j:Nat)(wr:World):Prop:=∃f,Put g n f w wr/\rot f (m-i) m (m+j)=fin
theorem Rotd.gt{y f:Nat->Nat}(h:Put g n f w wr)(hr:rot f (m-i) m (m+j)=y)(h1:Put g n (swr f (m-i) m j) wr w1)(z:j<i)(E:i<=m):Rotd g n w y m (i-j) j w1:=by refine⟨_,h.trans h1,?_⟩;have:=bJ f (m-i) i j z;rw[show m-i+i=m by omega,show m-i+j=m-(i-j) by omega]at this;rw[<-this,hr]
theorem Rotd.lt{y f:Nat->Nat}(h:Put g n f w wr)(hr:rot f (m-i) m (m+j)=y)(h1:Put g n (swr f (m-i) (m+j-i) i) wr w1)(z:i<j)(E:i<=m):Rotd g n w y m i (j-i) w1:=by refine⟨_,h.trans h1,?_⟩;have:=aQ f (m-i) i j z;rw[show m-i+i=m by omega,show m-i+j=m+j-i by omega,show m+j-i=m+(j-i) by omega]at this;rw[show m+j-i=m+(j-i) by omega,<-this,hr]
theorem Rotd.eq{j f:Nat->Nat}(h:Put g n f w wr)(hr:rot f (m-i) m (m+i)=j)(h1:Put g n (swr f (m-i) m i) wr w1)(y:i<=m):Put g n j w w1:=by have:=Z3 f (m-i) i;rw[show m-i+i=m by omega]at this;rw[<-hr,this];exact h.trans h1
theorem dW(w:World)(g n c a m b:Nat)(f:Nat->Nat)(u:Value)(hN:n<=4611686018427387904)(Q:a<m)(U:m<b)(hb:b<=n)(hd:Dat w g n f):
 Calls prog 387 #[.slice (some ⟨g,0,none⟩) n c,a,m,b,u] w fun e w'=>e= .returned (.tuple #[])/\Put g n (rot f a m b) w w':=by
 have p0:Hid (Rotd g n w (rot f a m b) m (m-a) (b-m) w):=⟨f,Put.refl hd,by rw[show m-(m-a)=a by omega,show m+(b-m)=b by omega]⟩;generalize rot f a m b=J at *;have C:=hid (fC g n c u hN);clear hd;go_enter func387,ntmps387;go_wp2_with fail;go_loopw [10,11] (fun iv jv wr=>∃i j:Nat,0<i/\0<j/\i<=m/\m+j<=n/\iv= .int .i64 i/\jv= .int .i64 j/\Hid (Rotd g n w J m i j wr)) (fun i j _=>(intOf i).toNat+(intOf j).toNat)
 case atStart=>exact⟨m-a,b-m,nj,nj,nj,nj,Az (Value.int .i64) nj,Az (Value.int .i64) nj,p0⟩
 case round=>
  clear p0;obtain⟨i,j,hi,hj,z,N,rfl,rfl,hp⟩:=hrel;obtain⟨f',E,G⟩:=hp.out;have HR:=hid G;have HP:=hid E;clear G hp E;by_cases M:j<i
  ·have b1:((i:Int) != (j:Int))=true:=rg;go_wp2_with fail;refine(C.out _ _ _ _ (m-i) m j f' nj rfl rfl nj nj HP.out.1).mono ?_;rintro e w1 ⟨rfl,h⟩;have y:=hid (Rotd.gt HP.out HR.out h M z);clear h b1;go_wp2_with fail;go_roundw
   case rel=>go_light;exact⟨i-j,j,nj,hj,nj,N,Az (Value.int .i64) nj,rfl,y⟩
   case measure=>exact jq
  ·by_cases L:i<j
   ·have b1:((i:Int) != (j:Int))=true:=rg;go_wp2_with fail;refine(C.out _ _ _ _ (m-i) (m+j-i) i f' nj nj rfl nj nj HP.out.1).mono ?_;rintro e w1 ⟨rfl,h⟩;have y:=hid (Rotd.lt HP.out HR.out h L z);clear h b1;go_wp2_with fail;go_roundw
    case rel=>go_light;exact⟨i,j-i,nj,nj,nj,nj,rfl,Az (Value.int .i64) nj,y⟩
    case measure=>exact jq
   ·obtain rfl:i=j:=by omega
    go_wp2_with fail;refine(C.out _ _ _ _ (m-i) m i f' nj rfl rfl nj nj HP.out.1).mono ?_;rintro e w1 ⟨rfl,h⟩;have y:=hid (Rotd.eq HP.out HR.out h z);clear h;go_wp2_with fail;refine bodyPost_end (BY rfl _ _ _) rfl ⟨rfl,y.out⟩
end Srt
namespace Lens
open Srt
abbrev It:=Nat×List Nat
def Cz(x:It):Bool:=x.2.length==1
def Ec:List It->List It
 |x :: y :: t=>(x.1+y.1,x.2++y.2) :: Ec t
 |_=> []
def mrg:List It->List It->List It
 | [],ps=>ps
 |l :: ls,[]=>l :: ls
 |l :: ls,p :: ps=>if l.1<=p.1 then l :: mrg ls (p :: ps)else p :: mrg (l :: ls) ps
termination_by ls ps=>ls.length+ps.length
def rowN(L:List It):Nat->List It
 |0=>L
 |r+1=>mrg L (Ec (rowN L r))
theorem J9(ps:List It):mrg [] ps=ps:=by rw[mrg]
theorem KJ(ls:List It):mrg ls []=ls:=by
 cases ls with
 |nil=>rw[mrg]
 |cons l ls=>rw[mrg]
theorem Lc{l p:It}{ls ps:List It}(h:l.1<=p.1):mrg (l :: ls) (p :: ps)=l :: mrg ls (p :: ps):=by rw[mrg,Ab h]
theorem La{l p:It}{ls ps:List It}(h:¬l.1<=p.1):mrg (l :: ls) (p :: ps)=p :: mrg (l :: ls) ps:=by rw[mrg,Aa h]
theorem NG{M:List It->List It->Prop}(h1:∀ps,M [] ps)(h2:∀l ls,M (l :: ls) [])(h3:∀l ls p ps,l.1<=p.1->M ls (p :: ps)->M (l :: ls) (p :: ps))
 (h4:∀l ls p ps,¬l.1<=p.1->M (l :: ls) ps->M (l :: ls) (p :: ps)):∀ls ps,M ls ps:=by
 intro ls ps;obtain⟨n,hn⟩:=ii (ls.length+ps.length)
 induction n generalizing ls ps with
 |zero=>
  match ls,ps with
  | [],ps=>exact h1 ps
  |l :: ls,ps=>simp only[List.length_cons]at hn;omega
 |succ n ih=>
  match ls,ps with
  | [],ps=>exact h1 ps
  |l :: ls,[]=>exact h2 l ls
  |l :: ls,p :: ps=>
   simp only[List.length_cons]at hn;by_cases h:l.1<=p.1
   ·exact h3 l ls p ps h (ih ls (p :: ps) qY)
   ·exact h4 l ls p ps h (ih (l :: ls) ps qY)
theorem Mh(ls ps:List It):(mrg ls ps).length=ls.length+ps.length:=by
 refine NG (M:=fun ls ps=>(mrg ls ps).length=ls.length+ps.length) ?_ ?_ ?_ ?_ ls ps
 ·intro ps;rw[J9];simp
 ·intro l ls;rw[KJ];simp
 ·intro l ls p ps h ih;rw[Lc h,AD,ih];simp only[List.length_cons];omega
 ·intro l ls p ps h ih;rw[La h,AD,ih];simp only[List.length_cons];omega
theorem V3{ls ps:List It}{x:It}:x∈mrg ls ps↔x∈ls∨x∈ps:=by
 refine NG (M:=fun ls ps=>x∈mrg ls ps↔x∈ls∨x∈ps) ?_ ?_ ?_ ?_ ls ps
 ·intro ps;rw[J9];simp
 ·intro l ls;rw[KJ];simp
 ·intro l ls p ps h ih;rw[Lc h,AV,ih];simp only[List.mem_cons];exact or_assoc.symm
 ·intro l ls p ps h ih;rw[La h,AV,ih];simp only[List.mem_cons];exact or_left_comm
theorem bT(ls ps:List It)(hl:∀x∈ls,Cz x=true)(hp:∀x∈ps,Cz x=false)(t:Nat)(ht:t<=ls.length+ps.length):
 ∃n q,n+q=t/\n<=ls.length/\q<=ps.length/\((mrg ls ps).take t).Perm (ls.take n++ps.take q)/\((mrg ls ps).take t).countP Cz=n:=by
 revert t
 refine NG (M:=fun ls ps=>(∀x∈ls,Cz x=true)->(∀x∈ps,Cz x=false)->∀t,t<=ls.length+ps.length->
  ∃n q,n+q=t/\n<=ls.length/\q<=ps.length/\((mrg ls ps).take t).Perm (ls.take n++ps.take q)/\((mrg ls ps).take t).countP Cz=n) ?_ ?_ ?_ ?_ ls ps hl hp
 ·intro ps _ hp t ht;rw[J9];refine⟨0,t,nj,nj,by simpa using ht,qT,?_⟩;rw[List.countP_eq_zero];intro x hx;rw[hp x (Dc hx)];simp
 ·intro l ls hl _ t ht;rw[KJ];refine⟨t,0,nj,by simpa using ht,nj,qT,?_⟩;have:((l :: ls).take t).countP Cz=((l :: ls).take t).length:=List.countP_eq_length.2 fun x hx=>hl x (Dc hx);rw[this,Ba];simp at ht;simp only[List.length_cons];omega
 ·intro l ls p ps h ih hl hp t ht;rw[Lc h];rcases t with _|t
  ·exact⟨0,0,rfl,nj,nj,qT,qT⟩
  ·obtain⟨n,q,h1,h2,h3,h4,h5⟩:=ih (fun x hx=>hl x (Ce _ hx)) hp t rc;refine⟨n+1,q,nj,qY,h3,?_,?_⟩
   ·simpa using h4
   ·rw[List.take_succ_cons,List.countP_cons,h5,hl l qT];rfl
 ·intro l ls p ps h ih hl hp t ht;rw[La h];rcases t with _|t
  ·exact⟨0,0,rfl,nj,nj,qT,qT⟩
  ·obtain⟨n,q,h1,h2,h3,h4,h5⟩:=ih hl (fun x hx=>hp x (Ce _ hx)) t rc;refine⟨n,q+1,nj,h2,qY,?_,?_⟩
   ·rw[List.take_succ_cons,List.take_succ_cons];refine(h4.cons p).trans ?_;exact(List.perm_middle).symm
   ·rw[List.take_succ_cons,List.countP_cons,h5,hp p qT];rfl
theorem LU(x y:It)(t:List It):Ec (x :: y :: t)=(x.1+y.1,x.2++y.2) :: Ec t:=rfl
theorem QV{l:List It}(h:l.length<=1):Ec l= []:=by
 match l with
 | []=>rfl
 | [_]=>rfl
 |_ :: _ :: _=>simp at h
theorem Kq:∀l:List It,(Ec l).length=l.length / 2
 | []=>rfl
 | [_]=>by simp[Ec]
 |_ :: _ :: t=>by rw[LU,AD,Kq t];simp only[List.length_cons];omega
theorem MS:∀ {l:List It} {p:It},p∈Ec l->∃x y,x∈l/\y∈l/\p=(x.1+y.1,x.2++y.2)
 | [],p,h=>by simp[Ec]at h
 | [_],p,h=>by simp[Ec]at h
 |x :: y :: t,p,h=>by
  rw[LU]at h;rcases AV.1 h with h|h
  ·exact⟨x,y,qT,qT,h⟩
  ·obtain⟨a,b,ha,hb,he⟩:=MS h;exact⟨a,b,by simp[ha],by simp[hb],he⟩
def lv(k:Nat->Nat)(S:List Nat):List It:=S.map fun s=>(k s,[s])
theorem Nx{k:Nat->Nat}:∀x∈lv k S,Cz x=true:=by intro x hx;obtain⟨s,_,rfl⟩:=Co.1 hx;rfl
theorem GT(k:Nat->Nat)(S:List Nat):(lv k S).length=S.length:=by simp[lv]
section
variable {k:Nat->Nat} {S:List Nat}
theorem PW(r:Nat):∀x∈rowN (lv k S) r,x.2≠ []:=by
 induction r with
 |zero=>intro x hx;obtain⟨s,_,rfl⟩:=Co.1 hx;simp
 |succ r ih=>
  intro x hx;rcases V3.1 hx with h|h
  ·obtain⟨s,_,rfl⟩:=Co.1 h;simp
  ·obtain⟨a,b,ha,hb,rfl⟩:=MS h;simp[ih a ha]
theorem Vg{l:List It}(h:∀x∈l,x.2≠ []):∀x∈Ec l,Cz x=false:=by intro x hx;obtain⟨a,b,ha,hb,rfl⟩:=MS hx;have h1:=FP.2 (h a ha);have h2:=FP.2 (h b hb);unfold Cz;rw[Ga,Ag];omega
theorem Ll:(rowN (lv k S) 0).length=S.length:=GT k S
theorem OP(r:Nat):(rowN (lv k S) (r+1)).length=S.length+(rowN (lv k S) r).length / 2:=by rw[rowN,Mh,Kq,GT]
theorem Qx(hn:0<S.length):∀r,(rowN (lv k S) r).length+(S.length-1) / 2 ^ r=2*S.length-1
 |0=>by rw[Ll];simp;omega
 |r+1=>by have ih:=Qx hn r;rw[OP,FA,<-NY];omega
theorem Sf(hl:1<=i)(hn:0<S.length)(h:S.length<=2 ^ i):2*S.length-2<=(rowN (lv k S) (i-1)).length:=by
 have h1:=Qx (k:=k) hn (i-1)
 have h2:(S.length-1) / 2 ^ (i-1)<2:=by
  rw[Nat.div_lt_iff_lt_mul (Gd _)];have:2 ^ i=2*2 ^ (i-1):=by obtain⟨m,rfl⟩:∃m,i=m+1:=⟨i-1,nj⟩;rw[FA,Nat.add_sub_cancel,Nat.mul_comm]
  omega
 omega
theorem Qq{M:Nat}(hk:∀s∈S,k s<=M):∀r,∀x∈rowN (lv k S) r,x.1<=2 ^ r*M
 |0=>by intro x hx;obtain⟨s,hs,rfl⟩:=Co.1 hx;simpa using hk s hs
 |r+1=>by
  intro x hx;have hp:M<=2 ^ (r+1)*M:=Nat.le_mul_of_pos_left _ (Gd _);rcases V3.1 hx with h|h
  ·obtain⟨s,hs,rfl⟩:=Co.1 h;exact AN (hk s hs) hp
  ·obtain⟨a,b,ha,hb,rfl⟩:=MS h;have h1:=Qq hk r a ha;have h2:=Qq hk r b hb;rw[FA,Nat.mul_right_comm];show a.1+b.1<=_;omega
def nl(X:List It)(t:Nat):Nat:=(X.take t).countP Cz
theorem cR(X:List It)(i:Nat)(x:It)(h:X[i]? =some x):nl X (i+1)=nl X i+if Cz x=true then 1 else 0:=by unfold nl;rw[BN,h,Option.toList_some,List.countP_append];by_cases hx:Cz x=true<;>simp[hx]
theorem VT(X:List It):nl X 0=0:=by simp[nl]
def B4(k:Nat->Nat)(S:List Nat):Nat->Nat->Nat->Nat
 |0,t,s=>if s∈S.take (nl (rowN (lv k S) 0) t)then 1 else 0
 |r+1,t,s=>(if s∈S.take (nl (rowN (lv k S) (r+1)) t)then 1 else 0)+B4 k S r (2*(t-nl (rowN (lv k S) (r+1)) t)) s
theorem Nt(t:Nat)(ht:t<=S.length):nl (rowN (lv k S) 0) t=t:=by unfold nl rowN;have:((lv k S).take t).countP Cz=((lv k S).take t).length:=List.countP_eq_length.2 fun x hx=>Nx x (Dc hx);rw[this,Ba,GT];omega
theorem row_take(r t:Nat)(ht:t<=(rowN (lv k S) (r+1)).length):∃n q,n+q=t/\n<=S.length/\2*q<=(rowN (lv k S) r).length/\nl (rowN (lv k S) (r+1)) t=n/\
 ((rowN (lv k S) (r+1)).take t).Perm ((lv k S).take n++(Ec (rowN (lv k S) r)).take q):=by
 rw[rowN,Mh]at ht;obtain⟨n,q,h1,h2,h3,h4,h5⟩:=bT (lv k S) (Ec (rowN (lv k S) r)) Nx (Vg (PW r)) t ht;rw[GT]at h2;rw[Kq]at h3;exact⟨n,q,h1,h2,nj,h5,h4⟩
end
def ins(k:Nat->Nat)(x:Nat):List Nat->List Nat
 | []=> [x]
 |y :: t=>if k x<k y then x :: y :: t else y :: ins k x t
theorem PQ(k:Nat->Nat)(x:Nat):∀l,(ins k x l).Perm (x :: l)
 | []=>List.Perm.refl _
 |y :: t=>by
  rw[ins];split
  ·exact List.Perm.refl _
  ·exact((PQ k x t).cons y).trans (List.Perm.swap x y t)
theorem U5{k:Nat->Nat}{x:Nat}:∀ {l:List Nat},l.Pairwise (Lt k)->(∀y∈l,y<x)->(ins k x l).Pairwise (Lt k)
 | [],_,_=>by simp[ins]
 |y :: t,h,hx=>by
  rw[FM]at h;rw[ins];split
  ·rename_i i;refine FM.2 ⟨fun z hz=> ?_,FM.2 h⟩;rcases AV.1 hz with rfl|hz
   ·exact .inl i
   ·exact Lt.trans (.inl i) (h.1 z hz)
  ·rename_i j;refine FM.2 ⟨fun z hz=> ?_,U5 h.2 fun z hz=>hx z (Ce _ hz)⟩;rcases AV.1 ((PQ k x t).mem_iff.1 hz)with rfl|hz
   ·have:=hx y qT;unfold Lt;omega
   ·exact h.1 z hz
def vZ(k:Nat->Nat):Nat->List Nat
 |0=> []
 |n+1=>if k n=0 then vZ k n else ins k n (vZ k n)
def used(k:Nat->Nat):Nat->List Nat
 |0=> []
 |n+1=>if k n=0 then used k n else used k n++ [n]
theorem PJ{k:Nat->Nat}:s∈used k n↔s<n/\k s≠0:=by
 induction n with
 |zero=>simp[used]
 |succ n ih=>
  rw[used];split
  ·rename_i h0;rw[ih];constructor
   ·rintro⟨h1,h2⟩;exact⟨nj,h2⟩
   ·rintro⟨h1,h2⟩;refine⟨?_,h2⟩;rcases Nat.lt_or_eq_of_le (Nat.lt_succ_iff.1 h1)with h|h
    ·exact h
    ·subst h;exact absurd h0 h2
  ·rename_i h0;rw[BQ,ih,Ex];constructor
   ·rintro(⟨h1,h2⟩|rfl)
    ·exact⟨nj,h2⟩
    ·exact⟨nj,h0⟩
   ·rintro⟨h1,h2⟩;rcases Nat.lt_or_eq_of_le (Nat.lt_succ_iff.1 h1)with h|h
    ·exact .inl ⟨h,h2⟩
    ·exact .inr h
theorem PH(k:Nat->Nat):∀n,(used k n).Pairwise (·< ·)
 |0=>by simp[used]
 |n+1=>by
  rw[used];split
  ·exact PH k n
  ·refine List.pairwise_append.2 ⟨PH k n,qT,fun a ha b hb=> ?_⟩;rw[Ex]at hb;subst hb;exact(PJ.1 ha).1
theorem Vi(k:Nat->Nat):∀n,(used k n).length<=n
 |0=>by simp[used]
 |n+1=>by
  have:=Vi k n;rw[used];split
  ·omega
  ·simp;omega
theorem JF(k:Nat->Nat):∀n,(vZ k n).Perm (used k n)
 |0=>List.Perm.refl _
 |n+1=>by
  rw[vZ,used];split
  ·exact JF k n
  ·refine(PQ k n _).trans ?_;refine((JF k n).cons n).trans ?_;exact(List.perm_append_singleton n (used k n)).symm
theorem Ko{k:Nat->Nat}:s∈vZ k n↔s<n/\k s≠0:=by rw[(JF k n).mem_iff,PJ]
theorem Jq(k:Nat->Nat):∀n,(vZ k n).Pairwise (Lt k)
 |0=>by simp[vZ]
 |n+1=>by
  rw[vZ];split
  ·exact Jq k n
  ·exact U5 (Jq k n) fun y hy=>(Ko.1 hy).1
theorem Lt.irrefl{k:Nat->Nat}:¬Lt k x x:=by unfold Lt;omega
theorem ZG(k:Nat->Nat)(n:Nat):(vZ k n).Nodup:=(Jq k n).imp fun h e=>rB
theorem OO(k:Nat->Nat)(n:Nat):(vZ k n).length<=n:=by rw[(JF k n).length_eq];exact Vi k n
theorem Yt{k:Nat->Nat}(h:l.Pairwise (Lt k))(hp:l.Perm (used k n)):l=vZ k n:=by refine List.Perm.eq_of_pairwise ?_ h (Jq k n) (hp.trans (JF k n).symm);intro a b _ _ h1 h2;exact absurd (h1.trans h2) Lt.irrefl
def IR(ks:List Nat)(limit:Nat):List Nat:=
 let k:=fun s=>ks.getD s 0
 let S:=vZ k ks.length
 if S.length<2 then(List.range ks.length).map fun s=>if s∈S then 1 else 0
 else(List.range ks.length).map (B4 k S (limit-1) (2*S.length-2))
def Ep(ks:List Nat)(limit:Int):Int:=
 if ks.length>300∨limit<1∨limit>15 then 13 else if(vZ (fun s=>ks.getD s 0) ks.length).length>2 ^ limit.toNat then 6 else 0
def Db(ks:List Nat)(limit:Int):List Nat:=if Ep ks limit=0 then IR ks limit.toNat else []
end Lens
namespace Lens
open Srt
def Asc(l:List It):Prop:=l.Pairwise fun x y=>x.1<=y.1
theorem Zo{k:Nat->Nat}(h:S.Pairwise (Lt k)):Asc (lv k S):=by unfold Asc lv;rw[List.pairwise_map];exact h.imp fun hx=>by unfold Lt at hx;show k _<=k _;omega
def sm(f:Nat->Nat):List Nat->Nat
 | []=>0
 |s :: t=>f s+sm f t
theorem LQ(f:Nat->Nat)(a b:List Nat):sm f (a++b)=sm f a+sm f b:=by
 induction a with
 |nil=>simp[sm]
 |cons x t ih=>rw[Ei,sm,sm,ih];omega
theorem bL{f:Nat->Nat}{a b:List Nat}(h:a.Perm b):sm f a=sm f b:=by
 induction h with
 |nil=>rfl
 |cons x _ ih=>rw[sm,sm,ih]
 |swap x y l=>simp only[sm];omega
 |trans _ _ h1 h2=>rw[h1,h2]
theorem Io{f g:Nat->Nat}(h:∀s∈l,f s=g s):sm f l=sm g l:=by
 induction l with
 |nil=>rfl
 |cons x t ih=>rw[sm,sm,h x qT,ih fun s hs=>h s (Ce _ hs)]
theorem YM{f g:Nat->Nat}(h:∀s∈l,f s<=g s):sm f l<=sm g l:=by
 induction l with
 |nil=>exact Ak _
 |cons x t ih=>have h1:=h x qT;have h2:=ih fun s hs=>h s (Ce _ hs);rw[sm,sm];omega
theorem Y5(f g:Nat->Nat)(l:List Nat):sm (fun s=>f s+g s) l=sm f l+sm g l:=by
 induction l with
 |nil=>rfl
 |cons x t ih=>rw[sm,sm,sm,ih];omega
theorem YN(c:Nat)(f:Nat->Nat)(l:List Nat):sm (fun s=>c*f s) l=c*sm f l:=by
 induction l with
 |nil=>simp[sm]
 |cons x t ih=>rw[sm,sm,ih,Nat.mul_add]
theorem J8(c:Nat)(l:List Nat):sm (fun _=>c) l=l.length*c:=by
 induction l with
 |nil=>simp[sm]
 |cons x t ih=>rw[sm,ih,AD,EU];omega
section
variable {k:Nat->Nat} {S:List Nat}
theorem aS(ls ps:List It)(hl:∀x∈ls,Cz x=true)(hp:∀x∈ps,Cz x=false)(ha:Asc ls)(t:Nat)(ht:t<=ls.length+ps.length):
 ∀n,((mrg ls ps).take t).countP Cz=n->∀x,ls[n]? =some x->∀p∈ps.take (t-n),p.1<x.1:=by
 revert t
 refine NG (M:=fun ls ps=>(∀x∈ls,Cz x=true)->(∀x∈ps,Cz x=false)->Asc ls->∀t,t<=ls.length+ps.length->
  ∀n,((mrg ls ps).take t).countP Cz=n->∀x,ls[n]? =some x->∀p∈ps.take (t-n),p.1<x.1) ?_ ?_ ?_ ?_ ls ps hl hp ha
 ·intro ps _ _ _ t _ n _ x hx;simp at hx
 ·intro l ls _ _ _ t _ n _ x _ p hp;simp at hp
 ·intro l ls p ps h ih hl hp ha t ht n hn x hx q hq;rw[Lc h]at hn;rcases t with _|t
  ·simp at hn;subst hn;simp at hq
  ·rw[List.take_succ_cons,List.countP_cons,hl l qT]at hn;simp only[if_true]at hn;subst hn;rw[List.getElem?_cons_succ]at hx;rw[show ∀m,t+1-(m+1)=t-m from fun m=>nj]at hq;exact ih (fun x hx=>hl x (Ce _ hx)) hp (FM.1 ha).2 t rc _ rfl x hx q hq
 ·intro l ls p ps h ih hl hp ha t ht n hn x hx q hq;rw[La h]at hn;rcases t with _|t
  ·simp at hn;subst hn;simp at hq
  ·rw[List.take_succ_cons,List.countP_cons,hp p qT]at hn;simp only[Bool.false_eq_true,if_false,Nat.add_zero]at hn;have i:n<=t:=(by have:=List.countP_le_length (p:=Cz) (l:=(mrg (l :: ls) ps).take t);rw[Ba]at this;omega);rw[show t+1-n=(t-n)+1 by omega,List.take_succ_cons]at hq;rcases AV.1 hq with rfl|hq
   ·have:l.1<=x.1:=by
     rcases n with _|n
     ·simp at hx;rw[hx];exact Ak _
     ·rw[List.getElem?_cons_succ]at hx;exact(FM.1 ha).1 x (Be hx)
    omega
   ·exact ih hl (fun x hx=>hp x (Ce _ hx)) ha t rc n hn x hx q hq
theorem U6:∀ {l:List It} {q:Nat} {x:It},x∈l.take (2*q)->2*q<=l.length->∃p∈(Ec l).take q,x.1<=p.1
 |_,0,x,hx,_=>qV
 | [],q+1,x,_,h=>qU
 | [_],q+1,x,_,h=>by simp at h;omega
 |a :: b :: t,q+1,x,hx,h=>by
  rw[show 2*(q+1)=2*q+1+1 by omega,List.take_succ_cons,List.take_succ_cons]at hx;rw[LU,List.take_succ_cons];rcases AV.1 hx with rfl|hx
  ·exact⟨_,CG,Nat.le_add_right _ _⟩
  ·rcases AV.1 hx with rfl|hx
   ·exact⟨_,CG,Nat.le_add_left _ _⟩
   ·obtain⟨p,hp,i⟩:=U6 hx (by simp only[List.length_cons]at h;omega);exact⟨p,Ce _ hp,i⟩
theorem Qk(r t:Nat)(ht:t<=(rowN (lv k S) r).length):nl (rowN (lv k S) r) t<=S.length/\∀x∈(lv k S).take (nl (rowN (lv k S) r) t),x∈(rowN (lv k S) r).take t:=by
 rcases r with _|r
 ·rw[Ll]at ht;rw[Nt t ht];exact⟨ht,fun x hx=>hx⟩
 ·obtain⟨n,q,h1,h2,h3,h4,h5⟩:=row_take r t ht;rw[h4];exact⟨h2,fun x hx=>h5.mem_iff.2 (List.mem_append_left _ hx)⟩
theorem VK(hS:S.Pairwise (Lt k))(r t:Nat)(ht:t<=(rowN (lv k S) (r+1)).length):
 2*(t-nl (rowN (lv k S) (r+1)) t)<=(rowN (lv k S) r).length/\nl (rowN (lv k S) r) (2*(t-nl (rowN (lv k S) (r+1)) t))<=nl (rowN (lv k S) (r+1)) t:=by
 obtain⟨n,q,h1,h2,h3,h4,h5⟩:=row_take r t ht;rw[h4,show t-n=q by omega];refine⟨h3,?_⟩;obtain⟨g1,g2⟩:=Qk r (2*q) h3;rcases Nat.lt_or_ge n (nl (rowN (lv k S) r) (2*q))with h|h
 ·exfalso;have i:n<(lv k S).length:=by rw[GT];omega
  have hx:(lv k S)[n]∈(lv k S).take (nl (rowN (lv k S) r) (2*q)):=List.mem_take_iff_getElem.2 ⟨n,nj,rfl⟩;obtain⟨p,hp,j⟩:=U6 (g2 _ hx) h3;have hc:=aS (lv k S) (Ec (rowN (lv k S) r)) Nx (Vg (PW r)) (Zo hS) t (by rw[GT,Kq];rw[OP]at ht;exact ht) n h4 _ (Aw i) p (by rw[show t-n=q by omega];exact hp);omega
 ·exact h
theorem WC(hS:S.Pairwise (Lt k)){m s:Nat}(hs:s ∉ S.take m):∀r t,t<=(rowN (lv k S) r).length->nl (rowN (lv k S) r) t<=m->B4 k S r t s=0
 |0,t,ht,h=>by rw[B4,Aa];exact fun hm=>hs (List.take_subset_take_left _ h hm)
 |r+1,t,ht,h=>by obtain⟨h1,h2⟩:=VK hS r t ht;rw[B4,Aa fun hm=>hs (List.take_subset_take_left _ h hm),WC hS hs r _ h1 nj]
theorem Vx(r t s:Nat):B4 k S r t s<=r+1:=by
 induction r generalizing t with
 |zero=>rw[B4];split<;>omega
 |succ r ih=>rw[B4];have:=ih (2*(t-nl (rowN (lv k S) (r+1)) t));split<;>omega
theorem weigh(hS:S.Pairwise (Lt k)):∀r t,t<=(rowN (lv k S) r).length->sm (fun s=>2 ^ (r+1-B4 k S r t s)) S+2 ^ r*t=S.length*2 ^ (r+1)
 |0,t,ht=>by
  have hN:S.Nodup:=hS.imp fun h e=>rB
  rw[Ll]at ht;have e:sm (fun s=>2 ^ (0+1-B4 k S 0 t s)) S=sm (fun s=>2 ^ (0+1-B4 k S 0 t s)) (S.take t)+sm (fun s=>2 ^ (0+1-B4 k S 0 t s)) (S.drop t):=by rw[<-LQ,EV]
  have e1:sm (fun s=>2 ^ (0+1-B4 k S 0 t s)) (S.take t)=sm (fun _=>1) (S.take t):=Io fun s hs=>by rw[B4,Nt t ht,Ab hs]
  have e2:sm (fun s=>2 ^ (0+1-B4 k S 0 t s)) (S.drop t)=sm (fun _=>2) (S.drop t):=Io fun s hs=>by rw[B4,Nt t ht,Aa];intro i;have:=List.nodup_append.1 (by rw[EV];exact hN:(S.take t++S.drop t).Nodup);exact this.2.2 s i s hs rfl
  rw[e,e1,e2,J8,J8,Ba,AO,Nat.min_eq_left ht];omega
 |r+1,t,ht=>by
  have hN:S.Nodup:=hS.imp fun h e=>rB
  obtain⟨h1,h2⟩:=VK hS r t ht;have ih:=weigh hS r _ h1;obtain⟨n',q,g1,g2,g3,g4,_⟩:=row_take r t ht;have e0:∀s,B4 k S (r+1) t s=(if s∈S.take n' then 1 else 0)+B4 k S r (2*q) s:=fun s=>by rw[B4,g4,show t-n'=q by omega]
  rw[g4,show t-n'=q by omega]at h1 h2 ih
  have e:sm (fun s=>2 ^ (r+1+1-B4 k S (r+1) t s)) S=sm (fun s=>2 ^ (r+1-B4 k S r (2*q) s)) (S.take n')+sm (fun s=>2 ^ (r+1-B4 k S r (2*q) s)+2 ^ (r+1)) (S.drop n'):=by
   rw[<-EV n' S,LQ,EV];congr 1
   ·refine Io fun s hs=> ?_;rw[e0,Ab hs];congr 1;omega
   ·refine Io fun s hs=> ?_;have i:s ∉ S.take n':=(by intro i;have:=List.nodup_append.1 (by rw[EV];exact hN:(S.take n'++S.drop n').Nodup);exact this.2.2 s i s hs rfl);rw[e0,Aa i,WC hS i r (2*q) h1 h2];simp only[Nat.add_zero,Nat.sub_zero];rw[FA 2 (r+1)];omega
  rw[e,Y5,J8,AO,<-Nat.add_assoc,<-LQ,EV];have e5:2 ^ (r+1)*t=n'*2 ^ (r+1)+2 ^ r*(2*q):=by rw[<-g1,Nat.mul_add,Nat.mul_comm _ n',<-Nat.mul_assoc,<-FA]
  have e6:(S.length-n')*2 ^ (r+1)+n'*2 ^ (r+1)=S.length*2 ^ (r+1):=by rw[<-EU,Nat.sub_add_cancel g2]
  have e7:S.length*2 ^ (r+1+1)=S.length*2 ^ (r+1)+S.length*2 ^ (r+1):=by rw[FA 2 (r+1),<-Nat.mul_assoc];omega
  omega
theorem full(hS:S.Pairwise (Lt k))(hn:2<=S.length)(hl:1<=i)(h:S.length<=2 ^ i):
 sm (fun s=>2 ^ (i-B4 k S (i-1) (2*S.length-2) s)) S=2 ^ i/\∀s∈S,1<=B4 k S (i-1) (2*S.length-2) s:=by
 have ht:=Sf (k:=k) hl nj h;have hw:=weigh hS (i-1) _ ht;rw[show i-1+1=i by omega]at hw;have e3:2 ^ (i-1)*(2*S.length-2)+2 ^ i=S.length*2 ^ i:=by obtain⟨m,rfl⟩:∃m,i=m+1:=⟨i-1,nj⟩;obtain⟨n,z⟩:∃n,S.length=n+1:=⟨S.length-1,nj⟩;rw[z,Nat.add_sub_cancel,show 2*(n+1)-2=2*n by omega,FA,EU,Nat.one_mul,<-Nat.mul_assoc,Nat.mul_comm n]
 have j:sm (fun s=>2 ^ (i-B4 k S (i-1) (2*S.length-2) s)) S=2 ^ i:=nj
 refine⟨j,fun s hs=> ?_⟩;rcases Nat.eq_zero_or_pos (B4 k S (i-1) (2*S.length-2) s)with h0|h0
 ·exfalso;obtain⟨a,b,y⟩:=List.append_of_mem hs;have e4:sm (fun s=>2 ^ (i-B4 k S (i-1) (2*S.length-2) s)) S=sm (fun s=>2 ^ (i-B4 k S (i-1) (2*S.length-2) s)) (a++s :: b):=Az _ y;rw[j,LQ,sm,h0]at e4;have e5:∀T:List Nat,T.length<=sm (fun s=>2 ^ (i-B4 k S (i-1) (2*S.length-2) s)) T:=fun T=>by have:=YM (f:=fun _=>1) (g:=fun s=>2 ^ (i-B4 k S (i-1) (2*S.length-2) s)) (l:=T) fun s _=>Gd _;rw[J8]at this;omega
  have h1:=e5 a;have h2:=e5 b;have h3:S.length=a.length+(b.length+1):=by rw[y,Ag,AD]
  simp only[Nat.sub_zero]at e4;omega
 ·exact h0
theorem aX(r t s:Nat)(hs:s ∉ S):B4 k S r t s=0:=by
 induction r generalizing t with
 |zero=>rw[B4,Aa fun h=>hs (Dc h)]
 |succ r ih=>rw[B4,Aa fun h=>hs (Dc h),ih]
end
end Lens
namespace Srt
open Go.RowKit Mem Own
def All(N n:Nat)(f:Nat->Nat):Prop:=∀i,i<n->f i<N
theorem All.mer{k f f':Nat->Nat}(h:All N n f)(hm:Mer k f f' a b)(hb:b<=n):All N n f':=fun i hi=>by
 by_cases e:a<=i/\i<b
 ·obtain⟨i',h1,h2,h3⟩:=hm.mem e.1 e.2;rw[<-h3];exact h i' nj
 ·rw[hm.2.2 i nj];exact h i hi
theorem All.rot{N n a m b:Nat}{f:Nat->Nat}(h:All N n f)(j:a<=m)(y:m<=b)(hb:b<=n):All N n (rot f a m b):=fun i hi=>by
 unfold Srt.rot;split
 ·exact h _ nj
 ·split
  ·exact h _ nj
  ·exact h i hi
def Fm(a b:Nat):Int:=if a<b then-1 else if b<a then 1 else 0
theorem Np(h:a<b):Fm a b<0:=by unfold Fm;rw[Ab h];omega
theorem Nn(h:¬a<b):0<=Fm a b:=by unfold Fm;rw[Aa h];split<;>omega
def CmpOk(Bo g N:Nat)(w0:World)(k:Nat->Nat):Prop:=∀ (x y:Nat) (w:World),x<N->y<N->Kept (fun b=>b<w0.heap.size/\b≠g) w0 w->
 Calls prog 347 #[x,y, .pointer (some ⟨Bo,0,none⟩)] w fun e w'=>e= .returned (.int .i64 (Fm (k x) (k y)))/\∃q,w'=w.drewN q
theorem CmpOk.keep{Bo:Nat}{w0:World}{k:Nat->Nat}(h:CmpOk Bo g N w0 k)(hk:Kept (fun b=>b<w0.heap.size/\b≠g) w0 w1):CmpOk Bo g N w1 k:=by intro x y w hx hy hw;have hz:=hk.size;exact h x y w hx hy (hk.trans ⟨hw.os,hw.tape,hw.output,hw.size,fun b hb=>hw.block b ⟨by have:=hb.1;omega,hb.2⟩⟩)
def Ja(k f:Nat->Nat)(g n a b:Nat)(w:World)(e:Ending)(w':World):Prop:=e= .returned (.tuple #[])/\∃f',Put g n f' w w'/\Mer k f f' a b
def Nh(k f:Nat->Nat)(g n a m:Nat)(w:World)(wr:World):Prop:=∃f',Put g n f' w wr/\Mer k f f' a m
def PR(k f1:Nat->Nat)(g n m j:Nat)(w:World)(wr:World):Prop:=Put g n (rot f1 j m (m+1)) w wr/\(j=m∨k (f1 m)<k (f1 j))
theorem Z5(w:World)(Bo g n c a b N:Nat)(k f:Nat->Nat)(hN:n<=4611686018427387904)(af:a<=b)(hb:b<=n)(h0:∀i j,a<=i->i<j->j<b->f i<f j)(E:All N n f)(hd:Dat w g n f)(hc:CmpOk Bo g N w k):
 Calls prog 373 #[.slice (some ⟨g,0,none⟩) n c,a,b, .func (Fn.func 347) #[] #[.pointer (some ⟨Bo,0,none⟩)]] w (Ja k f g n a b w):=by
 have H0:=hid h0;have HC:=hid hc;have HD:=hid hd;have HA:=hid E;clear h0 hc hd E;have eK:∀args w,(callFunc 347 args).run prog w= .ok (.enter 347 args) w:=fun args w=>rm
 by_cases ag:a<b
 ·have p0:Hid (Nh k f g n a (a+1) w w):=⟨f,Put.refl HD.out,Mer.refl (Sor.few nj)⟩;go_enter func373,ntmps373;go_wp2_with fail;go_loopw [8] (fun i wr=>∃m:Nat,a+1<=m/\m<=b/\i= .int .i64 m/\Hid (Nh k f g n a m w wr)) (fun i _=>b-(intOf i).toNat)
  case atStart=>exact⟨a+1,nj,nj,jr,p0⟩
  case round=>
   clear p0;obtain⟨m,ac,ab,rfl,hI⟩:=hrel;by_cases L:m<b
   ·obtain⟨f1,U,z⟩:=hI.out;have q0:Hid (PR k f1 g n m m w wr):=(by refine⟨?_, .inl rfl⟩;rw[NF f1 (Ak _) nj (.inl rfl)];exact U);have HM:=hid z;have J:=hid (HA.out.mer z nj);clear hI U z;obtain⟨wo,rfl⟩:=ii wr;go_wp2_with fail;go_loopw [9] (fun jv wr=>∃j:Nat,a<=j/\j<=m/\jv= .int .i64 j/\Hid (PR k f1 g n m j w wr)) (fun j _=>(intOf j).toNat)
    case atStart=>exact⟨m,nj,nj,rfl,q0⟩
    case round=>
     clear q0;obtain⟨j,Q,Y,rfl,hQ⟩:=hrel;have c1:=hQ.out.1.1.cell (i:=j) nj;rw[KN f1 (Ak _) nj,show j+(m-j)=m by omega]at c1;have ae:=hQ.out.1.1.frozen j;by_cases ah:a<j
     ·have c2:=hQ.out.1.1.cell (i:=j-1) nj;rw[MY f1 nj]at c2;have f2:=hQ.out.1.1.frozen (j-1);have h:=fun q=>HC.out (f1 m) (f1 (j-1)) (wr.drewN q) (J.out m nj) (J.out (j-1) nj) (hQ.out.1.2.drewN q);have s1:IntKind.i64.wrap ((j:Int)-1)=(j:Int)-1:=Ar _ nj;have x3:(0:Int)<=(j:Int):=nj;have x4:(j:Int)<(n:Int):=nj;have x1:(0:Int)<=(j:Int)-1:=nj;have y1:(1:Int)<=(j:Int):=nj;have y3:0<j:=nj;have y4:(0:Int)<(j:Int):=nj;have x2:(j:Int)-1<(n:Int):=nj;have x5:((j:Int)-1).toNat=j-1:=nj;obtain⟨cv,y⟩:=ii (Fm (k (f1 m)) (k (f1 (j-1))));by_cases hk:k (f1 m)<k (f1 (j-1))
      ·have d1:cv<0:=(by rw[y];exact Np hk);rw[<-y]at h;have Z:∀q,Hid (PR k f1 g n m (j-1) w (((wr.drewN q).setCell ⟨g,j,none⟩ (.int .i64 (f1 (j-1):Nat))).setCell ⟨g,j-1,none⟩ (.int .i64 (f1 m:Nat)))):=(by intro q;have M:=(hQ.out.1.drewN q).swap (p:=j) (q:=j-1) nj nj nj;have e:=SY f1 m (j-1) nj;rw[show j-1+1=j by omega]at e;rw[e,MY f1 nj,KN f1 (Ak _) nj,show j+(m-j)=m by omega]at M;exact⟨M, .inr hk⟩);clear y;generalize f1 m=v1 at *;generalize f1 (j-1)=v2 at *;go_wp2_with fail;go_quiet ((go_at_call 347;exact Calls.quiet_of (h _)));go_wp2_with fail;go_region;have aa:=Z (nq+1);clear Z s1 x5 h hk c1 c2 hQ;go_wp2_with fail;go_roundw
       case rel=>go_light;exact⟨j-1,nj,nj,Az (Value.int .i64) nj,aa⟩
       case measure=>exact jq
      ·have d1:¬cv<0:=(by rw[y];have:=Nn hk;omega);rw[<-y]at h;have HX:∀q,Hid (Nh k f g n a (m+1) w (wr.drewN q)):=fun q=>⟨_,hQ.out.1.drewN q,Su H0.out HM.out L nj Q Y (.inr nj) hQ.out.2⟩;clear y hk;generalize f1 m=v1 at *;generalize f1 (j-1)=v2 at *;go_wp2_with fail;go_quiet ((go_at_call 347;exact Calls.quiet_of (h _)));have G:=HX nq;clear HX s1 x5 h c1 c2 hQ;go_wp2_with fail;go_roundw
       case rel=>exact jm
       case measure=>exact jq
     ·obtain rfl:j=a:=by omega
      have HX:∀q,Hid (Nh k f g n j (m+1) w (wr.drewN q)):=fun q=>⟨_,hQ.out.1.drewN q,Su H0.out HM.out L nj Q Y (.inl rfl) hQ.out.2⟩;have d0:=ig (j<j);have d1:=ig ((j:Int)<j);generalize f1 m=v1 at *;go_wp2_with fail;go_quiet (fail);have G:=HX nq;clear HX c1 hQ d0 d1;go_wp2_with fail;go_roundw
      case rel=>exact jm
      case measure=>exact jq
   ·obtain rfl:m=b:=by omega
    go_wp2_with fail;refine bodyPost_end (BY rfl _ _ _) rfl ⟨rfl,hI.out⟩
 ·obtain rfl:a=b:=by omega
  go_enter func373,ntmps373;go_wp2_with fail;refine wp_loop_rounds 1 ?_;rw[rounds_succ];go_wp2_with fail;refine bodyPost_end (BY rfl _ _ _) rfl ⟨rfl,f,Put.refl HD.out,Mer.refl (Sor.few nj)⟩
end Srt
namespace Srt
open Go.RowKit Mem Own
def Drawn(w wr:World):Prop:=∃q,wr=w.drewN q
theorem Drawn.refl(w:World):Drawn w w:=⟨0,(World.drewN_zero w).symm⟩
theorem Drawn.more(h:Drawn w wr)(q:Nat):Drawn w (wr.drewN q):=by obtain⟨p,rfl⟩:=h;exact⟨p+q,Fq _ _ _⟩
theorem Drawn.kept{K:Nat->Prop}(h:Drawn w wr):Kept K w wr:=by obtain⟨p,rfl⟩:=h;exact(Kept.refl _ _).drewN p
theorem Drawn.dat{f:Nat->Nat}(h:Drawn w wr)(hd:Dat w g n f):Dat wr g n f:=by obtain⟨p,rfl⟩:=h;exact hd.drewN p
theorem Drawn.put{f:Nat->Nat}(h:Drawn w wr)(hd:Dat w g n f):Put g n f w wr:=⟨h.dat hd,h.kept⟩
def Iy(P:Nat->Prop)(lo hi i j:Nat):Prop:=(i=lo∨P (i-1))/\(j=hi∨¬P j)
theorem Z9(w:World)(Bo g n c a b N:Nat)(k f:Nat->Nat)(hN:n<=4611686018427387904)(ae:a+1<b)(hb:b<=n)(hr:Sor k f (a+1) b)(J:Low f a (a+1) b)(G:All N n f)(hd:Dat w g n f)(hc:CmpOk Bo g N w k):
 Calls prog 374 #[.slice (some ⟨g,0,none⟩) n c,a, .int .i64 ((a+1:Nat):Int),b, .func (Fn.func 347) #[] #[.pointer (some ⟨Bo,0,none⟩)]] w (Ja k f g n a b w):=by
 have eK:∀args w,(callFunc 347 args).run prog w= .ok (.enter 347 args) w:=fun args w=>rm
 have HR:=hid hr;have HL:=hid J;have HC:=hid hc;have HD:=hid hd;have HA:=hid G;obtain⟨m,hm⟩:=ii (a+1);have b0:((m:Int)-(a:Int)==1)=true:=rg
 rw[<-hm];have HM:=hid hm;have ai:a+1<=m:=nj
 have al:m<=a+1:=nj
 clear hr J hc hd G hm;go_enter func374,ntmps374;go_wp2_with fail;go_loopw [10,11] (fun iv jv wr=>∃i j:Nat,m<=i/\i<=j/\j<=b/\iv= .int .i64 i/\jv= .int .i64 j/\Hid (Iy (fun i=>k (f i)<k (f a)) m b i j)/\Hid (Drawn w wr)) (fun i j _=>(intOf j).toNat-(intOf i).toNat)
 case atStart=>exact⟨m,b,nj,nj,nj,rfl,rfl,⟨.inl rfl, .inl rfl⟩,Drawn.refl w⟩
 case round=>
  obtain⟨i,j,aa,ag,aj,rfl,rfl,hQ,hD⟩:=hrel;by_cases ac:i<j
  ·obtain⟨h,hh⟩:=ii ((i+j) / 2);have ak:i<=h:=nj;have ah:h<j:=nj;have hE:Hid (((i:Int)+(j:Int)) / 2=(h:Int)):=qJ;clear hh;have c1:=(hD.out.dat HD.out).cell (i:=h) nj;have c2:=(hD.out.dat HD.out).cell (i:=a) nj;have z:=fun q=>HC.out (f h) (f a) (wr.drewN q) (HA.out h nj) (HA.out a nj) ((hD.out.more q).kept);have x3:(0:Int)<=(h:Int):=nj;have x4:(h:Int)<(n:Int):=nj;have x5:(0:Int)<=(a:Int):=nj;have x6:(a:Int)<(n:Int):=nj;obtain⟨cv,y⟩:=ii (Fm (k (f h)) (k (f a)));rw[<-y]at z;have E:∀q,Hid (Drawn w (wr.drewN q)):=fun q=>hD.out.more q;by_cases hk:k (f h)<k (f a)
   ·have d1:cv<0:=(by rw[y];exact Np hk);have HX:Hid (Iy (fun i=>k (f i)<k (f a)) m b (h+1) j):=⟨.inr hk,hQ.out.2⟩;clear y hk hQ;generalize f h=v1 at *;generalize f a=v2 at *;go_wp2_with fail;rw[hE.out];go_quiet ((go_at_call 347;exact Calls.quiet_of (z _)));have Q:=E nq;clear E z c1 c2 hD;go_wp2_with fail;go_roundw
    case rel=>go_light;exact⟨h+1,j,nj,nj,nj,jr,rfl,HX,Q⟩
    case measure=>exact jq
   ·have d1:¬cv<0:=(by rw[y];have:=Nn hk;omega);have HX:Hid (Iy (fun i=>k (f i)<k (f a)) m b i h):=⟨hQ.out.1, .inr hk⟩;clear y hk hQ;generalize f h=v1 at *;generalize f a=v2 at *;go_wp2_with fail;rw[hE.out];go_quiet ((go_at_call 347;exact Calls.quiet_of (z _)));have Q:=E nq;clear E z c1 c2 hD;go_wp2_with fail;go_roundw
    case rel=>go_light;exact⟨i,h,nj,nj,nj,rfl,rfl,HX,Q⟩
    case measure=>exact jq
  ·obtain rfl:i=j:=by omega
   have p0:Hid (Put g n (rot f a m (m+0)) w wr):=(by show Put _ _ _ _ _;rw[Bi,NF f nj (Ak _) (.inr rfl)];exact hD.out.put HD.out);have HF:Hid (Ja k f g n a b w (.returned (.tuple #[]))=Ja k f g n a b w (.returned (.tuple #[]))):=rfl
   have U:Hid (Mer k f (rot f a m i) a b):=by
    have e:=HM.out;subst e;refine iK aa nj HR.out HL.out ?_ ?_
    ·rcases hQ.out.2 with h|h
     ·exact .inl h
     ·exact .inr nj
    ·exact hQ.out.1
   clear hD hQ HF;obtain⟨wo,rfl⟩:=ii wr;go_wp2_with fail;go_loopw [13] (fun kv wr=>∃t:Nat,m+t<=i/\kv= .int .i64 ((a+t:Nat):Int)/\Hid (Put g n (rot f a m (m+t)) w wr)) (fun kv _=>i-(intOf kv).toNat)
   case atStart=>exact⟨0,nj,rfl,p0⟩
   case round=>
    clear p0;obtain⟨t,ht,rfl,hp⟩:=hrel;by_cases ac:m+t<i
    ·obtain⟨p,L⟩:=ii (a+t);have c1:=hp.out.1.cell (i:=p) nj;have c2:=hp.out.1.cell (i:=p+1) nj;have f1:=hp.out.1.frozen p;have f2:=hp.out.1.frozen (p+1);have M:=(hp.out.swap (p:=p) (q:=p+1) nj nj nj).drew;have e:=ZI f a t;rw[<-HM.out,<-L]at e;rw[e]at M;have Z:=hid M;rw[<-L];have af:p<i-1:=nj;have Y:a+(t+1)=p+1:=nj;have ab:=hid Y;clear M e hp L Y;generalize rot f a m (m+t) p=v1 at *;generalize rot f a m (m+t) (p+1)=v2 at *;have s1:IntKind.i64.wrap ((p:Int)+1)=(p:Int)+1:=Ar _ nj;have x1:(0:Int)<=(p:Int):=nj;have x2:(0:Int)<=(p:Int)+1:=nj;have x3:(p:Int)<(n:Int):=nj;have x4:(p:Int)+1<(n:Int):=nj;have x6:((p:Int)+1).toNat=p+1:=nj;have x7:(p:Int)<(i:Int)-1:=nj;go_wp2_with fail;go_region;clear s1 x6;go_wp2_with fail;go_roundw
     case rel=>go_light;exact⟨t+1,nj,Az (Value.int .i64) (by have:=ab.out;omega),Z⟩
     case measure=>exact jq
    ·obtain rfl:m+t=i:=by omega
     have x7:¬(a+t<m+t-1):=nj;have x8:¬(((a+t:Nat):Int)<((m+t:Nat):Int)-1):=nj;go_wp2_with fail;refine CF (v:= .tuple #[]) (BY rfl _ _ _) rfl ⟨rfl,_,hp.out,U.out⟩
theorem gL(w:World)(Bo g n c a m N:Nat)(k f:Nat->Nat)(hN:n<=4611686018427387904)(ag:a+1<m)(hb:m+1<=n)(hl:Sor k f a m)(J:Low f a m (m+1))(G:All N n f)(hd:Dat w g n f)(hc:CmpOk Bo g N w k):
 Calls prog 374 #[.slice (some ⟨g,0,none⟩) n c,a,m, .int .i64 ((m+1:Nat):Int), .func (Fn.func 347) #[] #[.pointer (some ⟨Bo,0,none⟩)]] w (Ja k f g n a (m+1) w):=by
 have eK:∀args w,(callFunc 347 args).run prog w= .ok (.enter 347 args) w:=fun args w=>rm
 have HL:=hid hl;have Y:=hid J;have HC:=hid hc;have HD:=hid hd;have HA:=hid G;obtain⟨b,hm⟩:=ii (m+1);have b0:((m:Int)-(a:Int)==1)=false:=rg
 have b1:((b:Int)-(m:Int)==1)=true:=rg
 rw[<-hm];have HM:=hid hm;have ah:m+1<=b:=nj
 have aj:b<=m+1:=nj
 clear hl J hc hd G hm;go_enter func374,ntmps374;go_wp2_with fail;go_loopw [14,15] (fun iv jv wr=>∃i j:Nat,a<=i/\i<=j/\j<=m/\iv= .int .i64 i/\jv= .int .i64 j/\Hid (Iy (fun i=>¬k (f m)<k (f i)) a m i j)/\Hid (Drawn w wr)) (fun i j _=>(intOf j).toNat-(intOf i).toNat)
 case atStart=>exact⟨a,m,nj,nj,nj,rfl,rfl,⟨.inl rfl, .inl rfl⟩,Drawn.refl w⟩
 case round=>
  obtain⟨i,j,Z,ae,aa,rfl,rfl,hQ,hD⟩:=hrel;by_cases ab:i<j
  ·obtain⟨h,hh⟩:=ii ((i+j) / 2);have ai:i<=h:=nj;have af:h<j:=nj;have hE:Hid (((i:Int)+(j:Int)) / 2=(h:Int)):=qJ;clear hh;have c1:=(hD.out.dat HD.out).cell (i:=h) nj;have c2:=(hD.out.dat HD.out).cell (i:=m) nj;have z:=fun q=>HC.out (f m) (f h) (wr.drewN q) (HA.out m nj) (HA.out h nj) ((hD.out.more q).kept);have x3:(0:Int)<=(h:Int):=nj;have x4:(h:Int)<(n:Int):=nj;have x5:(0:Int)<=(m:Int):=nj;have x6:(m:Int)<(n:Int):=nj;obtain⟨cv,y⟩:=ii (Fm (k (f m)) (k (f h)));rw[<-y]at z;have E:∀q,Hid (Drawn w (wr.drewN q)):=fun q=>hD.out.more q;by_cases hk:k (f m)<k (f h)
   ·have d1:decide (cv<0)=true:=(by rw[y];have:=Np hk;simpa using this);have HX:Hid (Iy (fun i=>¬k (f m)<k (f i)) a m i h):=⟨hQ.out.1, .inr (fun hn=>hn hk)⟩;clear y hk hQ;generalize f h=v1 at *;generalize f m=v2 at *;go_wp2_with fail;rw[hE.out];go_quiet ((go_at_call 347;exact Calls.quiet_of (z _)));have M:=E nq;clear E z c1 c2 hD;go_wp2_with fail;go_roundw
    case rel=>go_light;exact⟨i,h,nj,nj,nj,rfl,rfl,HX,M⟩
    case measure=>exact jq
   ·have d1:decide (cv<0)=false:=(by rw[y];have:=Nn hk;simp;omega);have HX:Hid (Iy (fun i=>¬k (f m)<k (f i)) a m (h+1) j):=⟨.inr hk,hQ.out.2⟩;clear y hk hQ;generalize f h=v1 at *;generalize f m=v2 at *;go_wp2_with fail;rw[hE.out];go_quiet ((go_at_call 347;exact Calls.quiet_of (z _)));have M:=E nq;clear E z c1 c2 hD;go_wp2_with fail;go_roundw
    case rel=>go_light;exact⟨h+1,j,nj,nj,nj,jr,rfl,HX,M⟩
    case measure=>exact jq
  ·obtain rfl:i=j:=by omega
   have p0:Hid (Put g n (rot f m m (m+1)) w wr):=by show Put _ _ _ _ _;rw[NF f (Ak _) nj (.inl rfl)];exact hD.out.put HD.out
   have Q:Hid (Mer k f (rot f i m (m+1)) a (m+1)):=by
    refine SH Z aa HL.out Y.out ?_ ?_
    ·rcases hQ.out.1 with h|h
     ·exact .inl h
     ·exact .inr nj
    ·rcases hQ.out.2 with h|h
     ·exact .inl h
     ·exact .inr nj
   clear hD hQ;obtain⟨wo,rfl⟩:=ii wr;go_wp2_with fail;go_loopw [17] (fun kv wr=>∃t:Nat,i<=t/\t<=m/\kv= .int .i64 (t:Int)/\Hid (Put g n (rot f t m (m+1)) w wr)) (fun kv _=>(intOf kv).toNat)
   case atStart=>exact⟨m,nj,nj,rfl,p0⟩
   case round=>
    clear p0;obtain⟨t,ac,ak,rfl,hp⟩:=hrel;by_cases ab:i<t
    ·have c1:=hp.out.1.cell (i:=t) nj;have c2:=hp.out.1.cell (i:=t-1) nj;have f1:=hp.out.1.frozen t;have f2:=hp.out.1.frozen (t-1);have L:=(hp.out.swap (p:=t) (q:=t-1) nj nj nj).drew;have e:=SY f m (t-1) nj;rw[show t-1+1=t by omega]at e;rw[e]at L;have U:=hid L;clear L e hp;generalize rot f t m (m+1) t=v1 at *;generalize rot f t m (m+1) (t-1)=v2 at *;have s1:IntKind.i64.wrap ((t:Int)-1)=(t:Int)-1:=Ar _ nj;have x1:(0:Int)<=(t:Int):=nj;have x2:(0:Int)<=(t:Int)-1:=nj;have x3:(t:Int)<(n:Int):=nj;have x4:(t:Int)-1<(n:Int):=nj;have x6:((t:Int)-1).toNat=t-1:=nj;have y1:(1:Int)<=(t:Int):=nj;have y3:0<t:=nj;have y4:(0:Int)<(t:Int):=nj;go_wp2_with fail;go_region;clear s1 x6;go_wp2_with fail;go_roundw
     case rel=>go_light;exact⟨t-1,nj,nj,Az (Value.int .i64) nj,U⟩
     case measure=>exact jq
    ·obtain rfl:i=t:=by omega
     go_wp2_with fail;refine CF (v:= .tuple #[]) (BY rfl _ _ _) rfl ⟨rfl,_,hp.out,?_⟩;rw[HM.out];exact Q.out
end Srt
namespace Srt
open Go.RowKit Mem Own
def Sx(Bo g n c N:Nat)(k:Nat->Nat)(d:Nat):Prop:=∀ (w:World) (a m b:Nat) (f:Nat->Nat),b-a<=d->a<m->m<b->b<=n->Sor k f a m->Sor k f m b->Low f a m b->All N n f->Dat w g n f->CmpOk Bo g N w k->
 Calls prog 374 #[.slice (some ⟨g,0,none⟩) n c,a,m,b, .func (Fn.func 347) #[] #[.pointer (some ⟨Bo,0,none⟩)]] w (Ja k f g n a b w)
def IQ(a m b mid lo hi:Nat):Prop:=(mid<m/\lo+b=mid+m/\hi=mid)∨(m<=mid/\lo=a/\hi=m)
structure Halves (k F1:Nat->Nat) (a s mid e b:Nat):Prop where
 s1:Sor k F1 a s
 s2:Sor k F1 s mid
 l1:Low F1 a s mid
 s3:Sor k F1 mid e
 s4:Sor k F1 e b
 l2:Low F1 mid e b
theorem Low.congr{f g:Nat->Nat}(h:Low f a m b)(he:∀i,a<=i->i<b->g i=f i):Low g a m b:=fun i j h1 h2 h3 h4=>by rw[he i h1 nj,he j nj h4];exact h i j h1 h2 h3 h4
theorem ZO(w:World)(Bo g n c a m b N:Nat)(k f:Nat->Nat)(d:Nat)(ih:Sx Bo g n c N k d)(bd:b-a<=d+1)(hN:n<=4611686018427387904)(a6:a+1<m)(bc:m+1<b)(hb:b<=n)
 (hl:Sor k f a m)(hr:Sor k f m b)(an:Low f a m b)(ak:All N n f)(hd:Dat w g n f)(hc:CmpOk Bo g N w k):
 Calls prog 374 #[.slice (some ⟨g,0,none⟩) n c,a,m,b, .func (Fn.func 347) #[] #[.pointer (some ⟨Bo,0,none⟩)]] w (Ja k f g n a b w):=by
 have eK:∀args w,(callFunc 347 args).run prog w= .ok (.enter 347 args) w:=fun args w=>rm
 have IH:=hid ih;have HL:=hid hl;have HR:=hid hr;have au:=hid an;have HC:=hid hc;have HD:=hid hd;have HA:=hid ak;have b0:((m:Int)-(a:Int)==1)=false:=rg
 have b1:((b:Int)-(m:Int)==1)=false:=rg
 obtain⟨mid,aw⟩:=ii ((a+b) / 2);have E1:Hid (((a:Int)+(b:Int)) / 2=(mid:Int)):=qJ
 obtain⟨nn,ay⟩:=ii (mid+m);have E2:Hid ((mid:Int)+(m:Int)=(nn:Int)):=qJ
 have E3:Hid ((nn:Int)-1=((nn-1:Nat):Int)):=qJ
 obtain⟨p,hp⟩:=ii (nn-1);rw[<-hp]at E3;have M1:a<mid:=nj
 have M2:mid<b:=nj
 have M3:mid+m<=nn:=nj
 have M4:nn<=mid+m:=nj
 have M5:p+1<=nn:=nj
 have M6:nn<=p+1:=nj
 have M7:2*mid<=a+b:=nj
 have M8:a+b<=2*mid+1:=nj
 clear ih hl hr an hc hd ak aw ay hp;go_enter func374,ntmps374;go_upto_region 25 with fail;rw[E1.out];go_upto_region 26 with fail;rw[E2.out];go_upto_if 140 with fail;go_cut [20,21] (fun sv rv wx=>∃lo hi:Nat,sv= .int .i64 lo/\rv= .int .i64 hi/\Hid (IQ a m b mid lo hi)/\w=wx)
 case first=>
  by_cases az:mid<m
  ·go_wp2_with fail;go_meet
   case rel=>exact⟨mid+m-b,mid,Az (Value.int .i64) nj,rfl, .inl ⟨az,nj,rfl⟩,rfl⟩
  ·go_wp2_with fail;go_meet
   case rel=>exact⟨a,m,rfl,rfl, .inr ⟨nj,rfl,rfl⟩,rfl⟩
 case rest=>as_aux_lemma=>
  obtain⟨lo,hi,rfl,rfl,E,rfl⟩:=hcut;have S1:a<=lo:=lq
  have S2:lo<=hi:=lq
  have S3:hi<=m:=lq
  have S4:hi<=mid:=lq
  have S5:nn<=lo+b:=lq
  go_wp2_with fail;rw[E3.out];go_loopw [20,21] (fun sv rv wr=>∃s r:Nat,lo<=s/\s<=r/\r<=hi/\sv= .int .i64 s/\rv= .int .i64 r/\Hid (Iy (fun x=>¬k (f (p-x))<k (f x)) lo hi s r)/\Hid (Drawn w wr)) (fun i j _=>(intOf j).toNat-(intOf i).toNat)
  case atStart=>exact⟨lo,hi,nj,nj,nj,rfl,rfl,⟨.inl rfl, .inl rfl⟩,Drawn.refl w⟩
  case round=>as_aux_lemma=>
   obtain⟨s,r,ba,a3,a4,rfl,rfl,hQ,hD⟩:=hrel;by_cases be:s<r
   ·obtain⟨h,hh⟩:=ii ((s+r) / 2);have a9:s<=h:=nj;have a5:h<r:=nj;have hE:Hid (((s:Int)+(r:Int)) / 2=(h:Int)):=qJ;clear hh;have c1:=(hD.out.dat HD.out).cell (i:=p-h) nj;have c2:=(hD.out.dat HD.out).cell (i:=h) nj;have Z:=fun q=>HC.out (f (p-h)) (f h) (wr.drewN q) (HA.out (p-h) nj) (HA.out h nj) ((hD.out.more q).kept);have x3:(0:Int)<=(h:Int):=nj;have x4:(h:Int)<(n:Int):=nj;have x5:(0:Int)<=(p:Int)-(h:Int):=nj;have x6:(p:Int)-(h:Int)<(n:Int):=nj;have x7:(h:Int)<=(p:Int):=nj;have x8:h<=p:=nj;have s1:IntKind.i64.wrap ((p:Int)-(h:Int))=(p:Int)-(h:Int):=Ar _ nj;have s2:((p:Int)-(h:Int)).toNat=p-h:=nj;obtain⟨cv,U⟩:=ii (Fm (k (f (p-h))) (k (f h)));rw[<-U]at Z;have ah:∀q,Hid (Drawn w (wr.drewN q)):=fun q=>hD.out.more q;have am:Hid (((p:Int)-(h:Int)).toNat=p-h/\IntKind.i64.wrap ((p:Int)-(h:Int))=(p:Int)-(h:Int)):=⟨s2,s1⟩;by_cases hk:k (f (p-h))<k (f h)
    ·have d1:decide (cv<0)=true:=(by rw[U];have:=Np hk;simpa using this);have HX:Hid (Iy (fun x=>¬k (f (p-x))<k (f x)) lo hi s h):=⟨hQ.out.1, .inr (fun hn=>hn hk)⟩;clear U hk hQ s1 s2;generalize f h=v1 at *;generalize f (p-h)=v2 at *;go_wp2_with fail;rw[hE.out];obtain⟨s2,s1⟩:=am.out;go_quiet ((go_at_call 347;exact Calls.quiet_of (Z _)));have ar:=ah nq;clear ah Z c1 c2 hD s1 s2;go_wp2_with fail;go_roundw
     case rel=>go_light;exact⟨s,h,nj,nj,nj,rfl,rfl,HX,ar⟩
     case measure=>exact jq
    ·have d1:decide (cv<0)=false:=(by rw[U];have:=Nn hk;simp;omega);have HX:Hid (Iy (fun x=>¬k (f (p-x))<k (f x)) lo hi (h+1) r):=⟨.inr hk,hQ.out.2⟩;clear U hk hQ s1 s2;generalize f h=v1 at *;generalize f (p-h)=v2 at *;go_wp2_with fail;rw[hE.out];obtain⟨s2,s1⟩:=am.out;go_quiet ((go_at_call 347;exact Calls.quiet_of (Z _)));have ar:=ah nq;clear ah Z c1 c2 hD s1 s2;go_wp2_with fail;go_roundw
     case rel=>go_light;exact⟨h+1,r,nj,nj,nj,jr,rfl,HX,ar⟩
     case measure=>exact jq
   ·obtain rfl:s=r:=by omega
    obtain⟨e,he⟩:=ii (nn-s);have e1:e+s<=nn:=nj;have e2:nn<=e+s:=nj;have E4:Hid ((nn:Int)-(s:Int)=(e:Int)):=qJ;have aj:m<=e:=nj;have av:e<=b:=nj;have ag:s<=m:=nj
    have M:=split (k:=k) (f:=f) (a:=a) (s:=s) (m:=m) (e:=e) (b:=b) nj ag aj av HL.out HR.out au.out
     (jE ag aj HL.out HR.out au.out (by
       have h1:=hQ.out.1;have h2:=E.out;unfold IQ at h2;by_cases x:s=a
       ·exact .inl x
       ·by_cases y:e=b
        ·exact .inr (.inl y)
        ·refine .inr (.inr ⟨nj,nj,?_⟩);rcases h1 with h1|h1
         ·omega
         ·rw[show p-(s-1)=e by omega]at h1;omega))
     (PM nj av HL.out HR.out (by
       have h1:=hQ.out.2;have h2:=E.out;unfold IQ at h2;by_cases x:s=m
       ·exact .inl x
       ·by_cases y:e=m
        ·exact .inr (.inl y)
        ·refine .inr (.inr ⟨nj,nj,?_⟩);rcases h1 with h1|h1
         ·omega
         ·have h3:¬ ¬k (f (p-s))<k (f s):=h1;rw[show p-s=e-1 by omega]at h3;omega))
    have ac:s+(e-m)=mid:=nj;rw[ac]at M;obtain⟨Q,aq,q1,q2,q3,q4,q5,q6,q7⟩:=M;have HH:Hid (Halves k (rot f s m e) a s mid e b):=⟨q1,q2,q3,q4,q5,q6⟩;have al:Hid (All N n (rot f s m e)):=HA.out.rot ag aj nj;have ae:Hid (∀G H,Mer k (rot f s m e) G a mid->Mer k G H mid b->Mer k f H a b):=fun G H h1 h2=>Mer.trans Q aq (Mer.join nj nj h1 h2 q7);have a0:Hid ((s=m∨m=e)->rot f s m e=f):=NF f ag aj;clear Q aq q1 q2 q3 q4 q5 q6 q7 hQ he ac;have ai:=hD;clear hD;obtain⟨wo,rfl⟩:=ii wr;go_upto_region 39 with fail;rw[E4.out];go_cut [185] (fun v wx=>∃bb:Bool,v= .bool bb/\Hid (bb=true->s<m/\m<e)/\Hid (bb=false->m<=s∨e<=m)/\wo=wx)
    case first=>
     by_cases h1:s<m
     ·by_cases h2:m<e
      ·go_wp2_with fail;go_meet
       case rel=>exact⟨true,rfl,fun _=>⟨h1,h2⟩,(fun h=>by cases h),rfl⟩
      ·go_wp2_with fail;go_meet
       case rel=>exact⟨false,rfl,(fun h=>by cases h),fun _=> .inr nj,rfl⟩
     ·go_wp2_with fail;go_meet
      case rel=>exact⟨false,rfl,(fun h=>by cases h),fun _=> .inl nj,rfl⟩
    case rest=>as_aux_lemma=>
     obtain⟨bb,rfl,ab,af,rfl⟩:=hcut;go_upto_if 185 with fail;go_cut [20] (fun v wx=>v= .int .i64 s/\Hid (Put g n (rot f s m e) w wx))
     case first=>
      cases bb
      ·have h:=af.out rfl;have e':=a0.out nj;have HP:Hid (Put g n (rot f s m e) w wo):=(by show Put _ _ _ _ _;rw[e'];exact ai.out.put HD.out);clear e';go_wp2_with fail;go_meet
       case rel=>exact⟨rfl,HP⟩
      ·obtain⟨h1,h2⟩:=ab.out rfl;go_wp2_with fail;refine(dW wo g n c s m e f _ hN h1 h2 nj (ai.out.dat HD.out)).mono ?_;rintro ee w1 ⟨rfl,z⟩;have HP:Hid (Put g n (rot f s m e) w w1):=(ai.out.put HD.out).trans z;clear z;go_wp2_with fail;go_meet
       case rel=>exact⟨rfl,HP⟩
     case rest=>as_aux_lemma=>
      obtain⟨rfl,HP⟩:=hcut;clear ab af ai;generalize rot f s m e=F1 at *;go_upto_region 41 with fail;obtain⟨w1,rfl⟩:=ii wc;go_cut [199] (fun v wx=>∃bb:Bool,v= .bool bb/\Hid (bb=true->a<s/\s<mid)/\Hid (bb=false->s<=a∨mid<=s)/\w1=wx)
      case first=>
       by_cases h1:a<s
       ·by_cases h2:s<mid
        ·go_wp2_with fail;go_meet
         case rel=>exact⟨true,rfl,fun _=>⟨h1,h2⟩,(fun h=>by cases h),rfl⟩
        ·go_wp2_with fail;go_meet
         case rel=>exact⟨false,rfl,(fun h=>by cases h),fun _=> .inr nj,rfl⟩
       ·go_wp2_with fail;go_meet
        case rel=>exact⟨false,rfl,(fun h=>by cases h),fun _=> .inl nj,rfl⟩
      case rest=>as_aux_lemma=>
       obtain⟨bb,rfl,ab,af,rfl⟩:=hcut;go_upto_if 199 with fail;go_cut [20] (fun v wx=>v= .int .i64 s/\∃F2,Hid (Put g n F2 w wx)/\Hid (Mer k F1 F2 a mid))
       case first=>
        cases bb
        ·have h:=af.out rfl
         have a1:Hid (Mer k F1 F1 a mid):=Mer.refl (by
          rcases h with h|h
          ·have:s=a:=nj;have h2:=HH.out.s2;rw[this]at h2;exact h2
          ·have:s=mid:=nj;have h2:=HH.out.s1;rw[this]at h2;exact h2)
         go_wp2_with fail;go_meet
         case rel=>exact⟨rfl,F1,HP,a1⟩
        ·obtain⟨h1,h2⟩:=ab.out rfl;go_wp2_with fail;refine(IH.out w1 a s mid F1 nj h1 h2 nj HH.out.s1 HH.out.s2 HH.out.l1 al.out HP.out.1 (HC.out.keep HP.out.2)).mono ?_;rintro ee w2 ⟨rfl,F2,z,aa⟩;have L:Hid (Put g n F2 w w2):=HP.out.trans z;have J:=hid aa;clear z aa;go_wp2_with fail;go_meet
         case rel=>exact⟨rfl,F2,L,J⟩
       case rest=>as_aux_lemma=>
        obtain⟨rfl,F2,L,J⟩:=hcut;clear ab af HP;have k1:∀i,mid<=i->i<b->F2 i=F1 i:=fun i hi _=>J.out.2.2 i (.inr hi);have H3:Hid (Sor k F2 mid e):=HH.out.s3.congr (fun i h1 h2=>k1 i h1 nj);have H4:Hid (Sor k F2 e b):=HH.out.s4.congr (fun i h1 h2=>k1 i nj h2);have H5:Hid (Low F2 mid e b):=HH.out.l2.congr k1;have H6:Hid (All N n F2):=al.out.mer J.out nj;clear k1;by_cases h1:mid<e
        ·by_cases h2:e<b
         ·go_wp2_with fail;refine(IH.out _ mid e b F2 nj h1 h2 hb H3.out H4.out H5.out H6.out L.out.1 (HC.out.keep L.out.2)).mono ?_;rintro ee w3 ⟨rfl,F3,z,aa⟩;have ax:Hid (Put g n F3 w w3):=L.out.trans z;have Y:Hid (Mer k f F3 a b):=ae.out F2 F3 J.out aa;clear z aa;go_wp2_with fail;refine bodyPost_end (BY rfl _ _ _) rfl ⟨rfl,F3,ax.out,Y.out⟩
         ·have Y:Hid (Mer k f F2 a b):=ae.out F2 F2 J.out (Mer.refl (by have:e=b:=nj;have h3:=H3.out;rw[this]at h3;exact h3));go_wp2_with fail;refine bodyPost_end (BY rfl _ _ _) rfl ⟨rfl,F2,L.out,Y.out⟩
        ·have Y:Hid (Mer k f F2 a b):=ae.out F2 F2 J.out (Mer.refl (by have:mid=e:=nj;have h3:=H4.out;rw[<-this]at h3;exact h3));go_wp2_with fail;refine bodyPost_end (BY rfl _ _ _) rfl ⟨rfl,F2,L.out,Y.out⟩
theorem Vk(Bo g n c N:Nat)(k:Nat->Nat)(hN:n<=4611686018427387904):∀d,Sx Bo g n c N k d
 |0=>fun w a m b f h1 h2 h3=>nj
 |d+1=>by
  intro w a m b f h1 h2 h3 h4 h5 h6 h7 h8 h9 h;by_cases e1:m=a+1
  ·subst e1;exact Z9 w Bo g n c a b N k f hN h3 h4 h6 h7 h8 h9 h
  ·by_cases e2:b=m+1
   ·subst e2;exact gL w Bo g n c a m N k f hN nj h4 h5 h7 h8 h9 h
   ·exact ZO w Bo g n c a m b N k f d (Vk Bo g n c N k hN d) h1 hN nj nj h4 h5 h6 h7 h8 h9 h
end Srt
namespace Srt
open Go.RowKit Mem Own
theorem ZK(Bo g n c N:Nat)(k:Nat->Nat)(hN:n<=4611686018427387904):∀ (w:World) (x y z:Int) (a m b:Nat) (f:Nat->Nat),x=a->y=m->z=b->a<m->m<b->b<=n->Sor k f a m->Sor k f m b->Low f a m b->All N n f->Dat w g n f->CmpOk Bo g N w k->
 Calls prog 374 #[.slice (some ⟨g,0,none⟩) n c,x,y,z, .func (Fn.func 347) #[] #[.pointer (some ⟨Bo,0,none⟩)]] w (Ja k f g n a b w):=by
 intro w x y z a m b f h1 h2 h3;subst h1 h2 h3;exact Vk Bo g n c N k hN (b-a) w a m b f (Ak _)
def Ux(k f0:Nat->Nat)(g n:Nat)(w:World)(e:Ending)(w':World):Prop:=e= .returned (.tuple #[])/\∃f',Put g n f' w w'/\Ok k f0 f' 0 n
structure Std (k f0 f:Nat->Nat) (N g n:Nat) (w wr:World):Prop where
 put:Put g n f w wr
 all:All N n f
theorem Std.next{k f0 f f':Nat->Nat}(h:Std k f0 f N g n w wr)(hp:Put g n f' wr w1)(hm:Mer k f f' a b)(hb:b<=n):Std k f0 f' N g n w w1:=⟨h.put.trans hp,h.all.mer hm hb⟩
theorem gP(w:World)(Bo g n c N:Nat)(k f0:Nat->Nat)(hN:n<=1000000)(h0:∀i j,i<j->j<n->f0 i<f0 j)(Z:All N n f0)(hd:Dat w g n f0)(hc:CmpOk Bo g N w k):
 Calls prog 361 #[.slice (some ⟨g,0,none⟩) n c,n, .func (Fn.func 347) #[] #[.pointer (some ⟨Bo,0,none⟩)]] w (Ux k f0 g n w):=by
 have S:=hid (ZK Bo g n c N k nj);have I:=hid (fun(wx:World) (a b:Nat) (f:Nat->Nat) h1 h2 h3 h4 h5 h6=>Z5 wx Bo g n c a b N k f nj h1 h2 h3 h4 h5 h6);have H0:=hid h0;have HC:=hid hc;have p0:Hid (Std k f0 f0 N g n w w):=⟨Put.refl hd,Z⟩;clear h0 Z hd hc;go_enter func361,ntmps361;go_wp2_with fail;go_loopw [7,8] (fun av bv wr=>∃ (q A B:Nat) (f:Nat->Nat),A<=n/\A+20<=B/\B<=A+20/\av= .int .i64 A/\bv= .int .i64 B/\Hid (A=20*q)/\Hid (Ph1 k f0 f n q)/\Hid (Std k f0 f N g n w wr)) (fun _ b _=>n+20-(intOf b).toNat)
 case atStart=>exact⟨0,0,20,f0,nj,nj,nj,rfl,rfl,rfl,Ph1.start f0 n,p0⟩
 case round=>
  clear p0;obtain⟨q,A,B,f,hA1,ai,ag,rfl,rfl,hA,hP,hS⟩:=hrel;have aa:∀i j,A<=i->i<j->j<n->f i<f j:=fun i j h1 h2 h3=>by have:=hA.out;rw[hP.out.2 i nj,hP.out.2 j nj];exact H0.out i j h2 h3
  have Q:=hid aa;clear aa;by_cases G:B<=n
  ·go_wp2_with fail;refine(I.out wr A B f nj G (fun i j h1 h2 h3=>Q.out i j h1 h2 nj) hS.out.all hS.out.put.1 (HC.out.keep hS.out.put.2)).mono ?_;rintro e w1 ⟨rfl,f',M,z⟩;have U:Hid (Std k f0 f' N g n w w1):=hS.out.next M z G;have Y:Hid (Ph1 k f0 f' n (q+1)):=(by have e1:=hA.out;have e2:B=20*q+20:=nj;rw[e1,e2]at z;exact hP.out.step z nj);have af:Hid (B=20*(q+1)):=(by show _=_;have:=hA.out;omega);clear M z;go_wp2_with fail;go_roundw
   case rel=>go_light;exact⟨q+1,B,B+20,f',nj,nj,nj,rfl,jr,af,Y,U⟩
   case measure=>exact jq
  ·obtain⟨wo,rfl⟩:=ii wr;go_wp2_with fail;refine(I.out wo A n f hA1 (Ak _) Q.out hS.out.all hS.out.put.1 (HC.out.keep hS.out.put.2)).mono ?_;rintro e w1 ⟨rfl,f',M,z⟩;have U:Hid (Std k f0 f' N g n w w1):=hS.out.next M z (Ak _);have Y:Hid (Ph2 k f0 f' n 20 0):=(by have e1:=hA.out;rw[e1]at z;exact hP.out.done z nj nj);clear M z Q hS hP;go_wp2_with fail;go_loopw [6] (fun sv wr=>∃ (s:Nat) (f:Nat->Nat),20<=s/\s<=2*n+20/\sv= .int .i64 s/\Hid (Ph2 k f0 f n s 0)/\Hid (Std k f0 f N g n w wr)) (fun s _=>n-(intOf s).toNat)
   case atStart=>exact⟨20,f',nj,nj,rfl,Y,U⟩
   case round=>
    clear Y U;obtain⟨s,f1,aj,am,rfl,ac,ae⟩:=hrel;by_cases al:s<n
    ·obtain⟨wp,rfl⟩:=ii wr;go_wp2_with fail;go_loopw [7,8] (fun av bv wr=>∃ (q A B:Nat) (f:Nat->Nat),A<=n/\A+2*s<=B/\B<=A+2*s/\av= .int .i64 A/\bv= .int .i64 B/\Hid (A=2*s*q)/\Hid (Ph2 k f0 f n s q)/\Hid (Std k f0 f N g n w wr)) (fun _ b _=>n+2*s-(intOf b).toNat)
     case atStart=>exact⟨0,0,2*s,f1,nj,nj,nj,rfl,jr,qN,ac,ae⟩
     case round=>as_aux_lemma=>
      clear ac ae;obtain⟨q,A,B,f,hA1,ai,ag,rfl,rfl,hA,hP,hS⟩:=hrel;by_cases G:B<=n
      ·have h:=hP.out.parts H0.out hA.out nj (b:=B) nj;have y:=hid h;clear h;go_wp2_with fail;refine(S.out wr _ _ _ A (A+s) B f rfl nj rfl nj nj G y.out.1.1 y.out.2.1.1 y.out.2.2 hS.out.all hS.out.put.1 (HC.out.keep hS.out.put.2)).mono ?_;rintro e w2 ⟨rfl,f2,L,E⟩;have ab:Hid (Std k f0 f2 N g n w w2):=hS.out.next L E G;have J:Hid (Ph2 k f0 f2 n s (q+1)):=hP.out.step hA.out nj G y.out.1 y.out.2.1 E;have ah:Hid (B=2*s*(q+1)):=(by show _=_;have:=hA.out;rw[Nat.mul_add,<-this];omega);clear L E;go_wp2_with fail;go_roundw
       case rel=>go_light;exact⟨q+1,B,B+2*s,f2,nj,nj,nj,rfl,Az (Value.int .i64) nj,ah,J,ab⟩
       case measure=>exact jq
      ·by_cases ak:A+s<n
       ·have h:=hP.out.parts H0.out hA.out nj (b:=n) nj;have y:=hid h;clear h;go_wp2_with fail;refine(S.out wr _ _ _ A (A+s) n f rfl nj rfl nj nj (Ak _) y.out.1.1 y.out.2.1.1 y.out.2.2 hS.out.all hS.out.put.1 (HC.out.keep hS.out.put.2)).mono ?_;rintro e w2 ⟨rfl,f2,L,E⟩;have ab:Hid (Std k f0 f2 N g n w w2):=hS.out.next L E (Ak _);have J:Hid (Ph2 k f0 f2 n (2*s) 0):=Ph2.next (hP.out.last_more hA.out rfl nj nj y.out.1 y.out.2.1 E);clear L E;go_wp2_with fail;go_roundw
        case rel=>go_light;exact⟨2*s,f2,nj,nj,Az (Value.int .i64) nj,J,ab⟩
        case measure=>exact jq
       ·have J:Hid (Ph2 k f0 f n (2*s) 0):=Ph2.next (hP.out.last_few hA.out rfl nj nj);go_wp2_with fail;go_roundw
        case rel=>go_light;exact⟨2*s,f,nj,nj,Az (Value.int .i64) nj,J,hS⟩
        case measure=>exact jq
    ·go_wp2_with fail;refine bodyPost_end (BY rfl _ _ _) rfl ⟨rfl,f1,ae.out.put,ac.out.all nj⟩
theorem iC(w:World)(Bo g n c N:Nat)(k f0:Nat->Nat)(hN:n<=1000000)(h0:∀i j,i<j->j<n->f0 i<f0 j)(y:All N n f0)(hd:Dat w g n f0)(hc:CmpOk Bo g N w k):
 Calls prog 346 #[.slice (some ⟨g,0,none⟩) n c, .func (Fn.func 347) #[] #[.pointer (some ⟨Bo,0,none⟩)]] w (Ux k f0 g n w):=by
 have C:=hid (gP w Bo g n c N k f0 hN h0 y hd hc);clear h0 y hd hc;go_enter func346,ntmps346;go_wp2_with fail;refine C.out.mono ?_;rintro e w1 ⟨rfl,h⟩;have H:=hid h;clear h;go_wp2_with fail;refine bodyPost_end (BY rfl _ _ _) rfl ⟨rfl,H.out⟩
theorem Zq(w:World)(u v:Value):
 Calls prog 373 #[v,ij,ij,u] w fun e w'=>e= .returned (.tuple #[])/\w=w':=by
 go_enter func373,ntmps373;go_wp2_with fail;refine wp_loop_rounds 1 ?_;rw[rounds_succ];go_wp2_with fail;refine bodyPost_end (BY rfl _ _ _) rfl ⟨rfl,rfl⟩
theorem fP(w:World)(u v:Value):
 Calls prog 361 #[v,ij,u] w fun e w'=>e= .returned (.tuple #[])/\w=w':=by
 go_enter func361,ntmps361;go_wp2_with fail;refine wp_loop_rounds 1 ?_;rw[rounds_succ];go_wp2_with fail;refine(Zq _ _ _).mono ?_;rintro e w1 ⟨rfl,rfl⟩;go_wp2_with fail;refine wp_loop_rounds 1 ?_;rw[rounds_succ];go_wp2_with fail;refine bodyPost_end (BY rfl _ _ _) rfl ⟨rfl,rfl⟩
theorem fY(w:World)(u:Value):
 Calls prog 346 #[(),u] w fun e w'=>e= .returned (.tuple #[])/\w=w':=by
 go_enter func346,ntmps346;go_wp2_with fail;refine(fP _ _ _).mono ?_;rintro e w1 ⟨rfl,rfl⟩;go_wp2_with fail;refine bodyPost_end (BY rfl _ _ _) rfl ⟨rfl,rfl⟩
end Srt
end Go.Proofs.YtfgdoknipbpfhaaGreatDoor
