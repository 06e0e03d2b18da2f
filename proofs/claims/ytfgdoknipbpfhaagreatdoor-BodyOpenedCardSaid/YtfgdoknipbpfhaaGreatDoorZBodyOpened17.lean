/- Plain: numbers by pl -/
import Derived.Test.YtfgdoknipbpfhaaGreatDoorZBodyOpened2
import Derived.BigRegion
import Derived.Deep.LoopGhost
import Derived.IntWalk
namespace Go.Proofs.YtfgdoknipbpfhaaGreatDoor
open Go.Proofs.Tryz
open Go.Lib (hid)
set_option maxHeartbeats 2000000
set_option maxRecDepth 100000
variable{A N a a' b b' c e g i j m n p q s x:Nat}{w w1 wr:World}{S l:List Nat}
namespace Srt
def seg(f:Nat->Nat)(a b:Nat):List Nat:=(List.range' a (b-a)).map f
theorem seg_length(f:Nat->Nat)(a b:Nat):(seg f a b).length=b-a:=by simp[seg]
theorem GN(f:Nat->Nat)(a b i:Nat)(h:i<(seg f a b).length):(seg f a b)[i]=f (a+i):=by simp[seg]
theorem IW{f g:Nat->Nat}(h:∀i,a<=i->i<b->f i=g i):seg f a b=seg g a b:=by refine List.ext_getElem (by rw[seg_length,seg_length]) fun i h1 h2=> ?_;rw[seg_length]at h1;rw[GN,GN];exact h _ mz mz
theorem Qs{f g:Nat->Nat}(hd:b-a=b'-a')(h:∀i,i<b-a->f (a+i)=g (a'+i)):seg f a b=seg g a' b':=by refine List.ext_getElem (by rw[seg_length,seg_length,hd]) fun i h1 h2=> ?_;rw[seg_length]at h1;rw[GN,GN];exact h _ h1
theorem seg_append(f:Nat->Nat)(h1:a<=m)(h2:m<=b):seg f a b=seg f a m++seg f m b:=by
 refine List.ext_getElem (by rw[Aj,seg_length,seg_length,seg_length];omega) fun i h3 h4=> ?_;rw[GN];rw[seg_length]at h3;by_cases hi:i<m-a
 ·rw[List.getElem_append_left pd,GN]
 ·rw[List.getElem_append_right pd,GN,seg_length];congr 1;omega
theorem J0{f:Nat->Nat}:x∈seg f a b↔∃i,a<=i/\i<b/\f i=x:=by
 unfold seg;rw[Cc];constructor
 ·rintro⟨i,hi,rfl⟩;rw[List.mem_range'_1]at hi;exact⟨i,hi.1,mz,rfl⟩
 ·rintro⟨i,h1,h2,rfl⟩;exact⟨i,List.mem_range'_1.2 ⟨h1,mz⟩,rfl⟩
theorem Sk(f:Nat->Nat)(h:b<=a):seg f a b= []:=Gr pd
def swp(f:Nat->Nat)(p q:Nat)(i:Nat):Nat:=if i=p then f q else if i=q then f p else f i
def swr(f:Nat->Nat)(a b n:Nat)(i:Nat):Nat:=if a<=i/\i<a+n then f (b+(i-a))else if b<=i/\i<b+n then f (a+(i-b))else f i
def rot(f:Nat->Nat)(a m b:Nat)(i:Nat):Nat:=if a<=i/\i<a+(b-m)then f (i+(m-a))else if a+(b-m)<=i/\i<b then f (i-(b-m))else f i
theorem YZ(f:Nat->Nat)(a b:Nat):swr f a b 0=f:=by funext i;unfold swr;rw[Ab mz,Ab mz]
theorem YF(f:Nat->Nat)(a b n:Nat)(h:a+n<b):swp (swr f a b n) (a+n) (b+n)=swr f a b (n+1):=by
 funext i
 unfold swp swr
 repeat' split
 all_goals first|rfl|(exfalso;omega)|(congr 1;omega)
theorem Yh(f:Nat->Nat)(a i j:Nat)(h:j<i):rot f a (a+i) (a+i+j)=rot (swr f a (a+i) j) (a+j) (a+i) (a+i+j):=by
 funext x
 unfold rot swr
 repeat' split
 all_goals first|rfl|(exfalso;omega)|(congr 1;omega)
theorem XV(f:Nat->Nat)(a i j:Nat)(h:i<j):rot f a (a+i) (a+i+j)=rot (swr f a (a+j) i) a (a+i) (a+j):=by
 funext x
 unfold rot swr
 repeat' split
 all_goals first|rfl|(exfalso;omega)|(congr 1;omega)
theorem XC(f:Nat->Nat)(a i:Nat):rot f a (a+i) (a+i+i)=swr f a (a+i) i:=by
 funext x
 unfold rot swr
 repeat' split
 all_goals first|rfl|(exfalso;omega)|(congr 1;omega)
theorem Nq(f:Nat->Nat)(ha:a<=m)(hb:m<=b)(h:a=m∨m=b):rot f a m b=f:=by
 funext x
 unfold rot
 repeat' split
 all_goals first|rfl|(exfalso;omega)|(congr 1;omega)
theorem Xj(f:Nat->Nat)(a t:Nat):swp (rot f a (a+1) (a+1+t)) (a+t) (a+t+1)=rot f a (a+1) (a+1+(t+1)):=by
 funext x
 unfold swp rot
 repeat' split
 all_goals first|rfl|(exfalso;omega)|(congr 1;omega)
theorem TC(f:Nat->Nat)(m j:Nat)(h:j<m):swp (rot f (j+1) m (m+1)) (j+1) j=rot f j m (m+1):=by
 funext x
 unfold swp rot
 repeat' split
 all_goals first|rfl|(exfalso;omega)|(congr 1;omega)
theorem Ms(f:Nat->Nat)(h:i<a):rot f a m b i=f i:=by unfold rot;rw[Ab mz,Ab mz]
theorem Lh(f:Nat->Nat)(h1:a<=i)(h2:i<a+(b-m)):rot f a m b i=f (i+(m-a)):=by unfold rot;rw[Ae ⟨h1,h2⟩]
theorem PF(f:Nat->Nat)(h1:a+(b-m)<=i)(h2:i<b):rot f a m b i=f (i-(b-m)):=by unfold rot;rw[Ab mz,Ae ⟨h1,h2⟩]
theorem Ve(f:Nat->Nat)(ha:a<=m)(hm:m<=b)(h:b<=i):rot f a m b i=f i:=by unfold rot;rw[Ab mz,Ab mz]
theorem Yo(f:Nat->Nat)(ha:a<=m)(hm:m<=b):(seg (rot f a m b) a b).Perm (seg f a b):=by rw[seg_append (rot f a m b) (m:=a+(b-m)) mz mz,seg_append f ha hm];rw[Qs (f:=rot f a m b) (g:=f) (a:=a) (b:=a+(b-m)) (a':=m) (b':=b) mz (fun i hi=>by rw[Lh f mz mz];congr 1;omega)];rw[Qs (f:=rot f a m b) (g:=f) (a:=a+(b-m)) (b:=b) (a':=a) (b':=m) mz (fun i hi=>by rw[PF f mz mz];congr 1;omega)];exact List.perm_append_comm
section
variable (k:Nat->Nat)
def Lt(x y:Nat):Prop:=k x<k y∨(k x=k y/\x<y)
def Sor(f:Nat->Nat)(a b:Nat):Prop:=∀i j,a<=i->i<j->j<b->Lt k (f i) (f j)
def Low(f:Nat->Nat)(a m b:Nat):Prop:=∀i j,a<=i->i<m->m<=j->j<b->f i<f j
def Crs(f:Nat->Nat)(a m e b:Nat):Prop:=∀i j,a<=i->i<m->e<=j->j<b->Lt k (f i) (f j)
def Mer(f f':Nat->Nat)(a b:Nat):Prop:=Sor k f' a b/\(seg f' a b).Perm (seg f a b)/\∀i,(i<a∨b<=i)->f' i=f i
end
variable {k:Nat->Nat}
theorem Lt.trans{y z:Nat}(h1:Lt k x y)(h2:Lt k y z):Lt k x z:=by unfold Lt at *;omega
theorem Sor.le{f:Nat->Nat}(h:Sor k f a b)(hi:a<=i)(y:i<=j)(hj:j<b):f i=f j∨Lt k (f i) (f j):=by
 rcases Nat.eq_or_lt_of_le y with e|e
 ·exact .inl (by rw[e])
 ·exact .inr (h i j hi e hj)
theorem Mer.refl{f:Nat->Nat}(h:Sor k f a b):Mer k f f a b:=⟨h,List.Perm.refl _,fun _ _=>rfl⟩
theorem Sor.few{f:Nat->Nat}(h:b<=a+1):Sor k f a b:=fun i j _ _ _=>mz
theorem Sor.sub{f:Nat->Nat}(h:Sor k f a b)(h1:a<=a')(h2:b'<=b):Sor k f a' b':=fun i j hi hij hj=>h i j mz hij mz
theorem Sor.congr{f g:Nat->Nat}(h:Sor k f a b)(he:∀i,a<=i->i<b->g i=f i):Sor k g a b:=fun i j hi hij hj=>by rw[he i hi mz,he j mz hj];exact h i j hi hij hj
theorem Sor.join{f:Nat->Nat}(h1:Sor k f a m)(h2:Sor k f m b)(h3:Crs k f a m m b):Sor k f a b:=fun i j hi hij hj=>by
 by_cases e:j<m
 ·exact h1 i j hi hij e
 ·by_cases e':i<m
  ·exact h3 i j hi e' mz hj
  ·exact h2 i j mz hij hj
theorem Mer.mem{f f':Nat->Nat}(h:Mer k f f' a b)(h1:a<=i)(h2:i<b):∃i',a<=i'/\i'<b/\f i'=f' i:=
 J0.1 (h.2.1.mem_iff.1 (J0.2 ⟨i,h1,h2,rfl⟩))
theorem Mer.join{f g h:Nat->Nat}(y:a<=m)(z:m<=b)(h1:Mer k f g a m)(h2:Mer k g h m b)(hc:Crs k f a m m b):Mer k f h a b:=by
 refine⟨Sor.join (m:=m) (h1.1.congr fun i _ hi=>h2.2.2 i mz) h2.1 fun i j hi him hj hjb=> ?_,?_,fun i hi=> ?_⟩
 ·rw[h2.2.2 i mz];obtain⟨i',a1,a2,a3⟩:=h1.mem hi him;obtain⟨j',b1,b2,b3⟩:=h2.mem hj hjb;rw[<-a3,<-b3,h1.2.2 j' mz];exact hc i' j' a1 a2 b1 b2
 ·rw[seg_append h y z,seg_append f y z];refine List.Perm.append ?_ ?_
  ·rw[IW (fun i _ hi=>h2.2.2 i mz)];exact h1.2.1
  ·refine h2.2.1.trans ?_;rw[IW (fun i hi _=>h1.2.2 i mz)]
 ·rw[h2.2.2 i mz,h1.2.2 i mz]
theorem Mer.trans{f g h:Nat->Nat}(hp:(seg g a b).Perm (seg f a b))(ho:∀i,(i<a∨b<=i)->g i=f i)(h2:Mer k g h a b):Mer k f h a b:=
 ⟨h2.1,h2.2.1.trans hp,fun i hi=>(h2.2.2 i hi).trans (ho i hi)⟩
theorem split{f:Nat->Nat}(h1:a<=s)(h2:s<=m)(h3:m<=e)(h4:e<=b)(hl:Sor k f a m)(hr:Sor k f m b)(z:Low f a m b)
 (c1:Crs k f a s e b)(c2:∀i j,m<=i->i<e->s<=j->j<m->Lt k (f i) (f j)):
 (seg (rot f s m e) a b).Perm (seg f a b)/\(∀i,(i<a∨b<=i)->rot f s m e i=f i)/\
 Sor k (rot f s m e) a s/\Sor k (rot f s m e) s (s+(e-m))/\Low (rot f s m e) a s (s+(e-m))/\
 Sor k (rot f s m e) (s+(e-m)) e/\Sor k (rot f s m e) e b/\Low (rot f s m e) (s+(e-m)) e b/\Crs k (rot f s m e) a (s+(e-m)) (s+(e-m)) b:=by
 have p1:∀i,i<s->rot f s m e i=f i:=fun i hi=>Ms f hi;have p2:∀i,s<=i->i<s+(e-m)->rot f s m e i=f (i+(m-s)):=fun i hi h=>Lh f hi h;have p3:∀i,s+(e-m)<=i->i<e->rot f s m e i=f (i-(e-m)):=fun i hi h=>PF f hi h;have p4:∀i,e<=i->rot f s m e i=f i:=fun i hi=>Ve f h2 h3 hi;refine⟨?_,fun i hi=> ?_,?_,?_,?_,?_,?_,?_,?_⟩
 ·rw[seg_append (rot f s m e) h1 (by omega:s<=b),seg_append (rot f s m e) (by omega:s<=e) h4,seg_append f h1 (by omega:s<=b),seg_append f (by omega:s<=e) h4];refine List.Perm.append ?_ (List.Perm.append (Yo f h2 h3) ?_)
  ·rw[IW (fun i _ hi=>p1 i hi)]
  ·rw[IW (fun i hi _=>p4 i hi)]
 ·rcases hi with hi|hi
  ·exact p1 i mz
  ·exact p4 i mz
 ·exact(hl.sub (Aq a) h2).congr fun i _ hi=>p1 i hi
 ·intro i j hi E hj;rw[p2 i hi mz,p2 j mz hj];exact hr _ _ mz mz mz
 ·intro i j hi h hj y;rw[p1 i h,p2 j hj y];exact z _ _ hi mz mz mz
 ·intro i j hi E hj;rw[p3 i hi mz,p3 j mz hj];exact hl _ _ mz mz mz
 ·intro i j hi E hj;rw[p4 i hi,p4 j mz];exact hr _ _ mz E hj
 ·intro i j hi h hj y;rw[p3 i hi h,p4 j hj];exact z _ _ mz mz mz y
 ·intro i j hi h hj y;by_cases x1:i<s
  ·rw[p1 i x1];by_cases x2:j<e
   ·rw[p3 j hj x2];exact hl _ _ hi mz mz
   ·rw[p4 j mz];exact c1 _ _ hi x1 mz y
  ·rw[p2 i mz h];by_cases x2:j<e
   ·rw[p3 j hj x2];exact c2 _ _ mz mz mz mz
   ·rw[p4 j mz];exact hr _ _ mz mz mz
theorem Yt{f:Nat->Nat}(h2:s<=m)(h3:m<=e)(hl:Sor k f a m)(hr:Sor k f m b)(y:Low f a m b)
 (h:s=a∨e=b∨(a<s/\e<b/\k (f (s-1))<=k (f e))):Crs k f a s e b:=by
 intro i j hi E hj z;rcases h with h|h|⟨x1,x2,x3⟩
 ·omega
 ·omega
 ·have y1:=hl.le hi (by omega:i<=s-1) mz;have y2:=hr.le h3 hj z;have y3:Lt k (f (s-1)) (f e):=by have:=y (s-1) e mz mz h3 x2;unfold Lt;omega
  rcases y1 with y1|y1
  ·rw[y1];rcases y2 with y2|y2
   ·rw[<-y2];exact y3
   ·exact y3.trans y2
  ·rcases y2 with y2|y2
   ·rw[<-y2];exact y1.trans y3
   ·exact(y1.trans y3).trans y2
theorem OX{f:Nat->Nat}(h1:a<=s)(h4:e<=b)(hl:Sor k f a m)(hr:Sor k f m b)
 (h:s=m∨e=m∨(s<m/\m<e/\k (f (e-1))<k (f s))):∀i j,m<=i->i<e->s<=j->j<m->Lt k (f i) (f j):=by
 intro i j hi z hj y;rcases h with h|h|⟨x1,x2,x3⟩
 ·omega
 ·omega
 ·have y1:=hr.le hi (by omega:i<=e-1) mz;have y2:=hl.le h1 hj y;have y3:Lt k (f (e-1)) (f s):= .inl x3;rcases y1 with y1|y1
  ·rw[y1];rcases y2 with y2|y2
   ·rw[<-y2];exact y3
   ·exact y3.trans y2
  ·rcases y2 with y2|y2
   ·rw[<-y2];exact y1.trans y3
   ·exact(y1.trans y3).trans y2
theorem Tq{f:Nat->Nat}(h1:a<=s)(h2:s<=m)(hl:Sor k f a m)(h:Low f a m (m+1))(g1:s=a∨k (f (s-1))<=k (f m))(g2:s=m∨k (f m)<k (f s)):
 Mer k f (rot f s m (m+1)) a (m+1):=by
 have c1:Crs k f a s (m+1) (m+1):=fun i j _ _ _ _=>mz
 have c2:=OX (k:=k) (f:=f) (a:=a) (s:=s) (m:=m) (e:=m+1) (b:=m+1) h1 (Aq _) hl (Sor.few mz) (by
  rcases g2 with g2|g2
  ·exact .inl g2
  ·by_cases e:s=m
   ·exact .inl e
   ·exact .inr (.inr ⟨mz,mz,by simpa using g2⟩))
 obtain⟨hp,ho,s1,s2,l1,s3,s4,l2,hc⟩:=split h1 h2 (by omega:m<=m+1) (Aq _) hl (Sor.few mz) h c1 c2;refine⟨?_,hp,ho⟩;rw[show s+(m+1-m)=s+1 by omega]at *;refine Sor.join (m:=s+1) (Sor.join s1 s2 fun i j hi hi' hj hj'=> ?_) s3 hc;obtain rfl:j=s:=mz
 rw[Ms f hi',Lh f (Aq _) mz,show j+(m-j)=m by omega];rcases g1 with g1|g1
 ·omega
 ·have y1:=hl.le hi (by omega:i<=j-1) mz;have y2:=h (j-1) m mz mz (Aq _) mz;have y3:Lt k (f (j-1)) (f m):=by unfold Lt;omega
  rcases y1 with y1|y1
  ·rw[y1];exact y3
  ·exact y1.trans y3
theorem X8{f:Nat->Nat}(h3:a+1<=e)(h4:e<=b)(hr:Sor k f (a+1) b)(h:Low f a (a+1) b)(g1:e=b∨k (f a)<=k (f e))(g2:e=a+1∨k (f (e-1))<k (f a)):
 Mer k f (rot f a (a+1) e) a b:=by
 have c1:Crs k f a a e b:=fun i j _ _ _ _=>mz
 have c2:=OX (k:=k) (f:=f) (a:=a) (s:=a) (m:=a+1) (e:=e) (b:=b) (Aq _) h4 (Sor.few mz) hr (by
  rcases g2 with g2|g2
  ·exact .inr (.inl g2)
  ·by_cases e':e=a+1
   ·exact .inr (.inl e')
   ·exact .inr (.inr ⟨mz,mz,g2⟩))
 obtain⟨hp,ho,s1,s2,l1,s3,s4,l2,hc⟩:=split (Aq a) (by omega:a<=a+1) h3 h4 (Sor.few mz) hr h c1 c2;refine⟨?_,hp,ho⟩;rw[show a+(e-(a+1))=e-1 by omega]at *;refine Sor.join (m:=e-1) s2 (Sor.join (m:=e) s3 s4 fun i j hi hi' hj hj'=> ?_) hc;obtain rfl:i=e-1:=mz
 rw[Ve f mz h3 hj,PF f mz hi',show e-1-(e-(a+1))=a by omega];rcases g1 with g1|g1
 ·omega
 ·have y1:=hr.le mz hj hj';have y2:=h a e (Aq _) mz mz mz;have y3:Lt k (f a) (f e):=by unfold Lt;omega
  rcases y1 with y1|y1
  ·rw[<-y1];exact y3
  ·exact y3.trans y1
theorem gI{f f0:Nat->Nat}(h0:∀i j,a<=i->i<j->j<b->f0 i<f0 j)(h1:(seg f a m).Perm (seg f0 a m))(h2:(seg f m b).Perm (seg f0 m b)):Low f a m b:=by intro i j hi h hj y;obtain⟨i',a1,a2,a3⟩:=J0.1 (h1.mem_iff.1 (J0.2 ⟨i,hi,h,rfl⟩));obtain⟨j',b1,b2,b3⟩:=J0.1 (h2.mem_iff.1 (J0.2 ⟨j,hj,y,rfl⟩));rw[<-a3,<-b3];exact h0 i' j' a1 mz b2
theorem Td{f g:Nat->Nat}(h0:∀i j,a<=i->i<j->j<b->f i<f j)(hm:Mer k f g a m)(hb:m<b)(h:a<=m)(h1:a<=s)(h2:s<=m)
 (g1:s=a∨k (g (s-1))<=k (g m))(g2:s=m∨k (g m)<k (g s)):Mer k f (rot g s m (m+1)) a (m+1):=by
 have y:g m=f m:=hm.2.2 m mz;refine Mer.trans (g:=g) ?_ (fun i hi=>hm.2.2 i mz) (Tq h1 h2 hm.1 (fun i j hi hi' hj hj'=> ?_) g1 g2)
 ·rw[seg_append g h (by omega:m<=m+1),seg_append f h (by omega:m<=m+1)];refine hm.2.1.append ?_;rw[IW (fun i hi hi'=>hm.2.2 i mz)]
 ·obtain rfl:j=m:=by omega
  obtain⟨i',a1,a2,a3⟩:=hm.mem hi hi';rw[<-a3,y];exact h0 i' j a1 a2 hb
def Ok(k:Nat->Nat)(f0 f:Nat->Nat)(a b:Nat):Prop:=Sor k f a b/\(seg f a b).Perm (seg f0 a b)
theorem Ok.congr{f0 f g:Nat->Nat}(h:Ok k f0 f a b)(he:∀i,a<=i->i<b->g i=f i):Ok k f0 g a b:=⟨h.1.congr he,by rw[IW he];exact h.2⟩
theorem Ok.mer{f0 f g:Nat->Nat}(h:a<=m)(i:m<=b)(h1:Ok k f0 f a m)(h2:Ok k f0 f m b)(hm:Mer k f g a b):Ok k f0 g a b:=
 ⟨hm.1,hm.2.1.trans (by rw[seg_append f h i,seg_append f0 h i];exact h1.2.append h2.2)⟩
theorem Ok.nil{f0 f:Nat->Nat}(h:b<=a):Ok k f0 f a b:=⟨Sor.few mz,by rw[Sk f h,Sk f0 h]⟩
def Bl(k:Nat->Nat)(f0 f:Nat->Nat)(n s c:Nat):Prop:=Ok k f0 f (min (s*c) n) (min (s*(c+1)) n)
def Ph1(k:Nat->Nat)(f0 f:Nat->Nat)(n c:Nat):Prop:=(∀c',c'<c->Bl k f0 f n 20 c')/\∀i,20*c<=i->f i=f0 i
def Ph2(k:Nat->Nat)(f0 f:Nat->Nat)(n s c:Nat):Prop:=(∀c',c'<c->Bl k f0 f n (2*s) c')/\∀c',2*c<=c'->Bl k f0 f n s c'
theorem Ph1.start(f:Nat->Nat)(n:Nat):Ph1 k f f n 0:=⟨fun c' h=>mz,fun _ _=>rfl⟩
theorem Ph1.step{f0 f g:Nat->Nat}(h:Ph1 k f0 f n c)(hm:Mer k f g (20*c) (20*c+20))(hn:20*c+20<=n):Ph1 k f0 g n (c+1):=by
 refine⟨fun c' hc=> ?_,fun i hi=> ?_⟩
 ·by_cases e:c'=c
  ·subst e;unfold Bl;rw[Nat.min_eq_left mz,Nat.min_eq_left mz];refine⟨hm.1,hm.2.1.trans ?_⟩;rw[IW (g:=f0) (fun i hi _=>h.2 i hi)];exact List.Perm.refl _
  ·exact(h.1 c' mz).congr fun i _ hi=>hm.2.2 i mz
 ·rw[hm.2.2 i mz,h.2 i mz]
theorem Ph1.done{f0 f g:Nat->Nat}(h:Ph1 k f0 f n c)(hm:Mer k f g (20*c) n)(hn:n<20*c+20)(j:20*c<=n):Ph2 k f0 g n 20 0:=by
 refine⟨fun c' h=>mz,fun c' _=> ?_⟩;rcases Nat.lt_trichotomy c' c with e|e|e
 ·exact(h.1 c' e).congr fun i _ hi=>hm.2.2 i mz
 ·subst e;unfold Bl;rw[Nat.min_eq_left mz,Nat.min_eq_right mz];refine⟨hm.1,hm.2.1.trans ?_⟩;rw[IW (fun i hi _=>h.2 i hi)]
 ·exact Ok.nil mz
theorem Ph2.parts{f0 f:Nat->Nat}(h0:∀i j,i<j->j<n->f0 i<f0 j)(h:Ph2 k f0 f n s c)(hA:A=2*s*c)(hm:A+s<=n)(hb:b=min (A+2*s) n):
 Ok k f0 f A (A+s)/\Ok k f0 f (A+s) b/\Low f A (A+s) b:=by
 have e1:s*(2*c)=A:=by rw[hA,Nat.mul_comm 2 s,Nat.mul_assoc]
 have e2:s*(2*c+1)=A+s:=by rw[Nat.mul_add,e1,CG]
 have e3:s*(2*c+1+1)=A+2*s:=by rw[Nat.mul_add,e2];omega
 have x1:=h.2 (2*c) mz;have x2:=h.2 (2*c+1) mz;unfold Bl at x1 x2;rw[e1,e2,Nat.min_eq_left mz,Nat.min_eq_left mz]at x1;rw[e2,e3,Nat.min_eq_left mz,<-hb]at x2;exact⟨x1,x2,gI (f0:=f0) (fun i j _ hij hj=>h0 i j hij mz) x1.2 x2.2⟩
theorem Ph2.far{f0 f g:Nat->Nat}(h:Ph2 k f0 f n s c)(hA:A=2*s*c)(hb:b=A+2*s)(ho:∀i,(i<A∨b<=i∨n<=i)->g i=f i)(hx:Bl k f0 g n (2*s) c):Ph2 k f0 g n s (c+1):=by
 refine⟨fun c' hc=> ?_,fun c' hc=> ?_⟩
 ·by_cases e:c'=c
  ·subst e;exact hx
  ·have:2*s*(c'+1)<=2*s*c:=Nat.mul_le_mul_left _ mz;exact(h.1 c' mz).congr fun i _ hi=>ho i mz
 ·have e1:s*(2*(c+1))=b:=by rw[hb,hA,Nat.mul_add 2 c 1,Nat.mul_add,Nat.mul_comm 2 s,Nat.mul_assoc s 2 c]
  have:s*(2*(c+1))<=s*c':=Nat.mul_le_mul_left _ hc;exact(h.2 c' mz).congr fun i hi hi'=>ho i mz
theorem Ph2.step{f0 f g:Nat->Nat}(h:Ph2 k f0 f n s c)(hA:A=2*s*c)(hb:b=A+2*s)(hn:b<=n)(h1:Ok k f0 f A (A+s))(h2:Ok k f0 f (A+s) b)(hm:Mer k f g A b):Ph2 k f0 g n s (c+1):=by
 refine h.far hA hb (fun i hi=>hm.2.2 i mz) ?_;have e3:2*s*(c+1)=b:=oL
 unfold Bl;rw[e3,<-hA,Nat.min_eq_left mz,Nat.min_eq_left hn];exact Ok.mer mz mz h1 h2 hm
theorem Ph2.last{f0 f:Nat->Nat}(h:Ph2 k f0 f n s c)(hA:A=2*s*c)(hb:b=A+2*s)(hn:n<b)(hx:Ok k f0 f (min A n) n):∀c',Bl k f0 f n (2*s) c':=by
 intro c';have e3:2*s*(c+1)=b:=oL
 rcases Nat.lt_trichotomy c' c with e|e|e
 ·exact h.1 c' e
 ·subst e;unfold Bl;rw[e3,<-hA,Nat.min_eq_right (show n<=b by omega)];exact hx
 ·have:2*s*(c+1)<=2*s*c':=Nat.mul_le_mul_left _ mz;exact Ok.nil mz
theorem Ph2.last_few{f0 f:Nat->Nat}(h:Ph2 k f0 f n s c)(hA:A=2*s*c)(hb:b=A+2*s)(hn:n<b)(hm:n<=A+s):∀c',Bl k f0 f n (2*s) c':=by
 refine h.last hA hb hn ?_;have e1:s*(2*c)=A:=by rw[hA,Nat.mul_comm 2 s,Nat.mul_assoc]
 have e2:s*(2*c+1)=A+s:=by rw[Nat.mul_add,e1,CG]
 have x1:=h.2 (2*c) mz;unfold Bl at x1;rw[e1,e2,Nat.min_eq_right hm]at x1;exact x1
theorem Ph2.last_more{f0 f g:Nat->Nat}(h:Ph2 k f0 f n s c)(hA:A=2*s*c)(hb:b=A+2*s)(hn:n<b)(hm:A+s<=n)(h1:Ok k f0 f A (A+s))(h2:Ok k f0 f (A+s) n)(hg:Mer k f g A n):∀c',Bl k f0 g n (2*s) c':=by
 have h':Ph2 k f0 g n s (c+1):=by
  refine h.far hA hb (fun i hi=>hg.2.2 i mz) ?_;have e3:2*s*(c+1)=b:=oL
  unfold Bl;rw[e3,<-hA,Nat.min_eq_left mz,Nat.min_eq_right mz];exact Ok.mer mz hm h1 h2 hg
 intro c';have e3:2*s*(c+1)=b:=oL
 by_cases e:c'<c+1
 ·exact h'.1 c' e
 ·have:2*s*(c+1)<=2*s*c':=Nat.mul_le_mul_left _ mz;exact Ok.nil mz
theorem Ph2.next{f0 f:Nat->Nat}(h:∀c',Bl k f0 f n s c'):Ph2 k f0 f n s 0:=⟨fun c' h=>mz,fun c' _=>h c'⟩
theorem Ph2.all{f0 f:Nat->Nat}(h:Ph2 k f0 f n s 0)(hs:n<=s):Ok k f0 f 0 n:=by have x:=h.2 0 mz;unfold Bl at x;rw[Nat.mul_zero,Nat.zero_min,Ck,CG,Nat.min_eq_right hs]at x;exact x
end Srt
namespace Srt
open Go.RowKit Mem Own
def Dat(w:World)(g n:Nat)(f:Nat->Nat):Prop:=∃cs:Array Value,Blk w g 3 cs/\n<=cs.size/\∀i,i<n->cs[i]? =some (.int .i64 (f i:Nat))
theorem Dat.cell{f:Nat->Nat}(h:Dat w g n f)(hi:i<n):w.cell? ⟨g,i,none⟩=some (.int .i64 (f i:Nat)):=by obtain⟨cs,hb,_,hc⟩:=h;rw[hb.cell];exact hc i hi
theorem Dat.frozen{f:Nat->Nat}(h:Dat w g n f)(i:Nat):w.frozen? ⟨g,i,none⟩=false:=by obtain⟨cs,hb,_,_⟩:=h;exact hb.frozen i
theorem Dat.lt{f:Nat->Nat}(h:Dat w g n f):g<w.heap.size:=by obtain⟨cs,hb,_,_⟩:=h;exact hb.lt
theorem Dat.drew{f:Nat->Nat}(h:Dat w g n f):Dat w.drew g n f:=h
theorem Dat.drewN{f:Nat->Nat}(h:Dat w g n f)(k:Nat):Dat (w.drewN k) g n f:=h
theorem Dat.swap{f:Nat->Nat}(h:Dat w g n f)(hp:p<n)(hq:q<n)(j:p≠q):
 Dat ((w.setCell ⟨g,p,none⟩ (.int .i64 (f q:Nat))).setCell ⟨g,q,none⟩ (.int .i64 (f p:Nat))) g n (swp f p q):=by
 obtain⟨cs,hb,hs,hc⟩:=h;refine⟨_,(hb.set p _).set q _,by simpa using hs,fun i hi=> ?_⟩;rw[FE,FE];unfold swp;by_cases e1:q=i
 ·subst e1;rw[Ae rfl,Ae pQ,Ab (AZ j),Ae rfl]
 ·rw[Ab e1];by_cases e2:p=i
  ·subst e2;rw[Ae rfl,Ae mz,Ae rfl]
  ·rw[Ab e2,Ab (AZ e2),Ab (AZ e1),hc i hi]
def Put(g n:Nat)(f:Nat->Nat)(w w':World):Prop:=Dat w' g n f/\Kept (fun b=>b<w.heap.size/\b≠g) w w'
theorem Put.trans{f f':Nat->Nat}{w2:World}(h1:Put g n f w w1)(h2:Put g n f' w1 w2):Put g n f' w w2:=by have hz:=h1.2.size;exact⟨h2.1,h1.2.trans ⟨h2.2.os,h2.2.tape,h2.2.output,h2.2.size,fun b hb=>h2.2.block b ⟨by have:=hb.1;omega,hb.2⟩⟩⟩
theorem Put.swap{f:Nat->Nat}(h:Put g n f w w1)(hp:p<n)(hq:q<n)(i:p≠q):
 Put g n (swp f p q) w ((w1.setCell ⟨g,p,none⟩ (.int .i64 (f q:Nat))).setCell ⟨g,q,none⟩ (.int .i64 (f p:Nat))):=
 ⟨h.1.swap hp hq i,(h.2.set (fun hb=>hb.2 rfl) _).set (fun hb=>hb.2 rfl) _⟩
theorem Put.drew{f:Nat->Nat}(h:Put g n f w w1):Put g n f w w1.drew:=⟨h.1.drew,h.2.drew⟩
theorem Put.drewN{f:Nat->Nat}(h:Put g n f w w1)(k:Nat):Put g n f w (w1.drewN k):=⟨h.1.drewN k,h.2.drewN k⟩
theorem Put.refl{f:Nat->Nat}(h:Dat w g n f):Put g n f w w:=⟨h,Kept.refl _ _⟩
theorem aC(w:World)(g n c a b m:Nat)(f:Nat->Nat)(u:Value)(hN:n<=9223372036854775807)(y:a+m<=b)(hb:b+m<=n)(hd:Dat w g n f):
 Calls prog 397 #[.slice (some ⟨g,0,none⟩) n c,a,b,m,u] w fun e w'=>e= .returned (.tuple #[])/\Put g n (swr f a b m) w w':=by
 have p0:Put g n (swr f a b 0) w w:=by rw[YZ];exact Put.refl hd
 clear hd;go_enter func397,ntmps397;go_wp2_with fail;go_loopw [10] (fun i wr=>∃k:Nat,k<=m/\i= .int .i64 k/\Hid (Put g n (swr f a b k) w wr)) (fun i _=>m-(intOf i).toNat)
 case atStart=>exact⟨0,Cr _,rfl,p0⟩
 case round=>
  clear p0;obtain⟨k,hk,rfl,hp⟩:=hrel;by_cases z:k<m
  ·have c1:=hp.out.1.cell (i:=a+k) mz;have c2:=hp.out.1.cell (i:=b+k) mz;have f1:=hp.out.1.frozen (a+k);have f2:=hp.out.1.frozen (b+k);have h:=(hp.out.swap (p:=a+k) (q:=b+k) mz mz mz).drew;rw[YF f a b k mz]at h;have j:=hid h;clear h;generalize swr f a b k (a+k)=v1 at *;generalize swr f a b k (b+k)=v2 at *;have s1:IntKind.i64.wrap ((a:Int)+(k:Int))=(a:Int)+(k:Int):=Aw _ mz;have s2:IntKind.i64.wrap ((b:Int)+(k:Int))=(b:Int)+(k:Int):=Aw _ mz;have x1:(0:Int)<=(a:Int)+(k:Int):=mz;have x2:(0:Int)<=(b:Int)+(k:Int):=mz;have x3:(a:Int)+(k:Int)<(n:Int):=mz;have x4:(b:Int)+(k:Int)<(n:Int):=mz;have x5:((a:Int)+(k:Int)).toNat=a+k:=mz;have x6:((b:Int)+(k:Int)).toNat=b+k:=mz;go_wp2_with fail;go_region;clear s1 s2 x5 x6;go_wp2_with fail;go_roundw
   case rel=>go_light;exact⟨k+1,mz,jp,j⟩
   case measure=>exact jo
  ·obtain rfl:k=m:=by omega
   go_wp2_with fail;refine bodyPost_end (BN rfl _ _ _) rfl ⟨rfl,hp.out⟩
theorem ZR(g n c:Nat)(u:Value)(hN:n<=4611686018427387904):∀ (wx:World) (x y z:Int) (a b m:Nat) (f:Nat->Nat),x=a->y=b->z=m->a+m<=b->b+m<=n->Dat wx g n f->
 Calls prog 397 #[.slice (some ⟨g,0,none⟩) n c,x,y,z,u] wx fun e w'=>e= .returned (.tuple #[])/\Put g n (swr f a b m) wx w':=by
 intro wx x y z a b m f h1 h2 h3 h4 h5 h6;subst h1 h2 h3;exact aC wx g n c a b m f u mz h4 h5 h6
def Rotd(g n:Nat)(w:World)(fin:Nat->Nat)(m i j:Nat)(wr:World):Prop:=∃f,Put g n f w wr/\rot f (m-i) m (m+j)=fin
theorem Rotd.gt{y f:Nat->Nat}(h:Put g n f w wr)(hr:rot f (m-i) m (m+j)=y)(h1:Put g n (swr f (m-i) m j) wr w1)(z:j<i)(E:i<=m):Rotd g n w y m (i-j) j w1:=by refine⟨_,h.trans h1,?_⟩;have:=Yh f (m-i) i j z;rw[show m-i+i=m by omega,show m-i+j=m-(i-j) by omega]at this;rw[<-this,hr]
theorem Rotd.lt{y f:Nat->Nat}(h:Put g n f w wr)(hr:rot f (m-i) m (m+j)=y)(h1:Put g n (swr f (m-i) (m+j-i) i) wr w1)(z:i<j)(E:i<=m):Rotd g n w y m i (j-i) w1:=by refine⟨_,h.trans h1,?_⟩;have:=XV f (m-i) i j z;rw[show m-i+i=m by omega,show m-i+j=m+j-i by omega,show m+j-i=m+(j-i) by omega]at this;rw[show m+j-i=m+(j-i) by omega,<-this,hr]
theorem Rotd.eq{j f:Nat->Nat}(h:Put g n f w wr)(hr:rot f (m-i) m (m+i)=j)(h1:Put g n (swr f (m-i) m i) wr w1)(y:i<=m):Put g n j w w1:=by have:=XC f (m-i) i;rw[show m-i+i=m by omega]at this;rw[<-hr,this];exact h.trans h1
theorem Zz(w:World)(g n c a m b:Nat)(f:Nat->Nat)(u:Value)(hN:n<=4611686018427387904)(U:a<m)(Y:m<b)(hb:b<=n)(hd:Dat w g n f):
 Calls prog 387 #[.slice (some ⟨g,0,none⟩) n c,a,m,b,u] w fun e w'=>e= .returned (.tuple #[])/\Put g n (rot f a m b) w w':=by
 have p0:Hid (Rotd g n w (rot f a m b) m (m-a) (b-m) w):=⟨f,Put.refl hd,by rw[show m-(m-a)=a by omega,show m+(b-m)=b by omega]⟩;generalize rot f a m b=M at *;have C:=hid (ZR g n c u hN);clear hd;go_enter func387,ntmps387;go_wp2_with fail;go_loopw [10,11] (fun iv jv wr=>∃i j:Nat,0<i/\0<j/\i<=m/\m+j<=n/\iv= .int .i64 i/\jv= .int .i64 j/\Hid (Rotd g n w M m i j wr)) (fun i j _=>(intOf i).toNat+(intOf j).toNat)
 case atStart=>exact⟨m-a,b-m,mz,mz,mz,mz,AE (Value.int .i64) mz,AE (Value.int .i64) mz,p0⟩
 case round=>
  clear p0;obtain⟨i,j,hi,hj,z,Q,rfl,rfl,hp⟩:=hrel;obtain⟨f',E,G⟩:=hp.out;have HR:=hid G;have HP:=hid E;clear G hp E;by_cases J:j<i
  ·have b1:((i:Int) != (j:Int))=true:=pQ;go_wp2_with fail;refine(C.out _ _ _ _ (m-i) m j f' mz rfl rfl mz mz HP.out.1).mono ?_;rintro e w1 ⟨rfl,h⟩;have y:=hid (Rotd.gt HP.out HR.out h J z);clear h b1;go_wp2_with fail;go_roundw
   case rel=>go_light;exact⟨i-j,j,mz,hj,mz,Q,AE (Value.int .i64) mz,rfl,y⟩
   case measure=>exact jo
  ·by_cases N:i<j
   ·have b1:((i:Int) != (j:Int))=true:=pQ;go_wp2_with fail;refine(C.out _ _ _ _ (m-i) (m+j-i) i f' mz mz rfl mz mz HP.out.1).mono ?_;rintro e w1 ⟨rfl,h⟩;have y:=hid (Rotd.lt HP.out HR.out h N z);clear h b1;go_wp2_with fail;go_roundw
    case rel=>go_light;exact⟨i,j-i,mz,mz,mz,mz,rfl,AE (Value.int .i64) mz,y⟩
    case measure=>exact jo
   ·obtain rfl:i=j:=by omega
    go_wp2_with fail;refine(C.out _ _ _ _ (m-i) m i f' mz rfl rfl mz mz HP.out.1).mono ?_;rintro e w1 ⟨rfl,h⟩;have y:=hid (Rotd.eq HP.out HR.out h z);clear h;go_wp2_with fail;refine bodyPost_end (BN rfl _ _ _) rfl ⟨rfl,y.out⟩
end Srt
namespace Lens
open Srt
abbrev It:=Nat×List Nat
def Cx(x:It):Bool:=x.2.length==1
def DY:List It->List It
 |x :: y :: t=>(x.1+y.1,x.2++y.2) :: DY t
 |_=> []
def mrg:List It->List It->List It
 | [],ps=>ps
 |l :: ls,[]=>l :: ls
 |l :: ls,p :: ps=>if l.1<=p.1 then l :: mrg ls (p :: ps)else p :: mrg (l :: ls) ps
termination_by ls ps=>ls.length+ps.length
def rowN(L:List It):Nat->List It
 |0=>L
 |r+1=>mrg L (DY (rowN L r))
theorem JD(ps:List It):mrg [] ps=ps:=by rw[mrg]
theorem Ld(ls:List It):mrg ls []=ls:=by
 cases ls with
 |nil=>rw[mrg]
 |cons l ls=>rw[mrg]
theorem KI{l p:It}{ls ps:List It}(h:l.1<=p.1):mrg (l :: ls) (p :: ps)=l :: mrg ls (p :: ps):=by rw[mrg,Ae h]
theorem Ky{l p:It}{ls ps:List It}(h:¬l.1<=p.1):mrg (l :: ls) (p :: ps)=p :: mrg (l :: ls) ps:=by rw[mrg,Ab h]
theorem Nv{M:List It->List It->Prop}(h1:∀ps,M [] ps)(h2:∀l ls,M (l :: ls) [])(h3:∀l ls p ps,l.1<=p.1->M ls (p :: ps)->M (l :: ls) (p :: ps))
 (h4:∀l ls p ps,¬l.1<=p.1->M (l :: ls) ps->M (l :: ls) (p :: ps)):∀ls ps,M ls ps:=by
 intro ls ps;obtain⟨n,hn⟩:=ii (ls.length+ps.length)
 induction n generalizing ls ps with
 |zero=>
  match ls,ps with
  | [],ps=>exact h1 ps
  |l :: ls,ps=>simp only[List.length_cons]at hn;omega
 |succ n ih=>
  match ls,ps with
  | [],ps=>exact h1 ps
  |l :: ls,[]=>exact h2 l ls
  |l :: ls,p :: ps=>
   simp only[List.length_cons]at hn;by_cases h:l.1<=p.1
   ·exact h3 l ls p ps h (ih ls (p :: ps) pN)
   ·exact h4 l ls p ps h (ih (l :: ls) ps pN)
theorem No(ls ps:List It):(mrg ls ps).length=ls.length+ps.length:=by
 refine Nv (M:=fun ls ps=>(mrg ls ps).length=ls.length+ps.length) ?_ ?_ ?_ ?_ ls ps
 ·intro ps;rw[JD];simp
 ·intro l ls;rw[Ld];simp
 ·intro l ls p ps h ih;rw[KI h,AI,ih];simp only[List.length_cons];omega
 ·intro l ls p ps h ih;rw[Ky h,AI,ih];simp only[List.length_cons];omega
theorem R8{ls ps:List It}{x:It}:x∈mrg ls ps↔x∈ls∨x∈ps:=by
 refine Nv (M:=fun ls ps=>x∈mrg ls ps↔x∈ls∨x∈ps) ?_ ?_ ?_ ?_ ls ps
 ·intro ps;rw[JD];simp
 ·intro l ls;rw[Ld];simp
 ·intro l ls p ps h ih;rw[KI h,AQ,ih];simp only[List.mem_cons];exact or_assoc.symm
 ·intro l ls p ps h ih;rw[Ky h,AQ,ih];simp only[List.mem_cons];exact or_left_comm
theorem X5(ls ps:List It)(hl:∀x∈ls,Cx x=true)(hp:∀x∈ps,Cx x=false)(t:Nat)(ht:t<=ls.length+ps.length):
 ∃n q,n+q=t/\n<=ls.length/\q<=ps.length/\((mrg ls ps).take t).Perm (ls.take n++ps.take q)/\((mrg ls ps).take t).countP Cx=n:=by
 revert t
 refine Nv (M:=fun ls ps=>(∀x∈ls,Cx x=true)->(∀x∈ps,Cx x=false)->∀t,t<=ls.length+ps.length->
  ∃n q,n+q=t/\n<=ls.length/\q<=ps.length/\((mrg ls ps).take t).Perm (ls.take n++ps.take q)/\((mrg ls ps).take t).countP Cx=n) ?_ ?_ ?_ ?_ ls ps hl hp
 ·intro ps _ hp t ht;rw[JD];refine⟨0,t,mz,mz,by simpa using ht,pI,?_⟩;rw[List.countP_eq_zero];intro x hx;rw[hp x (C7 hx)];simp
 ·intro l ls hl _ t ht;rw[Ld];refine⟨t,0,mz,by simpa using ht,mz,pI,?_⟩;have:((l :: ls).take t).countP Cx=((l :: ls).take t).length:=List.countP_eq_length.2 fun x hx=>hl x (C7 hx);rw[this,Bd];simp at ht;simp only[List.length_cons];omega
 ·intro l ls p ps h ih hl hp t ht;rw[KI h];rcases t with _|t
  ·exact⟨0,0,rfl,mz,mz,pI,pI⟩
  ·obtain⟨n,q,h1,h2,h3,h4,h5⟩:=ih (fun x hx=>hl x (BW _ hx)) hp t pO;refine⟨n+1,q,mz,pN,h3,?_,?_⟩
   ·simpa using h4
   ·rw[List.take_succ_cons,List.countP_cons,h5,hl l pI];rfl
 ·intro l ls p ps h ih hl hp t ht;rw[Ky h];rcases t with _|t
  ·exact⟨0,0,rfl,mz,mz,pI,pI⟩
  ·obtain⟨n,q,h1,h2,h3,h4,h5⟩:=ih hl (fun x hx=>hp x (BW _ hx)) t pO;refine⟨n,q+1,mz,h2,pN,?_,?_⟩
   ·rw[List.take_succ_cons,List.take_succ_cons];refine(h4.cons p).trans ?_;exact(List.perm_middle).symm
   ·rw[List.take_succ_cons,List.countP_cons,h5,hp p pI];rfl
theorem La(x y:It)(t:List It):DY (x :: y :: t)=(x.1+y.1,x.2++y.2) :: DY t:=rfl
theorem VT{l:List It}(h:l.length<=1):DY l= []:=by
 match l with
 | []=>rfl
 | [_]=>rfl
 |_ :: _ :: _=>simp at h
theorem JB:∀l:List It,(DY l).length=l.length / 2
 | []=>rfl
 | [_]=>by simp[DY]
 |_ :: _ :: t=>by rw[La,AI,JB t];simp only[List.length_cons];omega
theorem Mq:∀ {l:List It} {p:It},p∈DY l->∃x y,x∈l/\y∈l/\p=(x.1+y.1,x.2++y.2)
 | [],p,h=>by simp[DY]at h
 | [_],p,h=>by simp[DY]at h
 |x :: y :: t,p,h=>by
  rw[La]at h;rcases AQ.1 h with h|h
  ·exact⟨x,y,pI,pI,h⟩
  ·obtain⟨a,b,ha,hb,he⟩:=Mq h;exact⟨a,b,by simp[ha],by simp[hb],he⟩
def lv(k:Nat->Nat)(S:List Nat):List It:=S.map fun s=>(k s,[s])
theorem Nr{k:Nat->Nat}:∀x∈lv k S,Cx x=true:=by intro x hx;obtain⟨s,_,rfl⟩:=Cc.1 hx;rfl
theorem GH(k:Nat->Nat)(S:List Nat):(lv k S).length=S.length:=by simp[lv]
section
variable {k:Nat->Nat} {S:List Nat}
theorem PD(r:Nat):∀x∈rowN (lv k S) r,x.2≠ []:=by
 induction r with
 |zero=>intro x hx;obtain⟨s,_,rfl⟩:=Cc.1 hx;simp
 |succ r ih=>
  intro x hx;rcases R8.1 hx with h|h
  ·obtain⟨s,_,rfl⟩:=Cc.1 h;simp
  ·obtain⟨a,b,ha,hb,rfl⟩:=Mq h;simp[ih a ha]
theorem U3{l:List It}(h:∀x∈l,x.2≠ []):∀x∈DY l,Cx x=false:=by intro x hx;obtain⟨a,b,ha,hb,rfl⟩:=Mq hx;have h1:=FD.2 (h a ha);have h2:=FD.2 (h b hb);unfold Cx;rw[FQ,Aj];omega
theorem Lp:(rowN (lv k S) 0).length=S.length:=GH k S
theorem PR(r:Nat):(rowN (lv k S) (r+1)).length=S.length+(rowN (lv k S) r).length / 2:=by rw[rowN,No,JB,GH]
theorem Py(hn:0<S.length):∀r,(rowN (lv k S) r).length+(S.length-1) / 2 ^ r=2*S.length-1
 |0=>by rw[Lp];simp;omega
 |r+1=>by have ih:=Py hn r;rw[PR,Fl,<-NF];omega
theorem SO(hl:1<=i)(hn:0<S.length)(h:S.length<=2 ^ i):2*S.length-2<=(rowN (lv k S) (i-1)).length:=by
 have h1:=Py (k:=k) hn (i-1)
 have h2:(S.length-1) / 2 ^ (i-1)<2:=by
  rw[Nat.div_lt_iff_lt_mul (FV _)];have:2 ^ i=2*2 ^ (i-1):=by obtain⟨m,rfl⟩:∃m,i=m+1:=⟨i-1,mz⟩;rw[Fl,Nat.add_sub_cancel,Nat.mul_comm]
  omega
 omega
theorem Pt{M:Nat}(hk:∀s∈S,k s<=M):∀r,∀x∈rowN (lv k S) r,x.1<=2 ^ r*M
 |0=>by intro x hx;obtain⟨s,hs,rfl⟩:=Cc.1 hx;simpa using hk s hs
 |r+1=>by
  intro x hx;have hp:M<=2 ^ (r+1)*M:=Nat.le_mul_of_pos_left _ (FV _);rcases R8.1 hx with h|h
  ·obtain⟨s,hs,rfl⟩:=Cc.1 h;exact AN (hk s hs) hp
  ·obtain⟨a,b,ha,hb,rfl⟩:=Mq h;have h1:=Pt hk r a ha;have h2:=Pt hk r b hb;rw[Fl,Nat.mul_right_comm];show a.1+b.1<=_;omega
def nl(X:List It)(t:Nat):Nat:=(X.take t).countP Cx
theorem Zh(X:List It)(i:Nat)(x:It)(h:X[i]? =some x):nl X (i+1)=nl X i+if Cx x=true then 1 else 0:=by unfold nl;rw[Cm,h,Option.toList_some,List.countP_append];by_cases hx:Cx x=true<;>simp[hx]
theorem RP(X:List It):nl X 0=0:=by simp[nl]
def BP(k:Nat->Nat)(S:List Nat):Nat->Nat->Nat->Nat
 |0,t,s=>if s∈S.take (nl (rowN (lv k S) 0) t)then 1 else 0
 |r+1,t,s=>(if s∈S.take (nl (rowN (lv k S) (r+1)) t)then 1 else 0)+BP k S r (2*(t-nl (rowN (lv k S) (r+1)) t)) s
theorem Nl(t:Nat)(ht:t<=S.length):nl (rowN (lv k S) 0) t=t:=by unfold nl rowN;have:((lv k S).take t).countP Cx=((lv k S).take t).length:=List.countP_eq_length.2 fun x hx=>Nr x (C7 hx);rw[this,Bd,GH];omega
theorem row_take(r t:Nat)(ht:t<=(rowN (lv k S) (r+1)).length):∃n q,n+q=t/\n<=S.length/\2*q<=(rowN (lv k S) r).length/\nl (rowN (lv k S) (r+1)) t=n/\
 ((rowN (lv k S) (r+1)).take t).Perm ((lv k S).take n++(DY (rowN (lv k S) r)).take q):=by
 rw[rowN,No]at ht;obtain⟨n,q,h1,h2,h3,h4,h5⟩:=X5 (lv k S) (DY (rowN (lv k S) r)) Nr (U3 (PD r)) t ht;rw[GH]at h2;rw[JB]at h3;exact⟨n,q,h1,h2,mz,h5,h4⟩
end
def ins(k:Nat->Nat)(x:Nat):List Nat->List Nat
 | []=> [x]
 |y :: t=>if k x<k y then x :: y :: t else y :: ins k x t
theorem Pw(k:Nat->Nat)(x:Nat):∀l,(ins k x l).Perm (x :: l)
 | []=>List.Perm.refl _
 |y :: t=>by
  rw[ins];split
  ·exact List.Perm.refl _
  ·exact((Pw k x t).cons y).trans (List.Perm.swap x y t)
theorem UR{k:Nat->Nat}{x:Nat}:∀ {l:List Nat},l.Pairwise (Lt k)->(∀y∈l,y<x)->(ins k x l).Pairwise (Lt k)
 | [],_,_=>by simp[ins]
 |y :: t,h,hx=>by
  rw[Fz]at h;rw[ins];split
  ·rename_i i;refine Fz.2 ⟨fun z hz=> ?_,Fz.2 h⟩;rcases AQ.1 hz with rfl|hz
   ·exact .inl i
   ·exact Lt.trans (.inl i) (h.1 z hz)
  ·rename_i j;refine Fz.2 ⟨fun z hz=> ?_,UR h.2 fun z hz=>hx z (BW _ hz)⟩;rcases AQ.1 ((Pw k x t).mem_iff.1 hz)with rfl|hz
   ·have:=hx y pI;unfold Lt;omega
   ·exact h.1 z hz
def vZ(k:Nat->Nat):Nat->List Nat
 |0=> []
 |n+1=>if k n=0 then vZ k n else ins k n (vZ k n)
def used(k:Nat->Nat):Nat->List Nat
 |0=> []
 |n+1=>if k n=0 then used k n else used k n++ [n]
theorem Pr{k:Nat->Nat}:s∈used k n↔s<n/\k s≠0:=by
 induction n with
 |zero=>simp[used]
 |succ n ih=>
  rw[used];split
  ·rename_i h0;rw[ih];constructor
   ·rintro⟨h1,h2⟩;exact⟨mz,h2⟩
   ·rintro⟨h1,h2⟩;refine⟨?_,h2⟩;rcases Nat.lt_or_eq_of_le (Nat.lt_succ_iff.1 h1)with h|h
    ·exact h
    ·subst h;exact absurd h0 h2
  ·rename_i h0;rw[BJ,ih,Eu];constructor
   ·rintro(⟨h1,h2⟩|rfl)
    ·exact⟨mz,h2⟩
    ·exact⟨mz,h0⟩
   ·rintro⟨h1,h2⟩;rcases Nat.lt_or_eq_of_le (Nat.lt_succ_iff.1 h1)with h|h
    ·exact .inl ⟨h,h2⟩
    ·exact .inr h
theorem OQ(k:Nat->Nat):∀n,(used k n).Pairwise (·< ·)
 |0=>by simp[used]
 |n+1=>by
  rw[used];split
  ·exact OQ k n
  ·refine List.pairwise_append.2 ⟨OQ k n,pI,fun a ha b hb=> ?_⟩;rw[Eu]at hb;subst hb;exact(Pr.1 ha).1
theorem UT(k:Nat->Nat):∀n,(used k n).length<=n
 |0=>by simp[used]
 |n+1=>by
  have:=UT k n;rw[used];split
  ·omega
  ·simp;omega
theorem Jp(k:Nat->Nat):∀n,(vZ k n).Perm (used k n)
 |0=>List.Perm.refl _
 |n+1=>by
  rw[vZ,used];split
  ·exact Jp k n
  ·refine(Pw k n _).trans ?_;refine((Jp k n).cons n).trans ?_;exact(List.perm_append_singleton n (used k n)).symm
theorem JV{k:Nat->Nat}:s∈vZ k n↔s<n/\k s≠0:=by rw[(Jp k n).mem_iff,Pr]
theorem Jb(k:Nat->Nat):∀n,(vZ k n).Pairwise (Lt k)
 |0=>by simp[vZ]
 |n+1=>by
  rw[vZ];split
  ·exact Jb k n
  ·exact UR (Jb k n) fun y hy=>(JV.1 hy).1
theorem Lt.irrefl{k:Nat->Nat}:¬Lt k x x:=by unfold Lt;omega
theorem fG(k:Nat->Nat)(n:Nat):(vZ k n).Nodup:=(Jb k n).imp fun h e=>p8
theorem NX(k:Nat->Nat)(n:Nat):(vZ k n).length<=n:=by rw[(Jp k n).length_eq];exact UT k n
theorem Zd{k:Nat->Nat}(h:l.Pairwise (Lt k))(hp:l.Perm (used k n)):l=vZ k n:=by refine List.Perm.eq_of_pairwise ?_ h (Jb k n) (hp.trans (Jp k n).symm);intro a b _ _ h1 h2;exact absurd (h1.trans h2) Lt.irrefl
def IF(ks:List Nat)(limit:Nat):List Nat:=
 let k:=fun s=>ks.getD s 0
 let S:=vZ k ks.length
 if S.length<2 then(List.range ks.length).map fun s=>if s∈S then 1 else 0
 else(List.range ks.length).map (BP k S (limit-1) (2*S.length-2))
def Ej(ks:List Nat)(limit:Int):Int:=
 if ks.length>300∨limit<1∨limit>15 then 13 else if(vZ (fun s=>ks.getD s 0) ks.length).length>2 ^ limit.toNat then 6 else 0
def CV(ks:List Nat)(limit:Int):List Nat:=if Ej ks limit=0 then IF ks limit.toNat else []
end Lens
namespace Lens
open Srt
def Asc(l:List It):Prop:=l.Pairwise fun x y=>x.1<=y.1
theorem WX{k:Nat->Nat}(h:S.Pairwise (Lt k)):Asc (lv k S):=by unfold Asc lv;rw[List.pairwise_map];exact h.imp fun hx=>by unfold Lt at hx;show k _<=k _;omega
def sm(f:Nat->Nat):List Nat->Nat
 | []=>0
 |s :: t=>f s+sm f t
theorem KY(f:Nat->Nat)(a b:List Nat):sm f (a++b)=sm f a+sm f b:=by
 induction a with
 |nil=>simp[sm]
 |cons x t ih=>rw[Ec,sm,sm,ih];omega
theorem YU{f:Nat->Nat}{a b:List Nat}(h:a.Perm b):sm f a=sm f b:=by
 induction h with
 |nil=>rfl
 |cons x _ ih=>rw[sm,sm,ih]
 |swap x y l=>simp only[sm];omega
 |trans _ _ h1 h2=>rw[h1,h2]
theorem Ip{f g:Nat->Nat}(h:∀s∈l,f s=g s):sm f l=sm g l:=by
 induction l with
 |nil=>rfl
 |cons x t ih=>rw[sm,sm,h x pI,ih fun s hs=>h s (BW _ hs)]
theorem mL{f g:Nat->Nat}(h:∀s∈l,f s<=g s):sm f l<=sm g l:=by
 induction l with
 |nil=>exact Aq _
 |cons x t ih=>have h1:=h x pI;have h2:=ih fun s hs=>h s (BW _ hs);rw[sm,sm];omega
theorem WC(f g:Nat->Nat)(l:List Nat):sm (fun s=>f s+g s) l=sm f l+sm g l:=by
 induction l with
 |nil=>rfl
 |cons x t ih=>rw[sm,sm,sm,ih];omega
theorem We(c:Nat)(f:Nat->Nat)(l:List Nat):sm (fun s=>c*f s) l=c*sm f l:=by
 induction l with
 |nil=>simp[sm]
 |cons x t ih=>rw[sm,sm,ih,Nat.mul_add]
theorem JA(c:Nat)(l:List Nat):sm (fun _=>c) l=l.length*c:=by
 induction l with
 |nil=>simp[sm]
 |cons x t ih=>rw[sm,ih,AI,EL];omega
section
variable {k:Nat->Nat} {S:List Nat}
theorem YB(ls ps:List It)(hl:∀x∈ls,Cx x=true)(hp:∀x∈ps,Cx x=false)(ha:Asc ls)(t:Nat)(ht:t<=ls.length+ps.length):
 ∀n,((mrg ls ps).take t).countP Cx=n->∀x,ls[n]? =some x->∀p∈ps.take (t-n),p.1<x.1:=by
 revert t
 refine Nv (M:=fun ls ps=>(∀x∈ls,Cx x=true)->(∀x∈ps,Cx x=false)->Asc ls->∀t,t<=ls.length+ps.length->
  ∀n,((mrg ls ps).take t).countP Cx=n->∀x,ls[n]? =some x->∀p∈ps.take (t-n),p.1<x.1) ?_ ?_ ?_ ?_ ls ps hl hp ha
 ·intro ps _ _ _ t _ n _ x hx;simp at hx
 ·intro l ls _ _ _ t _ n _ x _ p hp;simp at hp
 ·intro l ls p ps h ih hl hp ha t ht n hn x hx q hq;rw[KI h]at hn;rcases t with _|t
  ·simp at hn;subst hn;simp at hq
  ·rw[List.take_succ_cons,List.countP_cons,hl l pI]at hn;simp only[if_true]at hn;subst hn;rw[List.getElem?_cons_succ]at hx;rw[show ∀m,t+1-(m+1)=t-m from fun m=>mz]at hq;exact ih (fun x hx=>hl x (BW _ hx)) hp (Fz.1 ha).2 t pO _ rfl x hx q hq
 ·intro l ls p ps h ih hl hp ha t ht n hn x hx q hq;rw[Ky h]at hn;rcases t with _|t
  ·simp at hn;subst hn;simp at hq
  ·rw[List.take_succ_cons,List.countP_cons,hp p pI]at hn;simp only[Bool.false_eq_true,if_false,Nat.add_zero]at hn;have i:n<=t:=(by have:=List.countP_le_length (p:=Cx) (l:=(mrg (l :: ls) ps).take t);rw[Bd]at this;omega);rw[show t+1-n=(t-n)+1 by omega,List.take_succ_cons]at hq;rcases AQ.1 hq with rfl|hq
   ·have:l.1<=x.1:=by
     rcases n with _|n
     ·simp at hx;rw[hx];exact Aq _
     ·rw[List.getElem?_cons_succ]at hx;exact(Fz.1 ha).1 x (Bg hx)
    omega
   ·exact ih hl (fun x hx=>hp x (BW _ hx)) ha t pO n hn x hx q hq
theorem UI:∀ {l:List It} {q:Nat} {x:It},x∈l.take (2*q)->2*q<=l.length->∃p∈(DY l).take q,x.1<=p.1
 |_,0,x,hx,_=>pK
 | [],q+1,x,_,h=>pJ
 | [_],q+1,x,_,h=>by simp at h;omega
 |a :: b :: t,q+1,x,hx,h=>by
  rw[show 2*(q+1)=2*q+1+1 by omega,List.take_succ_cons,List.take_succ_cons]at hx;rw[La,List.take_succ_cons];rcases AQ.1 hx with rfl|hx
  ·exact⟨_,CD,Nat.le_add_right _ _⟩
  ·rcases AQ.1 hx with rfl|hx
   ·exact⟨_,CD,Nat.le_add_left _ _⟩
   ·obtain⟨p,hp,i⟩:=UI hx (by simp only[List.length_cons]at h;omega);exact⟨p,BW _ hp,i⟩
theorem Pq(r t:Nat)(ht:t<=(rowN (lv k S) r).length):nl (rowN (lv k S) r) t<=S.length/\∀x∈(lv k S).take (nl (rowN (lv k S) r) t),x∈(rowN (lv k S) r).take t:=by
 rcases r with _|r
 ·rw[Lp]at ht;rw[Nl t ht];exact⟨ht,fun x hx=>hx⟩
 ·obtain⟨n,q,h1,h2,h3,h4,h5⟩:=row_take r t ht;rw[h4];exact⟨h2,fun x hx=>h5.mem_iff.2 (List.mem_append_left _ hx)⟩
theorem Rw(hS:S.Pairwise (Lt k))(r t:Nat)(ht:t<=(rowN (lv k S) (r+1)).length):
 2*(t-nl (rowN (lv k S) (r+1)) t)<=(rowN (lv k S) r).length/\nl (rowN (lv k S) r) (2*(t-nl (rowN (lv k S) (r+1)) t))<=nl (rowN (lv k S) (r+1)) t:=by
 obtain⟨n,q,h1,h2,h3,h4,h5⟩:=row_take r t ht;rw[h4,show t-n=q by omega];refine⟨h3,?_⟩;obtain⟨g1,g2⟩:=Pq r (2*q) h3;rcases Nat.lt_or_ge n (nl (rowN (lv k S) r) (2*q))with h|h
 ·exfalso;have i:n<(lv k S).length:=by rw[GH];omega
  have hx:(lv k S)[n]∈(lv k S).take (nl (rowN (lv k S) r) (2*q)):=List.mem_take_iff_getElem.2 ⟨n,mz,rfl⟩;obtain⟨p,hp,j⟩:=UI (g2 _ hx) h3;have hc:=YB (lv k S) (DY (rowN (lv k S) r)) Nr (U3 (PD r)) (WX hS) t (by rw[GH,JB];rw[PR]at ht;exact ht) n h4 _ (AD i) p (by rw[show t-n=q by omega];exact hp);omega
 ·exact h
theorem VI(hS:S.Pairwise (Lt k)){m s:Nat}(hs:s ∉ S.take m):∀r t,t<=(rowN (lv k S) r).length->nl (rowN (lv k S) r) t<=m->BP k S r t s=0
 |0,t,ht,h=>by rw[BP,Ab];exact fun hm=>hs (List.take_subset_take_left _ h hm)
 |r+1,t,ht,h=>by obtain⟨h1,h2⟩:=Rw hS r t ht;rw[BP,Ab fun hm=>hs (List.take_subset_take_left _ h hm),VI hS hs r _ h1 mz]
theorem Rk(r t s:Nat):BP k S r t s<=r+1:=by
 induction r generalizing t with
 |zero=>rw[BP];split<;>omega
 |succ r ih=>rw[BP];have:=ih (2*(t-nl (rowN (lv k S) (r+1)) t));split<;>omega
theorem weigh(hS:S.Pairwise (Lt k)):∀r t,t<=(rowN (lv k S) r).length->sm (fun s=>2 ^ (r+1-BP k S r t s)) S+2 ^ r*t=S.length*2 ^ (r+1)
 |0,t,ht=>by
  have hN:S.Nodup:=hS.imp fun h e=>p8
  rw[Lp]at ht;have e:sm (fun s=>2 ^ (0+1-BP k S 0 t s)) S=sm (fun s=>2 ^ (0+1-BP k S 0 t s)) (S.take t)+sm (fun s=>2 ^ (0+1-BP k S 0 t s)) (S.drop t):=by rw[<-KY,EM]
  have e1:sm (fun s=>2 ^ (0+1-BP k S 0 t s)) (S.take t)=sm (fun _=>1) (S.take t):=Ip fun s hs=>by rw[BP,Nl t ht,Ae hs]
  have e2:sm (fun s=>2 ^ (0+1-BP k S 0 t s)) (S.drop t)=sm (fun _=>2) (S.drop t):=Ip fun s hs=>by rw[BP,Nl t ht,Ab];intro i;have:=List.nodup_append.1 (by rw[EM];exact hN:(S.take t++S.drop t).Nodup);exact this.2.2 s i s hs rfl
  rw[e,e1,e2,JA,JA,Bd,AU,Nat.min_eq_left ht];omega
 |r+1,t,ht=>by
  have hN:S.Nodup:=hS.imp fun h e=>p8
  obtain⟨h1,h2⟩:=Rw hS r t ht;have ih:=weigh hS r _ h1;obtain⟨n',q,g1,g2,g3,g4,_⟩:=row_take r t ht;have e0:∀s,BP k S (r+1) t s=(if s∈S.take n' then 1 else 0)+BP k S r (2*q) s:=fun s=>by rw[BP,g4,show t-n'=q by omega]
  rw[g4,show t-n'=q by omega]at h1 h2 ih
  have e:sm (fun s=>2 ^ (r+1+1-BP k S (r+1) t s)) S=sm (fun s=>2 ^ (r+1-BP k S r (2*q) s)) (S.take n')+sm (fun s=>2 ^ (r+1-BP k S r (2*q) s)+2 ^ (r+1)) (S.drop n'):=by
   rw[<-EM n' S,KY,EM];congr 1
   ·refine Ip fun s hs=> ?_;rw[e0,Ae hs];congr 1;omega
   ·refine Ip fun s hs=> ?_;have i:s ∉ S.take n':=(by intro i;have:=List.nodup_append.1 (by rw[EM];exact hN:(S.take n'++S.drop n').Nodup);exact this.2.2 s i s hs rfl);rw[e0,Ab i,VI hS i r (2*q) h1 h2];simp only[Nat.add_zero,Nat.sub_zero];rw[Fl 2 (r+1)];omega
  rw[e,WC,JA,AU,<-Nat.add_assoc,<-KY,EM];have e5:2 ^ (r+1)*t=n'*2 ^ (r+1)+2 ^ r*(2*q):=by rw[<-g1,Nat.mul_add,Nat.mul_comm _ n',<-Nat.mul_assoc,<-Fl]
  have e6:(S.length-n')*2 ^ (r+1)+n'*2 ^ (r+1)=S.length*2 ^ (r+1):=by rw[<-EL,Nat.sub_add_cancel g2]
  have e7:S.length*2 ^ (r+1+1)=S.length*2 ^ (r+1)+S.length*2 ^ (r+1):=by rw[Fl 2 (r+1),<-Nat.mul_assoc];omega
  omega
theorem full(hS:S.Pairwise (Lt k))(hn:2<=S.length)(hl:1<=i)(h:S.length<=2 ^ i):
 sm (fun s=>2 ^ (i-BP k S (i-1) (2*S.length-2) s)) S=2 ^ i/\∀s∈S,1<=BP k S (i-1) (2*S.length-2) s:=by
 have ht:=SO (k:=k) hl mz h;have hw:=weigh hS (i-1) _ ht;rw[show i-1+1=i by omega]at hw;have e3:2 ^ (i-1)*(2*S.length-2)+2 ^ i=S.length*2 ^ i:=by obtain⟨m,rfl⟩:∃m,i=m+1:=⟨i-1,mz⟩;obtain⟨n,z⟩:∃n,S.length=n+1:=⟨S.length-1,mz⟩;rw[z,Nat.add_sub_cancel,show 2*(n+1)-2=2*n by omega,Fl,EL,Nat.one_mul,<-Nat.mul_assoc,Nat.mul_comm n]
 have j:sm (fun s=>2 ^ (i-BP k S (i-1) (2*S.length-2) s)) S=2 ^ i:=mz
 refine⟨j,fun s hs=> ?_⟩;rcases Nat.eq_zero_or_pos (BP k S (i-1) (2*S.length-2) s)with h0|h0
 ·exfalso;obtain⟨a,b,y⟩:=List.append_of_mem hs;have e4:sm (fun s=>2 ^ (i-BP k S (i-1) (2*S.length-2) s)) S=sm (fun s=>2 ^ (i-BP k S (i-1) (2*S.length-2) s)) (a++s :: b):=AE _ y;rw[j,KY,sm,h0]at e4;have e5:∀T:List Nat,T.length<=sm (fun s=>2 ^ (i-BP k S (i-1) (2*S.length-2) s)) T:=fun T=>by have:=mL (f:=fun _=>1) (g:=fun s=>2 ^ (i-BP k S (i-1) (2*S.length-2) s)) (l:=T) fun s _=>FV _;rw[JA]at this;omega
  have h1:=e5 a;have h2:=e5 b;have h3:S.length=a.length+(b.length+1):=by rw[y,Aj,AI]
  simp only[Nat.sub_zero]at e4;omega
 ·exact h0
theorem XI(r t s:Nat)(hs:s ∉ S):BP k S r t s=0:=by
 induction r generalizing t with
 |zero=>rw[BP,Ab fun h=>hs (C7 h)]
 |succ r ih=>rw[BP,Ab fun h=>hs (C7 h),ih]
end
end Lens
namespace Srt
open Go.RowKit Mem Own
def All(N n:Nat)(f:Nat->Nat):Prop:=∀i,i<n->f i<N
theorem All.mer{k f f':Nat->Nat}(h:All N n f)(hm:Mer k f f' a b)(hb:b<=n):All N n f':=fun i hi=>by
 by_cases e:a<=i/\i<b
 ·obtain⟨i',h1,h2,h3⟩:=hm.mem e.1 e.2;rw[<-h3];exact h i' mz
 ·rw[hm.2.2 i mz];exact h i hi
theorem All.rot{N n a m b:Nat}{f:Nat->Nat}(h:All N n f)(j:a<=m)(y:m<=b)(hb:b<=n):All N n (rot f a m b):=fun i hi=>by
 unfold Srt.rot;split
 ·exact h _ mz
 ·split
  ·exact h _ mz
  ·exact h i hi
def zY(a b:Nat):Int:=if a<b then-1 else if b<a then 1 else 0
theorem Ng(h:a<b):zY a b<0:=by unfold zY;rw[Ae h];omega
theorem M9(h:¬a<b):0<=zY a b:=by unfold zY;rw[Ab h];split<;>omega
def CmpOk(Bo g N:Nat)(w0:World)(k:Nat->Nat):Prop:=∀ (x y:Nat) (w:World),x<N->y<N->Kept (fun b=>b<w0.heap.size/\b≠g) w0 w->
 Calls prog 347 #[x,y, .pointer (some ⟨Bo,0,none⟩)] w fun e w'=>e= .returned (.int .i64 (zY (k x) (k y)))/\∃q,w'=w.drewN q
theorem CmpOk.keep{Bo:Nat}{w0:World}{k:Nat->Nat}(h:CmpOk Bo g N w0 k)(hk:Kept (fun b=>b<w0.heap.size/\b≠g) w0 w1):CmpOk Bo g N w1 k:=by intro x y w hx hy hw;have hz:=hk.size;exact h x y w hx hy (hk.trans ⟨hw.os,hw.tape,hw.output,hw.size,fun b hb=>hw.block b ⟨by have:=hb.1;omega,hb.2⟩⟩)
def IC(k f:Nat->Nat)(g n a b:Nat)(w:World)(e:Ending)(w':World):Prop:=e= .returned (.tuple #[])/\∃f',Put g n f' w w'/\Mer k f f' a b
def M0(k f:Nat->Nat)(g n a m:Nat)(w:World)(wr:World):Prop:=∃f',Put g n f' w wr/\Mer k f f' a m
def Ou(k f1:Nat->Nat)(g n m j:Nat)(w:World)(wr:World):Prop:=Put g n (rot f1 j m (m+1)) w wr/\(j=m∨k (f1 m)<k (f1 j))
theorem Yj(w:World)(Bo g n c a b N:Nat)(k f:Nat->Nat)(hN:n<=4611686018427387904)(af:a<=b)(hb:b<=n)(h0:∀i j,a<=i->i<j->j<b->f i<f j)(E:All N n f)(hd:Dat w g n f)(hc:CmpOk Bo g N w k):
 Calls prog 373 #[.slice (some ⟨g,0,none⟩) n c,a,b, .func (Fn.func 347) #[] #[.pointer (some ⟨Bo,0,none⟩)]] w (IC k f g n a b w):=by
 have H0:=hid h0;have HC:=hid hc;have HD:=hid hd;have HA:=hid E;clear h0 hc hd E;have eK:∀args w,(callFunc 347 args).run prog w= .ok (.enter 347 args) w:=fun args w=>pU
 by_cases ai:a<b
 ·have p0:Hid (M0 k f g n a (a+1) w w):=⟨f,Put.refl HD.out,Mer.refl (Sor.few mz)⟩;go_enter func373,ntmps373;go_wp2_with fail;go_loopw [8] (fun i wr=>∃m:Nat,a+1<=m/\m<=b/\i= .int .i64 m/\Hid (M0 k f g n a m w wr)) (fun i _=>b-(intOf i).toNat)
  case atStart=>exact⟨a+1,mz,mz,jp,p0⟩
  case round=>
   clear p0;obtain⟨m,ac,ag,rfl,hI⟩:=hrel;by_cases ab:m<b
   ·obtain⟨f1,J,z⟩:=hI.out;have q0:Hid (Ou k f1 g n m m w wr):=(by refine⟨?_, .inl rfl⟩;rw[Nq f1 (Aq _) mz (.inl rfl)];exact J);have HM:=hid z;have aa:=hid (HA.out.mer z mz);clear hI J z;obtain⟨wo,rfl⟩:=ii wr;go_wp2_with fail;go_loopw [9] (fun jv wr=>∃j:Nat,a<=j/\j<=m/\jv= .int .i64 j/\Hid (Ou k f1 g n m j w wr)) (fun j _=>(intOf j).toNat)
    case atStart=>exact⟨m,mz,mz,rfl,q0⟩
    case round=>
     clear q0;obtain⟨j,Q,M,rfl,hQ⟩:=hrel;have c1:=hQ.out.1.1.cell (i:=j) mz;rw[Lh f1 (Aq _) mz,show j+(m-j)=m by omega]at c1;have ae:=hQ.out.1.1.frozen j;by_cases ah:a<j
     ·have c2:=hQ.out.1.1.cell (i:=j-1) mz;rw[Ms f1 mz]at c2;have f2:=hQ.out.1.1.frozen (j-1);have h:=fun q=>HC.out (f1 m) (f1 (j-1)) (wr.drewN q) (aa.out m mz) (aa.out (j-1) mz) (hQ.out.1.2.drewN q);have s1:IntKind.i64.wrap ((j:Int)-1)=(j:Int)-1:=Aw _ mz;have x3:(0:Int)<=(j:Int):=mz;have x4:(j:Int)<(n:Int):=mz;have x1:(0:Int)<=(j:Int)-1:=mz;have y1:(1:Int)<=(j:Int):=mz;have y3:0<j:=mz;have y4:(0:Int)<(j:Int):=mz;have x2:(j:Int)-1<(n:Int):=mz;have x5:((j:Int)-1).toNat=j-1:=mz;obtain⟨cv,y⟩:=ii (zY (k (f1 m)) (k (f1 (j-1))));by_cases hk:k (f1 m)<k (f1 (j-1))
      ·have d1:cv<0:=(by rw[y];exact Ng hk);rw[<-y]at h;have Y:∀q,Hid (Ou k f1 g n m (j-1) w (((wr.drewN q).setCell ⟨g,j,none⟩ (.int .i64 (f1 (j-1):Nat))).setCell ⟨g,j-1,none⟩ (.int .i64 (f1 m:Nat)))):=(by intro q;have Z:=(hQ.out.1.drewN q).swap (p:=j) (q:=j-1) mz mz mz;have e:=TC f1 m (j-1) mz;rw[show j-1+1=j by omega]at e;rw[e,Ms f1 mz,Lh f1 (Aq _) mz,show j+(m-j)=m by omega]at Z;exact⟨Z, .inr hk⟩);clear y;generalize f1 m=v1 at *;generalize f1 (j-1)=v2 at *;go_wp2_with fail;go_quiet ((go_at_call 347;exact Calls.quiet_of (h _)));go_wp2_with fail;go_region;have U:=Y (nq+1);clear Y s1 x5 h hk c1 c2 hQ;go_wp2_with fail;go_roundw
       case rel=>go_light;exact⟨j-1,mz,mz,AE (Value.int .i64) mz,U⟩
       case measure=>exact jo
      ·have d1:¬cv<0:=(by rw[y];have:=M9 hk;omega);rw[<-y]at h;have HX:∀q,Hid (M0 k f g n a (m+1) w (wr.drewN q)):=fun q=>⟨_,hQ.out.1.drewN q,Td H0.out HM.out ab mz Q M (.inr mz) hQ.out.2⟩;clear y hk;generalize f1 m=v1 at *;generalize f1 (j-1)=v2 at *;go_wp2_with fail;go_quiet ((go_at_call 347;exact Calls.quiet_of (h _)));have G:=HX nq;clear HX s1 x5 h c1 c2 hQ;go_wp2_with fail;go_roundw
       case rel=>exact jk
       case measure=>exact jo
     ·obtain rfl:j=a:=by omega
      have HX:∀q,Hid (M0 k f g n j (m+1) w (wr.drewN q)):=fun q=>⟨_,hQ.out.1.drewN q,Td H0.out HM.out ab mz Q M (.inl rfl) hQ.out.2⟩;have d0:=ig (j<j);have d1:=ig ((j:Int)<j);generalize f1 m=v1 at *;go_wp2_with fail;go_quiet (fail);have G:=HX nq;clear HX c1 hQ d0 d1;go_wp2_with fail;go_roundw
      case rel=>exact jk
      case measure=>exact jo
   ·obtain rfl:m=b:=by omega
    go_wp2_with fail;refine bodyPost_end (BN rfl _ _ _) rfl ⟨rfl,hI.out⟩
 ·obtain rfl:a=b:=by omega
  go_enter func373,ntmps373;go_wp2_with fail;refine wp_loop_rounds 1 ?_;rw[rounds_succ];go_wp2_with fail;refine bodyPost_end (BN rfl _ _ _) rfl ⟨rfl,f,Put.refl HD.out,Mer.refl (Sor.few mz)⟩
end Srt
namespace Srt
open Go.RowKit Mem Own
def Drawn(w wr:World):Prop:=∃q,wr=w.drewN q
theorem Drawn.refl(w:World):Drawn w w:=⟨0,(World.drewN_zero w).symm⟩
theorem Drawn.more(h:Drawn w wr)(q:Nat):Drawn w (wr.drewN q):=by obtain⟨p,rfl⟩:=h;exact⟨p+q,FT _ _ _⟩
theorem Drawn.kept{K:Nat->Prop}(h:Drawn w wr):Kept K w wr:=by obtain⟨p,rfl⟩:=h;exact(Kept.refl _ _).drewN p
theorem Drawn.dat{f:Nat->Nat}(h:Drawn w wr)(hd:Dat w g n f):Dat wr g n f:=by obtain⟨p,rfl⟩:=h;exact hd.drewN p
theorem Drawn.put{f:Nat->Nat}(h:Drawn w wr)(hd:Dat w g n f):Put g n f w wr:=⟨h.dat hd,h.kept⟩
def Ig(P:Nat->Prop)(lo hi i j:Nat):Prop:=(i=lo∨P (i-1))/\(j=hi∨¬P j)
theorem Xp(w:World)(Bo g n c a b N:Nat)(k f:Nat->Nat)(hN:n<=4611686018427387904)(ai:a+1<b)(hb:b<=n)(hr:Sor k f (a+1) b)(J:Low f a (a+1) b)(G:All N n f)(hd:Dat w g n f)(hc:CmpOk Bo g N w k):
 Calls prog 374 #[.slice (some ⟨g,0,none⟩) n c,a, .int .i64 ((a+1:Nat):Int),b, .func (Fn.func 347) #[] #[.pointer (some ⟨Bo,0,none⟩)]] w (IC k f g n a b w):=by
 have eK:∀args w,(callFunc 347 args).run prog w= .ok (.enter 347 args) w:=fun args w=>pU
 have HR:=hid hr;have HL:=hid J;have HC:=hid hc;have HD:=hid hd;have HA:=hid G;obtain⟨m,hm⟩:=ii (a+1);have b0:((m:Int)-(a:Int)==1)=true:=pQ
 rw[<-hm];have HM:=hid hm;have am:a+1<=m:=mz
 have aj:m<=a+1:=mz
 clear hr J hc hd G hm;go_enter func374,ntmps374;go_wp2_with fail;go_loopw [10,11] (fun iv jv wr=>∃i j:Nat,m<=i/\i<=j/\j<=b/\iv= .int .i64 i/\jv= .int .i64 j/\Hid (Ig (fun i=>k (f i)<k (f a)) m b i j)/\Hid (Drawn w wr)) (fun i j _=>(intOf j).toNat-(intOf i).toNat)
 case atStart=>exact⟨m,b,mz,mz,mz,rfl,rfl,⟨.inl rfl, .inl rfl⟩,Drawn.refl w⟩
 case round=>
  obtain⟨i,j,ac,ag,ah,rfl,rfl,hQ,hD⟩:=hrel;by_cases aa:i<j
  ·obtain⟨h,hh⟩:=ii ((i+j) / 2);have af:i<=h:=mz;have ak:h<j:=mz;have hE:Hid (((i:Int)+(j:Int)) / 2=(h:Int)):=px;clear hh;have c1:=(hD.out.dat HD.out).cell (i:=h) mz;have c2:=(hD.out.dat HD.out).cell (i:=a) mz;have z:=fun q=>HC.out (f h) (f a) (wr.drewN q) (HA.out h mz) (HA.out a mz) ((hD.out.more q).kept);have x3:(0:Int)<=(h:Int):=mz;have x4:(h:Int)<(n:Int):=mz;have x5:(0:Int)<=(a:Int):=mz;have x6:(a:Int)<(n:Int):=mz;obtain⟨cv,y⟩:=ii (zY (k (f h)) (k (f a)));rw[<-y]at z;have E:∀q,Hid (Drawn w (wr.drewN q)):=fun q=>hD.out.more q;by_cases hk:k (f h)<k (f a)
   ·have d1:cv<0:=(by rw[y];exact Ng hk);have HX:Hid (Ig (fun i=>k (f i)<k (f a)) m b (h+1) j):=⟨.inr hk,hQ.out.2⟩;clear y hk hQ;generalize f h=v1 at *;generalize f a=v2 at *;go_wp2_with fail;rw[hE.out];go_quiet ((go_at_call 347;exact Calls.quiet_of (z _)));have U:=E nq;clear E z c1 c2 hD;go_wp2_with fail;go_roundw
    case rel=>go_light;exact⟨h+1,j,mz,mz,mz,jp,rfl,HX,U⟩
    case measure=>exact jo
   ·have d1:¬cv<0:=(by rw[y];have:=M9 hk;omega);have HX:Hid (Ig (fun i=>k (f i)<k (f a)) m b i h):=⟨hQ.out.1, .inr hk⟩;clear y hk hQ;generalize f h=v1 at *;generalize f a=v2 at *;go_wp2_with fail;rw[hE.out];go_quiet ((go_at_call 347;exact Calls.quiet_of (z _)));have U:=E nq;clear E z c1 c2 hD;go_wp2_with fail;go_roundw
    case rel=>go_light;exact⟨i,h,mz,mz,mz,rfl,rfl,HX,U⟩
    case measure=>exact jo
  ·obtain rfl:i=j:=by omega
   have p0:Hid (Put g n (rot f a m (m+0)) w wr):=(by show Put _ _ _ _ _;rw[Bj,Nq f mz (Aq _) (.inr rfl)];exact hD.out.put HD.out);have HF:Hid (IC k f g n a b w (.returned (.tuple #[]))=IC k f g n a b w (.returned (.tuple #[]))):=rfl
   have Z:Hid (Mer k f (rot f a m i) a b):=by
    have e:=HM.out;subst e;refine X8 ac mz HR.out HL.out ?_ ?_
    ·rcases hQ.out.2 with h|h
     ·exact .inl h
     ·exact .inr mz
    ·exact hQ.out.1
   clear hD hQ HF;obtain⟨wo,rfl⟩:=ii wr;go_wp2_with fail;go_loopw [13] (fun kv wr=>∃t:Nat,m+t<=i/\kv= .int .i64 ((a+t:Nat):Int)/\Hid (Put g n (rot f a m (m+t)) w wr)) (fun kv _=>i-(intOf kv).toNat)
   case atStart=>exact⟨0,mz,rfl,p0⟩
   case round=>
    clear p0;obtain⟨t,ht,rfl,hp⟩:=hrel;by_cases aa:m+t<i
    ·obtain⟨p,Q⟩:=ii (a+t);have c1:=hp.out.1.cell (i:=p) mz;have c2:=hp.out.1.cell (i:=p+1) mz;have f1:=hp.out.1.frozen p;have f2:=hp.out.1.frozen (p+1);have M:=(hp.out.swap (p:=p) (q:=p+1) mz mz mz).drew;have e:=Xj f a t;rw[<-HM.out,<-Q]at e;rw[e]at M;have ae:=hid M;rw[<-Q];have al:p<i-1:=mz;have Y:a+(t+1)=p+1:=mz;have ab:=hid Y;clear M e hp Q Y;generalize rot f a m (m+t) p=v1 at *;generalize rot f a m (m+t) (p+1)=v2 at *;have s1:IntKind.i64.wrap ((p:Int)+1)=(p:Int)+1:=Aw _ mz;have x1:(0:Int)<=(p:Int):=mz;have x2:(0:Int)<=(p:Int)+1:=mz;have x3:(p:Int)<(n:Int):=mz;have x4:(p:Int)+1<(n:Int):=mz;have x6:((p:Int)+1).toNat=p+1:=mz;have x7:(p:Int)<(i:Int)-1:=mz;go_wp2_with fail;go_region;clear s1 x6;go_wp2_with fail;go_roundw
     case rel=>go_light;exact⟨t+1,mz,AE (Value.int .i64) (by have:=ab.out;omega),ae⟩
     case measure=>exact jo
    ·obtain rfl:m+t=i:=by omega
     have x7:¬(a+t<m+t-1):=mz;have x8:¬(((a+t:Nat):Int)<((m+t:Nat):Int)-1):=mz;go_wp2_with fail;refine CI (v:= .tuple #[]) (BN rfl _ _ _) rfl ⟨rfl,_,hp.out,Z.out⟩
theorem XM(w:World)(Bo g n c a m N:Nat)(k f:Nat->Nat)(hN:n<=4611686018427387904)(ak:a+1<m)(hb:m+1<=n)(hl:Sor k f a m)(J:Low f a m (m+1))(G:All N n f)(hd:Dat w g n f)(hc:CmpOk Bo g N w k):
 Calls prog 374 #[.slice (some ⟨g,0,none⟩) n c,a,m, .int .i64 ((m+1:Nat):Int), .func (Fn.func 347) #[] #[.pointer (some ⟨Bo,0,none⟩)]] w (IC k f g n a (m+1) w):=by
 have eK:∀args w,(callFunc 347 args).run prog w= .ok (.enter 347 args) w:=fun args w=>pU
 have HL:=hid hl;have Z:=hid J;have HC:=hid hc;have HD:=hid hd;have HA:=hid G;obtain⟨b,hm⟩:=ii (m+1);have b0:((m:Int)-(a:Int)==1)=false:=pQ
 have b1:((b:Int)-(m:Int)==1)=true:=pQ
 rw[<-hm];have HM:=hid hm;have al:m+1<=b:=mz
 have ai:b<=m+1:=mz
 clear hl J hc hd G hm;go_enter func374,ntmps374;go_wp2_with fail;go_loopw [14,15] (fun iv jv wr=>∃i j:Nat,a<=i/\i<=j/\j<=m/\iv= .int .i64 i/\jv= .int .i64 j/\Hid (Ig (fun i=>¬k (f m)<k (f i)) a m i j)/\Hid (Drawn w wr)) (fun i j _=>(intOf j).toNat-(intOf i).toNat)
 case atStart=>exact⟨a,m,mz,mz,mz,rfl,rfl,⟨.inl rfl, .inl rfl⟩,Drawn.refl w⟩
 case round=>
  obtain⟨i,j,ab,ag,aa,rfl,rfl,hQ,hD⟩:=hrel;by_cases Y:i<j
  ·obtain⟨h,hh⟩:=ii ((i+j) / 2);have af:i<=h:=mz;have aj:h<j:=mz;have hE:Hid (((i:Int)+(j:Int)) / 2=(h:Int)):=px;clear hh;have c1:=(hD.out.dat HD.out).cell (i:=h) mz;have c2:=(hD.out.dat HD.out).cell (i:=m) mz;have z:=fun q=>HC.out (f m) (f h) (wr.drewN q) (HA.out m mz) (HA.out h mz) ((hD.out.more q).kept);have x3:(0:Int)<=(h:Int):=mz;have x4:(h:Int)<(n:Int):=mz;have x5:(0:Int)<=(m:Int):=mz;have x6:(m:Int)<(n:Int):=mz;obtain⟨cv,y⟩:=ii (zY (k (f m)) (k (f h)));rw[<-y]at z;have E:∀q,Hid (Drawn w (wr.drewN q)):=fun q=>hD.out.more q;by_cases hk:k (f m)<k (f h)
   ·have d1:decide (cv<0)=true:=(by rw[y];have:=Ng hk;simpa using this);have HX:Hid (Ig (fun i=>¬k (f m)<k (f i)) a m i h):=⟨hQ.out.1, .inr (fun hn=>hn hk)⟩;clear y hk hQ;generalize f h=v1 at *;generalize f m=v2 at *;go_wp2_with fail;rw[hE.out];go_quiet ((go_at_call 347;exact Calls.quiet_of (z _)));have Q:=E nq;clear E z c1 c2 hD;go_wp2_with fail;go_roundw
    case rel=>go_light;exact⟨i,h,mz,mz,mz,rfl,rfl,HX,Q⟩
    case measure=>exact jo
   ·have d1:decide (cv<0)=false:=(by rw[y];have:=M9 hk;simp;omega);have HX:Hid (Ig (fun i=>¬k (f m)<k (f i)) a m (h+1) j):=⟨.inr hk,hQ.out.2⟩;clear y hk hQ;generalize f h=v1 at *;generalize f m=v2 at *;go_wp2_with fail;rw[hE.out];go_quiet ((go_at_call 347;exact Calls.quiet_of (z _)));have Q:=E nq;clear E z c1 c2 hD;go_wp2_with fail;go_roundw
    case rel=>go_light;exact⟨h+1,j,mz,mz,mz,jp,rfl,HX,Q⟩
    case measure=>exact jo
  ·obtain rfl:i=j:=by omega
   have p0:Hid (Put g n (rot f m m (m+1)) w wr):=by show Put _ _ _ _ _;rw[Nq f (Aq _) mz (.inl rfl)];exact hD.out.put HD.out
   have U:Hid (Mer k f (rot f i m (m+1)) a (m+1)):=by
    refine Tq ab aa HL.out Z.out ?_ ?_
    ·rcases hQ.out.1 with h|h
     ·exact .inl h
     ·exact .inr mz
    ·rcases hQ.out.2 with h|h
     ·exact .inl h
     ·exact .inr mz
   clear hD hQ;obtain⟨wo,rfl⟩:=ii wr;go_wp2_with fail;go_loopw [17] (fun kv wr=>∃t:Nat,i<=t/\t<=m/\kv= .int .i64 (t:Int)/\Hid (Put g n (rot f t m (m+1)) w wr)) (fun kv _=>(intOf kv).toNat)
   case atStart=>exact⟨m,mz,mz,rfl,p0⟩
   case round=>
    clear p0;obtain⟨t,ae,ah,rfl,hp⟩:=hrel;by_cases Y:i<t
    ·have c1:=hp.out.1.cell (i:=t) mz;have c2:=hp.out.1.cell (i:=t-1) mz;have f1:=hp.out.1.frozen t;have f2:=hp.out.1.frozen (t-1);have M:=(hp.out.swap (p:=t) (q:=t-1) mz mz mz).drew;have e:=TC f m (t-1) mz;rw[show t-1+1=t by omega]at e;rw[e]at M;have ac:=hid M;clear M e hp;generalize rot f t m (m+1) t=v1 at *;generalize rot f t m (m+1) (t-1)=v2 at *;have s1:IntKind.i64.wrap ((t:Int)-1)=(t:Int)-1:=Aw _ mz;have x1:(0:Int)<=(t:Int):=mz;have x2:(0:Int)<=(t:Int)-1:=mz;have x3:(t:Int)<(n:Int):=mz;have x4:(t:Int)-1<(n:Int):=mz;have x6:((t:Int)-1).toNat=t-1:=mz;have y1:(1:Int)<=(t:Int):=mz;have y3:0<t:=mz;have y4:(0:Int)<(t:Int):=mz;go_wp2_with fail;go_region;clear s1 x6;go_wp2_with fail;go_roundw
     case rel=>go_light;exact⟨t-1,mz,mz,AE (Value.int .i64) mz,ac⟩
     case measure=>exact jo
    ·obtain rfl:i=t:=by omega
     go_wp2_with fail;refine CI (v:= .tuple #[]) (BN rfl _ _ _) rfl ⟨rfl,_,hp.out,?_⟩;rw[HM.out];exact U.out
end Srt
namespace Srt
open Go.RowKit Mem Own
def QJ(Bo g n c N:Nat)(k:Nat->Nat)(d:Nat):Prop:=∀ (w:World) (a m b:Nat) (f:Nat->Nat),b-a<=d->a<m->m<b->b<=n->Sor k f a m->Sor k f m b->Low f a m b->All N n f->Dat w g n f->CmpOk Bo g N w k->
 Calls prog 374 #[.slice (some ⟨g,0,none⟩) n c,a,m,b, .func (Fn.func 347) #[] #[.pointer (some ⟨Bo,0,none⟩)]] w (IC k f g n a b w)
def IE(a m b mid lo hi:Nat):Prop:=(mid<m/\lo+b=mid+m/\hi=mid)∨(m<=mid/\lo=a/\hi=m)
structure Halves (k F1:Nat->Nat) (a s mid e b:Nat):Prop where
 s1:Sor k F1 a s
 s2:Sor k F1 s mid
 l1:Low F1 a s mid
 s3:Sor k F1 mid e
 s4:Sor k F1 e b
 l2:Low F1 mid e b
theorem Low.congr{f g:Nat->Nat}(h:Low f a m b)(he:∀i,a<=i->i<b->g i=f i):Low g a m b:=fun i j h1 h2 h3 h4=>by rw[he i h1 mz,he j mz h4];exact h i j h1 h2 h3 h4
theorem W7(w:World)(Bo g n c a m b N:Nat)(k f:Nat->Nat)(d:Nat)(ih:QJ Bo g n c N k d)(bd:b-a<=d+1)(hN:n<=4611686018427387904)(bc:a+1<m)(bf:m+1<b)(hb:b<=n)
 (hl:Sor k f a m)(hr:Sor k f m b)(aq:Low f a m b)(al:All N n f)(hd:Dat w g n f)(hc:CmpOk Bo g N w k):
 Calls prog 374 #[.slice (some ⟨g,0,none⟩) n c,a,m,b, .func (Fn.func 347) #[] #[.pointer (some ⟨Bo,0,none⟩)]] w (IC k f g n a b w):=by
 have eK:∀args w,(callFunc 347 args).run prog w= .ok (.enter 347 args) w:=fun args w=>pU
 have IH:=hid ih;have HL:=hid hl;have HR:=hid hr;have aw:=hid aq;have HC:=hid hc;have HD:=hid hd;have HA:=hid al;have b0:((m:Int)-(a:Int)==1)=false:=pQ
 have b1:((b:Int)-(m:Int)==1)=false:=pQ
 obtain⟨mid,av⟩:=ii ((a+b) / 2);have E1:Hid (((a:Int)+(b:Int)) / 2=(mid:Int)):=px
 obtain⟨nn,a1⟩:=ii (mid+m);have E2:Hid ((mid:Int)+(m:Int)=(nn:Int)):=px
 have E3:Hid ((nn:Int)-1=((nn-1:Nat):Int)):=px
 obtain⟨p,hp⟩:=ii (nn-1);rw[<-hp]at E3;have M1:a<mid:=mz
 have M2:mid<b:=mz
 have M3:mid+m<=nn:=mz
 have M4:nn<=mid+m:=mz
 have M5:p+1<=nn:=mz
 have M6:nn<=p+1:=mz
 have M7:2*mid<=a+b:=mz
 have M8:a+b<=2*mid+1:=mz
 clear ih hl hr aq hc hd al av a1 hp;go_enter func374,ntmps374;go_upto_region 25 with fail;rw[E1.out];go_upto_region 26 with fail;rw[E2.out];go_upto_if 140 with fail;go_cut [20,21] (fun sv rv wx=>∃lo hi:Nat,sv= .int .i64 lo/\rv= .int .i64 hi/\Hid (IE a m b mid lo hi)/\w=wx)
 case first=>
  by_cases az:mid<m
  ·go_wp2_with fail;go_meet
   case rel=>exact⟨mid+m-b,mid,AE (Value.int .i64) mz,rfl, .inl ⟨az,mz,rfl⟩,rfl⟩
  ·go_wp2_with fail;go_meet
   case rel=>exact⟨a,m,rfl,rfl, .inr ⟨mz,rfl,rfl⟩,rfl⟩
 case rest=>as_aux_lemma=>
  obtain⟨lo,hi,rfl,rfl,M,rfl⟩:=hcut;have S1:a<=lo:=ly
  have S2:lo<=hi:=ly
  have S3:hi<=m:=ly
  have S4:hi<=mid:=ly
  have S5:nn<=lo+b:=ly
  go_wp2_with fail;rw[E3.out];go_loopw [20,21] (fun sv rv wr=>∃s r:Nat,lo<=s/\s<=r/\r<=hi/\sv= .int .i64 s/\rv= .int .i64 r/\Hid (Ig (fun x=>¬k (f (p-x))<k (f x)) lo hi s r)/\Hid (Drawn w wr)) (fun i j _=>(intOf j).toNat-(intOf i).toNat)
  case atStart=>exact⟨lo,hi,mz,mz,mz,rfl,rfl,⟨.inl rfl, .inl rfl⟩,Drawn.refl w⟩
  case round=>as_aux_lemma=>
   obtain⟨s,r,a6,be,a9,rfl,rfl,hQ,hD⟩:=hrel;by_cases a5:s<r
   ·obtain⟨h,hh⟩:=ii ((s+r) / 2);have a4:s<=h:=mz;have ba:h<r:=mz;have hE:Hid (((s:Int)+(r:Int)) / 2=(h:Int)):=px;clear hh;have c1:=(hD.out.dat HD.out).cell (i:=p-h) mz;have c2:=(hD.out.dat HD.out).cell (i:=h) mz;have ag:=fun q=>HC.out (f (p-h)) (f h) (wr.drewN q) (HA.out (p-h) mz) (HA.out h mz) ((hD.out.more q).kept);have x3:(0:Int)<=(h:Int):=mz;have x4:(h:Int)<(n:Int):=mz;have x5:(0:Int)<=(p:Int)-(h:Int):=mz;have x6:(p:Int)-(h:Int)<(n:Int):=mz;have x7:(h:Int)<=(p:Int):=mz;have x8:h<=p:=mz;have s1:IntKind.i64.wrap ((p:Int)-(h:Int))=(p:Int)-(h:Int):=Aw _ mz;have s2:((p:Int)-(h:Int)).toNat=p-h:=mz;obtain⟨cv,Z⟩:=ii (zY (k (f (p-h))) (k (f h)));rw[<-Z]at ag;have ak:∀q,Hid (Drawn w (wr.drewN q)):=fun q=>hD.out.more q;have ar:Hid (((p:Int)-(h:Int)).toNat=p-h/\IntKind.i64.wrap ((p:Int)-(h:Int))=(p:Int)-(h:Int)):=⟨s2,s1⟩;by_cases hk:k (f (p-h))<k (f h)
    ·have d1:decide (cv<0)=true:=(by rw[Z];have:=Ng hk;simpa using this);have HX:Hid (Ig (fun x=>¬k (f (p-x))<k (f x)) lo hi s h):=⟨hQ.out.1, .inr (fun hn=>hn hk)⟩;clear Z hk hQ s1 s2;generalize f h=v1 at *;generalize f (p-h)=v2 at *;go_wp2_with fail;rw[hE.out];obtain⟨s2,s1⟩:=ar.out;go_quiet ((go_at_call 347;exact Calls.quiet_of (ag _)));have au:=ak nq;clear ak ag c1 c2 hD s1 s2;go_wp2_with fail;go_roundw
     case rel=>go_light;exact⟨s,h,mz,mz,mz,rfl,rfl,HX,au⟩
     case measure=>exact jo
    ·have d1:decide (cv<0)=false:=(by rw[Z];have:=M9 hk;simp;omega);have HX:Hid (Ig (fun x=>¬k (f (p-x))<k (f x)) lo hi (h+1) r):=⟨.inr hk,hQ.out.2⟩;clear Z hk hQ s1 s2;generalize f h=v1 at *;generalize f (p-h)=v2 at *;go_wp2_with fail;rw[hE.out];obtain⟨s2,s1⟩:=ar.out;go_quiet ((go_at_call 347;exact Calls.quiet_of (ag _)));have au:=ak nq;clear ak ag c1 c2 hD s1 s2;go_wp2_with fail;go_roundw
     case rel=>go_light;exact⟨h+1,r,mz,mz,mz,jp,rfl,HX,au⟩
     case measure=>exact jo
   ·obtain rfl:s=r:=by omega
    obtain⟨e,he⟩:=ii (nn-s);have e1:e+s<=nn:=mz;have e2:nn<=e+s:=mz;have E4:Hid ((nn:Int)-(s:Int)=(e:Int)):=px;have ah:m<=e:=mz;have ax:e<=b:=mz;have aj:s<=m:=mz
    have Q:=split (k:=k) (f:=f) (a:=a) (s:=s) (m:=m) (e:=e) (b:=b) mz aj ah ax HL.out HR.out aw.out
     (Yt aj ah HL.out HR.out aw.out (by
       have h1:=hQ.out.1;have h2:=M.out;unfold IE at h2;by_cases x:s=a
       ·exact .inl x
       ·by_cases y:e=b
        ·exact .inr (.inl y)
        ·refine .inr (.inr ⟨mz,mz,?_⟩);rcases h1 with h1|h1
         ·omega
         ·rw[show p-(s-1)=e by omega]at h1;omega))
     (OX mz ax HL.out HR.out (by
       have h1:=hQ.out.2;have h2:=M.out;unfold IE at h2;by_cases x:s=m
       ·exact .inl x
       ·by_cases y:e=m
        ·exact .inr (.inl y)
        ·refine .inr (.inr ⟨mz,mz,?_⟩);rcases h1 with h1|h1
         ·omega
         ·have h3:¬ ¬k (f (p-s))<k (f s):=h1;rw[show p-s=e-1 by omega]at h3;omega))
    have ab:s+(e-m)=mid:=mz;rw[ab]at Q;obtain⟨ae,an,q1,q2,q3,q4,q5,q6,q7⟩:=Q;have HH:Hid (Halves k (rot f s m e) a s mid e b):=⟨q1,q2,q3,q4,q5,q6⟩;have am:Hid (All N n (rot f s m e)):=HA.out.rot aj ah mz;have af:Hid (∀G H,Mer k (rot f s m e) G a mid->Mer k G H mid b->Mer k f H a b):=fun G H h1 h2=>Mer.trans ae an (Mer.join mz mz h1 h2 q7);have a3:Hid ((s=m∨m=e)->rot f s m e=f):=Nq f aj ah;clear ae an q1 q2 q3 q4 q5 q6 q7 hQ he ab;have ai:=hD;clear hD;obtain⟨wo,rfl⟩:=ii wr;go_upto_region 39 with fail;rw[E4.out];go_cut [185] (fun v wx=>∃bb:Bool,v= .bool bb/\Hid (bb=true->s<m/\m<e)/\Hid (bb=false->m<=s∨e<=m)/\wo=wx)
    case first=>
     by_cases h1:s<m
     ·by_cases h2:m<e
      ·go_wp2_with fail;go_meet
       case rel=>exact⟨true,rfl,fun _=>⟨h1,h2⟩,(fun h=>by cases h),rfl⟩
      ·go_wp2_with fail;go_meet
       case rel=>exact⟨false,rfl,(fun h=>by cases h),fun _=> .inr mz,rfl⟩
     ·go_wp2_with fail;go_meet
      case rel=>exact⟨false,rfl,(fun h=>by cases h),fun _=> .inl mz,rfl⟩
    case rest=>as_aux_lemma=>
     obtain⟨bb,rfl,Y,U,rfl⟩:=hcut;go_upto_if 185 with fail;go_cut [20] (fun v wx=>v= .int .i64 s/\Hid (Put g n (rot f s m e) w wx))
     case first=>
      cases bb
      ·have h:=U.out rfl;have e':=a3.out mz;have HP:Hid (Put g n (rot f s m e) w wo):=(by show Put _ _ _ _ _;rw[e'];exact ai.out.put HD.out);clear e';go_wp2_with fail;go_meet
       case rel=>exact⟨rfl,HP⟩
      ·obtain⟨h1,h2⟩:=Y.out rfl;go_wp2_with fail;refine(Zz wo g n c s m e f _ hN h1 h2 mz (ai.out.dat HD.out)).mono ?_;rintro ee w1 ⟨rfl,z⟩;have HP:Hid (Put g n (rot f s m e) w w1):=(ai.out.put HD.out).trans z;clear z;go_wp2_with fail;go_meet
       case rel=>exact⟨rfl,HP⟩
     case rest=>as_aux_lemma=>
      obtain⟨rfl,HP⟩:=hcut;clear Y U ai;generalize rot f s m e=F1 at *;go_upto_region 41 with fail;obtain⟨w1,rfl⟩:=ii wc;go_cut [199] (fun v wx=>∃bb:Bool,v= .bool bb/\Hid (bb=true->a<s/\s<mid)/\Hid (bb=false->s<=a∨mid<=s)/\w1=wx)
      case first=>
       by_cases h1:a<s
       ·by_cases h2:s<mid
        ·go_wp2_with fail;go_meet
         case rel=>exact⟨true,rfl,fun _=>⟨h1,h2⟩,(fun h=>by cases h),rfl⟩
        ·go_wp2_with fail;go_meet
         case rel=>exact⟨false,rfl,(fun h=>by cases h),fun _=> .inr mz,rfl⟩
       ·go_wp2_with fail;go_meet
        case rel=>exact⟨false,rfl,(fun h=>by cases h),fun _=> .inl mz,rfl⟩
      case rest=>as_aux_lemma=>
       obtain⟨bb,rfl,Y,U,rfl⟩:=hcut;go_upto_if 199 with fail;go_cut [20] (fun v wx=>v= .int .i64 s/\∃F2,Hid (Put g n F2 w wx)/\Hid (Mer k F1 F2 a mid))
       case first=>
        cases bb
        ·have h:=U.out rfl
         have ay:Hid (Mer k F1 F1 a mid):=Mer.refl (by
          rcases h with h|h
          ·have:s=a:=mz;have h2:=HH.out.s2;rw[this]at h2;exact h2
          ·have:s=mid:=mz;have h2:=HH.out.s1;rw[this]at h2;exact h2)
         go_wp2_with fail;go_meet
         case rel=>exact⟨rfl,F1,HP,ay⟩
        ·obtain⟨h1,h2⟩:=Y.out rfl;go_wp2_with fail;refine(IH.out w1 a s mid F1 mz h1 h2 mz HH.out.s1 HH.out.s2 HH.out.l1 am.out HP.out.1 (HC.out.keep HP.out.2)).mono ?_;rintro ee w2 ⟨rfl,F2,z,ac⟩;have J:Hid (Put g n F2 w w2):=HP.out.trans z;have E:=hid ac;clear z ac;go_wp2_with fail;go_meet
         case rel=>exact⟨rfl,F2,J,E⟩
       case rest=>as_aux_lemma=>
        obtain⟨rfl,F2,J,E⟩:=hcut;clear Y U HP;have k1:∀i,mid<=i->i<b->F2 i=F1 i:=fun i hi _=>E.out.2.2 i (.inr hi);have H3:Hid (Sor k F2 mid e):=HH.out.s3.congr (fun i h1 h2=>k1 i h1 mz);have H4:Hid (Sor k F2 e b):=HH.out.s4.congr (fun i h1 h2=>k1 i mz h2);have H5:Hid (Low F2 mid e b):=HH.out.l2.congr k1;have H6:Hid (All N n F2):=am.out.mer E.out mz;clear k1;by_cases h1:mid<e
        ·by_cases h2:e<b
         ·go_wp2_with fail;refine(IH.out _ mid e b F2 mz h1 h2 hb H3.out H4.out H5.out H6.out J.out.1 (HC.out.keep J.out.2)).mono ?_;rintro ee w3 ⟨rfl,F3,z,ac⟩;have a0:Hid (Put g n F3 w w3):=J.out.trans z;have aa:Hid (Mer k f F3 a b):=af.out F2 F3 E.out ac;clear z ac;go_wp2_with fail;refine bodyPost_end (BN rfl _ _ _) rfl ⟨rfl,F3,a0.out,aa.out⟩
         ·have aa:Hid (Mer k f F2 a b):=af.out F2 F2 E.out (Mer.refl (by have:e=b:=mz;have h3:=H3.out;rw[this]at h3;exact h3));go_wp2_with fail;refine bodyPost_end (BN rfl _ _ _) rfl ⟨rfl,F2,J.out,aa.out⟩
        ·have aa:Hid (Mer k f F2 a b):=af.out F2 F2 E.out (Mer.refl (by have:mid=e:=mz;have h3:=H4.out;rw[<-this]at h3;exact h3));go_wp2_with fail;refine bodyPost_end (BN rfl _ _ _) rfl ⟨rfl,F2,J.out,aa.out⟩
theorem Q6(Bo g n c N:Nat)(k:Nat->Nat)(hN:n<=4611686018427387904):∀d,QJ Bo g n c N k d
 |0=>fun w a m b f h1 h2 h3=>mz
 |d+1=>by
  intro w a m b f h1 h2 h3 h4 h5 h6 h7 h8 h9 h;by_cases e1:m=a+1
  ·subst e1;exact Xp w Bo g n c a b N k f hN h3 h4 h6 h7 h8 h9 h
  ·by_cases e2:b=m+1
   ·subst e2;exact XM w Bo g n c a m N k f hN mz h4 h5 h7 h8 h9 h
   ·exact W7 w Bo g n c a m b N k f d (Q6 Bo g n c N k hN d) h1 hN mz mz h4 h5 h6 h7 h8 h9 h
end Srt
namespace Srt
open Go.RowKit Mem Own
theorem XY(Bo g n c N:Nat)(k:Nat->Nat)(hN:n<=4611686018427387904):∀ (w:World) (x y z:Int) (a m b:Nat) (f:Nat->Nat),x=a->y=m->z=b->a<m->m<b->b<=n->Sor k f a m->Sor k f m b->Low f a m b->All N n f->Dat w g n f->CmpOk Bo g N w k->
 Calls prog 374 #[.slice (some ⟨g,0,none⟩) n c,x,y,z, .func (Fn.func 347) #[] #[.pointer (some ⟨Bo,0,none⟩)]] w (IC k f g n a b w):=by
 intro w x y z a m b f h1 h2 h3;subst h1 h2 h3;exact Q6 Bo g n c N k hN (b-a) w a m b f (Aq _)
def Ri(k f0:Nat->Nat)(g n:Nat)(w:World)(e:Ending)(w':World):Prop:=e= .returned (.tuple #[])/\∃f',Put g n f' w w'/\Ok k f0 f' 0 n
structure Std (k f0 f:Nat->Nat) (N g n:Nat) (w wr:World):Prop where
 put:Put g n f w wr
 all:All N n f
theorem Std.next{k f0 f f':Nat->Nat}(h:Std k f0 f N g n w wr)(hp:Put g n f' wr w1)(hm:Mer k f f' a b)(hb:b<=n):Std k f0 f' N g n w w1:=⟨h.put.trans hp,h.all.mer hm hb⟩
theorem XQ(w:World)(Bo g n c N:Nat)(k f0:Nat->Nat)(hN:n<=1000000)(h0:∀i j,i<j->j<n->f0 i<f0 j)(aa:All N n f0)(hd:Dat w g n f0)(hc:CmpOk Bo g N w k):
 Calls prog 361 #[.slice (some ⟨g,0,none⟩) n c,n, .func (Fn.func 347) #[] #[.pointer (some ⟨Bo,0,none⟩)]] w (Ri k f0 g n w):=by
 have S:=hid (XY Bo g n c N k mz);have I:=hid (fun(wx:World) (a b:Nat) (f:Nat->Nat) h1 h2 h3 h4 h5 h6=>Yj wx Bo g n c a b N k f mz h1 h2 h3 h4 h5 h6);have H0:=hid h0;have HC:=hid hc;have p0:Hid (Std k f0 f0 N g n w w):=⟨Put.refl hd,aa⟩;clear h0 aa hd hc;go_enter func361,ntmps361;go_wp2_with fail;go_loopw [7,8] (fun av bv wr=>∃ (q A B:Nat) (f:Nat->Nat),A<=n/\A+20<=B/\B<=A+20/\av= .int .i64 A/\bv= .int .i64 B/\Hid (A=20*q)/\Hid (Ph1 k f0 f n q)/\Hid (Std k f0 f N g n w wr)) (fun _ b _=>n+20-(intOf b).toNat)
 case atStart=>exact⟨0,0,20,f0,mz,mz,mz,rfl,rfl,rfl,Ph1.start f0 n,p0⟩
 case round=>
  clear p0;obtain⟨q,A,B,f,hA1,ag,aj,rfl,rfl,hA,hP,hS⟩:=hrel;have ab:∀i j,A<=i->i<j->j<n->f i<f j:=fun i j h1 h2 h3=>by have:=hA.out;rw[hP.out.2 i mz,hP.out.2 j mz];exact H0.out i j h2 h3
  have Q:=hid ab;clear ab;by_cases G:B<=n
  ·go_wp2_with fail;refine(I.out wr A B f mz G (fun i j h1 h2 h3=>Q.out i j h1 h2 mz) hS.out.all hS.out.put.1 (HC.out.keep hS.out.put.2)).mono ?_;rintro e w1 ⟨rfl,f',J,z⟩;have Y:Hid (Std k f0 f' N g n w w1):=hS.out.next J z G;have Z:Hid (Ph1 k f0 f' n (q+1)):=(by have e1:=hA.out;have e2:B=20*q+20:=mz;rw[e1,e2]at z;exact hP.out.step z mz);have ah:Hid (B=20*(q+1)):=(by show _=_;have:=hA.out;omega);clear J z;go_wp2_with fail;go_roundw
   case rel=>go_light;exact⟨q+1,B,B+20,f',mz,mz,mz,rfl,jp,ah,Z,Y⟩
   case measure=>exact jo
  ·obtain⟨wo,rfl⟩:=ii wr;go_wp2_with fail;refine(I.out wo A n f hA1 (Aq _) Q.out hS.out.all hS.out.put.1 (HC.out.keep hS.out.put.2)).mono ?_;rintro e w1 ⟨rfl,f',J,z⟩;have Y:Hid (Std k f0 f' N g n w w1):=hS.out.next J z (Aq _);have Z:Hid (Ph2 k f0 f' n 20 0):=(by have e1:=hA.out;rw[e1]at z;exact hP.out.done z mz mz);clear J z Q hS hP;go_wp2_with fail;go_loopw [6] (fun sv wr=>∃ (s:Nat) (f:Nat->Nat),20<=s/\s<=2*n+20/\sv= .int .i64 s/\Hid (Ph2 k f0 f n s 0)/\Hid (Std k f0 f N g n w wr)) (fun s _=>n-(intOf s).toNat)
   case atStart=>exact⟨20,f',mz,mz,rfl,Z,Y⟩
   case round=>
    clear Z Y;obtain⟨s,f1,an,al,rfl,ae,af⟩:=hrel;by_cases am:s<n
    ·obtain⟨wp,rfl⟩:=ii wr;go_wp2_with fail;go_loopw [7,8] (fun av bv wr=>∃ (q A B:Nat) (f:Nat->Nat),A<=n/\A+2*s<=B/\B<=A+2*s/\av= .int .i64 A/\bv= .int .i64 B/\Hid (A=2*s*q)/\Hid (Ph2 k f0 f n s q)/\Hid (Std k f0 f N g n w wr)) (fun _ b _=>n+2*s-(intOf b).toNat)
     case atStart=>exact⟨0,0,2*s,f1,mz,mz,mz,rfl,jp,pC,ae,af⟩
     case round=>as_aux_lemma=>
      clear ae af;obtain⟨q,A,B,f,hA1,ag,aj,rfl,rfl,hA,hP,hS⟩:=hrel;by_cases G:B<=n
      ·have h:=hP.out.parts H0.out hA.out mz (b:=B) mz;have y:=hid h;clear h;go_wp2_with fail;refine(S.out wr _ _ _ A (A+s) B f rfl mz rfl mz mz G y.out.1.1 y.out.2.1.1 y.out.2.2 hS.out.all hS.out.put.1 (HC.out.keep hS.out.put.2)).mono ?_;rintro e w2 ⟨rfl,f2,M,E⟩;have ac:Hid (Std k f0 f2 N g n w w2):=hS.out.next M E G;have U:Hid (Ph2 k f0 f2 n s (q+1)):=hP.out.step hA.out mz G y.out.1 y.out.2.1 E;have ai:Hid (B=2*s*(q+1)):=(by show _=_;have:=hA.out;rw[Nat.mul_add,<-this];omega);clear M E;go_wp2_with fail;go_roundw
       case rel=>go_light;exact⟨q+1,B,B+2*s,f2,mz,mz,mz,rfl,AE (Value.int .i64) mz,ai,U,ac⟩
       case measure=>exact jo
      ·by_cases ak:A+s<n
       ·have h:=hP.out.parts H0.out hA.out mz (b:=n) mz;have y:=hid h;clear h;go_wp2_with fail;refine(S.out wr _ _ _ A (A+s) n f rfl mz rfl mz mz (Aq _) y.out.1.1 y.out.2.1.1 y.out.2.2 hS.out.all hS.out.put.1 (HC.out.keep hS.out.put.2)).mono ?_;rintro e w2 ⟨rfl,f2,M,E⟩;have ac:Hid (Std k f0 f2 N g n w w2):=hS.out.next M E (Aq _);have U:Hid (Ph2 k f0 f2 n (2*s) 0):=Ph2.next (hP.out.last_more hA.out rfl mz mz y.out.1 y.out.2.1 E);clear M E;go_wp2_with fail;go_roundw
        case rel=>go_light;exact⟨2*s,f2,mz,mz,AE (Value.int .i64) mz,U,ac⟩
        case measure=>exact jo
       ·have U:Hid (Ph2 k f0 f n (2*s) 0):=Ph2.next (hP.out.last_few hA.out rfl mz mz);go_wp2_with fail;go_roundw
        case rel=>go_light;exact⟨2*s,f,mz,mz,AE (Value.int .i64) mz,U,hS⟩
        case measure=>exact jo
    ·go_wp2_with fail;refine bodyPost_end (BN rfl _ _ _) rfl ⟨rfl,f1,af.out.put,ae.out.all mz⟩
theorem fO(w:World)(Bo g n c N:Nat)(k f0:Nat->Nat)(hN:n<=1000000)(h0:∀i j,i<j->j<n->f0 i<f0 j)(y:All N n f0)(hd:Dat w g n f0)(hc:CmpOk Bo g N w k):
 Calls prog 346 #[.slice (some ⟨g,0,none⟩) n c, .func (Fn.func 347) #[] #[.pointer (some ⟨Bo,0,none⟩)]] w (Ri k f0 g n w):=by
 have C:=hid (XQ w Bo g n c N k f0 hN h0 y hd hc);clear h0 y hd hc;go_enter func346,ntmps346;go_wp2_with fail;refine C.out.mono ?_;rintro e w1 ⟨rfl,h⟩;have H:=hid h;clear h;go_wp2_with fail;refine bodyPost_end (BN rfl _ _ _) rfl ⟨rfl,H.out⟩
theorem XE(w:World)(u v:Value):
 Calls prog 373 #[v,ij,ij,u] w fun e w'=>e= .returned (.tuple #[])/\w=w':=by
 go_enter func373,ntmps373;go_wp2_with fail;refine wp_loop_rounds 1 ?_;rw[rounds_succ];go_wp2_with fail;refine bodyPost_end (BN rfl _ _ _) rfl ⟨rfl,rfl⟩
theorem Xw(w:World)(u v:Value):
 Calls prog 361 #[v,ij,u] w fun e w'=>e= .returned (.tuple #[])/\w=w':=by
 go_enter func361,ntmps361;go_wp2_with fail;refine wp_loop_rounds 1 ?_;rw[rounds_succ];go_wp2_with fail;refine(XE _ _ _).mono ?_;rintro e w1 ⟨rfl,rfl⟩;go_wp2_with fail;refine wp_loop_rounds 1 ?_;rw[rounds_succ];go_wp2_with fail;refine bodyPost_end (BN rfl _ _ _) rfl ⟨rfl,rfl⟩
theorem eI(w:World)(u:Value):
 Calls prog 346 #[(),u] w fun e w'=>e= .returned (.tuple #[])/\w=w':=by
 go_enter func346,ntmps346;go_wp2_with fail;refine(Xw _ _ _).mono ?_;rintro e w1 ⟨rfl,rfl⟩;go_wp2_with fail;refine bodyPost_end (BN rfl _ _ _) rfl ⟨rfl,rfl⟩
end Srt
end Go.Proofs.YtfgdoknipbpfhaaGreatDoor
