/- Plain: numbers by place: exchanges, rotations, two sorted parts merged -/
import Derived.Test.YtmlaajebadfkoaaGreatDoorZTwoPacks2
import Derived.Test.YtmlaajebadfkoaaGreatDoorProg
import Derived.BigRegion
import Derived.BigQuiet
import Derived.BigGuardPart
import Derived.Deep.QuietTactic
import Derived.Deep.Light
import Derived.Deep.LoopGhost
import Derived.Deep.DeepCutAuto
import Derived.IntWalk
namespace Go.Proofs.YtmlaajebadfkoaaGreatDoor end Go.Proofs.YtmlaajebadfkoaaGreatDoor open Go.Proofs.YtmlaajebadfkoaaGreatDoor
open Go.Lib (hid)
set_option maxHeartbeats 2000000
set_option maxRecDepth 100000
namespace Go.Proofs.YtmlaajebadfkoaaGreatDoor.Srt
def seg(f:Nat->Nat)(a b:Nat):List Nat:=(List.range' a (b-a)).map f
theorem seg_length(f:Nat->Nat)(a b:Nat):(seg f a b).length=b-a:=by simp[seg]
theorem dgZ(f:Nat->Nat)(a b i:Nat)(h:i<(seg f a b).length):(seg f a b)[i]=f (a+i):=by simp[seg]
theorem kgZ{f g:Nat->Nat}{a b:Nat}(h:∀i,a<=i->i<b->f i=g i):seg f a b=seg g a b:=by
 refine List.ext_getElem (by rw[seg_length,seg_length]) fun i h1 h2=> ?_
 rw[seg_length]at h1
 rw[dgZ,dgZ]
 exact h _ (by omega) (by omega)
theorem lyZ{f g:Nat->Nat}{a b a' b':Nat}(hd:b-a=b'-a')(h:∀i,i<b-a->f (a+i)=g (a'+i)):seg f a b=seg g a' b':=by
 refine List.ext_getElem (by rw[seg_length,seg_length,hd]) fun i h1 h2=> ?_
 rw[seg_length]at h1
 rw[dgZ,dgZ]
 exact h _ h1
theorem seg_append(f:Nat->Nat){a m b:Nat}(h1:a<=m)(h2:m<=b):seg f a b=seg f a m++seg f m b:=by
 refine List.ext_getElem (by rw[List.length_append,seg_length,seg_length,seg_length];omega) fun i h3 h4=> ?_
 rw[dgZ]
 rw[seg_length]at h3
 by_cases hi:i<m-a
 ·rw[List.getElem_append_left (by rw[seg_length];omega),dgZ]
 ·rw[List.getElem_append_right (by rw[seg_length];omega),dgZ,seg_length]
  congr 1;omega
theorem slZ{f:Nat->Nat}{a b x:Nat}:x∈seg f a b↔∃i,a<=i/\i<b/\f i=x:=by
 unfold seg
 rw[List.mem_map]
 constructor
 ·rintro⟨i,hi,rfl⟩
  rw[List.mem_range'_1]at hi
  exact⟨i,hi.1,by omega,rfl⟩
 ·rintro⟨i,h1,h2,rfl⟩
  exact⟨i,List.mem_range'_1.2 ⟨h1,by omega⟩,rfl⟩
theorem jfZb(f:Nat->Nat){a b:Nat}(h:b<=a):seg f a b= []:=List.eq_nil_of_length_eq_zero (by rw[seg_length];omega)
def swp(f:Nat->Nat)(p q:Nat)(i:Nat):Nat:=if i=p then f q else if i=q then f p else f i
def swr(f:Nat->Nat)(a b n:Nat)(i:Nat):Nat:=if a<=i/\i<a+n then f (b+(i-a))else if b<=i/\i<b+n then f (a+(i-b))else f i
def rot(f:Nat->Nat)(a m b:Nat)(i:Nat):Nat:=if a<=i/\i<a+(b-m)then f (i+(m-a))else if a+(b-m)<=i/\i<b then f (i-(b-m))else f i
theorem zmZb(f:Nat->Nat)(a b:Nat):swr f a b 0=f:=by
 funext i;unfold swr;rw[if_neg (by omega),if_neg (by omega)]
theorem anZb(f:Nat->Nat)(a b n:Nat)(h:a+n<b):swp (swr f a b n) (a+n) (b+n)=swr f a b (n+1):=by
 funext i
 unfold swp swr
 repeat' split
 all_goals first|rfl|(exfalso;omega)|(congr 1;omega)
theorem erZb(f:Nat->Nat)(a i j:Nat)(h:j<i):rot f a (a+i) (a+i+j)=rot (swr f a (a+i) j) (a+j) (a+i) (a+i+j):=by
 funext x
 unfold rot swr
 repeat' split
 all_goals first|rfl|(exfalso;omega)|(congr 1;omega)
theorem frZb(f:Nat->Nat)(a i j:Nat)(h:i<j):rot f a (a+i) (a+i+j)=rot (swr f a (a+j) i) a (a+i) (a+j):=by
 funext x
 unfold rot swr
 repeat' split
 all_goals first|rfl|(exfalso;omega)|(congr 1;omega)
theorem grZb(f:Nat->Nat)(a i:Nat):rot f a (a+i) (a+i+i)=swr f a (a+i) i:=by
 funext x
 unfold rot swr
 repeat' split
 all_goals first|rfl|(exfalso;omega)|(congr 1;omega)
theorem ivZ(f:Nat->Nat){a m b:Nat}(ha:a<=m)(hb:m<=b)(h:a=m∨m=b):rot f a m b=f:=by
 funext x
 unfold rot
 repeat' split
 all_goals first|rfl|(exfalso;omega)|(congr 1;omega)
theorem hrZb(f:Nat->Nat)(a t:Nat):swp (rot f a (a+1) (a+1+t)) (a+t) (a+t+1)=rot f a (a+1) (a+1+(t+1)):=by
 funext x
 unfold swp rot
 repeat' split
 all_goals first|rfl|(exfalso;omega)|(congr 1;omega)
theorem kbZb(f:Nat->Nat)(m j:Nat)(h:j<m):swp (rot f (j+1) m (m+1)) (j+1) j=rot f j m (m+1):=by
 funext x
 unfold swp rot
 repeat' split
 all_goals first|rfl|(exfalso;omega)|(congr 1;omega)
theorem anZ(f:Nat->Nat){a m b i:Nat}(h:i<a):rot f a m b i=f i:=by
 unfold rot;rw[if_neg (by omega),if_neg (by omega)]
theorem tkZ(f:Nat->Nat){a m b i:Nat}(h1:a<=i)(h2:i<a+(b-m)):rot f a m b i=f (i+(m-a)):=by
 unfold rot;rw[if_pos ⟨h1,h2⟩]
theorem gpZ(f:Nat->Nat){a m b i:Nat}(h1:a+(b-m)<=i)(h2:i<b):rot f a m b i=f (i-(b-m)):=by
 unfold rot;rw[if_neg (by omega),if_pos ⟨h1,h2⟩]
theorem jvZ(f:Nat->Nat){a m b i:Nat}(ha:a<=m)(hm:m<=b)(h:b<=i):rot f a m b i=f i:=by
 unfold rot;rw[if_neg (by omega),if_neg (by omega)]
theorem bnZb(f:Nat->Nat){a m b:Nat}(ha:a<=m)(hm:m<=b):(seg (rot f a m b) a b).Perm (seg f a b):=by
 rw[seg_append (rot f a m b) (m:=a+(b-m)) (by omega) (by omega),seg_append f ha hm]
 rw[lyZ (f:=rot f a m b) (g:=f) (a:=a) (b:=a+(b-m)) (a':=m) (b':=b) (by omega) (fun i hi=>by
  rw[tkZ f (by omega) (by omega)];congr 1;omega)]
 rw[lyZ (f:=rot f a m b) (g:=f) (a:=a+(b-m)) (b:=b) (a':=a) (b':=m) (by omega) (fun i hi=>by
  rw[gpZ f (by omega) (by omega)];congr 1;omega)]
 exact List.perm_append_comm
section
variable (k:Nat->Nat)
def Lt(x y:Nat):Prop:=k x<k y∨(k x=k y/\x<y)
def Sor(f:Nat->Nat)(a b:Nat):Prop:=∀i j,a<=i->i<j->j<b->Lt k (f i) (f j)
def Low(f:Nat->Nat)(a m b:Nat):Prop:=∀i j,a<=i->i<m->m<=j->j<b->f i<f j
def Crs(f:Nat->Nat)(a m e b:Nat):Prop:=∀i j,a<=i->i<m->e<=j->j<b->Lt k (f i) (f j)
def Mer(f f':Nat->Nat)(a b:Nat):Prop:=Sor k f' a b/\(seg f' a b).Perm (seg f a b)/\∀i,(i<a∨b<=i)->f' i=f i
end
variable {k:Nat->Nat}
theorem Lt.trans{x y z:Nat}(h1:Lt k x y)(h2:Lt k y z):Lt k x z:=by
 unfold Lt at *;omega
theorem Sor.le{f:Nat->Nat}{a b i j:Nat}(h:Sor k f a b)(hi:a<=i)(hij:i<=j)(hj:j<b):f i=f j∨Lt k (f i) (f j):=by
 rcases Nat.eq_or_lt_of_le hij with e|e
 ·exact .inl (by rw[e])
 ·exact .inr (h i j hi e hj)
theorem Mer.refl{f:Nat->Nat}{a b:Nat}(h:Sor k f a b):Mer k f f a b:=⟨h,List.Perm.refl _,fun _ _=>rfl⟩
theorem Sor.few{f:Nat->Nat}{a b:Nat}(h:b<=a+1):Sor k f a b:=fun i j _ _ _=>by omega
theorem Sor.sub{f:Nat->Nat}{a b a' b':Nat}(h:Sor k f a b)(h1:a<=a')(h2:b'<=b):Sor k f a' b':=fun i j hi hij hj=>h i j (by omega) hij (by omega)
theorem Sor.congr{f g:Nat->Nat}{a b:Nat}(h:Sor k f a b)(he:∀i,a<=i->i<b->g i=f i):Sor k g a b:=fun i j hi hij hj=>by
 rw[he i hi (by omega),he j (by omega) hj];exact h i j hi hij hj
theorem Sor.join{f:Nat->Nat}{a m b:Nat}(h1:Sor k f a m)(h2:Sor k f m b)(h3:Crs k f a m m b):Sor k f a b:=fun i j hi hij hj=>by
 by_cases e:j<m
 ·exact h1 i j hi hij e
 ·by_cases e':i<m
  ·exact h3 i j hi e' (by omega) hj
  ·exact h2 i j (by omega) hij hj
theorem Mer.mem{f f':Nat->Nat}{a b i:Nat}(h:Mer k f f' a b)(h1:a<=i)(h2:i<b):∃i',a<=i'/\i'<b/\f i'=f' i:=
 slZ.1 (h.2.1.mem_iff.1 (slZ.2 ⟨i,h1,h2,rfl⟩))
theorem Mer.join{f g h:Nat->Nat}{a m b:Nat}(ham:a<=m)(hmb:m<=b)(h1:Mer k f g a m)(h2:Mer k g h m b)(hc:Crs k f a m m b):Mer k f h a b:=by
 refine⟨Sor.join (m:=m) (h1.1.congr fun i _ hi=>h2.2.2 i (by omega)) h2.1 fun i j hi him hj hjb=> ?_,?_,fun i hi=> ?_⟩
 ·rw[h2.2.2 i (by omega)]
  obtain⟨i',a1,a2,a3⟩:=h1.mem hi him
  obtain⟨j',b1,b2,b3⟩:=h2.mem hj hjb
  rw[<-a3,<-b3,h1.2.2 j' (by omega)]
  exact hc i' j' a1 a2 b1 b2
 ·rw[seg_append h ham hmb,seg_append f ham hmb]
  refine List.Perm.append ?_ ?_
  ·rw[kgZ (fun i _ hi=>h2.2.2 i (by omega))];exact h1.2.1
  ·refine h2.2.1.trans ?_
   rw[kgZ (fun i hi _=>h1.2.2 i (by omega))]
 ·rw[h2.2.2 i (by omega),h1.2.2 i (by omega)]
theorem Mer.trans{f g h:Nat->Nat}{a b:Nat}(hp:(seg g a b).Perm (seg f a b))(ho:∀i,(i<a∨b<=i)->g i=f i)(h2:Mer k g h a b):Mer k f h a b:=
 ⟨h2.1,h2.2.1.trans hp,fun i hi=>(h2.2.2 i hi).trans (ho i hi)⟩
theorem split{f:Nat->Nat}{a s m e b:Nat}(h1:a<=s)(h2:s<=m)(h3:m<=e)(h4:e<=b)(hl:Sor k f a m)(hr:Sor k f m b)(hlow:Low f a m b)
 (c1:Crs k f a s e b)(c2:∀i j,m<=i->i<e->s<=j->j<m->Lt k (f i) (f j)):
 (seg (rot f s m e) a b).Perm (seg f a b)/\(∀i,(i<a∨b<=i)->rot f s m e i=f i)/\
 Sor k (rot f s m e) a s/\Sor k (rot f s m e) s (s+(e-m))/\Low (rot f s m e) a s (s+(e-m))/\
 Sor k (rot f s m e) (s+(e-m)) e/\Sor k (rot f s m e) e b/\Low (rot f s m e) (s+(e-m)) e b/\Crs k (rot f s m e) a (s+(e-m)) (s+(e-m)) b:=by
 have p1:∀i,i<s->rot f s m e i=f i:=fun i hi=>anZ f hi
 have p2:∀i,s<=i->i<s+(e-m)->rot f s m e i=f (i+(m-s)):=fun i hi hi'=>tkZ f hi hi'
 have p3:∀i,s+(e-m)<=i->i<e->rot f s m e i=f (i-(e-m)):=fun i hi hi'=>gpZ f hi hi'
 have p4:∀i,e<=i->rot f s m e i=f i:=fun i hi=>jvZ f h2 h3 hi
 refine⟨?_,fun i hi=> ?_,?_,?_,?_,?_,?_,?_,?_⟩
 ·rw[seg_append (rot f s m e) h1 (by omega:s<=b),seg_append (rot f s m e) (by omega:s<=e) h4,seg_append f h1 (by omega:s<=b),seg_append f (by omega:s<=e) h4]
  refine List.Perm.append ?_ (List.Perm.append (bnZb f h2 h3) ?_)
  ·rw[kgZ (fun i _ hi=>p1 i hi)]
  ·rw[kgZ (fun i hi _=>p4 i hi)]
 ·rcases hi with hi|hi
  ·exact p1 i (by omega)
  ·exact p4 i (by omega)
 ·exact(hl.sub (Nat.le_refl a) h2).congr fun i _ hi=>p1 i hi
 ·intro i j hi hij hj
  rw[p2 i hi (by omega),p2 j (by omega) hj]
  exact hr _ _ (by omega) (by omega) (by omega)
 ·intro i j hi hi' hj hj'
  rw[p1 i hi',p2 j hj hj']
  exact hlow _ _ hi (by omega) (by omega) (by omega)
 ·intro i j hi hij hj
  rw[p3 i hi (by omega),p3 j (by omega) hj]
  exact hl _ _ (by omega) (by omega) (by omega)
 ·intro i j hi hij hj
  rw[p4 i hi,p4 j (by omega)]
  exact hr _ _ (by omega) hij hj
 ·intro i j hi hi' hj hj'
  rw[p3 i hi hi',p4 j hj]
  exact hlow _ _ (by omega) (by omega) (by omega) hj'
 ·intro i j hi hi' hj hj'
  by_cases x1:i<s
  ·rw[p1 i x1]
   by_cases x2:j<e
   ·rw[p3 j hj x2]
    exact hl _ _ hi (by omega) (by omega)
   ·rw[p4 j (by omega)]
    exact c1 _ _ hi x1 (by omega) hj'
  ·rw[p2 i (by omega) hi']
   by_cases x2:j<e
   ·rw[p3 j hj x2]
    exact c2 _ _ (by omega) (by omega) (by omega) (by omega)
   ·rw[p4 j (by omega)]
    exact hr _ _ (by omega) (by omega) (by omega)
theorem khZb{f:Nat->Nat}{a s m e b:Nat}(h2:s<=m)(h3:m<=e)(hl:Sor k f a m)(hr:Sor k f m b)(hlow:Low f a m b)
 (h:s=a∨e=b∨(a<s/\e<b/\k (f (s-1))<=k (f e))):Crs k f a s e b:=by
 intro i j hi hi' hj hj'
 rcases h with h|h|⟨x1,x2,x3⟩
 ·omega
 ·omega
 ·have y1:=hl.le hi (by omega:i<=s-1) (by omega)
  have y2:=hr.le h3 hj hj'
  have y3:Lt k (f (s-1)) (f e):=by
   have:=hlow (s-1) e (by omega) (by omega) h3 x2
   unfold Lt;omega
  rcases y1 with y1|y1
  ·rw[y1]
   rcases y2 with y2|y2
   ·rw[<-y2];exact y3
   ·exact y3.trans y2
  ·rcases y2 with y2|y2
   ·rw[<-y2];exact y1.trans y3
   ·exact(y1.trans y3).trans y2
theorem nnZ{f:Nat->Nat}{a s m e b:Nat}(h1:a<=s)(h4:e<=b)(hl:Sor k f a m)(hr:Sor k f m b)
 (h:s=m∨e=m∨(s<m/\m<e/\k (f (e-1))<k (f s))):∀i j,m<=i->i<e->s<=j->j<m->Lt k (f i) (f j):=by
 intro i j hi hi' hj hj'
 rcases h with h|h|⟨x1,x2,x3⟩
 ·omega
 ·omega
 ·have y1:=hr.le hi (by omega:i<=e-1) (by omega)
  have y2:=hl.le h1 hj hj'
  have y3:Lt k (f (e-1)) (f s):= .inl x3
  rcases y1 with y1|y1
  ·rw[y1]
   rcases y2 with y2|y2
   ·rw[<-y2];exact y3
   ·exact y3.trans y2
  ·rcases y2 with y2|y2
   ·rw[<-y2];exact y1.trans y3
   ·exact(y1.trans y3).trans y2
theorem lbZb{f:Nat->Nat}{a s m:Nat}(h1:a<=s)(h2:s<=m)(hl:Sor k f a m)(hlow:Low f a m (m+1))(g1:s=a∨k (f (s-1))<=k (f m))(g2:s=m∨k (f m)<k (f s)):
 Mer k f (rot f s m (m+1)) a (m+1):=by
 have c1:Crs k f a s (m+1) (m+1):=fun i j _ _ _ _=>by omega
 have c2:=nnZ (k:=k) (f:=f) (a:=a) (s:=s) (m:=m) (e:=m+1) (b:=m+1) h1 (Nat.le_refl _) hl (Sor.few (by omega)) (by
  rcases g2 with g2|g2
  ·exact .inl g2
  ·by_cases e:s=m
   ·exact .inl e
   ·exact .inr (.inr ⟨by omega,by omega,by simpa using g2⟩))
 obtain⟨hp,ho,s1,s2,l1,s3,s4,l2,hc⟩:=split h1 h2 (by omega:m<=m+1) (Nat.le_refl _) hl (Sor.few (by omega)) hlow c1 c2
 refine⟨?_,hp,ho⟩
 rw[show s+(m+1-m)=s+1 by omega]at *
 refine Sor.join (m:=s+1) (Sor.join s1 s2 fun i j hi hi' hj hj'=> ?_) s3 hc
 obtain rfl:j=s:=by omega
 rw[anZ f hi',tkZ f (Nat.le_refl _) (by omega),show j+(m-j)=m by omega]
 rcases g1 with g1|g1
 ·omega
 ·have y1:=hl.le hi (by omega:i<=j-1) (by omega)
  have y2:=hlow (j-1) m (by omega) (by omega) (Nat.le_refl _) (by omega)
  have y3:Lt k (f (j-1)) (f m):=by unfold Lt;omega
  rcases y1 with y1|y1
  ·rw[y1];exact y3
  ·exact y1.trans y3
theorem gkZb{f:Nat->Nat}{a e b:Nat}(h3:a+1<=e)(h4:e<=b)(hr:Sor k f (a+1) b)(hlow:Low f a (a+1) b)(g1:e=b∨k (f a)<=k (f e))(g2:e=a+1∨k (f (e-1))<k (f a)):
 Mer k f (rot f a (a+1) e) a b:=by
 have c1:Crs k f a a e b:=fun i j _ _ _ _=>by omega
 have c2:=nnZ (k:=k) (f:=f) (a:=a) (s:=a) (m:=a+1) (e:=e) (b:=b) (Nat.le_refl _) h4 (Sor.few (by omega)) hr (by
  rcases g2 with g2|g2
  ·exact .inr (.inl g2)
  ·by_cases e':e=a+1
   ·exact .inr (.inl e')
   ·exact .inr (.inr ⟨by omega,by omega,g2⟩))
 obtain⟨hp,ho,s1,s2,l1,s3,s4,l2,hc⟩:=split (Nat.le_refl a) (by omega:a<=a+1) h3 h4 (Sor.few (by omega)) hr hlow c1 c2
 refine⟨?_,hp,ho⟩
 rw[show a+(e-(a+1))=e-1 by omega]at *
 refine Sor.join (m:=e-1) s2 (Sor.join (m:=e) s3 s4 fun i j hi hi' hj hj'=> ?_) hc
 obtain rfl:i=e-1:=by omega
 rw[jvZ f (by omega) h3 hj,gpZ f (by omega) hi',show e-1-(e-(a+1))=a by omega]
 rcases g1 with g1|g1
 ·omega
 ·have y1:=hr.le (by omega) hj hj'
  have y2:=hlow a e (Nat.le_refl _) (by omega) (by omega) (by omega)
  have y3:Lt k (f a) (f e):=by unfold Lt;omega
  rcases y1 with y1|y1
  ·rw[<-y1];exact y3
  ·exact y3.trans y1
theorem ydZb{f f0:Nat->Nat}{a m b:Nat}(h0:∀i j,a<=i->i<j->j<b->f0 i<f0 j)(h1:(seg f a m).Perm (seg f0 a m))(h2:(seg f m b).Perm (seg f0 m b)):Low f a m b:=by
 intro i j hi hi' hj hj'
 obtain⟨i',a1,a2,a3⟩:=slZ.1 (h1.mem_iff.1 (slZ.2 ⟨i,hi,hi',rfl⟩))
 obtain⟨j',b1,b2,b3⟩:=slZ.1 (h2.mem_iff.1 (slZ.2 ⟨j,hj,hj',rfl⟩))
 rw[<-a3,<-b3]
 exact h0 i' j' a1 (by omega) b2
theorem mbZb{f g:Nat->Nat}{a b s m:Nat}(h0:∀i j,a<=i->i<j->j<b->f i<f j)(hm:Mer k f g a m)(hb:m<b)(ham:a<=m)(h1:a<=s)(h2:s<=m)
 (g1:s=a∨k (g (s-1))<=k (g m))(g2:s=m∨k (g m)<k (g s)):Mer k f (rot g s m (m+1)) a (m+1):=by
 have hgm:g m=f m:=hm.2.2 m (by omega)
 refine Mer.trans (g:=g) ?_ (fun i hi=>hm.2.2 i (by omega)) (lbZb h1 h2 hm.1 (fun i j hi hi' hj hj'=> ?_) g1 g2)
 ·rw[seg_append g ham (by omega:m<=m+1),seg_append f ham (by omega:m<=m+1)]
  refine hm.2.1.append ?_
  rw[kgZ (fun i hi hi'=>hm.2.2 i (by omega))]
 ·obtain rfl:j=m:=by omega
  obtain⟨i',a1,a2,a3⟩:=hm.mem hi hi'
  rw[<-a3,hgm]
  exact h0 i' j a1 a2 hb
def Ok(k:Nat->Nat)(f0 f:Nat->Nat)(a b:Nat):Prop:=Sor k f a b/\(seg f a b).Perm (seg f0 a b)
theorem Ok.congr{f0 f g:Nat->Nat}{a b:Nat}(h:Ok k f0 f a b)(he:∀i,a<=i->i<b->g i=f i):Ok k f0 g a b:=⟨h.1.congr he,by rw[kgZ he];exact h.2⟩
theorem Ok.mer{f0 f g:Nat->Nat}{a m b:Nat}(ham:a<=m)(hmb:m<=b)(h1:Ok k f0 f a m)(h2:Ok k f0 f m b)(hm:Mer k f g a b):Ok k f0 g a b:=
 ⟨hm.1,hm.2.1.trans (by rw[seg_append f ham hmb,seg_append f0 ham hmb];exact h1.2.append h2.2)⟩
theorem Ok.nil{f0 f:Nat->Nat}{a b:Nat}(h:b<=a):Ok k f0 f a b:=⟨Sor.few (by omega),by rw[jfZb f h,jfZb f0 h]⟩
def Bl(k:Nat->Nat)(f0 f:Nat->Nat)(n s c:Nat):Prop:=Ok k f0 f (min (s*c) n) (min (s*(c+1)) n)
def Ph1(k:Nat->Nat)(f0 f:Nat->Nat)(n c:Nat):Prop:=(∀c',c'<c->Bl k f0 f n 20 c')/\∀i,20*c<=i->f i=f0 i
def Ph2(k:Nat->Nat)(f0 f:Nat->Nat)(n s c:Nat):Prop:=(∀c',c'<c->Bl k f0 f n (2*s) c')/\∀c',2*c<=c'->Bl k f0 f n s c'
theorem Ph1.start(f:Nat->Nat)(n:Nat):Ph1 k f f n 0:=⟨fun c' h=>by omega,fun _ _=>rfl⟩
theorem Ph1.step{f0 f g:Nat->Nat}{n c:Nat}(h:Ph1 k f0 f n c)(hm:Mer k f g (20*c) (20*c+20))(hn:20*c+20<=n):Ph1 k f0 g n (c+1):=by
 refine⟨fun c' hc=> ?_,fun i hi=> ?_⟩
 ·by_cases e:c'=c
  ·subst e
   unfold Bl
   rw[Nat.min_eq_left (by omega),Nat.min_eq_left (by omega)]
   refine⟨hm.1,hm.2.1.trans ?_⟩
   rw[kgZ (g:=f0) (fun i hi _=>h.2 i hi)]
   exact List.Perm.refl _
  ·exact(h.1 c' (by omega)).congr fun i _ hi=>hm.2.2 i (by omega)
 ·rw[hm.2.2 i (by omega),h.2 i (by omega)]
theorem Ph1.done{f0 f g:Nat->Nat}{n c:Nat}(h:Ph1 k f0 f n c)(hm:Mer k f g (20*c) n)(hn:n<20*c+20)(hc0:20*c<=n):Ph2 k f0 g n 20 0:=by
 refine⟨fun c' h=>by omega,fun c' _=> ?_⟩
 rcases Nat.lt_trichotomy c' c with e|e|e
 ·exact(h.1 c' e).congr fun i _ hi=>hm.2.2 i (by omega)
 ·subst e
  unfold Bl
  rw[Nat.min_eq_left (by omega),Nat.min_eq_right (by omega)]
  refine⟨hm.1,hm.2.1.trans ?_⟩
  rw[kgZ (fun i hi _=>h.2 i hi)]
 ·exact Ok.nil (by omega)
theorem Ph2.parts{f0 f:Nat->Nat}{n s c A b:Nat}(h0:∀i j,i<j->j<n->f0 i<f0 j)(h:Ph2 k f0 f n s c)(hA:A=2*s*c)(hm:A+s<=n)(hb:b=min (A+2*s) n):
 Ok k f0 f A (A+s)/\Ok k f0 f (A+s) b/\Low f A (A+s) b:=by
 have e1:s*(2*c)=A:=by rw[hA,Nat.mul_comm 2 s,Nat.mul_assoc]
 have e2:s*(2*c+1)=A+s:=by rw[Nat.mul_add,e1,Nat.mul_one]
 have e3:s*(2*c+1+1)=A+2*s:=by rw[Nat.mul_add,e2];omega
 have x1:=h.2 (2*c) (by omega)
 have x2:=h.2 (2*c+1) (by omega)
 unfold Bl at x1 x2
 rw[e1,e2,Nat.min_eq_left (by omega),Nat.min_eq_left (by omega)]at x1
 rw[e2,e3,Nat.min_eq_left (by omega),<-hb]at x2
 exact⟨x1,x2,ydZb (f0:=f0) (fun i j _ hij hj=>h0 i j hij (by omega)) x1.2 x2.2⟩
theorem Ph2.far{f0 f g:Nat->Nat}{n s c A b:Nat}(h:Ph2 k f0 f n s c)(hA:A=2*s*c)(hb:b=A+2*s)(ho:∀i,(i<A∨b<=i∨n<=i)->g i=f i)(hx:Bl k f0 g n (2*s) c):Ph2 k f0 g n s (c+1):=by
 refine⟨fun c' hc=> ?_,fun c' hc=> ?_⟩
 ·by_cases e:c'=c
  ·subst e;exact hx
  ·have:2*s*(c'+1)<=2*s*c:=Nat.mul_le_mul_left _ (by omega)
   exact(h.1 c' (by omega)).congr fun i _ hi=>ho i (by omega)
 ·have e1:s*(2*(c+1))=b:=by rw[hb,hA,Nat.mul_add 2 c 1,Nat.mul_add,Nat.mul_comm 2 s,Nat.mul_assoc s 2 c]
  have:s*(2*(c+1))<=s*c':=Nat.mul_le_mul_left _ hc
  exact(h.2 c' (by omega)).congr fun i hi hi'=>ho i (by omega)
theorem Ph2.step{f0 f g:Nat->Nat}{n s c A b:Nat}(h:Ph2 k f0 f n s c)(hA:A=2*s*c)(hb:b=A+2*s)(hn:b<=n)(h1:Ok k f0 f A (A+s))(h2:Ok k f0 f (A+s) b)(hm:Mer k f g A b):Ph2 k f0 g n s (c+1):=by
 refine h.far hA hb (fun i hi=>hm.2.2 i (by omega)) ?_
 have e3:2*s*(c+1)=b:=by rw[Nat.mul_add,<-hA,hb];omega
 unfold Bl
 rw[e3,<-hA,Nat.min_eq_left (by omega),Nat.min_eq_left hn]
 exact Ok.mer (by omega) (by omega) h1 h2 hm
theorem Ph2.last{f0 f:Nat->Nat}{n s c A b:Nat}(h:Ph2 k f0 f n s c)(hA:A=2*s*c)(hb:b=A+2*s)(hn:n<b)(hx:Ok k f0 f (min A n) n):∀c',Bl k f0 f n (2*s) c':=by
 intro c'
 have e3:2*s*(c+1)=b:=by rw[Nat.mul_add,<-hA,hb];omega
 rcases Nat.lt_trichotomy c' c with e|e|e
 ·exact h.1 c' e
 ·subst e
  unfold Bl
  rw[e3,<-hA,Nat.min_eq_right (show n<=b by omega)]
  exact hx
 ·have:2*s*(c+1)<=2*s*c':=Nat.mul_le_mul_left _ (by omega)
  exact Ok.nil (by omega)
theorem Ph2.last_few{f0 f:Nat->Nat}{n s c A b:Nat}(h:Ph2 k f0 f n s c)(hA:A=2*s*c)(hb:b=A+2*s)(hn:n<b)(hm:n<=A+s):∀c',Bl k f0 f n (2*s) c':=by
 refine h.last hA hb hn ?_
 have e1:s*(2*c)=A:=by rw[hA,Nat.mul_comm 2 s,Nat.mul_assoc]
 have e2:s*(2*c+1)=A+s:=by rw[Nat.mul_add,e1,Nat.mul_one]
 have x1:=h.2 (2*c) (by omega)
 unfold Bl at x1
 rw[e1,e2,Nat.min_eq_right hm]at x1
 exact x1
theorem Ph2.last_more{f0 f g:Nat->Nat}{n s c A b:Nat}(h:Ph2 k f0 f n s c)(hA:A=2*s*c)(hb:b=A+2*s)(hn:n<b)(hm:A+s<=n)(h1:Ok k f0 f A (A+s))(h2:Ok k f0 f (A+s) n)(hg:Mer k f g A n):∀c',Bl k f0 g n (2*s) c':=by
 have h':Ph2 k f0 g n s (c+1):=by
  refine h.far hA hb (fun i hi=>hg.2.2 i (by omega)) ?_
  have e3:2*s*(c+1)=b:=by rw[Nat.mul_add,<-hA,hb];omega
  unfold Bl
  rw[e3,<-hA,Nat.min_eq_left (by omega),Nat.min_eq_right (by omega)]
  exact Ok.mer (by omega) hm h1 h2 hg
 intro c'
 have e3:2*s*(c+1)=b:=by rw[Nat.mul_add,<-hA,hb];omega
 by_cases e:c'<c+1
 ·exact h'.1 c' e
 ·have:2*s*(c+1)<=2*s*c':=Nat.mul_le_mul_left _ (by omega)
  exact Ok.nil (by omega)
theorem Ph2.next{f0 f:Nat->Nat}{n s:Nat}(h:∀c',Bl k f0 f n s c'):Ph2 k f0 f n s 0:=⟨fun c' h=>by omega,fun c' _=>h c'⟩
theorem Ph2.all{f0 f:Nat->Nat}{n s:Nat}(h:Ph2 k f0 f n s 0)(hs:n<=s):Ok k f0 f 0 n:=by
 have x:=h.2 0 (by omega)
 unfold Bl at x
 rw[Nat.mul_zero,Nat.zero_min,Nat.zero_add,Nat.mul_one,Nat.min_eq_right hs]at x
 exact x
end Go.Proofs.YtmlaajebadfkoaaGreatDoor.Srt
namespace Go.Proofs.YtmlaajebadfkoaaGreatDoor.Srt
open Go.RowKit Mem Own
def Dat(w:World)(g n:Nat)(f:Nat->Nat):Prop:=∃cs:Array Value,Blk w g 3 cs/\n<=cs.size/\∀i,i<n->cs[i]? =some (.int .i64 (f i:Nat))
theorem Dat.cell{w:World}{g n i:Nat}{f:Nat->Nat}(h:Dat w g n f)(hi:i<n):w.cell? ⟨g,i,none⟩=some (.int .i64 (f i:Nat)):=by
 obtain⟨cs,hb,_,hc⟩:=h
 rw[hb.cell];exact hc i hi
theorem Dat.frozen{w:World}{g n:Nat}{f:Nat->Nat}(h:Dat w g n f)(i:Nat):w.frozen? ⟨g,i,none⟩=false:=by
 obtain⟨cs,hb,_,_⟩:=h
 exact hb.frozen i
theorem Dat.lt{w:World}{g n:Nat}{f:Nat->Nat}(h:Dat w g n f):g<w.heap.size:=by
 obtain⟨cs,hb,_,_⟩:=h
 exact hb.lt
theorem Dat.drew{w:World}{g n:Nat}{f:Nat->Nat}(h:Dat w g n f):Dat w.drew g n f:=h
theorem Dat.drewN{w:World}{g n:Nat}{f:Nat->Nat}(h:Dat w g n f)(k:Nat):Dat (w.drewN k) g n f:=h
theorem Dat.swap{w:World}{g n p q:Nat}{f:Nat->Nat}(h:Dat w g n f)(hp:p<n)(hq:q<n)(hne:p≠q):
 Dat ((w.setCell ⟨g,p,none⟩ (.int .i64 (f q:Nat))).setCell ⟨g,q,none⟩ (.int .i64 (f p:Nat))) g n (swp f p q):=by
 obtain⟨cs,hb,hs,hc⟩:=h
 refine⟨_,(hb.set p _).set q _,by simpa using hs,fun i hi=> ?_⟩
 rw[Array.getElem?_setIfInBounds,Array.getElem?_setIfInBounds]
 unfold swp
 by_cases e1:q=i
 ·subst e1
  rw[if_pos rfl,if_pos (by simp;omega),if_neg (Ne.symm hne),if_pos rfl]
 ·rw[if_neg e1]
  by_cases e2:p=i
  ·subst e2
   rw[if_pos rfl,if_pos (by omega),if_pos rfl]
  ·rw[if_neg e2,if_neg (Ne.symm e2),if_neg (Ne.symm e1),hc i hi]
def Put(g n:Nat)(f:Nat->Nat)(w w':World):Prop:=Dat w' g n f/\Kept (fun b=>b<w.heap.size/\b≠g) w w'
theorem Put.trans{g n:Nat}{f f':Nat->Nat}{w w1 w2:World}(h1:Put g n f w w1)(h2:Put g n f' w1 w2):Put g n f' w w2:=by
 have hz:=h1.2.size
 exact⟨h2.1,h1.2.trans ⟨h2.2.os,h2.2.tape,h2.2.output,h2.2.size,fun b hb=>h2.2.block b ⟨by have:=hb.1;omega,hb.2⟩⟩⟩
theorem Put.swap{g n p q:Nat}{f:Nat->Nat}{w w1:World}(h:Put g n f w w1)(hp:p<n)(hq:q<n)(hne:p≠q):
 Put g n (swp f p q) w ((w1.setCell ⟨g,p,none⟩ (.int .i64 (f q:Nat))).setCell ⟨g,q,none⟩ (.int .i64 (f p:Nat))):=
 ⟨h.1.swap hp hq hne,(h.2.set (fun hb=>hb.2 rfl) _).set (fun hb=>hb.2 rfl) _⟩
theorem Put.drew{g n:Nat}{f:Nat->Nat}{w w1:World}(h:Put g n f w w1):Put g n f w w1.drew:=⟨h.1.drew,h.2.drew⟩
theorem Put.drewN{g n:Nat}{f:Nat->Nat}{w w1:World}(h:Put g n f w w1)(k:Nat):Put g n f w (w1.drewN k):=⟨h.1.drewN k,h.2.drewN k⟩
theorem Put.refl{g n:Nat}{f:Nat->Nat}{w:World}(h:Dat w g n f):Put g n f w w:=⟨h,Kept.refl _ _⟩
theorem wpZb(w:World)(g n c a b m:Nat)(f:Nat->Nat)(u:Value)(hN:n<=9223372036854775807)(hab:a+m<=b)(hb:b+m<=n)(hd:Dat w g n f):
 Calls Tryz.prog 323 #[.slice (some ⟨g,0,none⟩) n c, .int .i64 a, .int .i64 b, .int .i64 m,u] w fun e w'=>e= .returned (.tuple #[])/\Put g n (swr f a b m) w w':=by
 have p0:Put g n (swr f a b 0) w w:=by rw[zmZb];exact Put.refl hd
 clear hd
 go_enter Tryz.func323,Tryz.ntmps323
 go_wp2_with fail
 go_loopw [10] (fun i wr=>∃k:Nat,k<=m/\i= .int .i64 k/\Hid (Put g n (swr f a b k) w wr)) (fun i _=>m-(intOf i).toNat)
 case atStart=>exact⟨0,Nat.zero_le _,rfl,p0⟩
 case round=>
  clear p0
  obtain⟨k,hk,rfl,hp⟩:=hrel
  by_cases hlt:k<m
  ·have c1:=hp.out.1.cell (i:=a+k) (by omega)
   have c2:=hp.out.1.cell (i:=b+k) (by omega)
   have f1:=hp.out.1.frozen (a+k)
   have f2:=hp.out.1.frozen (b+k)
   have hnx:=(hp.out.swap (p:=a+k) (q:=b+k) (by omega) (by omega) (by omega)).drew
   rw[anZb f a b k (by omega)]at hnx
   have HNX:=hid hnx
   clear hnx
   generalize swr f a b k (a+k)=v1 at *
   generalize swr f a b k (b+k)=v2 at *
   have s1:IntKind.i64.wrap ((a:Int)+(k:Int))=(a:Int)+(k:Int):=IntWalk.i64_in _ (by omega)
   have s2:IntKind.i64.wrap ((b:Int)+(k:Int))=(b:Int)+(k:Int):=IntWalk.i64_in _ (by omega)
   have x1:(0:Int)<=(a:Int)+(k:Int):=by omega
   have x2:(0:Int)<=(b:Int)+(k:Int):=by omega
   have x3:(a:Int)+(k:Int)<(n:Int):=by omega
   have x4:(b:Int)+(k:Int)<(n:Int):=by omega
   have x5:((a:Int)+(k:Int)).toNat=a+k:=by omega
   have x6:((b:Int)+(k:Int)).toNat=b+k:=by omega
   go_wp2_with fail
   go_region
   clear s1 s2 x5 x6
   go_wp2_with fail
   go_roundw
   case rel=>go_light;exact⟨k+1,by omega,by go_num,HNX⟩
   case measure=>go_light;simp[intOf];omega
  ·obtain rfl:k=m:=by omega
   go_wp2_with fail
   refine bodyPost_end (results_none rfl _ _ _) rfl ⟨rfl,hp.out⟩
theorem xpZb(g n c:Nat)(u:Value)(hN:n<=4611686018427387904):∀ (wx:World) (x y z:Int) (a b m:Nat) (f:Nat->Nat),x=a->y=b->z=m->a+m<=b->b+m<=n->Dat wx g n f->
 Calls Tryz.prog 323 #[.slice (some ⟨g,0,none⟩) n c, .int .i64 x, .int .i64 y, .int .i64 z,u] wx fun e w'=>e= .returned (.tuple #[])/\Put g n (swr f a b m) wx w':=by
 intro wx x y z a b m f h1 h2 h3 h4 h5 h6
 subst h1 h2 h3
 exact wpZb wx g n c a b m f u (by omega) h4 h5 h6
def Rotd(g n:Nat)(w:World)(fin:Nat->Nat)(m i j:Nat)(wr:World):Prop:=∃f,Put g n f w wr/\rot f (m-i) m (m+j)=fin
theorem Rotd.gt{g n m i j:Nat}{w wr w1:World}{fin f:Nat->Nat}(h:Put g n f w wr)(hr:rot f (m-i) m (m+j)=fin)(h1:Put g n (swr f (m-i) m j) wr w1)(hij:j<i)(him:i<=m):Rotd g n w fin m (i-j) j w1:=by
 refine⟨_,h.trans h1,?_⟩
 have:=erZb f (m-i) i j hij
 rw[show m-i+i=m by omega,show m-i+j=m-(i-j) by omega]at this
 rw[<-this,hr]
theorem Rotd.lt{g n m i j:Nat}{w wr w1:World}{fin f:Nat->Nat}(h:Put g n f w wr)(hr:rot f (m-i) m (m+j)=fin)(h1:Put g n (swr f (m-i) (m+j-i) i) wr w1)(hij:i<j)(him:i<=m):Rotd g n w fin m i (j-i) w1:=by
 refine⟨_,h.trans h1,?_⟩
 have:=frZb f (m-i) i j hij
 rw[show m-i+i=m by omega,show m-i+j=m+j-i by omega,show m+j-i=m+(j-i) by omega]at this
 rw[show m+j-i=m+(j-i) by omega,<-this,hr]
theorem Rotd.eq{g n m i:Nat}{w wr w1:World}{fin f:Nat->Nat}(h:Put g n f w wr)(hr:rot f (m-i) m (m+i)=fin)(h1:Put g n (swr f (m-i) m i) wr w1)(him:i<=m):Put g n fin w w1:=by
 have:=grZb f (m-i) i
 rw[show m-i+i=m by omega]at this
 rw[<-hr,this]
 exact h.trans h1
theorem ypZb(w:World)(g n c a m b:Nat)(f:Nat->Nat)(u:Value)(hN:n<=4611686018427387904)(ham:a<m)(hmb:m<b)(hb:b<=n)(hd:Dat w g n f):
 Calls Tryz.prog 322 #[.slice (some ⟨g,0,none⟩) n c, .int .i64 a, .int .i64 m, .int .i64 b,u] w fun e w'=>e= .returned (.tuple #[])/\Put g n (rot f a m b) w w':=by
 have p0:Hid (Rotd g n w (rot f a m b) m (m-a) (b-m) w):=⟨f,Put.refl hd,by rw[show m-(m-a)=a by omega,show m+(b-m)=b by omega]⟩
 generalize rot f a m b=fin at *
 have C:=hid (xpZb g n c u hN)
 clear hd
 go_enter Tryz.func322,Tryz.ntmps322
 go_wp2_with fail
 go_loopw [10,11] (fun iv jv wr=>∃i j:Nat,0<i/\0<j/\i<=m/\m+j<=n/\iv= .int .i64 i/\jv= .int .i64 j/\Hid (Rotd g n w fin m i j wr)) (fun i j _=>(intOf i).toNat+(intOf j).toNat)
 case atStart=>exact⟨m-a,b-m,by omega,by omega,by omega,by omega,congrArg (Value.int .i64) (by omega),congrArg (Value.int .i64) (by omega),p0⟩
 case round=>
  clear p0
  obtain⟨i,j,hi,hj,him,hjn,rfl,rfl,hp⟩:=hrel
  obtain⟨f',hp1,hr1⟩:=hp.out
  have HR:=hid hr1
  have HP:=hid hp1
  clear hr1 hp hp1
  by_cases hgt:j<i
  ·have b1:((i:Int) != (j:Int))=true:=by simp;omega
   go_wp2_with fail
   refine(C.out _ _ _ _ (m-i) m j f' (by omega) rfl rfl (by omega) (by omega) HP.out.1).mono ?_
   rintro e w1 ⟨rfl,hp2⟩
   have HN2:=hid (Rotd.gt HP.out HR.out hp2 hgt him)
   clear hp2 b1
   go_wp2_with fail
   go_roundw
   case rel=>go_light;exact⟨i-j,j,by omega,hj,by omega,hjn,congrArg (Value.int .i64) (by omega),rfl,HN2⟩
   case measure=>go_light;simp[intOf];omega
  ·by_cases hlt:i<j
   ·have b1:((i:Int) != (j:Int))=true:=by simp;omega
    go_wp2_with fail
    refine(C.out _ _ _ _ (m-i) (m+j-i) i f' (by omega) (by omega) rfl (by omega) (by omega) HP.out.1).mono ?_
    rintro e w1 ⟨rfl,hp2⟩
    have HN2:=hid (Rotd.lt HP.out HR.out hp2 hlt him)
    clear hp2 b1
    go_wp2_with fail
    go_roundw
    case rel=>go_light;exact⟨i,j-i,by omega,by omega,by omega,by omega,rfl,congrArg (Value.int .i64) (by omega),HN2⟩
    case measure=>go_light;simp[intOf];omega
   ·obtain rfl:i=j:=by omega
    go_wp2_with fail
    refine(C.out _ _ _ _ (m-i) m i f' (by omega) rfl rfl (by omega) (by omega) HP.out.1).mono ?_
    rintro e w1 ⟨rfl,hp2⟩
    have HN2:=hid (Rotd.eq HP.out HR.out hp2 him)
    clear hp2
    go_wp2_with fail
    refine bodyPost_end (results_none rfl _ _ _) rfl ⟨rfl,HN2.out⟩
end Go.Proofs.YtmlaajebadfkoaaGreatDoor.Srt
namespace Go.Proofs.YtmlaajebadfkoaaGreatDoor.Lens
open Srt
abbrev It:=Nat×List Nat
def ecZ(x:It):Bool:=x.2.length==1
def vcZ:List It->List It
 |x :: y :: t=>(x.1+y.1,x.2++y.2) :: vcZ t
 |_=> []
def mrg:List It->List It->List It
 | [],ps=>ps
 |l :: ls,[]=>l :: ls
 |l :: ls,p :: ps=>if l.1<=p.1 then l :: mrg ls (p :: ps)else p :: mrg (l :: ls) ps
termination_by ls ps=>ls.length+ps.length
def sZ(L:List It):Nat->List It
 |0=>L
 |r+1=>mrg L (vcZ (sZ L r))
theorem sgZ(ps:List It):mrg [] ps=ps:=by rw[mrg]
theorem jhZ(ls:List It):mrg ls []=ls:=by
 cases ls with
 |nil=>rw[mrg]
 |cons l ls=>rw[mrg]
theorem ynZ{l p:It}{ls ps:List It}(h:l.1<=p.1):mrg (l :: ls) (p :: ps)=l :: mrg ls (p :: ps):=by rw[mrg,if_pos h]
theorem znZ{l p:It}{ls ps:List It}(h:¬l.1<=p.1):mrg (l :: ls) (p :: ps)=p :: mrg (l :: ls) ps:=by rw[mrg,if_neg h]
theorem urZ{M:List It->List It->Prop}(h1:∀ps,M [] ps)(h2:∀l ls,M (l :: ls) [])(h3:∀l ls p ps,l.1<=p.1->M ls (p :: ps)->M (l :: ls) (p :: ps))
 (h4:∀l ls p ps,¬l.1<=p.1->M (l :: ls) ps->M (l :: ls) (p :: ps)):∀ls ps,M ls ps:=by
 intro ls ps
 obtain⟨n,hn⟩:∃n,n=ls.length+ps.length:=⟨_,rfl⟩
 induction n generalizing ls ps with
 |zero=>
  match ls,ps with
  | [],ps=>exact h1 ps
  |l :: ls,ps=>simp only[List.length_cons]at hn;omega
 |succ n ih=>
  match ls,ps with
  | [],ps=>exact h1 ps
  |l :: ls,[]=>exact h2 l ls
  |l :: ls,p :: ps=>
   simp only[List.length_cons]at hn
   by_cases h:l.1<=p.1
   ·exact h3 l ls p ps h (ih ls (p :: ps) (by simp only[List.length_cons];omega))
   ·exact h4 l ls p ps h (ih (l :: ls) ps (by simp only[List.length_cons];omega))
theorem vhZ(ls ps:List It):(mrg ls ps).length=ls.length+ps.length:=by
 refine urZ (M:=fun ls ps=>(mrg ls ps).length=ls.length+ps.length) ?_ ?_ ?_ ?_ ls ps
 ·intro ps;rw[sgZ];simp
 ·intro l ls;rw[jhZ];simp
 ·intro l ls p ps h ih;rw[ynZ h,List.length_cons,ih];simp only[List.length_cons];omega
 ·intro l ls p ps h ih;rw[znZ h,List.length_cons,ih];simp only[List.length_cons];omega
theorem vrZ{ls ps:List It}{x:It}:x∈mrg ls ps↔x∈ls∨x∈ps:=by
 refine urZ (M:=fun ls ps=>x∈mrg ls ps↔x∈ls∨x∈ps) ?_ ?_ ?_ ?_ ls ps
 ·intro ps;rw[sgZ];simp
 ·intro l ls;rw[jhZ];simp
 ·intro l ls p ps h ih;rw[ynZ h,List.mem_cons,ih];simp only[List.mem_cons];exact or_assoc.symm
 ·intro l ls p ps h ih;rw[znZ h,List.mem_cons,ih];simp only[List.mem_cons];exact or_left_comm
theorem cnZb(ls ps:List It)(hl:∀x∈ls,ecZ x=true)(hp:∀x∈ps,ecZ x=false)(t:Nat)(ht:t<=ls.length+ps.length):
 ∃n q,n+q=t/\n<=ls.length/\q<=ps.length/\((mrg ls ps).take t).Perm (ls.take n++ps.take q)/\((mrg ls ps).take t).countP ecZ=n:=by
 revert t
 refine urZ (M:=fun ls ps=>(∀x∈ls,ecZ x=true)->(∀x∈ps,ecZ x=false)->∀t,t<=ls.length+ps.length->
  ∃n q,n+q=t/\n<=ls.length/\q<=ps.length/\((mrg ls ps).take t).Perm (ls.take n++ps.take q)/\((mrg ls ps).take t).countP ecZ=n) ?_ ?_ ?_ ?_ ls ps hl hp
 ·intro ps _ hp t ht
  rw[sgZ]
  refine⟨0,t,by omega,by omega,by simpa using ht,by simp,?_⟩
  rw[List.countP_eq_zero]
  intro x hx
  rw[hp x (List.mem_of_mem_take hx)]
  simp
 ·intro l ls hl _ t ht
  rw[jhZ]
  refine⟨t,0,by omega,by simpa using ht,by omega,by simp,?_⟩
  have:((l :: ls).take t).countP ecZ=((l :: ls).take t).length:=List.countP_eq_length.2 fun x hx=>hl x (List.mem_of_mem_take hx)
  rw[this,List.length_take]
  simp at ht
  simp only[List.length_cons]
  omega
 ·intro l ls p ps h ih hl hp t ht
  rw[ynZ h]
  rcases t with _|t
  ·exact⟨0,0,rfl,by omega,by omega,by simp,by simp⟩
  ·obtain⟨n,q,h1,h2,h3,h4,h5⟩:=ih (fun x hx=>hl x (List.mem_cons_of_mem _ hx)) hp t (by simp only[List.length_cons]at ht ⊢;omega)
   refine⟨n+1,q,by omega,by simp only[List.length_cons];omega,h3,?_,?_⟩
   ·simpa using h4
   ·rw[List.take_succ_cons,List.countP_cons,h5,hl l (by simp)];rfl
 ·intro l ls p ps h ih hl hp t ht
  rw[znZ h]
  rcases t with _|t
  ·exact⟨0,0,rfl,by omega,by omega,by simp,by simp⟩
  ·obtain⟨n,q,h1,h2,h3,h4,h5⟩:=ih hl (fun x hx=>hp x (List.mem_cons_of_mem _ hx)) t (by simp only[List.length_cons]at ht ⊢;omega)
   refine⟨n,q+1,by omega,h2,by simp only[List.length_cons];omega,?_,?_⟩
   ·rw[List.take_succ_cons,List.take_succ_cons]
    refine(h4.cons p).trans ?_
    exact(List.perm_middle).symm
   ·rw[List.take_succ_cons,List.countP_cons,h5,hp p (by simp)];rfl
theorem khZ(x y:It)(t:List It):vcZ (x :: y :: t)=(x.1+y.1,x.2++y.2) :: vcZ t:=rfl
theorem myZ{l:List It}(h:l.length<=1):vcZ l= []:=by
 match l with
 | []=>rfl
 | [_]=>rfl
 |_ :: _ :: _=>simp at h
theorem ffZ:∀l:List It,(vcZ l).length=l.length / 2
 | []=>rfl
 | [_]=>by simp[vcZ]
 |_ :: _ :: t=>by
  rw[khZ,List.length_cons,ffZ t]
  simp only[List.length_cons]
  omega
theorem tiZ:∀ {l:List It} {p:It},p∈vcZ l->∃x y,x∈l/\y∈l/\p=(x.1+y.1,x.2++y.2)
 | [],p,h=>by simp[vcZ]at h
 | [_],p,h=>by simp[vcZ]at h
 |x :: y :: t,p,h=>by
  rw[khZ]at h
  rcases List.mem_cons.1 h with h|h
  ·exact⟨x,y,by simp,by simp,h⟩
  ·obtain⟨a,b,ha,hb,he⟩:=tiZ h
   exact⟨a,b,by simp[ha],by simp[hb],he⟩
def flat(l:List It):List Nat:=l.flatMap (·.2)
theorem bnZ(x:It)(l:List It):flat (x :: l)=x.2++flat l:=by simp[flat]
theorem onZ(a b:List It):flat (a++b)=flat a++flat b:=by simp[flat]
theorem kvZ:∀ (l:List It) (q:Nat),2*q<=l.length->flat ((vcZ l).take q)=flat (l.take (2*q))
 |_,0,_=>by simp[flat]
 | [],q+1,h=>by simp at h
 | [_],q+1,h=>by simp at h;omega
 |x :: y :: t,q+1,h=>by
  rw[khZ,show 2*(q+1)=2*q+1+1 by omega,List.take_succ_cons,List.take_succ_cons,List.take_succ_cons,bnZ,bnZ,bnZ,kvZ t q (by simp only[List.length_cons]at h;omega)]
  simp
def lv(k:Nat->Nat)(S:List Nat):List It:=S.map fun s=>(k s,[s])
theorem wrZ{k:Nat->Nat}{S:List Nat}:∀x∈lv k S,ecZ x=true:=by
 intro x hx
 obtain⟨s,_,rfl⟩:=List.mem_map.1 hx
 rfl
theorem ndZ(k:Nat->Nat)(S:List Nat):(lv k S).length=S.length:=by simp[lv]
theorem kfZb(k:Nat->Nat)(S:List Nat):flat (lv k S)=S:=by
 induction S with
 |nil=>rfl
 |cons s t ih=>unfold lv at ih ⊢;rw[List.map_cons,bnZ,ih];rfl
theorem lfZb(k:Nat->Nat)(S:List Nat)(n:Nat):(lv k S).take n=lv k (S.take n):=by simp[lv,List.map_take]
section
variable {k:Nat->Nat} {S:List Nat}
theorem hpZ(r:Nat):∀x∈sZ (lv k S) r,x.2≠ []:=by
 induction r with
 |zero=>
  intro x hx
  obtain⟨s,_,rfl⟩:=List.mem_map.1 hx
  simp
 |succ r ih=>
  intro x hx
  rcases vrZ.1 hx with h|h
  ·obtain⟨s,_,rfl⟩:=List.mem_map.1 h
   simp
  ·obtain⟨a,b,ha,hb,rfl⟩:=tiZ h
   simp[ih a ha]
theorem lvZ{l:List It}(h:∀x∈l,x.2≠ []):∀x∈vcZ l,ecZ x=false:=by
 intro x hx
 obtain⟨a,b,ha,hb,rfl⟩:=tiZ hx
 have h1:=List.length_pos_iff.2 (h a ha)
 have h2:=List.length_pos_iff.2 (h b hb)
 unfold ecZ
 rw[beq_eq_false_iff_ne,List.length_append]
 omega
theorem meZ:(sZ (lv k S) 0).length=S.length:=ndZ k S
theorem ojZ(r:Nat):(sZ (lv k S) (r+1)).length=S.length+(sZ (lv k S) r).length / 2:=by
 rw[sZ,vhZ,ffZ,ndZ]
theorem ipZ(hn:0<S.length):∀r,(sZ (lv k S) r).length+(S.length-1) / 2 ^ r=2*S.length-1
 |0=>by rw[meZ];simp;omega
 |r+1=>by
  have ih:=ipZ hn r
  rw[ojZ,Nat.pow_succ,<-Nat.div_div_eq_div_mul]
  omega
theorem ytZ{limit:Nat}(hl:1<=limit)(hn:0<S.length)(h:S.length<=2 ^ limit):2*S.length-2<=(sZ (lv k S) (limit-1)).length:=by
 have h1:=ipZ (k:=k) hn (limit-1)
 have h2:(S.length-1) / 2 ^ (limit-1)<2:=by
  rw[Nat.div_lt_iff_lt_mul (Nat.two_pow_pos _)]
  have:2 ^ limit=2*2 ^ (limit-1):=by
   obtain⟨m,rfl⟩:∃m,limit=m+1:=⟨limit-1,by omega⟩
   rw[Nat.pow_succ,Nat.add_sub_cancel,Nat.mul_comm]
  omega
 omega
theorem jpZ{M:Nat}(hk:∀s∈S,k s<=M):∀r,∀x∈sZ (lv k S) r,x.1<=2 ^ r*M
 |0=>by
  intro x hx
  obtain⟨s,hs,rfl⟩:=List.mem_map.1 hx
  simpa using hk s hs
 |r+1=>by
  intro x hx
  have hp:M<=2 ^ (r+1)*M:=Nat.le_mul_of_pos_left _ (Nat.two_pow_pos _)
  rcases vrZ.1 hx with h|h
  ·obtain⟨s,hs,rfl⟩:=List.mem_map.1 h
   exact Nat.le_trans (hk s hs) hp
  ·obtain⟨a,b,ha,hb,rfl⟩:=tiZ h
   have h1:=jpZ hk r a ha
   have h2:=jpZ hk r b hb
   rw[Nat.pow_succ,Nat.mul_right_comm]
   show a.1+b.1<=_
   omega
def nl(X:List It)(t:Nat):Nat:=(X.take t).countP ecZ
theorem zpZb(X:List It)(i:Nat)(x:It)(h:X[i]? =some x):nl X (i+1)=nl X i+if ecZ x=true then 1 else 0:=by
 unfold nl
 rw[List.take_add_one,h,Option.toList_some,List.countP_append]
 by_cases hx:ecZ x=true<;>simp[hx]
theorem mfZb(X:List It):nl X 0=0:=by simp[nl]
def gcZ(k:Nat->Nat)(S:List Nat):Nat->Nat->Nat->Nat
 |0,t,s=>if s∈S.take (nl (sZ (lv k S) 0) t)then 1 else 0
 |r+1,t,s=>(if s∈S.take (nl (sZ (lv k S) (r+1)) t)then 1 else 0)+gcZ k S r (2*(t-nl (sZ (lv k S) (r+1)) t)) s
theorem aoZ(t:Nat)(ht:t<=S.length):nl (sZ (lv k S) 0) t=t:=by
 unfold nl sZ
 have:((lv k S).take t).countP ecZ=((lv k S).take t).length:=List.countP_eq_length.2 fun x hx=>wrZ x (List.mem_of_mem_take hx)
 rw[this,List.length_take,ndZ]
 omega
theorem bkZ(r t:Nat)(ht:t<=(sZ (lv k S) (r+1)).length):∃n q,n+q=t/\n<=S.length/\2*q<=(sZ (lv k S) r).length/\nl (sZ (lv k S) (r+1)) t=n/\
 ((sZ (lv k S) (r+1)).take t).Perm ((lv k S).take n++(vcZ (sZ (lv k S) r)).take q):=by
 rw[sZ,vhZ]at ht
 obtain⟨n,q,h1,h2,h3,h4,h5⟩:=cnZb (lv k S) (vcZ (sZ (lv k S) r)) wrZ (lvZ (hpZ r)) t ht
 rw[ndZ]at h2
 rw[ffZ]at h3
 exact⟨n,q,h1,h2,by omega,h5,h4⟩
theorem mvZ(hS:S.Nodup)(n s:Nat):(S.take n).count s=if s∈S.take n then 1 else 0:=by
 have h:=hS.sublist (List.take_sublist n S)
 rw[h.count]
theorem kpZ(hS:S.Nodup):∀ (r t:Nat),t<=(sZ (lv k S) r).length->∀s,(flat ((sZ (lv k S) r).take t)).count s=gcZ k S r t s
 |0,t,ht,s=>by
  rw[meZ]at ht
  rw[gcZ,aoZ t ht,<-mvZ hS,sZ,lfZb,kfZb]
 |r+1,t,ht,s=>by
  obtain⟨n,q,h1,h2,h3,h4,h5⟩:=bkZ r t ht
  rw[gcZ,h4,show t-n=q by omega,<-kpZ hS r (2*q) h3 s,<-mvZ hS]
  have:(flat ((sZ (lv k S) (r+1)).take t)).Perm (flat ((lv k S).take n++(vcZ (sZ (lv k S) r)).take q)):=h5.flatMap_right _
  rw[this.count_eq,onZ,List.count_append,kvZ _ _ h3,lfZb,kfZb]
end
def ins(k:Nat->Nat)(x:Nat):List Nat->List Nat
 | []=> [x]
 |y :: t=>if k x<k y then x :: y :: t else y :: ins k x t
theorem hmZ(k:Nat->Nat)(x:Nat):∀l,(ins k x l).Perm (x :: l)
 | []=>List.Perm.refl _
 |y :: t=>by
  rw[ins]
  split
  ·exact List.Perm.refl _
  ·exact((hmZ k x t).cons y).trans (List.Perm.swap x y t)
theorem nvZ{k:Nat->Nat}{x:Nat}:∀ {l:List Nat},l.Pairwise (Lt k)->(∀y∈l,y<x)->(ins k x l).Pairwise (Lt k)
 | [],_,_=>by simp[ins]
 |y :: t,h,hx=>by
  rw[List.pairwise_cons]at h
  rw[ins]
  split
  ·rename_i hlt
   refine List.pairwise_cons.2 ⟨fun z hz=> ?_,List.pairwise_cons.2 h⟩
   rcases List.mem_cons.1 hz with rfl|hz
   ·exact .inl hlt
   ·exact Lt.trans (.inl hlt) (h.1 z hz)
  ·rename_i hge
   refine List.pairwise_cons.2 ⟨fun z hz=> ?_,nvZ h.2 fun z hz=>hx z (List.mem_cons_of_mem _ hz)⟩
   rcases List.mem_cons.1 ((hmZ k x t).mem_iff.1 hz)with rfl|hz
   ·have:=hx y (by simp)
    unfold Lt
    omega
   ·exact h.1 z hz
def pZ(k:Nat->Nat):Nat->List Nat
 |0=> []
 |n+1=>if k n=0 then pZ k n else ins k n (pZ k n)
def used(k:Nat->Nat):Nat->List Nat
 |0=> []
 |n+1=>if k n=0 then used k n else used k n++ [n]
theorem ztZ{k:Nat->Nat}{n s:Nat}:s∈used k n↔s<n/\k s≠0:=by
 induction n with
 |zero=>simp[used]
 |succ n ih=>
  rw[used]
  split
  ·rename_i h0
   rw[ih]
   constructor
   ·rintro⟨h1,h2⟩;exact⟨by omega,h2⟩
   ·rintro⟨h1,h2⟩
    refine⟨?_,h2⟩
    rcases Nat.lt_or_eq_of_le (Nat.lt_succ_iff.1 h1)with h|h
    ·exact h
    ·subst h;exact absurd h0 h2
  ·rename_i h0
   rw[List.mem_append,ih,List.mem_singleton]
   constructor
   ·rintro(⟨h1,h2⟩|rfl)
    ·exact⟨by omega,h2⟩
    ·exact⟨by omega,h0⟩
   ·rintro⟨h1,h2⟩
    rcases Nat.lt_or_eq_of_le (Nat.lt_succ_iff.1 h1)with h|h
    ·exact .inl ⟨h,h2⟩
    ·exact .inr h
theorem pnZ(k:Nat->Nat):∀n,(used k n).Pairwise (·< ·)
 |0=>by simp[used]
 |n+1=>by
  rw[used]
  split
  ·exact pnZ k n
  ·refine List.pairwise_append.2 ⟨pnZ k n,by simp,fun a ha b hb=> ?_⟩
   rw[List.mem_singleton]at hb
   subst hb
   exact(ztZ.1 ha).1
theorem qsZ(k:Nat->Nat):∀n,(used k n).length<=n
 |0=>by simp[used]
 |n+1=>by
  have:=qsZ k n
  rw[used]
  split
  ·omega
  ·simp;omega
theorem tgZ(k:Nat->Nat):∀n,(pZ k n).Perm (used k n)
 |0=>List.Perm.refl _
 |n+1=>by
  rw[pZ,used]
  split
  ·exact tgZ k n
  ·refine(hmZ k n _).trans ?_
   refine((tgZ k n).cons n).trans ?_
   exact(List.perm_append_singleton n (used k n)).symm
theorem qfZ{k:Nat->Nat}{n s:Nat}:s∈pZ k n↔s<n/\k s≠0:=by rw[(tgZ k n).mem_iff,ztZ]
theorem hdZ(k:Nat->Nat):∀n,(pZ k n).Pairwise (Lt k)
 |0=>by simp[pZ]
 |n+1=>by
  rw[pZ]
  split
  ·exact hdZ k n
  ·exact nvZ (hdZ k n) fun y hy=>(qfZ.1 hy).1
theorem Lt.irrefl{k:Nat->Nat}{x:Nat}:¬Lt k x x:=by unfold Lt;omega
theorem rsZ(k:Nat->Nat)(n:Nat):(pZ k n).Nodup:=(hdZ k n).imp fun h e=>by subst e;exact Lt.irrefl h
theorem lhZ(k:Nat->Nat)(n:Nat):(pZ k n).length<=n:=by rw[(tgZ k n).length_eq];exact qsZ k n
theorem nbZb{k:Nat->Nat}{n:Nat}{l:List Nat}(h:l.Pairwise (Lt k))(hp:l.Perm (used k n)):l=pZ k n:=by
 refine List.Perm.eq_of_pairwise ?_ h (hdZ k n) (hp.trans (tgZ k n).symm)
 intro a b _ _ h1 h2
 exact absurd (h1.trans h2) Lt.irrefl
def hiZ(ks:List Nat)(limit:Nat):List Nat:=
 let k:=fun s=>ks.getD s 0
 let S:=pZ k ks.length
 if S.length<2 then(List.range ks.length).map fun s=>if s∈S then 1 else 0
 else(List.range ks.length).map (gcZ k S (limit-1) (2*S.length-2))
def pcZ(ks:List Nat)(limit:Int):Int:=
 if ks.length>300∨limit<1∨limit>15 then 13 else if(pZ (fun s=>ks.getD s 0) ks.length).length>2 ^ limit.toNat then 6 else 0
def kcZ(ks:List Nat)(limit:Int):List Nat:=if pcZ ks limit=0 then hiZ ks limit.toNat else []
end Go.Proofs.YtmlaajebadfkoaaGreatDoor.Lens
namespace Go.Proofs.YtmlaajebadfkoaaGreatDoor.Lens
open Srt
def Asc(l:List It):Prop:=l.Pairwise fun x y=>x.1<=y.1
theorem irZb{k:Nat->Nat}{S:List Nat}(h:S.Pairwise (Lt k)):Asc (lv k S):=by
 unfold Asc lv
 rw[List.pairwise_map]
 exact h.imp fun hx=>by unfold Lt at hx;show k _<=k _;omega
def sm(f:Nat->Nat):List Nat->Nat
 | []=>0
 |s :: t=>f s+sm f t
theorem uiZ(f:Nat->Nat)(a b:List Nat):sm f (a++b)=sm f a+sm f b:=by
 induction a with
 |nil=>simp[sm]
 |cons x t ih=>rw[List.cons_append,sm,sm,ih];omega
theorem aqZb{f:Nat->Nat}{a b:List Nat}(h:a.Perm b):sm f a=sm f b:=by
 induction h with
 |nil=>rfl
 |cons x _ ih=>rw[sm,sm,ih]
 |swap x y l=>simp only[sm];omega
 |trans _ _ h1 h2=>rw[h1,h2]
theorem ugZ{f g:Nat->Nat}{l:List Nat}(h:∀s∈l,f s=g s):sm f l=sm g l:=by
 induction l with
 |nil=>rfl
 |cons x t ih=>rw[sm,sm,h x (by simp),ih fun s hs=>h s (List.mem_cons_of_mem _ hs)]
theorem yrZb{f g:Nat->Nat}{l:List Nat}(h:∀s∈l,f s<=g s):sm f l<=sm g l:=by
 induction l with
 |nil=>exact Nat.le_refl _
 |cons x t ih=>
  have h1:=h x (by simp)
  have h2:=ih fun s hs=>h s (List.mem_cons_of_mem _ hs)
  rw[sm,sm];omega
theorem jrZb(f g:Nat->Nat)(l:List Nat):sm (fun s=>f s+g s) l=sm f l+sm g l:=by
 induction l with
 |nil=>rfl
 |cons x t ih=>rw[sm,sm,sm,ih];omega
theorem krZb(c:Nat)(f:Nat->Nat)(l:List Nat):sm (fun s=>c*f s) l=c*sm f l:=by
 induction l with
 |nil=>simp[sm]
 |cons x t ih=>rw[sm,sm,ih,Nat.mul_add]
theorem ckZ(c:Nat)(l:List Nat):sm (fun _=>c) l=l.length*c:=by
 induction l with
 |nil=>simp[sm]
 |cons x t ih=>rw[sm,ih,List.length_cons,Nat.add_mul];omega
section
variable {k:Nat->Nat} {S:List Nat}
theorem lrZb(r:Nat):∀x∈sZ (lv k S) r,x.1=sm k x.2/\∀s∈x.2,s∈S:=by
 induction r with
 |zero=>
  intro x hx
  obtain⟨s,hs,rfl⟩:=List.mem_map.1 hx
  exact⟨by simp[sm],by simpa using hs⟩
 |succ r ih=>
  intro x hx
  rcases vrZ.1 hx with h|h
  ·obtain⟨s,hs,rfl⟩:=List.mem_map.1 h
   exact⟨by simp[sm],by simpa using hs⟩
  ·obtain⟨a,b,ha,hb,rfl⟩:=tiZ h
   refine⟨?_,fun s hs=> ?_⟩
   ·show a.1+b.1=sm k (a.2++b.2)
    rw[uiZ,(ih a ha).1,(ih b hb).1]
   ·rcases List.mem_append.1 hs with h|h
    ·exact(ih a ha).2 s h
    ·exact(ih b hb).2 s h
theorem bqZb(ls ps:List It)(hl:∀x∈ls,ecZ x=true)(hp:∀x∈ps,ecZ x=false)(ha:Asc ls)(t:Nat)(ht:t<=ls.length+ps.length):
 ∀n,((mrg ls ps).take t).countP ecZ=n->∀x,ls[n]? =some x->∀p∈ps.take (t-n),p.1<x.1:=by
 revert t
 refine urZ (M:=fun ls ps=>(∀x∈ls,ecZ x=true)->(∀x∈ps,ecZ x=false)->Asc ls->∀t,t<=ls.length+ps.length->
  ∀n,((mrg ls ps).take t).countP ecZ=n->∀x,ls[n]? =some x->∀p∈ps.take (t-n),p.1<x.1) ?_ ?_ ?_ ?_ ls ps hl hp ha
 ·intro ps _ _ _ t _ n _ x hx
  simp at hx
 ·intro l ls _ _ _ t _ n _ x _ p hp
  simp at hp
 ·intro l ls p ps h ih hl hp ha t ht n hn x hx q hq
  rw[ynZ h]at hn
  rcases t with _|t
  ·simp at hn;subst hn;simp at hq
  ·rw[List.take_succ_cons,List.countP_cons,hl l (by simp)]at hn
   simp only[if_true]at hn
   subst hn
   rw[List.getElem?_cons_succ]at hx
   rw[show ∀m,t+1-(m+1)=t-m from fun m=>by omega]at hq
   exact ih (fun x hx=>hl x (List.mem_cons_of_mem _ hx)) hp (List.pairwise_cons.1 ha).2 t (by simp only[List.length_cons]at ht ⊢;omega) _ rfl x hx q hq
 ·intro l ls p ps h ih hl hp ha t ht n hn x hx q hq
  rw[znZ h]at hn
  rcases t with _|t
  ·simp at hn;subst hn;simp at hq
  ·rw[List.take_succ_cons,List.countP_cons,hp p (by simp)]at hn
   simp only[Bool.false_eq_true,if_false,Nat.add_zero]at hn
   have hnt:n<=t:=by
    have:=List.countP_le_length (p:=ecZ) (l:=(mrg (l :: ls) ps).take t)
    rw[List.length_take]at this
    omega
   rw[show t+1-n=(t-n)+1 by omega,List.take_succ_cons]at hq
   rcases List.mem_cons.1 hq with rfl|hq
   ·have:l.1<=x.1:=by
     rcases n with _|n
     ·simp at hx;rw[hx];exact Nat.le_refl _
     ·rw[List.getElem?_cons_succ]at hx
      exact(List.pairwise_cons.1 ha).1 x (List.mem_of_getElem? hx)
    omega
   ·exact ih hl (fun x hx=>hp x (List.mem_cons_of_mem _ hx)) ha t (by simp only[List.length_cons]at ht ⊢;omega) n hn x hx q hq
theorem ssZ:∀ {l:List It} {q:Nat} {x:It},x∈l.take (2*q)->2*q<=l.length->∃p∈(vcZ l).take q,x.1<=p.1
 |_,0,x,hx,_=>by simp at hx
 | [],q+1,x,_,h=>by simp at h
 | [_],q+1,x,_,h=>by simp at h;omega
 |a :: b :: t,q+1,x,hx,h=>by
  rw[show 2*(q+1)=2*q+1+1 by omega,List.take_succ_cons,List.take_succ_cons]at hx
  rw[khZ,List.take_succ_cons]
  rcases List.mem_cons.1 hx with rfl|hx
  ·exact⟨_,List.mem_cons_self,Nat.le_add_right _ _⟩
  ·rcases List.mem_cons.1 hx with rfl|hx
   ·exact⟨_,List.mem_cons_self,Nat.le_add_left _ _⟩
   ·obtain⟨p,hp,hle⟩:=ssZ hx (by simp only[List.length_cons]at h;omega)
    exact⟨p,List.mem_cons_of_mem _ hp,hle⟩
theorem lpZ(r t:Nat)(ht:t<=(sZ (lv k S) r).length):nl (sZ (lv k S) r) t<=S.length/\∀x∈(lv k S).take (nl (sZ (lv k S) r) t),x∈(sZ (lv k S) r).take t:=by
 rcases r with _|r
 ·rw[meZ]at ht
  rw[aoZ t ht]
  exact⟨ht,fun x hx=>hx⟩
 ·obtain⟨n,q,h1,h2,h3,h4,h5⟩:=bkZ r t ht
  rw[h4]
  exact⟨h2,fun x hx=>h5.mem_iff.2 (List.mem_append_left _ hx)⟩
theorem nfZb(hS:S.Pairwise (Lt k))(r t:Nat)(ht:t<=(sZ (lv k S) (r+1)).length):
 2*(t-nl (sZ (lv k S) (r+1)) t)<=(sZ (lv k S) r).length/\nl (sZ (lv k S) r) (2*(t-nl (sZ (lv k S) (r+1)) t))<=nl (sZ (lv k S) (r+1)) t:=by
 obtain⟨n,q,h1,h2,h3,h4,h5⟩:=bkZ r t ht
 rw[h4,show t-n=q by omega]
 refine⟨h3,?_⟩
 obtain⟨g1,g2⟩:=lpZ r (2*q) h3
 rcases Nat.lt_or_ge n (nl (sZ (lv k S) r) (2*q))with h|h
 ·exfalso
  have hlt:n<(lv k S).length:=by rw[ndZ];omega
  have hx:(lv k S)[n]∈(lv k S).take (nl (sZ (lv k S) r) (2*q)):=List.mem_take_iff_getElem.2 ⟨n,by omega,rfl⟩
  obtain⟨p,hp,hle⟩:=ssZ (g2 _ hx) h3
  have hc:=bqZb (lv k S) (vcZ (sZ (lv k S) r)) wrZ (lvZ (hpZ r)) (irZb hS) t (by rw[ndZ,ffZ];rw[ojZ]at ht;exact ht) n h4 _ (List.getElem?_eq_getElem hlt) p (by rw[show t-n=q by omega];exact hp)
  omega
 ·exact h
theorem nyZ(hS:S.Pairwise (Lt k)){m s:Nat}(hs:s ∉ S.take m):∀r t,t<=(sZ (lv k S) r).length->nl (sZ (lv k S) r) t<=m->gcZ k S r t s=0
 |0,t,ht,h=>by
  rw[gcZ,if_neg]
  exact fun hm=>hs (List.take_subset_take_left _ h hm)
 |r+1,t,ht,h=>by
  obtain⟨h1,h2⟩:=nfZb hS r t ht
  rw[gcZ,if_neg fun hm=>hs (List.take_subset_take_left _ h hm),nyZ hS hs r _ h1 (by omega)]
theorem rwZ(r t s:Nat):gcZ k S r t s<=r+1:=by
 induction r generalizing t with
 |zero=>rw[gcZ];split<;>omega
 |succ r ih=>
  rw[gcZ]
  have:=ih (2*(t-nl (sZ (lv k S) (r+1)) t))
  split<;>omega
theorem weigh(hS:S.Pairwise (Lt k)):∀r t,t<=(sZ (lv k S) r).length->sm (fun s=>2 ^ (r+1-gcZ k S r t s)) S+2 ^ r*t=S.length*2 ^ (r+1)
 |0,t,ht=>by
  have hN:S.Nodup:=hS.imp fun h e=>by subst e;exact Lt.irrefl h
  rw[meZ]at ht
  have e:sm (fun s=>2 ^ (0+1-gcZ k S 0 t s)) S=sm (fun s=>2 ^ (0+1-gcZ k S 0 t s)) (S.take t)+sm (fun s=>2 ^ (0+1-gcZ k S 0 t s)) (S.drop t):=by rw[<-uiZ,List.take_append_drop]
  have e1:sm (fun s=>2 ^ (0+1-gcZ k S 0 t s)) (S.take t)=sm (fun _=>1) (S.take t):=ugZ fun s hs=>by
   rw[gcZ,aoZ t ht,if_pos hs]
  have e2:sm (fun s=>2 ^ (0+1-gcZ k S 0 t s)) (S.drop t)=sm (fun _=>2) (S.drop t):=ugZ fun s hs=>by
   rw[gcZ,aoZ t ht,if_neg]
   intro hs'
   have:=List.nodup_append.1 (by rw[List.take_append_drop];exact hN:(S.take t++S.drop t).Nodup)
   exact this.2.2 s hs' s hs rfl
  rw[e,e1,e2,ckZ,ckZ,List.length_take,List.length_drop,Nat.min_eq_left ht]
  omega
 |r+1,t,ht=>by
  have hN:S.Nodup:=hS.imp fun h e=>by subst e;exact Lt.irrefl h
  obtain⟨h1,h2⟩:=nfZb hS r t ht
  have ih:=weigh hS r _ h1
  obtain⟨n',q,g1,g2,g3,g4,_⟩:=bkZ r t ht
  have e0:∀s,gcZ k S (r+1) t s=(if s∈S.take n' then 1 else 0)+gcZ k S r (2*q) s:=fun s=>by rw[gcZ,g4,show t-n'=q by omega]
  rw[g4,show t-n'=q by omega]at h1 h2 ih
  have e:sm (fun s=>2 ^ (r+1+1-gcZ k S (r+1) t s)) S=sm (fun s=>2 ^ (r+1-gcZ k S r (2*q) s)) (S.take n')+sm (fun s=>2 ^ (r+1-gcZ k S r (2*q) s)+2 ^ (r+1)) (S.drop n'):=by
   rw[<-List.take_append_drop n' S,uiZ,List.take_append_drop]
   congr 1
   ·refine ugZ fun s hs=> ?_
    rw[e0,if_pos hs]
    congr 1
    omega
   ·refine ugZ fun s hs=> ?_
    have hs':s ∉ S.take n':=by
     intro hs'
     have:=List.nodup_append.1 (by rw[List.take_append_drop];exact hN:(S.take n'++S.drop n').Nodup)
     exact this.2.2 s hs' s hs rfl
    rw[e0,if_neg hs',nyZ hS hs' r (2*q) h1 h2]
    simp only[Nat.add_zero,Nat.sub_zero]
    rw[Nat.pow_succ 2 (r+1)]
    omega
  rw[e,jrZb,ckZ,List.length_drop,<-Nat.add_assoc,<-uiZ,List.take_append_drop]
  have e5:2 ^ (r+1)*t=n'*2 ^ (r+1)+2 ^ r*(2*q):=by
   rw[<-g1,Nat.mul_add,Nat.mul_comm _ n',<-Nat.mul_assoc,<-Nat.pow_succ]
  have e6:(S.length-n')*2 ^ (r+1)+n'*2 ^ (r+1)=S.length*2 ^ (r+1):=by
   rw[<-Nat.add_mul,Nat.sub_add_cancel g2]
  have e7:S.length*2 ^ (r+1+1)=S.length*2 ^ (r+1)+S.length*2 ^ (r+1):=by
   rw[Nat.pow_succ 2 (r+1),<-Nat.mul_assoc];omega
  omega
theorem full(hS:S.Pairwise (Lt k))(hn:2<=S.length){limit:Nat}(hl:1<=limit)(h:S.length<=2 ^ limit):
 sm (fun s=>2 ^ (limit-gcZ k S (limit-1) (2*S.length-2) s)) S=2 ^ limit/\∀s∈S,1<=gcZ k S (limit-1) (2*S.length-2) s:=by
 have ht:=ytZ (k:=k) hl (by omega) h
 have hw:=weigh hS (limit-1) _ ht
 rw[show limit-1+1=limit by omega]at hw
 have e3:2 ^ (limit-1)*(2*S.length-2)+2 ^ limit=S.length*2 ^ limit:=by
  obtain⟨m,rfl⟩:∃m,limit=m+1:=⟨limit-1,by omega⟩
  obtain⟨n,hn'⟩:∃n,S.length=n+1:=⟨S.length-1,by omega⟩
  rw[hn',Nat.add_sub_cancel,show 2*(n+1)-2=2*n by omega,Nat.pow_succ,Nat.add_mul,Nat.one_mul,<-Nat.mul_assoc,Nat.mul_comm n]
 have hsum:sm (fun s=>2 ^ (limit-gcZ k S (limit-1) (2*S.length-2) s)) S=2 ^ limit:=by omega
 refine⟨hsum,fun s hs=> ?_⟩
 rcases Nat.eq_zero_or_pos (gcZ k S (limit-1) (2*S.length-2) s)with h0|h0
 ·exfalso
  obtain⟨a,b,hab⟩:=List.append_of_mem hs
  have e4:sm (fun s=>2 ^ (limit-gcZ k S (limit-1) (2*S.length-2) s)) S=sm (fun s=>2 ^ (limit-gcZ k S (limit-1) (2*S.length-2) s)) (a++s :: b):=congrArg _ hab
  rw[hsum,uiZ,sm,h0]at e4
  have e5:∀T:List Nat,T.length<=sm (fun s=>2 ^ (limit-gcZ k S (limit-1) (2*S.length-2) s)) T:=fun T=>by
   have:=yrZb (f:=fun _=>1) (g:=fun s=>2 ^ (limit-gcZ k S (limit-1) (2*S.length-2) s)) (l:=T) fun s _=>Nat.two_pow_pos _
   rw[ckZ]at this
   omega
  have h1:=e5 a
  have h2:=e5 b
  have h3:S.length=a.length+(b.length+1):=by rw[hab,List.length_append,List.length_cons]
  simp only[Nat.sub_zero]at e4
  omega
 ·exact h0
theorem dnZb(r t s:Nat)(hs:s ∉ S):gcZ k S r t s=0:=by
 induction r generalizing t with
 |zero=>rw[gcZ,if_neg fun h=>hs (List.mem_of_mem_take h)]
 |succ r ih=>rw[gcZ,if_neg fun h=>hs (List.mem_of_mem_take h),ih]
end
end Go.Proofs.YtmlaajebadfkoaaGreatDoor.Lens
namespace Go.Proofs.YtmlaajebadfkoaaGreatDoor.Srt
open Go.RowKit Mem Own
def All(N n:Nat)(f:Nat->Nat):Prop:=∀i,i<n->f i<N
theorem All.mer{N n a b:Nat}{k f f':Nat->Nat}(h:All N n f)(hm:Mer k f f' a b)(hb:b<=n):All N n f':=fun i hi=>by
 by_cases e:a<=i/\i<b
 ·obtain⟨i',h1,h2,h3⟩:=hm.mem e.1 e.2
  rw[<-h3];exact h i' (by omega)
 ·rw[hm.2.2 i (by omega)];exact h i hi
theorem All.rot{N n a m b:Nat}{f:Nat->Nat}(h:All N n f)(ham:a<=m)(hmb:m<=b)(hb:b<=n):All N n (rot f a m b):=fun i hi=>by
 unfold Srt.rot
 split
 ·exact h _ (by omega)
 ·split
  ·exact h _ (by omega)
  ·exact h i hi
def mhZ(a b:Nat):Int:=if a<b then-1 else if b<a then 1 else 0
theorem xrZ{a b:Nat}(h:a<b):mhZ a b<0:=by unfold mhZ;rw[if_pos h];omega
theorem yrZ{a b:Nat}(h:¬a<b):0<=mhZ a b:=by unfold mhZ;rw[if_neg h];split<;>omega
def CmpOk(Bo g N:Nat)(w0:World)(k:Nat->Nat):Prop:=∀ (x y:Nat) (w:World),x<N->y<N->Kept (fun b=>b<w0.heap.size/\b≠g) w0 w->
 Calls Tryz.prog 308 #[.int .i64 x, .int .i64 y, .pointer (some ⟨Bo,0,none⟩)] w fun e w'=>e= .returned (.int .i64 (mhZ (k x) (k y)))/\∃q,w'=w.drewN q
theorem CmpOk.keep{Bo g N:Nat}{w0 w1:World}{k:Nat->Nat}(h:CmpOk Bo g N w0 k)(hk:Kept (fun b=>b<w0.heap.size/\b≠g) w0 w1):CmpOk Bo g N w1 k:=by
 intro x y w hx hy hw
 have hz:=hk.size
 exact h x y w hx hy (hk.trans ⟨hw.os,hw.tape,hw.output,hw.size,fun b hb=>hw.block b ⟨by have:=hb.1;omega,hb.2⟩⟩)
def viZ(k f:Nat->Nat)(g n a b:Nat)(w:World)(e:Ending)(w':World):Prop:=e= .returned (.tuple #[])/\∃f',Put g n f' w w'/\Mer k f f' a b
def uzZ(k f:Nat->Nat)(g n a m:Nat)(w:World)(wr:World):Prop:=∃f',Put g n f' w wr/\Mer k f f' a m
def lhZb(k f1:Nat->Nat)(g n m j:Nat)(w:World)(wr:World):Prop:=Put g n (rot f1 j m (m+1)) w wr/\(j=m∨k (f1 m)<k (f1 j))
theorem cqZb(w:World)(Bo g n c a b N:Nat)(k f:Nat->Nat)(hN:n<=4611686018427387904)(hab:a<=b)(hb:b<=n)(h0:∀i j,a<=i->i<j->j<b->f i<f j)(hall:All N n f)(hd:Dat w g n f)(hc:CmpOk Bo g N w k):
 Calls Tryz.prog 320 #[.slice (some ⟨g,0,none⟩) n c, .int .i64 a, .int .i64 b, .func (Fn.func 308) #[] #[.pointer (some ⟨Bo,0,none⟩)]] w (viZ k f g n a b w):=by
 have H0:=hid h0
 have HC:=hid hc
 have HD:=hid hd
 have HA:=hid hall
 clear h0 hc hd hall
 have eK:∀args w,(callFunc 308 args).run Tryz.prog w= .ok (.enter 308 args) w:=fun args w=>by simp[callFunc,go_sem,Tryz.func308];rfl
 by_cases hlt:a<b
 ·have p0:Hid (uzZ k f g n a (a+1) w w):=⟨f,Put.refl HD.out,Mer.refl (Sor.few (by omega))⟩
  go_enter Tryz.func320,Tryz.ntmps320
  go_wp2_with fail
  go_loopw [8] (fun i wr=>∃m:Nat,a+1<=m/\m<=b/\i= .int .i64 m/\Hid (uzZ k f g n a m w wr)) (fun i _=>b-(intOf i).toNat)
  case atStart=>exact⟨a+1,by omega,by omega,by go_num,p0⟩
  case round=>
   clear p0
   obtain⟨m,hm1,hm2,rfl,hI⟩:=hrel
   by_cases hmb:m<b
   ·obtain⟨f1,hp1,hmer⟩:=hI.out
    have q0:Hid (lhZb k f1 g n m m w wr):=by
     refine⟨?_, .inl rfl⟩
     rw[ivZ f1 (Nat.le_refl _) (by omega) (.inl rfl)]
     exact hp1
    have HM:=hid hmer
    have HA1:=hid (HA.out.mer hmer (by omega))
    clear hI hp1 hmer
    obtain⟨wo,rfl⟩:∃wo:World,wo=wr:=⟨_,rfl⟩
    go_wp2_with fail
    go_loopw [9] (fun jv wr=>∃j:Nat,a<=j/\j<=m/\jv= .int .i64 j/\Hid (lhZb k f1 g n m j w wr)) (fun j _=>(intOf j).toNat)
    case atStart=>exact⟨m,by omega,by omega,rfl,q0⟩
    case round=>
     clear q0
     obtain⟨j,hj1,hj2,rfl,hQ⟩:=hrel
     have c1:=hQ.out.1.1.cell (i:=j) (by omega)
     rw[tkZ f1 (Nat.le_refl _) (by omega),show j+(m-j)=m by omega]at c1
     have f1':=hQ.out.1.1.frozen j
     by_cases hja:a<j
     ·have c2:=hQ.out.1.1.cell (i:=j-1) (by omega)
      rw[anZ f1 (by omega)]at c2
      have f2:=hQ.out.1.1.frozen (j-1)
      have hcm:=fun q=>HC.out (f1 m) (f1 (j-1)) (wr.drewN q) (HA1.out m (by omega)) (HA1.out (j-1) (by omega)) (hQ.out.1.2.drewN q)
      have s1:IntKind.i64.wrap ((j:Int)-1)=(j:Int)-1:=IntWalk.i64_in _ (by omega)
      have x3:(0:Int)<=(j:Int):=by omega
      have x4:(j:Int)<(n:Int):=by omega
      have x1:(0:Int)<=(j:Int)-1:=by omega
      have y1:(1:Int)<=(j:Int):=by omega
      have y3:0<j:=by omega
      have y4:(0:Int)<(j:Int):=by omega
      have x2:(j:Int)-1<(n:Int):=by omega
      have x5:((j:Int)-1).toNat=j-1:=by omega
      obtain⟨cv,hcv⟩:∃cv,cv=mhZ (k (f1 m)) (k (f1 (j-1))):=⟨_,rfl⟩
      by_cases hk:k (f1 m)<k (f1 (j-1))
      ·have d1:cv<0:=by rw[hcv];exact xrZ hk
       rw[<-hcv]at hcm
       have HNX:∀q,Hid (lhZb k f1 g n m (j-1) w (((wr.drewN q).setCell ⟨g,j,none⟩ (.int .i64 (f1 (j-1):Nat))).setCell ⟨g,j-1,none⟩ (.int .i64 (f1 m:Nat)))):=by
        intro q
        have hsw:=(hQ.out.1.drewN q).swap (p:=j) (q:=j-1) (by omega) (by omega) (by omega)
        have e:=kbZb f1 m (j-1) (by omega)
        rw[show j-1+1=j by omega]at e
        rw[e,anZ f1 (by omega),tkZ f1 (Nat.le_refl _) (by omega),show j+(m-j)=m by omega]at hsw
        exact⟨hsw, .inr hk⟩
       clear hcv
       generalize f1 m=v1 at *
       generalize f1 (j-1)=v2 at *
       go_wp2_with fail
       go_quiet ((go_at_call 308;exact Calls.quiet_of (hcm _)))
       go_wp2_with fail
       go_region
       have HNX2:=HNX (nq+1)
       clear HNX s1 x5 hcm hk c1 c2 hQ
       go_wp2_with fail
       go_roundw
       case rel=>go_light;exact⟨j-1,by omega,by omega,congrArg (Value.int .i64) (by omega),HNX2⟩
       case measure=>go_light;simp[intOf];omega
      ·have d1:¬cv<0:=by rw[hcv];have:=yrZ hk;omega
       rw[<-hcv]at hcm
       have HX:∀q,Hid (uzZ k f g n a (m+1) w (wr.drewN q)):=fun q=>
        ⟨_,hQ.out.1.drewN q,mbZb H0.out HM.out hmb (by omega) hj1 hj2 (.inr (by omega)) hQ.out.2⟩
       clear hcv hk
       generalize f1 m=v1 at *
       generalize f1 (j-1)=v2 at *
       go_wp2_with fail
       go_quiet ((go_at_call 308;exact Calls.quiet_of (hcm _)))
       have HX2:=HX nq
       clear HX s1 x5 hcm c1 c2 hQ
       go_wp2_with fail
       go_roundw
       case rel=>go_light;exact⟨m+1,by omega,by omega,by go_num,HX2⟩
       case measure=>go_light;simp[intOf];omega
     ·obtain rfl:j=a:=by omega
      have HX:∀q,Hid (uzZ k f g n j (m+1) w (wr.drewN q)):=fun q=>
       ⟨_,hQ.out.1.drewN q,mbZb H0.out HM.out hmb (by omega) hj1 hj2 (.inl rfl) hQ.out.2⟩
      have d0:decide (j<j)=false:=by simp
      have d1:decide ((j:Int)<(j:Int))=false:=by simp
      generalize f1 m=v1 at *
      go_wp2_with fail
      go_quiet (fail)
      have HX2:=HX nq
      clear HX c1 hQ d0 d1
      go_wp2_with fail
      go_roundw
      case rel=>go_light;exact⟨m+1,by omega,by omega,by go_num,HX2⟩
      case measure=>go_light;simp[intOf];omega
   ·obtain rfl:m=b:=by omega
    go_wp2_with fail
    refine bodyPost_end (results_none rfl _ _ _) rfl ⟨rfl,hI.out⟩
 ·obtain rfl:a=b:=by omega
  go_enter Tryz.func320,Tryz.ntmps320
  go_wp2_with fail
  refine wp_loop_rounds 1 ?_
  rw[rounds_succ]
  go_wp2_with fail
  refine bodyPost_end (results_none rfl _ _ _) rfl ⟨rfl,f,Put.refl HD.out,Mer.refl (Sor.few (by omega))⟩
end Go.Proofs.YtmlaajebadfkoaaGreatDoor.Srt
namespace Go.Proofs.YtmlaajebadfkoaaGreatDoor.Srt
open Go.RowKit Mem Own
def Drawn(w wr:World):Prop:=∃q,wr=w.drewN q
theorem Drawn.refl(w:World):Drawn w w:=⟨0,(World.drewN_zero w).symm⟩
theorem Drawn.more{w wr:World}(h:Drawn w wr)(q:Nat):Drawn w (wr.drewN q):=by
 obtain⟨p,rfl⟩:=h
 exact⟨p+q,World.drewN_drewN _ _ _⟩
theorem Drawn.kept{K:Nat->Prop}{w wr:World}(h:Drawn w wr):Kept K w wr:=by
 obtain⟨p,rfl⟩:=h
 exact(Kept.refl _ _).drewN p
theorem Drawn.dat{w wr:World}{g n:Nat}{f:Nat->Nat}(h:Drawn w wr)(hd:Dat w g n f):Dat wr g n f:=by
 obtain⟨p,rfl⟩:=h
 exact hd.drewN p
theorem Drawn.put{w wr:World}{g n:Nat}{f:Nat->Nat}(h:Drawn w wr)(hd:Dat w g n f):Put g n f w wr:=⟨h.dat hd,h.kept⟩
def mpZ(P:Nat->Prop)(lo hi i j:Nat):Prop:=(i=lo∨P (i-1))/\(j=hi∨¬P j)
theorem enZb(w:World)(Bo g n c a b N:Nat)(k f:Nat->Nat)(hN:n<=4611686018427387904)(hab:a+1<b)(hb:b<=n)(hr:Sor k f (a+1) b)(hlow:Low f a (a+1) b)(hall:All N n f)(hd:Dat w g n f)(hc:CmpOk Bo g N w k):
 Calls Tryz.prog 321 #[.slice (some ⟨g,0,none⟩) n c, .int .i64 a, .int .i64 ((a+1:Nat):Int), .int .i64 b, .func (Fn.func 308) #[] #[.pointer (some ⟨Bo,0,none⟩)]] w (viZ k f g n a b w):=by
 have eK:∀args w,(callFunc 308 args).run Tryz.prog w= .ok (.enter 308 args) w:=fun args w=>by simp[callFunc,go_sem,Tryz.func308];rfl
 have HR:=hid hr
 have HL:=hid hlow
 have HC:=hid hc
 have HD:=hid hd
 have HA:=hid hall
 obtain⟨m,hm⟩:∃m,m=a+1:=⟨_,rfl⟩
 have b0:((m:Int)-(a:Int)==1)=true:=by simp;omega
 rw[<-hm]
 have HM:=hid hm
 have hm1:a+1<=m:=by omega
 have hm2:m<=a+1:=by omega
 clear hr hlow hc hd hall hm
 go_enter Tryz.func321,Tryz.ntmps321
 go_wp2_with fail
 go_loopw [10,11] (fun iv jv wr=>∃i j:Nat,m<=i/\i<=j/\j<=b/\iv= .int .i64 i/\jv= .int .i64 j/\Hid (mpZ (fun i=>k (f i)<k (f a)) m b i j)/\Hid (Drawn w wr)) (fun i j _=>(intOf j).toNat-(intOf i).toNat)
 case atStart=>exact⟨m,b,by omega,by omega,by omega,rfl,rfl,⟨.inl rfl, .inl rfl⟩,Drawn.refl w⟩
 case round=>
  obtain⟨i,j,hi1,hij,hj1,rfl,rfl,hQ,hD⟩:=hrel
  by_cases hlt:i<j
  ·obtain⟨h,hh⟩:∃h,h=(i+j) / 2:=⟨_,rfl⟩
   have hh1:i<=h:=by omega
   have hh2:h<j:=by omega
   have hE:Hid (((i:Int)+(j:Int)) / 2=(h:Int)):=by show _=_;omega
   clear hh
   have c1:=(hD.out.dat HD.out).cell (i:=h) (by omega)
   have c2:=(hD.out.dat HD.out).cell (i:=a) (by omega)
   have hcm:=fun q=>HC.out (f h) (f a) (wr.drewN q) (HA.out h (by omega)) (HA.out a (by omega)) ((hD.out.more q).kept)
   have x3:(0:Int)<=(h:Int):=by omega
   have x4:(h:Int)<(n:Int):=by omega
   have x5:(0:Int)<=(a:Int):=by omega
   have x6:(a:Int)<(n:Int):=by omega
   obtain⟨cv,hcv⟩:∃cv,cv=mhZ (k (f h)) (k (f a)):=⟨_,rfl⟩
   rw[<-hcv]at hcm
   have HD2:∀q,Hid (Drawn w (wr.drewN q)):=fun q=>hD.out.more q
   by_cases hk:k (f h)<k (f a)
   ·have d1:cv<0:=by rw[hcv];exact xrZ hk
    have HX:Hid (mpZ (fun i=>k (f i)<k (f a)) m b (h+1) j):=⟨.inr hk,hQ.out.2⟩
    clear hcv hk hQ
    generalize f h=v1 at *
    generalize f a=v2 at *
    go_wp2_with fail
    rw[hE.out]
    go_quiet ((go_at_call 308;exact Calls.quiet_of (hcm _)))
    have HD3:=HD2 nq
    clear HD2 hcm c1 c2 hD
    go_wp2_with fail
    go_roundw
    case rel=>go_light;exact⟨h+1,j,by omega,by omega,by omega,by go_num,rfl,HX,HD3⟩
    case measure=>go_light;simp[intOf];omega
   ·have d1:¬cv<0:=by rw[hcv];have:=yrZ hk;omega
    have HX:Hid (mpZ (fun i=>k (f i)<k (f a)) m b i h):=⟨hQ.out.1, .inr hk⟩
    clear hcv hk hQ
    generalize f h=v1 at *
    generalize f a=v2 at *
    go_wp2_with fail
    rw[hE.out]
    go_quiet ((go_at_call 308;exact Calls.quiet_of (hcm _)))
    have HD3:=HD2 nq
    clear HD2 hcm c1 c2 hD
    go_wp2_with fail
    go_roundw
    case rel=>go_light;exact⟨i,h,by omega,by omega,by omega,rfl,rfl,HX,HD3⟩
    case measure=>go_light;simp[intOf];omega
  ·obtain rfl:i=j:=by omega
   have p0:Hid (Put g n (rot f a m (m+0)) w wr):=by
    show Put _ _ _ _ _
    rw[Nat.add_zero,ivZ f (by omega) (Nat.le_refl _) (.inr rfl)]
    exact hD.out.put HD.out
   have HF:Hid (viZ k f g n a b w (.returned (.tuple #[]))=viZ k f g n a b w (.returned (.tuple #[]))):=rfl
   have HMER:Hid (Mer k f (rot f a m i) a b):=by
    have e:=HM.out
    subst e
    refine gkZb hi1 (by omega) HR.out HL.out ?_ ?_
    ·rcases hQ.out.2 with h|h
     ·exact .inl h
     ·exact .inr (by omega)
    ·exact hQ.out.1
   clear hD hQ HF
   obtain⟨wo,rfl⟩:∃wo:World,wo=wr:=⟨_,rfl⟩
   go_wp2_with fail
   go_loopw [13] (fun kv wr=>∃t:Nat,m+t<=i/\kv= .int .i64 ((a+t:Nat):Int)/\Hid (Put g n (rot f a m (m+t)) w wr)) (fun kv _=>i-(intOf kv).toNat)
   case atStart=>exact⟨0,by omega,rfl,p0⟩
   case round=>
    clear p0
    obtain⟨t,ht,rfl,hp⟩:=hrel
    by_cases hlt:m+t<i
    ·obtain⟨p,hp0⟩:∃p,p=a+t:=⟨_,rfl⟩
     have c1:=hp.out.1.cell (i:=p) (by omega)
     have c2:=hp.out.1.cell (i:=p+1) (by omega)
     have f1:=hp.out.1.frozen p
     have f2:=hp.out.1.frozen (p+1)
     have hsw:=(hp.out.swap (p:=p) (q:=p+1) (by omega) (by omega) (by omega)).drew
     have e:=hrZb f a t
     rw[<-HM.out,<-hp0]at e
     rw[e]at hsw
     have HNX:=hid hsw
     rw[<-hp0]
     have hp1:p<i-1:=by omega
     have hp2:a+(t+1)=p+1:=by omega
     have HP2:=hid hp2
     clear hsw e hp hp0 hp2
     generalize rot f a m (m+t) p=v1 at *
     generalize rot f a m (m+t) (p+1)=v2 at *
     have s1:IntKind.i64.wrap ((p:Int)+1)=(p:Int)+1:=IntWalk.i64_in _ (by omega)
     have x1:(0:Int)<=(p:Int):=by omega
     have x2:(0:Int)<=(p:Int)+1:=by omega
     have x3:(p:Int)<(n:Int):=by omega
     have x4:(p:Int)+1<(n:Int):=by omega
     have x6:((p:Int)+1).toNat=p+1:=by omega
     have x7:(p:Int)<(i:Int)-1:=by omega
     go_wp2_with fail
     go_region
     clear s1 x6
     go_wp2_with fail
     go_roundw
     case rel=>go_light;exact⟨t+1,by omega,congrArg (Value.int .i64) (by have:=HP2.out;omega),HNX⟩
     case measure=>go_light;simp[intOf];omega
    ·obtain rfl:m+t=i:=by omega
     have x7:¬(a+t<m+t-1):=by omega
     have x8:¬(((a+t:Nat):Int)<((m+t:Nat):Int)-1):=by omega
     go_wp2_with fail
     refine bodyPost_ret (v:= .tuple #[]) (results_none rfl _ _ _) rfl ⟨rfl,_,hp.out,HMER.out⟩
theorem hkZb(w:World)(Bo g n c a m N:Nat)(k f:Nat->Nat)(hN:n<=4611686018427387904)(ham:a+1<m)(hb:m+1<=n)(hl:Sor k f a m)(hlow:Low f a m (m+1))(hall:All N n f)(hd:Dat w g n f)(hc:CmpOk Bo g N w k):
 Calls Tryz.prog 321 #[.slice (some ⟨g,0,none⟩) n c, .int .i64 a, .int .i64 m, .int .i64 ((m+1:Nat):Int), .func (Fn.func 308) #[] #[.pointer (some ⟨Bo,0,none⟩)]] w (viZ k f g n a (m+1) w):=by
 have eK:∀args w,(callFunc 308 args).run Tryz.prog w= .ok (.enter 308 args) w:=fun args w=>by simp[callFunc,go_sem,Tryz.func308];rfl
 have HL:=hid hl
 have HLW:=hid hlow
 have HC:=hid hc
 have HD:=hid hd
 have HA:=hid hall
 obtain⟨b,hm⟩:∃b,b=m+1:=⟨_,rfl⟩
 have b0:((m:Int)-(a:Int)==1)=false:=by simp;omega
 have b1:((b:Int)-(m:Int)==1)=true:=by simp;omega
 rw[<-hm]
 have HM:=hid hm
 have hm1:m+1<=b:=by omega
 have hm2:b<=m+1:=by omega
 clear hl hlow hc hd hall hm
 go_enter Tryz.func321,Tryz.ntmps321
 go_wp2_with fail
 go_loopw [14,15] (fun iv jv wr=>∃i j:Nat,a<=i/\i<=j/\j<=m/\iv= .int .i64 i/\jv= .int .i64 j/\Hid (mpZ (fun i=>¬k (f m)<k (f i)) a m i j)/\Hid (Drawn w wr)) (fun i j _=>(intOf j).toNat-(intOf i).toNat)
 case atStart=>exact⟨a,m,by omega,by omega,by omega,rfl,rfl,⟨.inl rfl, .inl rfl⟩,Drawn.refl w⟩
 case round=>
  obtain⟨i,j,hi1,hij,hj1,rfl,rfl,hQ,hD⟩:=hrel
  by_cases hlt:i<j
  ·obtain⟨h,hh⟩:∃h,h=(i+j) / 2:=⟨_,rfl⟩
   have hh1:i<=h:=by omega
   have hh2:h<j:=by omega
   have hE:Hid (((i:Int)+(j:Int)) / 2=(h:Int)):=by show _=_;omega
   clear hh
   have c1:=(hD.out.dat HD.out).cell (i:=h) (by omega)
   have c2:=(hD.out.dat HD.out).cell (i:=m) (by omega)
   have hcm:=fun q=>HC.out (f m) (f h) (wr.drewN q) (HA.out m (by omega)) (HA.out h (by omega)) ((hD.out.more q).kept)
   have x3:(0:Int)<=(h:Int):=by omega
   have x4:(h:Int)<(n:Int):=by omega
   have x5:(0:Int)<=(m:Int):=by omega
   have x6:(m:Int)<(n:Int):=by omega
   obtain⟨cv,hcv⟩:∃cv,cv=mhZ (k (f m)) (k (f h)):=⟨_,rfl⟩
   rw[<-hcv]at hcm
   have HD2:∀q,Hid (Drawn w (wr.drewN q)):=fun q=>hD.out.more q
   by_cases hk:k (f m)<k (f h)
   ·have d1:decide (cv<0)=true:=by rw[hcv];have:=xrZ hk;simpa using this
    have HX:Hid (mpZ (fun i=>¬k (f m)<k (f i)) a m i h):=⟨hQ.out.1, .inr (fun hn=>hn hk)⟩
    clear hcv hk hQ
    generalize f h=v1 at *
    generalize f m=v2 at *
    go_wp2_with fail
    rw[hE.out]
    go_quiet ((go_at_call 308;exact Calls.quiet_of (hcm _)))
    have HD3:=HD2 nq
    clear HD2 hcm c1 c2 hD
    go_wp2_with fail
    go_roundw
    case rel=>go_light;exact⟨i,h,by omega,by omega,by omega,rfl,rfl,HX,HD3⟩
    case measure=>go_light;simp[intOf];omega
   ·have d1:decide (cv<0)=false:=by rw[hcv];have:=yrZ hk;simp;omega
    have HX:Hid (mpZ (fun i=>¬k (f m)<k (f i)) a m (h+1) j):=⟨.inr hk,hQ.out.2⟩
    clear hcv hk hQ
    generalize f h=v1 at *
    generalize f m=v2 at *
    go_wp2_with fail
    rw[hE.out]
    go_quiet ((go_at_call 308;exact Calls.quiet_of (hcm _)))
    have HD3:=HD2 nq
    clear HD2 hcm c1 c2 hD
    go_wp2_with fail
    go_roundw
    case rel=>go_light;exact⟨h+1,j,by omega,by omega,by omega,by go_num,rfl,HX,HD3⟩
    case measure=>go_light;simp[intOf];omega
  ·obtain rfl:i=j:=by omega
   have p0:Hid (Put g n (rot f m m (m+1)) w wr):=by
    show Put _ _ _ _ _
    rw[ivZ f (Nat.le_refl _) (by omega) (.inl rfl)]
    exact hD.out.put HD.out
   have HMER:Hid (Mer k f (rot f i m (m+1)) a (m+1)):=by
    refine lbZb hi1 hj1 HL.out HLW.out ?_ ?_
    ·rcases hQ.out.1 with h|h
     ·exact .inl h
     ·exact .inr (by omega)
    ·rcases hQ.out.2 with h|h
     ·exact .inl h
     ·exact .inr (by omega)
   clear hD hQ
   obtain⟨wo,rfl⟩:∃wo:World,wo=wr:=⟨_,rfl⟩
   go_wp2_with fail
   go_loopw [17] (fun kv wr=>∃t:Nat,i<=t/\t<=m/\kv= .int .i64 (t:Int)/\Hid (Put g n (rot f t m (m+1)) w wr)) (fun kv _=>(intOf kv).toNat)
   case atStart=>exact⟨m,by omega,by omega,rfl,p0⟩
   case round=>
    clear p0
    obtain⟨t,ht1,ht2,rfl,hp⟩:=hrel
    by_cases hlt:i<t
    ·have c1:=hp.out.1.cell (i:=t) (by omega)
     have c2:=hp.out.1.cell (i:=t-1) (by omega)
     have f1:=hp.out.1.frozen t
     have f2:=hp.out.1.frozen (t-1)
     have hsw:=(hp.out.swap (p:=t) (q:=t-1) (by omega) (by omega) (by omega)).drew
     have e:=kbZb f m (t-1) (by omega)
     rw[show t-1+1=t by omega]at e
     rw[e]at hsw
     have HNX:=hid hsw
     clear hsw e hp
     generalize rot f t m (m+1) t=v1 at *
     generalize rot f t m (m+1) (t-1)=v2 at *
     have s1:IntKind.i64.wrap ((t:Int)-1)=(t:Int)-1:=IntWalk.i64_in _ (by omega)
     have x1:(0:Int)<=(t:Int):=by omega
     have x2:(0:Int)<=(t:Int)-1:=by omega
     have x3:(t:Int)<(n:Int):=by omega
     have x4:(t:Int)-1<(n:Int):=by omega
     have x6:((t:Int)-1).toNat=t-1:=by omega
     have y1:(1:Int)<=(t:Int):=by omega
     have y3:0<t:=by omega
     have y4:(0:Int)<(t:Int):=by omega
     go_wp2_with fail
     go_region
     clear s1 x6
     go_wp2_with fail
     go_roundw
     case rel=>go_light;exact⟨t-1,by omega,by omega,congrArg (Value.int .i64) (by omega),HNX⟩
     case measure=>go_light;simp[intOf];omega
    ·obtain rfl:i=t:=by omega
     go_wp2_with fail
     refine bodyPost_ret (v:= .tuple #[]) (results_none rfl _ _ _) rfl ⟨rfl,_,hp.out,?_⟩
     rw[HM.out]
     exact HMER.out
end Go.Proofs.YtmlaajebadfkoaaGreatDoor.Srt
namespace Go.Proofs.YtmlaajebadfkoaaGreatDoor.Srt
open Go.RowKit Mem Own
def gpZb(Bo g n c N:Nat)(k:Nat->Nat)(d:Nat):Prop:=∀ (w:World) (a m b:Nat) (f:Nat->Nat),b-a<=d->a<m->m<b->b<=n->Sor k f a m->Sor k f m b->Low f a m b->All N n f->Dat w g n f->CmpOk Bo g N w k->
 Calls Tryz.prog 321 #[.slice (some ⟨g,0,none⟩) n c, .int .i64 a, .int .i64 m, .int .i64 b, .func (Fn.func 308) #[] #[.pointer (some ⟨Bo,0,none⟩)]] w (viZ k f g n a b w)
def wqZ(a m b mid lo hi:Nat):Prop:=(mid<m/\lo+b=mid+m/\hi=mid)∨(m<=mid/\lo=a/\hi=m)
structure Halves (k F1:Nat->Nat) (a s mid e b:Nat):Prop where
 s1:Sor k F1 a s
 s2:Sor k F1 s mid
 l1:Low F1 a s mid
 s3:Sor k F1 mid e
 s4:Sor k F1 e b
 l2:Low F1 mid e b
theorem Low.congr{f g:Nat->Nat}{a m b:Nat}(h:Low f a m b)(he:∀i,a<=i->i<b->g i=f i):Low g a m b:=fun i j h1 h2 h3 h4=>by
 rw[he i h1 (by omega),he j (by omega) h4];exact h i j h1 h2 h3 h4
theorem fnZb(w:World)(Bo g n c a m b N:Nat)(k f:Nat->Nat)(d:Nat)(ih:gpZb Bo g n c N k d)(hd0:b-a<=d+1)(hN:n<=4611686018427387904)(ham:a+1<m)(hmb:m+1<b)(hb:b<=n)
 (hl:Sor k f a m)(hr:Sor k f m b)(hlow:Low f a m b)(hall:All N n f)(hd:Dat w g n f)(hc:CmpOk Bo g N w k):
 Calls Tryz.prog 321 #[.slice (some ⟨g,0,none⟩) n c, .int .i64 a, .int .i64 m, .int .i64 b, .func (Fn.func 308) #[] #[.pointer (some ⟨Bo,0,none⟩)]] w (viZ k f g n a b w):=by
 have eK:∀args w,(callFunc 308 args).run Tryz.prog w= .ok (.enter 308 args) w:=fun args w=>by simp[callFunc,go_sem,Tryz.func308];rfl
 have IH:=hid ih
 have HL:=hid hl
 have HR:=hid hr
 have HLW:=hid hlow
 have HC:=hid hc
 have HD:=hid hd
 have HA:=hid hall
 have b0:((m:Int)-(a:Int)==1)=false:=by simp;omega
 have b1:((b:Int)-(m:Int)==1)=false:=by simp;omega
 obtain⟨mid,hmid⟩:∃mid,mid=(a+b) / 2:=⟨_,rfl⟩
 have E1:Hid (((a:Int)+(b:Int)) / 2=(mid:Int)):=by show _=_;omega
 obtain⟨nn,hnn⟩:∃nn,nn=mid+m:=⟨_,rfl⟩
 have E2:Hid ((mid:Int)+(m:Int)=(nn:Int)):=by show _=_;omega
 have E3:Hid ((nn:Int)-1=((nn-1:Nat):Int)):=by show _=_;omega
 obtain⟨p,hp⟩:∃p,p=nn-1:=⟨_,rfl⟩
 rw[<-hp]at E3
 have M1:a<mid:=by omega
 have M2:mid<b:=by omega
 have M3:mid+m<=nn:=by omega
 have M4:nn<=mid+m:=by omega
 have M5:p+1<=nn:=by omega
 have M6:nn<=p+1:=by omega
 have M7:2*mid<=a+b:=by omega
 have M8:a+b<=2*mid+1:=by omega
 clear ih hl hr hlow hc hd hall hmid hnn hp
 go_enter Tryz.func321,Tryz.ntmps321
 go_upto_region 25 with fail
 rw[E1.out]
 go_upto_region 26 with fail
 rw[E2.out]
 go_upto_if 140 with fail
 go_cut [20,21] (fun sv rv wx=>∃lo hi:Nat,sv= .int .i64 lo/\rv= .int .i64 hi/\Hid (wqZ a m b mid lo hi)/\w=wx)
 case first=>
  by_cases hmm:mid<m
  ·go_wp2_with fail
   go_meet
   case rel=>exact⟨mid+m-b,mid,congrArg (Value.int .i64) (by omega),rfl, .inl ⟨hmm,by omega,rfl⟩,rfl⟩
  ·go_wp2_with fail
   go_meet
   case rel=>exact⟨a,m,rfl,rfl, .inr ⟨by omega,rfl,rfl⟩,rfl⟩
 case rest=>as_aux_lemma=>
  obtain⟨lo,hi,rfl,rfl,hsp,rfl⟩:=hcut
  have S1:a<=lo:=by have:=hsp.out;unfold wqZ at this;omega
  have S2:lo<=hi:=by have:=hsp.out;unfold wqZ at this;omega
  have S3:hi<=m:=by have:=hsp.out;unfold wqZ at this;omega
  have S4:hi<=mid:=by have:=hsp.out;unfold wqZ at this;omega
  have S5:nn<=lo+b:=by have:=hsp.out;unfold wqZ at this;omega
  go_wp2_with fail
  rw[E3.out]
  go_loopw [20,21] (fun sv rv wr=>∃s r:Nat,lo<=s/\s<=r/\r<=hi/\sv= .int .i64 s/\rv= .int .i64 r/\Hid (mpZ (fun x=>¬k (f (p-x))<k (f x)) lo hi s r)/\Hid (Drawn w wr)) (fun i j _=>(intOf j).toNat-(intOf i).toNat)
  case atStart=>exact⟨lo,hi,by omega,by omega,by omega,rfl,rfl,⟨.inl rfl, .inl rfl⟩,Drawn.refl w⟩
  case round=>as_aux_lemma=>
   obtain⟨s,r,hs1,hsr,hr1,rfl,rfl,hQ,hD⟩:=hrel
   by_cases hlt:s<r
   ·obtain⟨h,hh⟩:∃h,h=(s+r) / 2:=⟨_,rfl⟩
    have hh1:s<=h:=by omega
    have hh2:h<r:=by omega
    have hE:Hid (((s:Int)+(r:Int)) / 2=(h:Int)):=by show _=_;omega
    clear hh
    have c1:=(hD.out.dat HD.out).cell (i:=p-h) (by omega)
    have c2:=(hD.out.dat HD.out).cell (i:=h) (by omega)
    have hcm:=fun q=>HC.out (f (p-h)) (f h) (wr.drewN q) (HA.out (p-h) (by omega)) (HA.out h (by omega)) ((hD.out.more q).kept)
    have x3:(0:Int)<=(h:Int):=by omega
    have x4:(h:Int)<(n:Int):=by omega
    have x5:(0:Int)<=(p:Int)-(h:Int):=by omega
    have x6:(p:Int)-(h:Int)<(n:Int):=by omega
    have x7:(h:Int)<=(p:Int):=by omega
    have x8:h<=p:=by omega
    have s1:IntKind.i64.wrap ((p:Int)-(h:Int))=(p:Int)-(h:Int):=IntWalk.i64_in _ (by omega)
    have s2:((p:Int)-(h:Int)).toNat=p-h:=by omega
    obtain⟨cv,hcv⟩:∃cv,cv=mhZ (k (f (p-h))) (k (f h)):=⟨_,rfl⟩
    rw[<-hcv]at hcm
    have HD2:∀q,Hid (Drawn w (wr.drewN q)):=fun q=>hD.out.more q
    have hs12:Hid (((p:Int)-(h:Int)).toNat=p-h/\IntKind.i64.wrap ((p:Int)-(h:Int))=(p:Int)-(h:Int)):=⟨s2,s1⟩
    by_cases hk:k (f (p-h))<k (f h)
    ·have d1:decide (cv<0)=true:=by rw[hcv];have:=xrZ hk;simpa using this
     have HX:Hid (mpZ (fun x=>¬k (f (p-x))<k (f x)) lo hi s h):=⟨hQ.out.1, .inr (fun hn=>hn hk)⟩
     clear hcv hk hQ s1 s2
     generalize f h=v1 at *
     generalize f (p-h)=v2 at *
     go_wp2_with fail
     rw[hE.out]
     obtain⟨s2,s1⟩:=hs12.out
     go_quiet ((go_at_call 308;exact Calls.quiet_of (hcm _)))
     have HD3:=HD2 nq
     clear HD2 hcm c1 c2 hD s1 s2
     go_wp2_with fail
     go_roundw
     case rel=>go_light;exact⟨s,h,by omega,by omega,by omega,rfl,rfl,HX,HD3⟩
     case measure=>go_light;simp[intOf];omega
    ·have d1:decide (cv<0)=false:=by rw[hcv];have:=yrZ hk;simp;omega
     have HX:Hid (mpZ (fun x=>¬k (f (p-x))<k (f x)) lo hi (h+1) r):=⟨.inr hk,hQ.out.2⟩
     clear hcv hk hQ s1 s2
     generalize f h=v1 at *
     generalize f (p-h)=v2 at *
     go_wp2_with fail
     rw[hE.out]
     obtain⟨s2,s1⟩:=hs12.out
     go_quiet ((go_at_call 308;exact Calls.quiet_of (hcm _)))
     have HD3:=HD2 nq
     clear HD2 hcm c1 c2 hD s1 s2
     go_wp2_with fail
     go_roundw
     case rel=>go_light;exact⟨h+1,r,by omega,by omega,by omega,by go_num,rfl,HX,HD3⟩
     case measure=>go_light;simp[intOf];omega
   ·obtain rfl:s=r:=by omega
    obtain⟨e,he⟩:∃e,e=nn-s:=⟨_,rfl⟩
    have e1:e+s<=nn:=by omega
    have e2:nn<=e+s:=by omega
    have E4:Hid ((nn:Int)-(s:Int)=(e:Int)):=by show _=_;omega
    have hme:m<=e:=by omega
    have heb:e<=b:=by omega
    have hsm:s<=m:=by omega
    have hsplit:=split (k:=k) (f:=f) (a:=a) (s:=s) (m:=m) (e:=e) (b:=b) (by omega) hsm hme heb HL.out HR.out HLW.out
     (khZb hsm hme HL.out HR.out HLW.out (by
       have h1:=hQ.out.1
       have h2:=hsp.out
       unfold wqZ at h2
       by_cases x:s=a
       ·exact .inl x
       ·by_cases y:e=b
        ·exact .inr (.inl y)
        ·refine .inr (.inr ⟨by omega,by omega,?_⟩)
         rcases h1 with h1|h1
         ·omega
         ·rw[show p-(s-1)=e by omega]at h1;omega))
     (nnZ (by omega) heb HL.out HR.out (by
       have h1:=hQ.out.2
       have h2:=hsp.out
       unfold wqZ at h2
       by_cases x:s=m
       ·exact .inl x
       ·by_cases y:e=m
        ·exact .inr (.inl y)
        ·refine .inr (.inr ⟨by omega,by omega,?_⟩)
         rcases h1 with h1|h1
         ·omega
         ·have h3:¬ ¬k (f (p-s))<k (f s):=h1
          rw[show p-s=e-1 by omega]at h3;omega))
    have hmids:s+(e-m)=mid:=by omega
    rw[hmids]at hsplit
    obtain⟨hperm,hout,q1,q2,q3,q4,q5,q6,q7⟩:=hsplit
    have HH:Hid (Halves k (rot f s m e) a s mid e b):=⟨q1,q2,q3,q4,q5,q6⟩
    have HALL:Hid (All N n (rot f s m e)):=HA.out.rot hsm hme (by omega)
    have HFIN:Hid (∀G H,Mer k (rot f s m e) G a mid->Mer k G H mid b->Mer k f H a b):=fun G H h1 h2=>Mer.trans hperm hout (Mer.join (by omega) (by omega) h1 h2 q7)
    have HID:Hid ((s=m∨m=e)->rot f s m e=f):=ivZ f hsm hme
    clear hperm hout q1 q2 q3 q4 q5 q6 q7 hQ he hmids
    have HDW:=hD
    clear hD
    obtain⟨wo,rfl⟩:∃wo:World,wo=wr:=⟨_,rfl⟩
    go_upto_region 39 with fail
    rw[E4.out]
    go_cut [185] (fun v wx=>∃bb:Bool,v= .bool bb/\Hid (bb=true->s<m/\m<e)/\Hid (bb=false->m<=s∨e<=m)/\wo=wx)
    case first=>
     by_cases h1:s<m
     ·by_cases h2:m<e
      ·go_wp2_with fail
       go_meet
       case rel=>exact⟨true,rfl,fun _=>⟨h1,h2⟩,(fun h=>by cases h),rfl⟩
      ·go_wp2_with fail
       go_meet
       case rel=>exact⟨false,rfl,(fun h=>by cases h),fun _=> .inr (by omega),rfl⟩
     ·go_wp2_with fail
      go_meet
      case rel=>exact⟨false,rfl,(fun h=>by cases h),fun _=> .inl (by omega),rfl⟩
    case rest=>as_aux_lemma=>
     obtain⟨bb,rfl,hb1,hb2,rfl⟩:=hcut
     go_upto_if 185 with fail
     go_cut [20] (fun v wx=>v= .int .i64 s/\Hid (Put g n (rot f s m e) w wx))
     case first=>
      cases bb
      ·have h:=hb2.out rfl
       have e':=HID.out (by omega)
       have HP:Hid (Put g n (rot f s m e) w wo):=by
        show Put _ _ _ _ _
        rw[e']
        exact HDW.out.put HD.out
       clear e'
       go_wp2_with fail
       go_meet
       case rel=>exact⟨rfl,HP⟩
      ·obtain⟨h1,h2⟩:=hb1.out rfl
       go_wp2_with fail
       refine(ypZb wo g n c s m e f _ hN h1 h2 (by omega) (HDW.out.dat HD.out)).mono ?_
       rintro ee w1 ⟨rfl,hp1⟩
       have HP:Hid (Put g n (rot f s m e) w w1):=(HDW.out.put HD.out).trans hp1
       clear hp1
       go_wp2_with fail
       go_meet
       case rel=>exact⟨rfl,HP⟩
     case rest=>as_aux_lemma=>
      obtain⟨rfl,HP⟩:=hcut
      clear hb1 hb2 HDW
      generalize rot f s m e=F1 at *
      go_upto_region 41 with fail
      obtain⟨w1,rfl⟩:∃w1:World,w1=wc:=⟨_,rfl⟩
      go_cut [199] (fun v wx=>∃bb:Bool,v= .bool bb/\Hid (bb=true->a<s/\s<mid)/\Hid (bb=false->s<=a∨mid<=s)/\w1=wx)
      case first=>
       by_cases h1:a<s
       ·by_cases h2:s<mid
        ·go_wp2_with fail
         go_meet
         case rel=>exact⟨true,rfl,fun _=>⟨h1,h2⟩,(fun h=>by cases h),rfl⟩
        ·go_wp2_with fail
         go_meet
         case rel=>exact⟨false,rfl,(fun h=>by cases h),fun _=> .inr (by omega),rfl⟩
       ·go_wp2_with fail
        go_meet
        case rel=>exact⟨false,rfl,(fun h=>by cases h),fun _=> .inl (by omega),rfl⟩
      case rest=>as_aux_lemma=>
       obtain⟨bb,rfl,hb1,hb2,rfl⟩:=hcut
       go_upto_if 199 with fail
       go_cut [20] (fun v wx=>v= .int .i64 s/\∃F2,Hid (Put g n F2 w wx)/\Hid (Mer k F1 F2 a mid))
       case first=>
        cases bb
        ·have h:=hb2.out rfl
         have HM1:Hid (Mer k F1 F1 a mid):=Mer.refl (by
          rcases h with h|h
          ·have:s=a:=by omega
           have h2:=HH.out.s2
           rw[this]at h2
           exact h2
          ·have:s=mid:=by omega
           have h2:=HH.out.s1
           rw[this]at h2
           exact h2)
         go_wp2_with fail
         go_meet
         case rel=>exact⟨rfl,F1,HP,HM1⟩
        ·obtain⟨h1,h2⟩:=hb1.out rfl
         go_wp2_with fail
         refine(IH.out w1 a s mid F1 (by omega) h1 h2 (by omega) HH.out.s1 HH.out.s2 HH.out.l1 HALL.out HP.out.1 (HC.out.keep HP.out.2)).mono ?_
         rintro ee w2 ⟨rfl,F2,hp1,hm1⟩
         have HP2:Hid (Put g n F2 w w2):=HP.out.trans hp1
         have HM2:=hid hm1
         clear hp1 hm1
         go_wp2_with fail
         go_meet
         case rel=>exact⟨rfl,F2,HP2,HM2⟩
       case rest=>as_aux_lemma=>
        obtain⟨rfl,F2,HP2,HM2⟩:=hcut
        clear hb1 hb2 HP
        have k1:∀i,mid<=i->i<b->F2 i=F1 i:=fun i hi _=>HM2.out.2.2 i (.inr hi)
        have H3:Hid (Sor k F2 mid e):=HH.out.s3.congr (fun i h1 h2=>k1 i h1 (by omega))
        have H4:Hid (Sor k F2 e b):=HH.out.s4.congr (fun i h1 h2=>k1 i (by omega) h2)
        have H5:Hid (Low F2 mid e b):=HH.out.l2.congr k1
        have H6:Hid (All N n F2):=HALL.out.mer HM2.out (by omega)
        clear k1
        by_cases h1:mid<e
        ·by_cases h2:e<b
         ·go_wp2_with fail
          refine(IH.out _ mid e b F2 (by omega) h1 h2 hb H3.out H4.out H5.out H6.out HP2.out.1 (HC.out.keep HP2.out.2)).mono ?_
          rintro ee w3 ⟨rfl,F3,hp1,hm1⟩
          have HP3:Hid (Put g n F3 w w3):=HP2.out.trans hp1
          have HM3:Hid (Mer k f F3 a b):=HFIN.out F2 F3 HM2.out hm1
          clear hp1 hm1
          go_wp2_with fail
          refine bodyPost_end (results_none rfl _ _ _) rfl ⟨rfl,F3,HP3.out,HM3.out⟩
         ·have HM3:Hid (Mer k f F2 a b):=HFIN.out F2 F2 HM2.out (Mer.refl (by
           have:e=b:=by omega
           have h3:=H3.out
           rw[this]at h3
           exact h3))
          go_wp2_with fail
          refine bodyPost_end (results_none rfl _ _ _) rfl ⟨rfl,F2,HP2.out,HM3.out⟩
        ·have HM3:Hid (Mer k f F2 a b):=HFIN.out F2 F2 HM2.out (Mer.refl (by
          have:mid=e:=by omega
          have h3:=H4.out
          rw[<-this]at h3
          exact h3))
         go_wp2_with fail
         refine bodyPost_end (results_none rfl _ _ _) rfl ⟨rfl,F2,HP2.out,HM3.out⟩
theorem ofZb(Bo g n c N:Nat)(k:Nat->Nat)(hN:n<=4611686018427387904):∀d,gpZb Bo g n c N k d
 |0=>fun w a m b f h1 h2 h3=>by omega
 |d+1=>by
  intro w a m b f h1 h2 h3 h4 h5 h6 h7 h8 h9 h10
  by_cases e1:m=a+1
  ·subst e1
   exact enZb w Bo g n c a b N k f hN h3 h4 h6 h7 h8 h9 h10
  ·by_cases e2:b=m+1
   ·subst e2
    exact hkZb w Bo g n c a m N k f hN (by omega) h4 h5 h7 h8 h9 h10
   ·exact fnZb w Bo g n c a m b N k f d (ofZb Bo g n c N k hN d) h1 hN (by omega) (by omega) h4 h5 h6 h7 h8 h9 h10
end Go.Proofs.YtmlaajebadfkoaaGreatDoor.Srt
namespace Go.Proofs.YtmlaajebadfkoaaGreatDoor.Srt
open Go.RowKit Mem Own
theorem dqZb(Bo g n c N:Nat)(k:Nat->Nat)(hN:n<=4611686018427387904):∀ (w:World) (x y z:Int) (a m b:Nat) (f:Nat->Nat),x=a->y=m->z=b->a<m->m<b->b<=n->Sor k f a m->Sor k f m b->Low f a m b->All N n f->Dat w g n f->CmpOk Bo g N w k->
 Calls Tryz.prog 321 #[.slice (some ⟨g,0,none⟩) n c, .int .i64 x, .int .i64 y, .int .i64 z, .func (Fn.func 308) #[] #[.pointer (some ⟨Bo,0,none⟩)]] w (viZ k f g n a b w):=by
 intro w x y z a m b f h1 h2 h3
 subst h1 h2 h3
 exact ofZb Bo g n c N k hN (b-a) w a m b f (Nat.le_refl _)
def ikZb(k f0:Nat->Nat)(g n:Nat)(w:World)(e:Ending)(w':World):Prop:=e= .returned (.tuple #[])/\∃f',Put g n f' w w'/\Ok k f0 f' 0 n
structure Std (k f0 f:Nat->Nat) (N g n:Nat) (w wr:World):Prop where
 put:Put g n f w wr
 all:All N n f
theorem Std.next{k f0 f f':Nat->Nat}{N g n a b:Nat}{w wr w1:World}(h:Std k f0 f N g n w wr)(hp:Put g n f' wr w1)(hm:Mer k f f' a b)(hb:b<=n):Std k f0 f' N g n w w1:=⟨h.put.trans hp,h.all.mer hm hb⟩
theorem mhZb(w:World)(Bo g n c N:Nat)(k f0:Nat->Nat)(hN:n<=1000000)(h0:∀i j,i<j->j<n->f0 i<f0 j)(hall:All N n f0)(hd:Dat w g n f0)(hc:CmpOk Bo g N w k):
 Calls Tryz.prog 317 #[.slice (some ⟨g,0,none⟩) n c, .int .i64 n, .func (Fn.func 308) #[] #[.pointer (some ⟨Bo,0,none⟩)]] w (ikZb k f0 g n w):=by
 have S:=hid (dqZb Bo g n c N k (by omega))
 have I:=hid (fun(wx:World) (a b:Nat) (f:Nat->Nat) h1 h2 h3 h4 h5 h6=>cqZb wx Bo g n c a b N k f (by omega) h1 h2 h3 h4 h5 h6)
 have H0:=hid h0
 have HC:=hid hc
 have p0:Hid (Std k f0 f0 N g n w w):=⟨Put.refl hd,hall⟩
 clear h0 hall hd hc
 go_enter Tryz.func317,Tryz.ntmps317
 go_wp2_with fail
 go_loopw [7,8] (fun av bv wr=>∃ (q A B:Nat) (f:Nat->Nat),A<=n/\A+20<=B/\B<=A+20/\av= .int .i64 A/\bv= .int .i64 B/\Hid (A=20*q)/\Hid (Ph1 k f0 f n q)/\Hid (Std k f0 f N g n w wr)) (fun _ b _=>n+20-(intOf b).toNat)
 case atStart=>exact⟨0,0,20,f0,by omega,by omega,by omega,rfl,rfl,rfl,Ph1.start f0 n,p0⟩
 case round=>
  clear p0
  obtain⟨q,A,B,f,hA1,hB1,hB2,rfl,rfl,hA,hP,hS⟩:=hrel
  have hasc:∀i j,A<=i->i<j->j<n->f i<f j:=fun i j h1 h2 h3=>by
   have:=hA.out
   rw[hP.out.2 i (by omega),hP.out.2 j (by omega)]
   exact H0.out i j h2 h3
  have HASC:=hid hasc
  clear hasc
  by_cases hlt:B<=n
  ·go_wp2_with fail
   refine(I.out wr A B f (by omega) hlt (fun i j h1 h2 h3=>HASC.out i j h1 h2 (by omega)) hS.out.all hS.out.put.1 (HC.out.keep hS.out.put.2)).mono ?_
   rintro e w1 ⟨rfl,f',hp1,hm1⟩
   have HS1:Hid (Std k f0 f' N g n w w1):=hS.out.next hp1 hm1 hlt
   have HP1:Hid (Ph1 k f0 f' n (q+1)):=by
    have e1:=hA.out
    have e2:B=20*q+20:=by omega
    rw[e1,e2]at hm1
    exact hP.out.step hm1 (by omega)
   have HA1:Hid (B=20*(q+1)):=by show _=_;have:=hA.out;omega
   clear hp1 hm1
   go_wp2_with fail
   go_roundw
   case rel=>go_light;exact⟨q+1,B,B+20,f',by omega,by omega,by omega,rfl,by go_num,HA1,HP1,HS1⟩
   case measure=>go_light;simp[intOf];omega
  ·obtain⟨wo,rfl⟩:∃wo:World,wo=wr:=⟨_,rfl⟩
   go_wp2_with fail
   refine(I.out wo A n f hA1 (Nat.le_refl _) HASC.out hS.out.all hS.out.put.1 (HC.out.keep hS.out.put.2)).mono ?_
   rintro e w1 ⟨rfl,f',hp1,hm1⟩
   have HS1:Hid (Std k f0 f' N g n w w1):=hS.out.next hp1 hm1 (Nat.le_refl _)
   have HP1:Hid (Ph2 k f0 f' n 20 0):=by
    have e1:=hA.out
    rw[e1]at hm1
    exact hP.out.done hm1 (by omega) (by omega)
   clear hp1 hm1 HASC hS hP
   go_wp2_with fail
   go_loopw [6] (fun sv wr=>∃ (s:Nat) (f:Nat->Nat),20<=s/\s<=2*n+20/\sv= .int .i64 s/\Hid (Ph2 k f0 f n s 0)/\Hid (Std k f0 f N g n w wr)) (fun s _=>n-(intOf s).toNat)
   case atStart=>exact⟨20,f',by omega,by omega,rfl,HP1,HS1⟩
   case round=>
    clear HP1 HS1
    obtain⟨s,f1,hs1,hs2,rfl,hP1,hS1⟩:=hrel
    by_cases hsn:s<n
    ·obtain⟨wp,rfl⟩:∃wp:World,wp=wr:=⟨_,rfl⟩
     go_wp2_with fail
     go_loopw [7,8] (fun av bv wr=>∃ (q A B:Nat) (f:Nat->Nat),A<=n/\A+2*s<=B/\B<=A+2*s/\av= .int .i64 A/\bv= .int .i64 B/\Hid (A=2*s*q)/\Hid (Ph2 k f0 f n s q)/\Hid (Std k f0 f N g n w wr)) (fun _ b _=>n+2*s-(intOf b).toNat)
     case atStart=>exact⟨0,0,2*s,f1,by omega,by omega,by omega,rfl,by go_num,by show _=_;simp,hP1,hS1⟩
     case round=>as_aux_lemma=>
      clear hP1 hS1
      obtain⟨q,A,B,f,hA1,hB1,hB2,rfl,rfl,hA,hP,hS⟩:=hrel
      by_cases hlt:B<=n
      ·have hparts:=hP.out.parts H0.out hA.out (by omega) (b:=B) (by omega)
       have HPT:=hid hparts
       clear hparts
       go_wp2_with fail
       refine(S.out wr _ _ _ A (A+s) B f rfl (by omega) rfl (by omega) (by omega) hlt HPT.out.1.1 HPT.out.2.1.1 HPT.out.2.2 hS.out.all hS.out.put.1 (HC.out.keep hS.out.put.2)).mono ?_
       rintro e w2 ⟨rfl,f2,hp2,hm2⟩
       have HS2:Hid (Std k f0 f2 N g n w w2):=hS.out.next hp2 hm2 hlt
       have HP2:Hid (Ph2 k f0 f2 n s (q+1)):=hP.out.step hA.out (by omega) hlt HPT.out.1 HPT.out.2.1 hm2
       have HA2:Hid (B=2*s*(q+1)):=by show _=_;have:=hA.out;rw[Nat.mul_add,<-this];omega
       clear hp2 hm2
       go_wp2_with fail
       go_roundw
       case rel=>go_light;exact⟨q+1,B,B+2*s,f2,by omega,by omega,by omega,rfl,congrArg (Value.int .i64) (by omega),HA2,HP2,HS2⟩
       case measure=>go_light;simp[intOf];omega
      ·by_cases hms:A+s<n
       ·have hparts:=hP.out.parts H0.out hA.out (by omega) (b:=n) (by omega)
        have HPT:=hid hparts
        clear hparts
        go_wp2_with fail
        refine(S.out wr _ _ _ A (A+s) n f rfl (by omega) rfl (by omega) (by omega) (Nat.le_refl _) HPT.out.1.1 HPT.out.2.1.1 HPT.out.2.2 hS.out.all hS.out.put.1 (HC.out.keep hS.out.put.2)).mono ?_
        rintro e w2 ⟨rfl,f2,hp2,hm2⟩
        have HS2:Hid (Std k f0 f2 N g n w w2):=hS.out.next hp2 hm2 (Nat.le_refl _)
        have HP2:Hid (Ph2 k f0 f2 n (2*s) 0):=Ph2.next (hP.out.last_more hA.out rfl (by omega) (by omega) HPT.out.1 HPT.out.2.1 hm2)
        clear hp2 hm2
        go_wp2_with fail
        go_roundw
        case rel=>go_light;exact⟨2*s,f2,by omega,by omega,congrArg (Value.int .i64) (by omega),HP2,HS2⟩
        case measure=>go_light;simp[intOf];omega
       ·have HP2:Hid (Ph2 k f0 f n (2*s) 0):=Ph2.next (hP.out.last_few hA.out rfl (by omega) (by omega))
        go_wp2_with fail
        go_roundw
        case rel=>go_light;exact⟨2*s,f,by omega,by omega,congrArg (Value.int .i64) (by omega),HP2,hS⟩
        case measure=>go_light;simp[intOf];omega
    ·go_wp2_with fail
     refine bodyPost_end (results_none rfl _ _ _) rfl ⟨rfl,f1,hS1.out.put,hP1.out.all (by omega)⟩
theorem swZ(w:World)(Bo g n c N:Nat)(k f0:Nat->Nat)(hN:n<=1000000)(h0:∀i j,i<j->j<n->f0 i<f0 j)(hall:All N n f0)(hd:Dat w g n f0)(hc:CmpOk Bo g N w k):
 Calls Tryz.prog 307 #[.slice (some ⟨g,0,none⟩) n c, .func (Fn.func 308) #[] #[.pointer (some ⟨Bo,0,none⟩)]] w (ikZb k f0 g n w):=by
 have C:=hid (mhZb w Bo g n c N k f0 hN h0 hall hd hc)
 clear h0 hall hd hc
 go_enter Tryz.func307,Tryz.ntmps307
 go_wp2_with fail
 refine C.out.mono ?_
 rintro e w1 ⟨rfl,h⟩
 have H:=hid h
 clear h
 go_wp2_with fail
 refine bodyPost_end (results_none rfl _ _ _) rfl ⟨rfl,H.out⟩
theorem eqZb(w:World)(u v:Value):
 Calls Tryz.prog 320 #[v, .int .i64 0, .int .i64 0,u] w fun e w'=>e= .returned (.tuple #[])/\w=w':=by
 go_enter Tryz.func320,Tryz.ntmps320
 go_wp2_with fail
 refine wp_loop_rounds 1 ?_
 rw[rounds_succ]
 go_wp2_with fail
 refine bodyPost_end (results_none rfl _ _ _) rfl ⟨rfl,rfl⟩
theorem nhZb(w:World)(u v:Value):
 Calls Tryz.prog 317 #[v, .int .i64 0,u] w fun e w'=>e= .returned (.tuple #[])/\w=w':=by
 go_enter Tryz.func317,Tryz.ntmps317
 go_wp2_with fail
 refine wp_loop_rounds 1 ?_
 rw[rounds_succ]
 go_wp2_with fail
 refine(eqZb _ _ _).mono ?_
 rintro e w1 ⟨rfl,rfl⟩
 go_wp2_with fail
 refine wp_loop_rounds 1 ?_
 rw[rounds_succ]
 go_wp2_with fail
 refine bodyPost_end (results_none rfl _ _ _) rfl ⟨rfl,rfl⟩
theorem twZ(w:World)(u:Value):
 Calls Tryz.prog 307 #[.slice none 0 0,u] w fun e w'=>e= .returned (.tuple #[])/\w=w':=by
 go_enter Tryz.func307,Tryz.ntmps307
 go_wp2_with fail
 refine(nhZb _ _ _).mono ?_
 rintro e w1 ⟨rfl,rfl⟩
 go_wp2_with fail
 refine bodyPost_end (results_none rfl _ _ _) rfl ⟨rfl,rfl⟩
end Go.Proofs.YtmlaajebadfkoaaGreatDoor.Srt
