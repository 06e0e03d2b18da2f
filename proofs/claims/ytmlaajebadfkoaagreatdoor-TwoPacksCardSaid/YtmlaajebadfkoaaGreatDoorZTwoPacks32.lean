/- The walk of the reference's Lens. The walk of firkinref07.Lens, whatev -/
import Derived.Test.YtmlaajebadfkoaaGreatDoorZTwoPacks24
import Derived.Deep.RegionLaw
import Derived.Deep.AppendLies
import Derived.Deep.RegionHeld3
namespace Go.Proofs.YtmlaajebadfkoaaGreatDoor end Go.Proofs.YtmlaajebadfkoaaGreatDoor open Go.Proofs.YtmlaajebadfkoaaGreatDoor
open Go.Lib (hid)
set_option maxRecDepth 100000
namespace Go.Proofs.YtmlaajebadfkoaaGreatDoor.Lens
open Go.RowKit Mem Own Srt Canon
theorem fzZ{w w':World}{B:Nat}{w0:World}(h:Drawn w w')(hb:Below B w0 w):Below B w0 w':=by
 obtain⟨q,rfl⟩:=h
 exact below_drewN hb q
theorem lcZb{k:Nat->Nat}{s:Nat}:∀ {l:List Nat} {at_:Nat},l.Pairwise (Lt k)->at_<=l.length->(∀j x,at_<=j->l[j]? =some x->k s<k x)->(at_=0∨∃x,l[at_-1]? =some x/\k x<=k s)->ins k s l=l.take at_++s :: l.drop at_
 | [],at_,_,h,_,_=>by
  have:at_=0:=by simpa using h
  subst this
  rfl
 |y :: t,0,_,_,h,_=>by
  rw[ins,if_pos (h 0 y (Nat.le_refl _) rfl)]
  rfl
 |y :: t,a+1,hs,hl,h,h2=>by
  have hp:=List.pairwise_cons.1 hs
  have hy:k y<=k s:=by
   rcases h2 with h2|⟨x,hx,hle⟩
   ·omega
   ·rw[Nat.add_sub_cancel]at hx
    rcases a with _|a
    ·simp at hx;subst hx;exact hle
    ·rw[List.getElem?_cons_succ]at hx
     have:=hp.1 x (List.mem_of_getElem? hx)
     unfold Lt at this;omega
  rw[ins,if_neg (by omega),List.take_succ_cons,List.drop_succ_cons,List.cons_append,<-lcZb hp.2 (by simpa using hl) (fun j x hj hx=>h (j+1) x (by omega) (by rw[List.getElem?_cons_succ];exact hx)) ?_]
  rcases a with _|a
  ·exact .inl rfl
  ·rcases h2 with h2|⟨x,hx,hle⟩
   ·omega
   ·refine .inr ⟨x,?_,hle⟩
    rw[Nat.add_sub_cancel,List.getElem?_cons_succ]at hx
    simpa using hx
theorem joZ{w:World}{base n c s:Nat}{e:TypeId}{A:Option Addr}{xs:List Value}(h:w.ownsRow base e s (.slice A n c) n xs):Src w A n c s xs:=by
 refine⟨h.1,?_⟩
 rcases h.2 with ⟨hv,h0⟩|⟨g,cap,cur,hv,hb,hh,hnc,hcap,hcs,htake⟩
 ·injection hv with e1 e2 e3
  exact .inl ⟨e1,e2,e3⟩
 ·injection hv with e1 e2 e3
  refine .inr ⟨⟨g,0,none⟩,e1,fun j u hu=> ?_⟩
  rw[add_none,Nat.zero_add,Blk.cell hh]
  rw[<-htake,List.getElem?_take]at hu
  split at hu
  ·simpa using hu
  ·cases hu
theorem src_head{w:World}{n c s m:Nat}{A:Option Addr}{xs:List Value}(h:Src w A n c s xs)(hm:m<=n):Src w (ycZ A 0 c s) m c s (xs.take (m*s)):=by
 refine⟨by rw[List.length_take,h.1];exact Nat.min_eq_left (Nat.mul_le_mul_right _ hm),?_⟩
 rcases h.2 with ⟨rfl,rfl,rfl⟩|⟨ad,rfl,hc⟩
 ·exact .inl ⟨rfl,by omega,rfl⟩
 ·refine .inr ⟨ad,?_,fun j u hu=>hc j u ?_⟩
  ·unfold ycZ
   split
   ·rfl
   ·obtain⟨b,off,sp⟩:=ad
    simp[Addr.add]
  ·rw[List.getElem?_take]at hu
   split at hu
   ·exact hu
   ·cases hu
theorem egZb{w:World}{n c s k:Nat}{A:Option Addr}{xs:List Value}(h:Src w A n c s xs)(hk:k<=n)(hc:n<=c)(hA:∀a,A=some a->a.spot=none):Src w (ycZ A k c s) (n-k) (c-k) s (xs.drop (k*s)):=by
 refine⟨by rw[List.length_drop,h.1,Nat.sub_mul],?_⟩
 rcases h.2 with ⟨rfl,rfl,rfl⟩|⟨ad,rfl,hcell⟩
 ·exact .inl ⟨by unfold ycZ;split<;>rfl,by omega,by omega⟩
 ·unfold ycZ
  by_cases e:c=k
  ·refine .inr ⟨ad,by rw[if_pos e],fun j u hu=> ?_⟩
   have hj:j<(xs.drop (k*s)).length:=(List.getElem?_eq_some_iff.1 hu).1
   have hz:k=n:=by omega
   rw[List.length_drop,h.1,hz]at hj
   omega
  ·obtain⟨b,off,sp⟩:=ad
   have hsp:sp=none:=hA _ rfl
   subst hsp
   refine .inr ⟨⟨b,off+k*s,none⟩,by rw[if_neg e];simp[skZ],fun j u hu=> ?_⟩
   rw[List.getElem?_drop]at hu
   have:=hcell (k*s+j) u hu
   rw[add_none]at this ⊢
   rw[<-this]
   congr 2
   omega
theorem ouZ:∀ (R:List RI) (m:Nat),rcL (R.take m)=(rcL R).take (m*2)
 | [],m=>by simp[rcL]
 |p :: t,0=>by simp[rcL]
 |p :: t,m+1=>by
  have ih:=ouZ t m
  rw[List.take_succ_cons,rcL,List.flatMap_cons,rcL,List.flatMap_cons,show(m+1)*2=m*2+2 by omega]
  unfold rcL at ih
  rw[ih]
  simp
theorem puZ:∀ (R:List RI) (m:Nat),rcL (R.drop m)=(rcL R).drop (m*2)
 | [],m=>by simp[rcL]
 |p :: t,0=>by simp[rcL]
 |p :: t,m+1=>by
  have ih:=puZ t m
  rw[List.drop_succ_cons,ih,rcL,rcL,List.flatMap_cons,show(m+1)*2=m*2+2 by omega]
  simp
def Lfs(w:World)(base:Nat)(k:Nat->Nat)(S:List Nat)(v:Value)(R:List RI):Prop:=RowI w base v R/\Sv w base R/\R.map (·.1)=lv k S
theorem Lfs.at_{w:World}{base:Nat}{k:Nat->Nat}{S:List Nat}{v:Value}{R:List RI}(h:Lfs w base k S v R){i x:Nat}(hx:S[i]? =some x):∃p,R[i]? =some p/\p.1=(k x,[x]):=by
 have h1:(R.map (·.1))[i]? =some (k x,[x]):=by rw[h.2.2,lv,List.getElem?_map,hx];rfl
 rw[List.getElem?_map]at h1
 obtain⟨p,hp,he⟩:=Option.map_eq_some_iff.1 h1
 exact⟨p,hp,he⟩
theorem Lfs.len{w:World}{base:Nat}{k:Nat->Nat}{S:List Nat}{v:Value}{R:List RI}(h:Lfs w base k S v R):R.length=S.length:=by
 have:=congrArg List.length h.2.2
 simpa[ndZ]using this
theorem own_cells{w:World}{base n c s:Nat}{e:TypeId}{A:Option Addr}{xs:List Value}(h:w.ownsRow base e s (.slice A n c) n xs)(hn:0<n):
 ∃g,A=some ⟨g,0,none⟩/\base<=g/\g<w.heap.size/\n<=c/\c<=maxLen/\∀j u,xs[j]? =some u->w.cell? ⟨g,j,none⟩=some u:=by
 rcases h.2 with ⟨_,h0⟩|⟨g,cap,cur,hv,hb,hh,hnc,hcap,hcs,htake⟩
 ·omega
 ·injection hv with e1 e2 e3
  subst e1 e3
  refine⟨g,rfl,hb,Blk.lt hh,hnc,hcap,fun j u hu=> ?_⟩
  rw[Blk.cell hh]
  rw[<-htake,List.getElem?_take]at hu
  split at hu
  ·simpa using hu
  ·cases hu
def U8p(f:Nat->Nat)(n:Nat)(cs:Array Value):Prop:=n<=cs.size/\∀i,i<n->cs[i]? =some (.int .u8 (f i:Nat))
theorem U8p.set{f g:Nat->Nat}{n:Nat}{cs:Array Value}(h:U8p f n cs){i v:Nat}(hi:i<n)(hv:g i=v)(ho:∀j,j≠i->g j=f j):U8p g n (cs.setIfInBounds i (.int .u8 (v:Nat))):=by
 refine⟨by simpa using h.1,fun j hj=> ?_⟩
 have hs:=h.1
 rw[Array.getElem?_setIfInBounds]
 by_cases e:i=j
 ·subst e
  rw[if_pos rfl,if_pos (by omega),hv]
 ·rw[if_neg e,h.2 j hj,ho j (Ne.symm e)]
theorem ykZ{ks:List Nat}{limit:Int}{w w':World}{e:Ending}{g n c:Nat}{f:Nat->Nat}{cs:Array Value}(hE:pcZ ks limit=0)(hl:hiZ ks limit.toNat=(List.range n).map f)
 (h:U8p f n cs)(hnc:n<=c)(hb:Blk w' g 5 cs)(he:e= .returned (.tuple #[.slice (some ⟨g,0,none⟩) n c, .int .i64 0]))(hbel:Below w.heap.size w w')(hg:w.heap.size<=g):odZ ks limit w e w':=by
 have h0:kcZ ks limit=(List.range n).map f:=by unfold kcZ;rw[if_pos hE,hl]
 have hlen:(kcZ ks limit).length=n:=by rw[h0];simp
 refine⟨some ⟨g,0,none⟩,c,?_,?_,?_,hbel,fun _ p hp=>by cases hp;exact hg⟩
 ·rw[he,hE,hlen]
 ·rw[hlen]
  refine Row.of_blk hb hb.lt fun i j hi hj=> ?_
  obtain rfl:j=0:=by omega
  rw[Nat.mul_one,Nat.add_zero,h.2 i hi,h0]
  unfold rZ
  rw[List.getD_eq_getElem?_getD,List.getElem?_map,List.getElem?_range hi]
  rfl
 ·rw[hlen];exact Wf.some hnc
theorem klZb{w:World}{base n c:Nat}{A:Option Addr}(h:w.ownsRow base 5 1 (.slice A n c) n (List.replicate n (.int .u8 0)))(hn:0<n):
 ∃g cs,A=some ⟨g,0,none⟩/\base<=g/\n<=c/\Blk w g 5 cs/\U8p (fun _=>0) n cs:=by
 rcases h.2 with ⟨_,h0⟩|⟨g,cap,cur,hv,hb,hh,hnc,hcap,hcs,htake⟩
 ·omega
 ·injection hv with e1 e2 e3
  subst e1 e3
  refine⟨g,cur,rfl,hb,hnc,hh,by omega,fun i hi=> ?_⟩
  have h1:(List.replicate n (Value.int .u8 0))[i]? =some (.int .u8 0):=by rw[List.getElem?_replicate,if_pos hi]
  rw[<-htake,List.getElem?_take]at h1
  split at h1
  ·simpa using h1
  ·cases h1
def Rws(w:World)(base:Nat)(X:List It)(v:Value)(R:List RI):Prop:=RowI w base v R/\Sv w base R/\R.map (·.1)=X
theorem Rws.step{w w':World}{base:Nat}{X:List It}{v:Value}{R:List RI}(h:Rws w base X v R)(hb:Below w.heap.size w w'):Rws w' base X v R:=
 ⟨fZ h.1 (fun g hg=>hb.block g (World.ownsRow.lt h.1 g hg).2),h.2.1.step hb,h.2.2⟩
theorem Rws.len{w:World}{base:Nat}{X:List It}{v:Value}{R:List RI}(h:Rws w base X v R):R.length=X.length:=by
 rw[<-h.2.2];simp
theorem Sv.shapes{w:World}{base:Nat}{R:List RI}(h:Sv w base R):∀p∈R,∃A c,p.2= .slice A p.1.2.length c:=fun p hp=>bZ (h p hp)
theorem mcZb:∀ {X:List It} {u:Nat} {x y:It},X[2*u]? =some x->X[2*u+1]? =some y->(vcZ X)[u]? =some (x.1+y.1,x.2++y.2)
 | [],u,x,y,h,_=>by simp at h
 | [_],0,x,y,_,h=>by simp at h
 | [_],u+1,x,y,h,_=>by simp at h
 |a :: b :: t,0,x,y,h1,h2=>by
  simp at h1 h2
  subst h1 h2
  rfl
 |a :: b :: t,u+1,x,y,h1,h2=>by
  rw[show 2*(u+1)=2*u+1+1 by omega,List.getElem?_cons_succ,List.getElem?_cons_succ]at h1
  rw[show 2*(u+1)+1=2*u+1+1+1 by omega,List.getElem?_cons_succ,List.getElem?_cons_succ]at h2
  rw[khZ,List.getElem?_cons_succ]
  exact mcZb h1 h2
theorem tjZ{k:Nat->Nat}{S:List Nat}:∀ (r:Nat),∀x∈sZ (lv k S) r,x.2.length<=2 ^ r
 |0,x,hx=>by
  obtain⟨s,_,rfl⟩:=List.mem_map.1 hx
  exact Nat.le_refl _
 |r+1,x,hx=>by
  have hp:1<=2 ^ (r+1):=Nat.one_le_two_pow
  rcases vrZ.1 hx with h|h
  ·obtain⟨s,_,rfl⟩:=List.mem_map.1 h
   exact hp
  ·obtain⟨a,b,ha,hb,rfl⟩:=tiZ h
   have h1:=tjZ r a ha
   have h2:=tjZ r b hb
   show(a.2++b.2).length<=_
   rw[List.length_append,Nat.pow_succ]
   omega
theorem gzZ{X:List It}{z:Nat}{x:It}(hx:X[z]? =some x):flat (X.take (z+1))=flat (X.take z)++x.2:=by
 rw[List.take_add_one,hx,onZ]
 simp[flat]
theorem ncZb{X:List It}{z T kk y:Nat}{x:It}(hx:X[z]? =some x)(hz:z<T):(flat (X.take z)).count y+(x.2.take kk).count y<=(flat (X.take T)).count y:=by
 have e1:X.take T=X.take (z+1)++(X.drop (z+1)).take (T-(z+1)):=by rw[<-List.take_add];congr 1;omega
 rw[e1,onZ,List.count_append,gzZ hx,List.count_append]
 have e2:x.2.count y=(x.2.take kk).count y+(x.2.drop kk).count y:=by rw[<-List.count_append,List.take_append_drop]
 omega
theorem ewZ{l:List Nat}{kk y j:Nat}(h:l[kk]? =some y):(l.take (kk+1)).count j=(l.take kk).count j+if j=y then 1 else 0:=by
 rw[List.take_add_one,h,Option.toList_some,List.count_append]
 congr 1
 by_cases e:j=y
 ·subst e;simp
 ·rw[if_neg e,List.count_eq_zero]
  simpa using e
theorem ocZb{w w':World}{base n c s:Nat}{e:TypeId}{A:Option Addr}{xs:List Value}(h:w.ownsRow base e s (.slice A n c) n xs)(hb:Below w.heap.size w w'):Src w' A n c s xs:=
 joZ (fZ h fun g hg=>hb.block g (World.ownsRow.lt h g hg).2)
theorem Rws.cells{w:World}{base n c:Nat}{A:Option Addr}{X:List It}{R:List RI}(h:Rws w base X (.slice A n c) R)(hn:R.length=n)(h0:0<n):
 ∃g,A=some ⟨g,0,none⟩/\base<=g/\g<w.heap.size/\n<=c/\∀i p,R[i]? =some p->w.cell? ⟨g,i*2,none⟩=some (.int .u64 (p.1.1:Nat))/\w.cell? ⟨g,i*2+1,none⟩=some p.2:=by
 have hr:=h.1
 unfold RowI at hr
 rw[hn]at hr
 obtain⟨g,rfl,h1,h2,h3,h4,hc⟩:=own_cells hr h0
 refine⟨g,rfl,h1,h2,h3,fun i p hp=> ?_⟩
 have hi:i<R.length:=(List.getElem?_eq_some_iff.1 hp).1
 have k0:=hc (i*2+0) _ (tlZ R i 0 hi (by omega))
 have k1:=hc (i*2+1) _ (tlZ R i 1 hi (by omega))
 have hg:R.getD i ri0=p:=by rw[List.getD_eq_getElem?_getD,hp];rfl
 rw[rcF,if_pos rfl,hg]at k0
 rw[rcF,if_neg (by omega),hg]at k1
 exact⟨k0,k1⟩
theorem Lfs.step{w w':World}{base:Nat}{k:Nat->Nat}{S:List Nat}{v:Value}{R:List RI}(h:Lfs w base k S v R)(hb:Below w.heap.size w w'):Lfs w' base k S v R:=
 ⟨fZ h.1 (fun g hg=>hb.block g (World.ownsRow.lt h.1 g hg).2),h.2.1.step hb,h.2.2⟩
set_option maxHeartbeats 4000000 in
theorem noZb(w:World)(A:Option Addr)(n c L:Nat)(ks:List Nat)(hn:ks.length=n)(hN:n<=300)(hl1:1<=L)(hl2:L<=15)(h32:∀x∈ks,x<4294967296)(ha:Row w w.heap.size A n 1 (rZ .u32 ks)):
 Calls Tryz.prog 247 #[.slice A n c, .int .i64 L] w (odZ ks L w):=by
 have HN:=hid hn
 have HA:=hid ha
 have H32:=hid h32
 have g1:decide ((300:Int)<(n:Int))=false:=by simp;omega
 have g2:decide (300<n)=false:=by simp;omega
 have g3:decide ((L:Int)<1)=false:=by simp;omega
 have g4:decide ((15:Int)<(L:Int))=false:=by simp;omega
 have g5:decide (L<1)=false:=by simp;omega
 have g6:decide (15<L)=false:=by simp;omega
 obtain⟨j0,hj0,hy0,hy1,hy2⟩:=info_parts qfZb
 obtain⟨i0,hi0,hz0,hz1,hz2⟩:=info_parts oyZ
 obtain⟨u0,hu0,hv0,hv1,hv2⟩:=info_parts qbZb
 clear hn ha h32
 go_enter Tryz.func247,Tryz.ntmps247
 go_wp2_with fail
 clear g1 g2 g3 g4 g5 g6
 go_loopw [6,7] (fun v iv wr=>∃ (t q:Nat) (R:List RI),t<=n/\q<=t/\iv= .int .i64 t/\Hid ((pZ (kOf ks) t).length=q)/\(∃Av cv,v= .slice Av q cv)/\Hid (Lfs wr w.heap.size (kOf ks) (pZ (kOf ks) t) v R)/\Below w.heap.size w wr) (fun _ i _=>n-(intOf i).toNat)
 case atStart=>exact⟨0,0,[],by omega,by omega,rfl,rfl,⟨_,_,rfl⟩,⟨World.ownsRow_nil _ _ _ _,fun p h=>(by cases h),rfl⟩,Below.refl _ _⟩
 case round=>as_aux_lemma=>
  obtain⟨t,q,R,ht,hq,rfl,hql,⟨Av,cv,rfl⟩,hL,bel⟩:=hrel
  have hbs:=bel.size
  by_cases hlt:t<n
  ·obtain⟨b,off,x,rfl,hbb,hx,c0⟩:=bbZ (HA.out.below bel) HN.out hlt
   have hkx:kOf ks t=x:=by simp[kOf,List.getD_eq_getElem?_getD,hx]
   have hx32:=H32.out x (List.mem_of_getElem? hx)
   have hord:pZ (kOf ks) (t+1)=if x=0 then pZ (kOf ks) t else ins (kOf ks) t (pZ (kOf ks) t):=by rw[pZ,hkx]
   have HORD:=hid hord
   have HKX:=hid hkx
   have x0:(0:Int)<=(t:Int):=by omega
   have x1:(t:Int)<(n:Int):=by omega
   clear hx hkx hord
   by_cases hx0:x=0
   ·have HU:Hid (pZ (kOf ks) (t+1)=pZ (kOf ks) t):=by show _=_;rw[HORD.out,if_pos hx0]
    subst hx0
    clear HORD
    go_wp2_with fail
    go_roundw
    case rel=>go_light;exact⟨t+1,q,R,by omega,by omega,by go_num,by show _=_;rw[HU.out];exact hql.out,⟨_,_,rfl⟩,by rw[HU.out];exact hL,bel⟩
    case measure=>go_light;simp[intOf];omega
   ·have HU:Hid (pZ (kOf ks) (t+1)=ins (kOf ks) t (pZ (kOf ks) t)):=by show _=_;rw[HORD.out,if_neg hx0]
    have hxe:((x:Int)==0)=false:=by simp;omega
    have s0:IntKind.u64.wrap (x:Int)=(x:Int):=by rw[IntKind.wrap_u64];omega
    have hRl:R.length=q:=by rw[hL.out.len,hql.out]
    have HRL:=hid hRl
    clear hRl HORD hx0
    obtain⟨wo,rfl⟩:∃wo:World,wo=wr:=⟨_,rfl⟩
    go_wp2_with fail
    go_loopw [8] (fun av wr=>∃at_:Nat,at_<=q/\av= .int .i64 at_/\Hid (∀j y,at_<=j->(pZ (kOf ks) t)[j]? =some y->x<kOf ks y)/\Hid (Drawn wo wr)) (fun a _=>(intOf a).toNat)
    case atStart=>exact⟨q,Nat.le_refl _,rfl,(fun j y hj hy=>by have:=(List.getElem?_eq_some_iff.1 hy).1;have:=hql.out;omega),Drawn.refl _⟩
    case round=>
     obtain⟨at_,hat,rfl,hI,hD⟩:=hrel
     have hDk:=hD.out
     have d0:wr.cell? ⟨b,off+t,none⟩=some (.int .u32 (x:Nat)):=by obtain⟨p,rfl⟩:=hDk;exact c0
     by_cases hat0:0<at_
     ·obtain⟨y,hy⟩:∃y,(pZ (kOf ks) t)[at_-1]? =some y:=⟨_,List.getElem?_eq_getElem (by rw[hql.out];omega)⟩
      obtain⟨pp,hpp,hp1⟩:=hL.out.at_ hy
      have hrow0:=hL.out.1
      unfold RowI at hrow0
      rw[HRL.out]at hrow0
      obtain⟨gl,rfl,hgl1,hgl2,hgl3,hgl4,hglc⟩:=own_cells hrow0 (by omega)
      have d1:wr.cell? ⟨gl,(at_-1)*2,none⟩=some (.int .u64 (kOf ks y:Nat)):=by
       have h1:=hglc ((at_-1)*2) _ (tlZ R (at_-1) 0 (by rw[HRL.out];omega) (by omega))
       have h2:rcF R (at_-1) 0= .int .u64 (kOf ks y:Nat):=by
        unfold rcF
        rw[if_pos rfl,List.getD_eq_getElem?_getD,hpp]
        show Value.int .u64 ((pp.1.1:Nat):Int)=_
        rw[hp1]
       rw[h2]at h1
       obtain⟨p,rfl⟩:=hDk
       exact h1
      have HY:=hid hy
      have y0:(0:Int)<=(at_:Int)-1:=by omega
      have y1:(at_:Int)-1<(q:Int):=by omega
      have y2:(1:Int)<=(at_:Int):=by omega
      have y3:(0:Int)<(at_:Int):=by omega
      have s1:IntKind.i64.wrap ((at_:Int)-1)=(at_:Int)-1:=IntWalk.i64_in _ (by omega)
      have s2:((at_:Int)-1).toNat=at_-1:=by omega
      have HD2:∀q,Hid (Drawn wo (wr.drewN q)):=fun q=>hD.out.more q
      obtain⟨ky,hky⟩:∃ky,ky=kOf ks y:=⟨_,rfl⟩
      rw[<-hky]at d1
      have HKY:=hid hky
      clear hy hpp hp1 hrow0 hglc hky hDk
      by_cases hlt2:x<ky
      ·go_wp2_with fail
       go_quiet (fail)
       have HD3:=HD2 nq
       clear HD2 d0 d1 s1 s2 hD
       generalize wr.drewN nq=wq at *
       go_wp2_with fail
       go_roundw
       case rel=>
        go_light
        refine⟨at_-1,by omega,congrArg (Value.int .i64) (by omega),fun j z hj hz=> ?_,HD3⟩
        by_cases e:j=at_-1
        ·subst e
         rw[HY.out]at hz
         injection hz with hz
         rw[<-hz,<-HKY.out];exact hlt2
        ·exact hI.out j z (by omega) hz
       case measure=>go_light;simp[intOf];omega
      ·have HC:Hid (at_=0∨∃y,(pZ (kOf ks) t)[at_-1]? =some y/\kOf ks y<=x):= .inr ⟨y,HY.out,by rw[<-HKY.out];omega⟩
       go_wp2_with fail
       go_quiet (fail)
       have HDQ:=HD2 nq
       clear HD2 d0 d1 s1 s2
       generalize wr.drewN nq=wq at *
       generalize some (⟨gl,0,none⟩:Addr)=Av at *
       have hins:ins (kOf ks) t (pZ (kOf ks) t)=(pZ (kOf ks) t).take at_++t :: (pZ (kOf ks) t).drop at_:=lcZb (hdZ _ _) (by rw[hql.out];exact hat) (fun j y hj hy=>by rw[HKX.out];exact hI.out j y hj hy) (by rw[HKX.out];exact HC.out)
       have hDq:=HDQ.out
       have hLq:Lfs wq w.heap.size (kOf ks) (pZ (kOf ks) t) (.slice Av q cv) R:=by
        obtain⟨p,rfl⟩:=hDq
        exact⟨fZ hL.out.1 (fun _ _=>rfl),fun p hp=>fZ (hL.out.2.1 p hp) (fun _ _=>rfl),hL.out.2.2⟩
       have hbq:Below w.heap.size w wq:=fzZ hDq bel
       have hzq:=hbq.size
       have c0q:wq.cell? ⟨b,off+t,none⟩=some (.int .u32 (x:Nat)):=by obtain⟨p,rfl⟩:=hDq;exact c0
       have hrow:=hLq.1
       unfold RowI at hrow
       rw[HRL.out]at hrow
       have hwf:=mjZ hrow
       have hsp:∀a,Av=some a->a.spot=none:=by
        intro a ha
        rcases hrow.2 with ⟨hv,_⟩|⟨g,cap,cur,hv,_⟩
        ·injection hv with e1;rw[e1]at ha;cases ha
        ·injection hv with e1;rw[e1]at ha;injection ha with ha;rw[<-ha]
       have p1:∀w,(Instr.slice 344 (.slice Av q cv) none (some (.int .i64 (at_:Int))) none).run Tryz.prog w= .ok (.slice (ycZ Av 0 cv 2) at_ cv) w:=fuZ Tryz.underlying344 Tryz.sizeOf346 Av q cv .i64 (at_:Int) at_ rfl (by have:=hwf.2;omega)
       have p2:∀w,(Instr.slice 344 (.slice Av q cv) (some (.int .i64 (at_:Int))) none none).run Tryz.prog w= .ok (.slice (ycZ Av at_ cv 2) (q-at_) (cv-at_)) w:=qiZ Tryz.underlying344 Tryz.sizeOf346 Av q cv .i64 (at_:Int) at_ rfl hat
       have HSRC1:=hid (src_head (joZ hrow) hat)
       have HONE:=hid (Sv.one hLq.2.1)
       have HINS:=hid hins
       have HLQ:=hid hLq
       have HBQ:=hid hbq
       have HSP:=hid hsp
       have hcv:=hwf.2
       clear hins hLq hbq hrow hwf hsp hL bel hD HDQ hDq hI HC c0
       go_upto_region 13 with (at_builtin;refine hZ rfl (.tmp 64) (.tmp 67) 344 rfl wq.heap.size 346 j0 _ 2 32 Tryz.underlying344 hj0 hy0 hy1 hy2 rfl (by decide) _ _ _ (by rfl) (World.ownsRow_nil _ _ _ _) _ at_ cv ((rcL R).take (at_*2)) (by rfl) HSRC1.out (fun u hu=>HONE.out u (List.mem_of_mem_take hu)) (by unfold maxLen;omega) (by omega) (Nat.le_refl _) ?_;intro v1 w1 hown1 hg1 hat1)
       have hb1:Below wq.heap.size wq w1:=(Below.refl _ _).grown hg1 (Nat.le_refl _) (fun k hk=>by simp[Value.ownBlock]at hk)
       have hz1:=hb1.size
       rw[Nat.zero_add,List.nil_append]at hown1
       have c1:w1.cell? ⟨b,off+t,none⟩=some (.int .u32 (x:Nat)):=(World.cell?_of_block (a:=⟨b,off+t,none⟩) (hb1.block b (by omega))).trans c0q
       obtain⟨A1,c1',rfl⟩:=bZ hown1
       have HO1:=hid hown1
       have HB1:=hid hb1
       clear hown1 hg1 hat1 hb1 c0q p1 HSRC1
       go_upto_region 14 with (at_builtin;refine hZ rfl (.tmp 69) (.tmp 78) 344 rfl wq.heap.size 346 j0 _ 2 32 Tryz.underlying344 hj0 hy0 hy1 hy2 rfl (by decide) _ _ _ (by rfl) ((HO1.out.alloc _).alloc _) _ 1 1 [.int .u64 (x:Nat), .slice (some ⟨w1.heap.size,0,none⟩) 1 1] (by rfl) (Src.of_blk (g:=w1.heap.size+1) (Blk.made_at _ _ _ (by simp)) 1 1 2 rfl) (by intro u hu;simp at hu;rcases hu with rfl|rfl<;>rfl) (by unfold maxLen;omega) (by omega) (by simp;omega) ?_;intro v2 w3 hown2 hg2 hat2)
       have hr1:∀k,(Value.slice A1 at_ c1').ownBlock=some k->wq.heap.size<=k/\k<w1.heap.size:=fun k hk=>World.ownsRow.lt HO1.out k hk
       have hb3:Below wq.heap.size wq w3:=((HB1.out.alloc hz1 (.cells #[.int .i64 t] 3)).alloc (by simp;omega) _).grown hg2 (by simp;omega) (fun k hk=>(hr1 k hk).1)
       have hblk3:Blk w3 w1.heap.size 3 #[.int .i64 t]:=by
        have h1:=(Blk.made w1 3 #[.int .i64 t]).alloc (.cells #[.int .u64 (x:Nat), .slice (some ⟨w1.heap.size,0,none⟩) 1 1] 346)
        exact h1.grown hg2 (fun h=>by have:=(hr1 _ h.symm).2;omega)
       have hz3:=hb3.size
       obtain⟨A2,c2',rfl⟩:=bZ hown2
       have hL3:Lfs w3 w.heap.size (kOf ks) (pZ (kOf ks) t) (.slice Av q cv) R:=⟨fZ HLQ.out.1 (fun g hg=>hb3.block g (World.ownsRow.lt HLQ.out.1 g hg).2),HLQ.out.2.1.step hb3,HLQ.out.2.2⟩
       have hrow3:=hL3.1
       unfold RowI at hrow3
       rw[HRL.out]at hrow3
       have HSRC3:=hid (egZb (joZ hrow3) hat hcv HSP.out)
       have HO2:=hid hown2
       have HB3:=hid hb3
       have HK3:=hid hblk3
       have HL3:=hid hL3
       clear hown2 hg2 hat2 hb3 hblk3 hL3 hrow3 hr1 HLQ
       go_wp2_with(at_builtin;refine hZ rfl (.tmp 80) (.tmp 83) 344 rfl wq.heap.size 346 j0 _ 2 32 Tryz.underlying344 hj0 hy0 hy1 hy2 rfl (by decide) _ _ _ (by rfl) HO2.out _ (q-at_) (cv-at_) ((rcL R).drop (at_*2)) (by rfl) HSRC3.out (fun u hu=>HONE.out u (List.mem_of_mem_drop hu)) (by unfold maxLen;omega) (by omega) hz3 ?_;intro v4 w4 hown4 hg4 hat4)
       go_roundw
       case measure=>go_light;simp[intOf];omega
       case rel=>
        go_light
        obtain⟨A4,c4,rfl⟩:=bZ hown4
        have hr2:∀k,(Value.slice A2 (at_+1) c2').ownBlock=some k->wq.heap.size<=k/\k<w3.heap.size:=fun k hk=>World.ownsRow.lt HO2.out k hk
        have hb4:Below wq.heap.size wq w4:=HB3.out.grown hg4 hz3 (fun k hk=>(hr2 k hk).1)
        have hn4:at_+1+(q-at_)=q+1:=by omega
        rw[hn4]at hown4 ⊢
        have hblk4:Blk w4 w1.heap.size 3 #[.int .i64 t]:=HK3.out.grown hg4 (fun h=>kZ HO2.out HK3.out (by decide) h.symm)
        refine⟨t+1,q+1,R.take at_++ [((x,[t]), .slice (some ⟨w1.heap.size,0,none⟩) 1 1)]++R.drop at_,by omega,by omega,by go_num,?_,⟨_,_,rfl⟩,⟨?_,?_,?_⟩,HBQ.out.trans (hb4.mono hzq)⟩
        ·show _=_
         rw[HU.out,(hmZ _ _ _).length_eq,List.length_cons,hql.out]
        ·show World.ownsRow _ _ _ _ _ _ _
         have e1:(R.take at_++ [((x,[t]),Value.slice (some ⟨w1.heap.size,0,none⟩) 1 1)]++R.drop at_).length=q+1:=by
          simp[HRL.out];omega
         rw[e1,yeZ,yeZ,ouZ,puZ]
         exact nZ hown4 hzq
        ·intro p hp
         rcases List.mem_append.1 hp with hp|hp
         ·rcases List.mem_append.1 hp with hp|hp
          ·have h1:=HL3.out.2.1 p (List.mem_of_mem_take hp)
           refine fZ h1 (fun g hg=>hg4.block g (World.ownsRow.lt h1 g hg).2 ?_)
           rcases qcZ h1 HO2.out (by decide)with h0|h0
           ·rw[h0]at hg;cases hg
           ·rw[<-hg];exact h0
          ·rw[List.mem_singleton]at hp
           subst hp
           exact⟨rfl, .inr ⟨w1.heap.size,1,#[.int .i64 t],rfl,by omega,hblk4,Nat.le_refl _,by unfold maxLen;omega,rfl,rfl⟩⟩
         ·have h1:=HL3.out.2.1 p (List.mem_of_mem_drop hp)
          refine fZ h1 (fun g hg=>hg4.block g (World.ownsRow.lt h1 g hg).2 ?_)
          rcases qcZ h1 HO2.out (by decide)with h0|h0
          ·rw[h0]at hg;cases hg
          ·rw[<-hg];exact h0
        ·rw[HU.out,HINS.out,List.map_append,List.map_append,List.map_take,List.map_drop,HL3.out.2.2,lv,lv]
         simp[List.map_take,List.map_drop]
         exact HKX.out.symm
     ·have HC:Hid (at_=0∨∃y,(pZ (kOf ks) t)[at_-1]? =some y/\kOf ks y<=x):= .inl (by omega)
      have k1:decide (0<at_)=false:=by simpa using hat0
      have k2:decide ((0:Int)<(at_:Int))=false:=by simp;omega
      have HD2:∀q,Hid (Drawn wo (wr.drewN q)):=fun q=>hD.out.more q
      clear hDk hat0
      go_wp2_with fail
      go_quiet (fail)
      have HDQ:=HD2 nq
      clear HD2 d0 k1 k2
      generalize wr.drewN nq=wq at *
      have hins:ins (kOf ks) t (pZ (kOf ks) t)=(pZ (kOf ks) t).take at_++t :: (pZ (kOf ks) t).drop at_:=lcZb (hdZ _ _) (by rw[hql.out];exact hat) (fun j y hj hy=>by rw[HKX.out];exact hI.out j y hj hy) (by rw[HKX.out];exact HC.out)
      have hDq:=HDQ.out
      have hLq:Lfs wq w.heap.size (kOf ks) (pZ (kOf ks) t) (.slice Av q cv) R:=by
       obtain⟨p,rfl⟩:=hDq
       exact⟨fZ hL.out.1 (fun _ _=>rfl),fun p hp=>fZ (hL.out.2.1 p hp) (fun _ _=>rfl),hL.out.2.2⟩
      have hbq:Below w.heap.size w wq:=fzZ hDq bel
      have hzq:=hbq.size
      have c0q:wq.cell? ⟨b,off+t,none⟩=some (.int .u32 (x:Nat)):=by obtain⟨p,rfl⟩:=hDq;exact c0
      have hrow:=hLq.1
      unfold RowI at hrow
      rw[HRL.out]at hrow
      have hwf:=mjZ hrow
      have hsp:∀a,Av=some a->a.spot=none:=by
       intro a ha
       rcases hrow.2 with ⟨hv,_⟩|⟨g,cap,cur,hv,_⟩
       ·injection hv with e1;rw[e1]at ha;cases ha
       ·injection hv with e1;rw[e1]at ha;injection ha with ha;rw[<-ha]
      have p1:∀w,(Instr.slice 344 (.slice Av q cv) none (some (.int .i64 (at_:Int))) none).run Tryz.prog w= .ok (.slice (ycZ Av 0 cv 2) at_ cv) w:=fuZ Tryz.underlying344 Tryz.sizeOf346 Av q cv .i64 (at_:Int) at_ rfl (by have:=hwf.2;omega)
      have p2:∀w,(Instr.slice 344 (.slice Av q cv) (some (.int .i64 (at_:Int))) none none).run Tryz.prog w= .ok (.slice (ycZ Av at_ cv 2) (q-at_) (cv-at_)) w:=qiZ Tryz.underlying344 Tryz.sizeOf346 Av q cv .i64 (at_:Int) at_ rfl hat
      have HSRC1:=hid (src_head (joZ hrow) hat)
      have HONE:=hid (Sv.one hLq.2.1)
      have HINS:=hid hins
      have HLQ:=hid hLq
      have HBQ:=hid hbq
      have HSP:=hid hsp
      have hcv:=hwf.2
      clear hins hLq hbq hrow hwf hsp hL bel hD HDQ hDq hI HC c0
      go_upto_region 13 with (at_builtin;refine hZ rfl (.tmp 64) (.tmp 67) 344 rfl wq.heap.size 346 j0 _ 2 32 Tryz.underlying344 hj0 hy0 hy1 hy2 rfl (by decide) _ _ _ (by rfl) (World.ownsRow_nil _ _ _ _) _ at_ cv ((rcL R).take (at_*2)) (by rfl) HSRC1.out (fun u hu=>HONE.out u (List.mem_of_mem_take hu)) (by unfold maxLen;omega) (by omega) (Nat.le_refl _) ?_;intro v1 w1 hown1 hg1 hat1)
      have hb1:Below wq.heap.size wq w1:=(Below.refl _ _).grown hg1 (Nat.le_refl _) (fun k hk=>by simp[Value.ownBlock]at hk)
      have hz1:=hb1.size
      rw[Nat.zero_add,List.nil_append]at hown1
      have c1:w1.cell? ⟨b,off+t,none⟩=some (.int .u32 (x:Nat)):=(World.cell?_of_block (a:=⟨b,off+t,none⟩) (hb1.block b (by omega))).trans c0q
      obtain⟨A1,c1',rfl⟩:=bZ hown1
      have HO1:=hid hown1
      have HB1:=hid hb1
      clear hown1 hg1 hat1 hb1 c0q p1 HSRC1
      go_upto_region 14 with (at_builtin;refine hZ rfl (.tmp 69) (.tmp 78) 344 rfl wq.heap.size 346 j0 _ 2 32 Tryz.underlying344 hj0 hy0 hy1 hy2 rfl (by decide) _ _ _ (by rfl) ((HO1.out.alloc _).alloc _) _ 1 1 [.int .u64 (x:Nat), .slice (some ⟨w1.heap.size,0,none⟩) 1 1] (by rfl) (Src.of_blk (g:=w1.heap.size+1) (Blk.made_at _ _ _ (by simp)) 1 1 2 rfl) (by intro u hu;simp at hu;rcases hu with rfl|rfl<;>rfl) (by unfold maxLen;omega) (by omega) (by simp;omega) ?_;intro v2 w3 hown2 hg2 hat2)
      have hr1:∀k,(Value.slice A1 at_ c1').ownBlock=some k->wq.heap.size<=k/\k<w1.heap.size:=fun k hk=>World.ownsRow.lt HO1.out k hk
      have hb3:Below wq.heap.size wq w3:=((HB1.out.alloc hz1 (.cells #[.int .i64 t] 3)).alloc (by simp;omega) _).grown hg2 (by simp;omega) (fun k hk=>(hr1 k hk).1)
      have hblk3:Blk w3 w1.heap.size 3 #[.int .i64 t]:=by
       have h1:=(Blk.made w1 3 #[.int .i64 t]).alloc (.cells #[.int .u64 (x:Nat), .slice (some ⟨w1.heap.size,0,none⟩) 1 1] 346)
       exact h1.grown hg2 (fun h=>by have:=(hr1 _ h.symm).2;omega)
      have hz3:=hb3.size
      obtain⟨A2,c2',rfl⟩:=bZ hown2
      have hL3:Lfs w3 w.heap.size (kOf ks) (pZ (kOf ks) t) (.slice Av q cv) R:=⟨fZ HLQ.out.1 (fun g hg=>hb3.block g (World.ownsRow.lt HLQ.out.1 g hg).2),HLQ.out.2.1.step hb3,HLQ.out.2.2⟩
      have hrow3:=hL3.1
      unfold RowI at hrow3
      rw[HRL.out]at hrow3
      have HSRC3:=hid (egZb (joZ hrow3) hat hcv HSP.out)
      have HO2:=hid hown2
      have HB3:=hid hb3
      have HK3:=hid hblk3
      have HL3:=hid hL3
      clear hown2 hg2 hat2 hb3 hblk3 hL3 hrow3 hr1 HLQ
      go_wp2_with(at_builtin;refine hZ rfl (.tmp 80) (.tmp 83) 344 rfl wq.heap.size 346 j0 _ 2 32 Tryz.underlying344 hj0 hy0 hy1 hy2 rfl (by decide) _ _ _ (by rfl) HO2.out _ (q-at_) (cv-at_) ((rcL R).drop (at_*2)) (by rfl) HSRC3.out (fun u hu=>HONE.out u (List.mem_of_mem_drop hu)) (by unfold maxLen;omega) (by omega) hz3 ?_;intro v4 w4 hown4 hg4 hat4)
      go_roundw
      case measure=>go_light;simp[intOf];omega
      case rel=>
       go_light
       obtain⟨A4,c4,rfl⟩:=bZ hown4
       have hr2:∀k,(Value.slice A2 (at_+1) c2').ownBlock=some k->wq.heap.size<=k/\k<w3.heap.size:=fun k hk=>World.ownsRow.lt HO2.out k hk
       have hb4:Below wq.heap.size wq w4:=HB3.out.grown hg4 hz3 (fun k hk=>(hr2 k hk).1)
       have hn4:at_+1+(q-at_)=q+1:=by omega
       rw[hn4]at hown4 ⊢
       have hblk4:Blk w4 w1.heap.size 3 #[.int .i64 t]:=HK3.out.grown hg4 (fun h=>kZ HO2.out HK3.out (by decide) h.symm)
       refine⟨t+1,q+1,R.take at_++ [((x,[t]), .slice (some ⟨w1.heap.size,0,none⟩) 1 1)]++R.drop at_,by omega,by omega,by go_num,?_,⟨_,_,rfl⟩,⟨?_,?_,?_⟩,HBQ.out.trans (hb4.mono hzq)⟩
       ·show _=_
        rw[HU.out,(hmZ _ _ _).length_eq,List.length_cons,hql.out]
       ·show World.ownsRow _ _ _ _ _ _ _
        have e1:(R.take at_++ [((x,[t]),Value.slice (some ⟨w1.heap.size,0,none⟩) 1 1)]++R.drop at_).length=q+1:=by
         simp[HRL.out];omega
        rw[e1,yeZ,yeZ,ouZ,puZ]
        exact nZ hown4 hzq
       ·intro p hp
        rcases List.mem_append.1 hp with hp|hp
        ·rcases List.mem_append.1 hp with hp|hp
         ·have h1:=HL3.out.2.1 p (List.mem_of_mem_take hp)
          refine fZ h1 (fun g hg=>hg4.block g (World.ownsRow.lt h1 g hg).2 ?_)
          rcases qcZ h1 HO2.out (by decide)with h0|h0
          ·rw[h0]at hg;cases hg
          ·rw[<-hg];exact h0
         ·rw[List.mem_singleton]at hp
          subst hp
          exact⟨rfl, .inr ⟨w1.heap.size,1,#[.int .i64 t],rfl,by omega,hblk4,Nat.le_refl _,by unfold maxLen;omega,rfl,rfl⟩⟩
        ·have h1:=HL3.out.2.1 p (List.mem_of_mem_drop hp)
         refine fZ h1 (fun g hg=>hg4.block g (World.ownsRow.lt h1 g hg).2 ?_)
         rcases qcZ h1 HO2.out (by decide)with h0|h0
         ·rw[h0]at hg;cases hg
         ·rw[<-hg];exact h0
       ·rw[HU.out,HINS.out,List.map_append,List.map_append,List.map_take,List.map_drop,HL3.out.2.2,lv,lv]
        simp[List.map_take,List.map_drop]
        exact HKX.out.symm
  ·obtain rfl:t=n:=by omega
   have hEE:pcZ ks L=if 2 ^ L<q then 6 else 0:=by
    unfold pcZ
    rw[if_neg (by have:=HN.out;omega)]
    show(if 2 ^ L<(pZ (kOf ks) ks.length).length then _ else _)=_
    rw[HN.out,hql.out]
   have HEE:=hid hEE
   obtain⟨S,hS⟩:∃S,S=pZ (kOf ks) t:=⟨_,rfl⟩
   have HS:=hid hS
   rw[<-hS]at hql hL
   clear hEE hS
   go_wp2_with fail
   go_loop [11,12] (fun mv iv=>∃ (i M:Nat),i<=L/\M<=32768/\iv= .int .i64 i/\mv= .int .i64 M/\Hid (M=2 ^ i)) (fun _ i=>L-(intOf i).toNat)
   case atStart=>exact⟨0,1,by omega,by omega,rfl,rfl,rfl⟩
   case round=>as_aux_lemma=>
    obtain⟨i,M,hi,hM,rfl,rfl,hp⟩:=hrel
    by_cases hlt2:i<L
    ·have hM2:2*M<=32768:=by
      rw[hp.out,Nat.mul_comm,<-Nat.pow_succ]
      have:2 ^ (i+1)<=2 ^ 15:=Nat.pow_le_pow_right (by omega) (by omega)
      exact this
     go_wp2_with fail
     go_round
     case rel=>go_light;exact⟨i+1,2*M,by omega,hM2,by go_num,by go_num,by show _=_;rw[hp.out,Nat.pow_succ,Nat.mul_comm]⟩
     case measure=>go_light;simp[intOf];omega
    ·obtain rfl:i=L:=by omega
     rw[<-hp.out]at HEE
     by_cases hbig:M<q
     ·have HE6:Hid (pcZ ks i=6):=by show _=_;rw[HEE.out,if_pos hbig]
      have k1:decide (M<q)=true:=by simpa using hbig
      have k2:decide ((M:Int)<(q:Int))=true:=by simpa using hbig
      clear HEE
      go_wp2_with fail
      go_ret2
      exact cfZ (by decide) HE6.out rfl bel
     ·have HE0:Hid (pcZ ks i=0):=by show _=_;rw[HEE.out,if_neg hbig]
      have k1:decide (M<q)=false:=by simpa using hbig
      have k2:decide ((M:Int)<(q:Int))=false:=by simp;omega
      have hqM:Hid (q<=2 ^ i):=by show _<=_;rw[<-hp.out];omega
      clear HEE
      go_wp2_with fail
      clear k1 k2 hbig hp hM
      obtain⟨wa,rfl⟩:∃wa:World,wa=wr:=⟨_,rfl⟩
      have hbas:=bel.size
      go_loopw [13,14] (fun v sv wr=>∃s:Nat,s<=t/\sv= .int .i64 s/\wr.ownsRow wa.heap.size 5 1 v s (List.replicate s (.int .u8 0))/\Below wa.heap.size wa wr) (fun _ s _=>t-(intOf s).toNat)
      case atStart=>exact⟨0,by omega,rfl,World.ownsRow_nil _ _ _ _,Below.refl _ _⟩
      case round=>as_aux_lemma=>
       obtain⟨s,hs,rfl,hown,hbx⟩:=hrel
       have hzx:=hbx.size
       by_cases hst:s<t
       ·obtain⟨va,vc,rfl⟩:=bZ hown
        have HO:=hid hown
        have HBX:=hid hbx
        clear hown hbx
        go_wp2_with(at_builtin;refine hZ rfl (.tmp 103) (.tmp 104) 29 rfl wa.heap.size 5 u0 _ 1 1 Tryz.underlying29 hu0 hv0 hv1 hv2 rfl (by decide) _ _ _ (by rfl) (HO.out.alloc _) _ 1 1 [.int .u8 0] (by rfl) (Src.of_blk (Blk.made _ _ _) 1 1 1 rfl) (by intro u hu;simp at hu;subst hu;rfl) (by unfold maxLen;omega) (by omega) (by simp;omega) ?_;intro v4 w4 hown4 hg4 hat4)
        go_roundw
        case measure=>go_light;simp[intOf];omega
        case rel=>
         go_light
         refine⟨s+1,by omega,by go_num,?_,(eZ hzx HBX.out).grown hg4 (by simp;omega) (fun k hk=>(World.ownsRow.lt HO.out k hk).1)⟩
         rw[List.replicate_succ'];exact hown4
       ·obtain rfl:s=t:=by omega
        obtain⟨va,vc,rfl⟩:=bZ hown
        have hLx:Lfs wr w.heap.size (kOf ks) S (.slice Av q cv) R:=hL.out.step hbx
        have hbw:Below w.heap.size w wr:=bel.trans (hbx.mono hbas)
        have hSo:S=pZ (kOf ks) ks.length:=by rw[HS.out,HN.out]
        have HSO:=hid hSo
        have HLX:=hid hLx
        have HBW:=hid hbw
        clear hSo hLx hL
        by_cases q0:q=0
        ·subst q0
         have hS0:S= []:=List.eq_nil_of_length_eq_zero hql.out
         have hV:hiZ ks i=(List.range s).map (fun _=>0):=by
          rw[opZ,HN.out]
          refine List.map_congr_left fun z _=> ?_
          exact cuZ (by rw[<-HSO.out,hS0];simp)
         have HV:=hid hV
         clear hS0 hV
         go_wp2_with fail
         go_ret2
         rcases Nat.eq_zero_or_pos s with h0|h0
         ·subst h0
          have hO:kcZ ks i= []:=by unfold kcZ;rw[if_pos HE0.out,Int.toNat_natCast,HV.out];rfl
          refine⟨va,vc,?_,?_,?_,HBW.out,fun h=>by rw[hO]at h;simp at h⟩
          ·rw[hO,HE0.out];rfl
          ·rw[hO];exact Row.zero
          ·rw[hO];exact mjZ hown
         ·obtain⟨g,cs,rfl,hg,hnc,hb,hu⟩:=klZb hown h0
          exact ykZ HE0.out (by rw[Int.toNat_natCast,HV.out]) hu hnc hb rfl HBW.out (by omega)
        ·obtain⟨go,cs,rfl,hgo,hnc,hbo,huo⟩:=klZb hown (by omega)
         have hgol:=hbo.lt
         have HU0:=hid huo
         have HBO:=hid hbo
         have hown0:=HLX.out.1
         have hRlen:R.length=q:=by rw[HLX.out.len,hql.out]
         unfold RowI at hown0
         rw[hRlen]at hown0
         obtain⟨gl,rfl,hgl1,hgl2,hgl3,hgl4,hglc⟩:=own_cells hown0 (by omega)
         have HGL:=hid hglc
         have HRL:=hid hRlen
         clear hown huo hbo hown0 hglc hRlen
         by_cases q1:q=1
         ·subst q1
          obtain⟨s0,hs0⟩:∃s0,S= [s0]:=List.length_eq_one_iff.1 hql.out
          obtain⟨pp,hpp,hp1⟩:=HLX.out.at_ (i:=0) (x:=s0) (by rw[hs0];rfl)
          have hsv:=HLX.out.2.1 pp (List.mem_of_getElem? hpp)
          rw[hp1]at hsv
          have hsn:s0<s:=by
           have:s0∈pZ (kOf ks) ks.length:=by rw[<-HSO.out,hs0];simp
           have:=(qfZ.1 this).1
           rw[HN.out]at this;exact this
          obtain⟨sA,sc,hsh⟩:=bZ hsv
          rw[hsh]at hsv
          obtain⟨gs,rfl,hgs1,hgs2,_,_,hgsc⟩:=own_cells hsv (by show 0< [s0].length;simp)
          have d0:wr.cell? ⟨gs,0,none⟩=some (.int .i64 (s0:Nat)):=hgsc 0 _ rfl
          have d1:wr.cell? ⟨gl,1,none⟩=some (.slice (some ⟨gs,0,none⟩) 1 sc):=by
           have h1:=HGL.out 1 _ (tlZ R 0 1 (by rw[HRL.out];omega) (by omega))
           rw[h1]
           unfold rcF
           rw[if_neg (by omega),List.getD_eq_getElem?_getD,hpp]
           show some pp.2=_
           rw[hsh];rfl
          have c2:=HBO.out.cell s0
          rw[HU0.out.2 s0 hsn]at c2
          have f2:=HBO.out.frozen s0
          have hV:hiZ ks i=(List.range s).map (fun z=>if z=s0 then 1 else 0):=by
           rw[opZ,HN.out]
           refine List.map_congr_left fun z _=> ?_
           unfold vdZ
           rw[<-HSO.out,hs0,if_pos (by simp)]
           simp
          have HV:=hid hV
          have HU1:Hid (U8p (fun z=>if z=s0 then 1 else 0) s (cs.setIfInBounds s0 (.int .u8 1))):=HU0.out.set (v:=1) hsn (by simp) (fun j hj=>by simp[hj])
          have x2:(0:Int)<=(s0:Int):=by omega
          have x3:(s0:Int)<(s:Int):=by omega
          clear hs0 hpp hp1 hsv hsh hgsc hV
          go_wp2_with fail
          go_ret2
          exact ykZ HE0.out (by rw[Int.toNat_natCast,HV.out]) HU1.out hnc (HBO.out.set s0 _) rfl (jZ (p:=⟨go,s0,none⟩) (show w.heap.size<=go by omega) HBW.out) (by omega)
         ·have HSY:Hid (Syms ks s S):=by
           have hSO:=HSO.out
           rw[HN.out]at hSO
           show Syms ks s S
           rw[hSO]at hql ⊢
           refine⟨hdZ _ _,rsZ _ _,fun z hz=>(qfZ.1 hz).1,fun z hz=> ?_,by have:=hql.out;omega,by have:=lhZ (kOf ks) s;omega,lhZ (kOf ks) s⟩
           have hzn:=(qfZ.1 hz).1
           have hzl:z<ks.length:=by have:=HN.out;omega
           have:kOf ks z=ks[z]'hzl:=by simp[kOf,List.getD_eq_getElem?_getD,List.getElem?_eq_getElem hzl]
           rw[this]
           have:=H32.out _ (List.getElem_mem hzl)
           omega
          have b1:((q:Int)==1)=false:=by simp;omega
          have b2:decide (q<2)=false:=by simp;omega
          have b3:decide ((q:Int)<2)=false:=by simp;omega
          obtain⟨wb,rfl⟩:∃wb:World,wb=wr:=⟨_,rfl⟩
          have hbwb:=HBW.out.size
          have HRW0:Hid (Rws wb w.heap.size (sZ (lv (kOf ks) S) 0) (.slice (some ⟨gl,0,none⟩) q cv) R):=HLX.out
          clear HGL
          go_wp2_with fail
          clear b1 b2 b3
          go_loopw [15,16] (fun v rv wr=>∃ (r m:Nat) (Av:Option Addr) (cv:Nat) (Rr:List RI),1<=r/\r<=i/\rv= .int .i64 r/\v= .slice Av m cv/\Hid (Rr.length=m)/\Hid (Rws wr w.heap.size (sZ (lv (kOf ks) S) (r-1)) (.slice Av m cv) Rr)/\Below wb.heap.size wb wr) (fun _ r _=>i-(intOf r).toNat)
          case atStart=>exact⟨1,q,_,cv,R,by omega,by omega,rfl,rfl,HRL.out,HRW0,Below.refl _ _⟩
          case round=>as_aux_lemma=>
           obtain⟨r,m,Ar,cr,Rr,hr1,hr2,rfl,rfl,hRm,hRW,hbw⟩:=hrel
           have hzw:=hbw.size
           have hsm:=cnZ HSY.out (r:=r-1) (by omega)
           rw[<-hRW.out.len,hRm.out,hql.out]at hsm
           obtain⟨hsm1,hsm2,hsm3⟩:=hsm
           have HSM:=hid hsm1
           obtain⟨gr,rfl,hgr1,hgr2,hgr3,hgrc⟩:=hRW.out.cells hRm.out (by omega)
           have HGR:=hid hgrc
           clear hsm1 hgrc
           obtain⟨wc,rfl⟩:∃wc:World,wc=wr:=⟨_,rfl⟩
           by_cases hri:r<i
           ·go_wp2_with fail
            go_loopw [17,18] (fun vp iv wr=>∃ (u e:Nat) (Ap:Option Addr) (cp:Nat) (P:List RI),e<=m/\Hid (e=2*u)/\u<=e/\iv= .int .i64 e/\vp= .slice Ap u cp/\Hid (P.length=u)/\Hid (Rws wr wc.heap.size ((vcZ (sZ (lv (kOf ks) S) (r-1))).take u) (.slice Ap u cp) P)/\Below wc.heap.size wc wr) (fun _ e _=>m-(intOf e).toNat)
            case atStart=>exact⟨0,0,none,0,[],by omega,rfl,by omega,rfl,rfl,rfl,⟨World.ownsRow_nil _ _ _ _,fun p h=>(by cases h),rfl⟩,Below.refl _ _⟩
            case round=>as_aux_lemma=>
             obtain⟨u,e,Ap,cp,P,hem,he2,hue,rfl,rfl,hPu,hPW,hbd⟩:=hrel
             have hzd:=hbd.size
             by_cases hlt3:e+1<m
             ·obtain⟨p0,hp0⟩:∃p0,Rr[e]? =some p0:=⟨_,List.getElem?_eq_getElem (by rw[hRm.out];omega)⟩
              obtain⟨p1,hp1⟩:∃p1,Rr[e+1]? =some p1:=⟨_,List.getElem?_eq_getElem (by rw[hRm.out];omega)⟩
              obtain⟨c00,c01⟩:=HGR.out e p0 hp0
              obtain⟨c10,c11⟩:=HGR.out (e+1) p1 hp1
              have hx0:(sZ (lv (kOf ks) S) (r-1))[e]? =some p0.1:=by rw[<-hRW.out.2.2];exact jmZ hp0
              have hx1:(sZ (lv (kOf ks) S) (r-1))[e+1]? =some p1.1:=by rw[<-hRW.out.2.2];exact jmZ hp1
              have hpa:(vcZ (sZ (lv (kOf ks) S) (r-1)))[u]? =some (p0.1.1+p1.1.1,p0.1.2++p1.1.2):=mcZb (by rw[<-he2.out];exact hx0) (by rw[<-he2.out];exact hx1)
              have hw0:=(HSM.out p0.1 (List.mem_of_getElem? hx0)).2
              have hw1:=(HSM.out p1.1 (List.mem_of_getElem? hx1)).2
              have hs0:=hRW.out.2.1 p0 (List.mem_of_getElem? hp0)
              have hs1:=hRW.out.2.1 p1 (List.mem_of_getElem? hp1)
              obtain⟨A0,k0,hsh0⟩:=bZ hs0
              obtain⟨A1,k1,hsh1⟩:=bZ hs1
              rw[hsh0]at hs0 c01
              rw[hsh1]at hs1 c11
              obtain⟨⟨a0,xs0⟩,v0⟩:=p0
              obtain⟨⟨a1,xs1⟩,v1⟩:=p1
              simp only at c00 c01 c10 c11 hpa hw0 hw1 hs0 hs1
              have q14:2 ^ (r-1)<=2 ^ 14:=Nat.pow_le_pow_right (by omega) (by omega)
              have hxl0:=tjZ (k:=kOf ks) (S:=S) (r-1) _ (List.mem_of_getElem? hx0)
              have hxl1:=tjZ (k:=kOf ks) (S:=S) (r-1) _ (List.mem_of_getElem? hx1)
              simp only at hxl0 hxl1
              obtain⟨l0,hl0⟩:∃l0,l0=xs0.length:=⟨_,rfl⟩
              obtain⟨l1,hl1⟩:∃l1,l1=xs1.length:=⟨_,rfl⟩
              rw[<-hl0]at hs0 c01 hxl0
              rw[<-hl1]at hs1 c11 hxl1
              have hb0:l0<=16384:=by omega
              have hb1:l1<=16384:=by omega
              obtain⟨wd,rfl⟩:∃wd:World,wd=wr:=⟨_,rfl⟩
              have HSRC0:=hid (ocZb hs0 hbd)
              have d01:=(hbd.cell (p:=⟨gr,e*2+1,none⟩) hgr2).trans c01
              have HS1:=hid hs1
              have HC:=hid (And.intro c00 (And.intro c10 c11))
              have HPA:=hid hpa
              have HLL:=hid (And.intro hl0 hl1)
              have x0:(0:Int)<=(e:Int):=by omega
              have x1:(e:Int)<(m:Int):=by omega
              have x2:(0:Int)<=(e:Int)+1:=by omega
              have x3:(e:Int)+1<(m:Int):=by omega
              clear hp0 hp1 hx0 hx1 hpa hsh0 hsh1 hs0 hs1 c00 c01 c10 c11 q14 hxl0 hxl1 hl0 hl1
              go_upto_region 41 with (at_builtin;refine hZ rfl (.tmp 132) (.tmp 137) 38 rfl wd.heap.size 3 i0 _ 1 8 Tryz.underlying38 hi0 hz0 hz1 hz2 rfl (by decide) _ _ _ (by rfl) (World.ownsRow_nil _ _ _ _) _ l0 k0 (dZ .i64 xs0) (by rfl) HSRC0.out (qZ _ _) (by unfold maxLen;omega) (by omega) (Nat.le_refl _) ?_;intro va wf howna hga hata)
              have hbf:Below wd.heap.size wd wf:=(Below.refl _ _).grown hga (Nat.le_refl _) (fun k hk=>by simp[Value.ownBlock]at hk)
              have hzf:=hbf.size
              rw[Nat.zero_add,List.nil_append]at howna
              obtain⟨Aa,ca,rfl⟩:=bZ howna
              have hbcf:Below wc.heap.size wc wf:=hbd.trans (hbf.mono hzd)
              have d11:=(hbcf.cell (p:=⟨gr,(e+1)*2+1,none⟩) hgr2).trans HC.out.2.2
              have HSRC1:=hid (ocZb HS1.out hbcf)
              have HOA:=hid howna
              have HBF:=hid hbf
              clear howna hga hata hbf hbcf d01
              go_upto_region 42 with (at_builtin;refine hZ rfl (.tmp 139) (.tmp 145) 38 rfl wd.heap.size 3 i0 _ 1 8 Tryz.underlying38 hi0 hz0 hz1 hz2 rfl (by decide) _ _ _ (by rfl) HOA.out _ l1 k1 (dZ .i64 xs1) (by rfl) HSRC1.out (qZ _ _) (by unfold maxLen;omega) (by omega) hzf ?_;intro vb wg hownb hgb hatb)
              have hbg:Below wd.heap.size wd wg:=HBF.out.grown hgb hzf (fun k hk=>(World.ownsRow.lt HOA.out k hk).1)
              have hzg:=hbg.size
              obtain⟨Ab,cb,rfl⟩:=bZ hownb
              have hbcg:Below wc.heap.size wc wg:=hbd.trans (hbg.mono hzd)
              have e00:=(hbcg.cell (p:=⟨gr,e*2,none⟩) hgr2).trans HC.out.1
              have e10:=(hbcg.cell (p:=⟨gr,(e+1)*2,none⟩) hgr2).trans HC.out.2.1
              have hPg:=hPW.out.step hbg
              have hPrw:=hPg.1
              unfold RowI at hPrw
              rw[hPu.out]at hPrw
              have s1:IntKind.i64.wrap ((e:Int)+1)=(e:Int)+1:=IntWalk.i64_in _ (by omega)
              have s2:((e:Int)+1).toNat=e+1:=by omega
              have s3:IntKind.u64.wrap ((a0:Int)+(a1:Int))=(a0:Int)+(a1:Int):=by rw[IntKind.wrap_u64];omega
              have HPG:=hid hPg
              have HPRW:=hid hPrw
              have HOB:=hid hownb
              have HBCG:=hid hbcg
              have hgrw:gr<wg.heap.size:=by omega
              have hzcg:wc.heap.size<=wg.heap.size:=by omega
              clear hPg hPrw hownb hgb hatb hbg hbcg d11
              have hne:some gr≠(Value.slice Ap u cp).ownBlock:=fun h=>by have:=(World.ownsRow.lt HPRW.out gr h.symm).1;omega
              go_region_held3 (fun w'=>w'.cell? ⟨gr,e*2,none⟩=some (.int .u64 (a0:Nat))/\w'.cell? ⟨gr,(e+1)*2,none⟩=some (.int .u64 (a1:Nat)))
               (first|go_keep|exact⟨y0,y1⟩)
               ((refine step_append_lies _ (by rfl) _ _ _ (by rfl) wc.heap.size 346 j0 _ 2 32 Tryz.underlying344 hj0 hy0 hy1 hy2 rfl (by omega) (.slice Ap u cp) u (rcL P) (by rfl) ((HPRW.out.alloc _).drew) ⟨wg.heap.size,0,none⟩ 1 1 [.int .u64 ((a0:Int)+(a1:Int)), .slice Ab (l0+l1) cb] (by rfl) (by rfl) (World.news_of_block (cs:=#[.int .u64 ((a0:Int)+(a1:Int)), .slice Ab (l0+l1) cb]) (t:=346) (fr:=(0,0)) (heap_alloc_new wg _)) (by intro u hu;simp at hu;rcases hu with rfl|rfl<;>rfl) (by omega) (by unfold maxLen;omega) (by omega) (by simp;omega) (wg.heap.size+1) (by simp) ?_;intro g3 cap3 w3 hown3 hgrow hat3 hlt5;have y0:w3.cell? ⟨gr,e*2,none⟩=some (.int .u64 (a0:Nat)):=(World.cell?_of_block (a:=⟨gr,e*2,none⟩) ((hgrow.block gr (by simp;omega) hne).trans (Below.heap_alloc wg _ gr hgrw))).trans e00;have y1:w3.cell? ⟨gr,(e+1)*2,none⟩=some (.int .u64 (a1:Nat)):=(World.cell?_of_block (a:=⟨gr,(e+1)*2,none⟩) ((hgrow.block gr (by simp;omega) hne).trans (Below.heap_alloc wg _ gr hgrw))).trans e10))
              have hbt:=HPRW.out
              clear s1 s2 s3 y0 y1 e00 e10
              go_wp2_with fail
              go_roundw
              case measure=>go_light;simp[intOf];omega
              case rel=>
               go_light
               obtain⟨hl0,hl1⟩:=HLL.out
               have hbel3:Below wc.heap.size wc w3:=((eZ hzcg HBCG.out).drew).grown hgrow (by simp;omega) (fun k hk=>(World.ownsRow.lt hbt k hk).1)
               have hvb:((wg.alloc (.cells #[.int .u64 ((a0:Int)+(a1:Int)), .slice Ab (l0+l1) cb] 346)).drew).ownsRow wc.heap.size 3 1 (.slice Ab (l0+l1) cb) (l0+l1) (dZ .i64 (xs0++xs1)):=by
                have h1:=HOB.out.alloc (.cells #[.int .u64 ((a0:Int)+(a1:Int)), .slice Ab (l0+l1) cb] 346)
                have h2:=nZ (h1.drew) (show wc.heap.size<=wd.heap.size by omega)
                unfold dZ at h2 ⊢
                rw[List.map_append];exact h2
               have hSv0:Sv ((wg.alloc (.cells #[.int .u64 ((a0:Int)+(a1:Int)), .slice Ab (l0+l1) cb] 346)).drew) wc.heap.size (P++ [((a0+a1,xs0++xs1), .slice Ab (l0+l1) cb)]):=by
                intro p hp
                rcases List.mem_append.1 hp with hp|hp
                ·exact(HPG.out.2.1 p hp).alloc _
                ·rw[List.mem_singleton]at hp
                 subst hp
                 show World.ownsRow _ _ _ _ _ (xs0++xs1).length _
                 rw[List.length_append,<-hl0,<-hl1]
                 exact hvb
               refine⟨u+1,e+2,_,cap3,P++ [((a0+a1,xs0++xs1), .slice Ab (l0+l1) cb)],by omega,?_,by omega,by go_num,rfl,?_,hid ⟨?_,?_,?_⟩,hbel3⟩
               ·show _=_;have:=he2.out;omega
               ·show _=_;rw[List.length_append,hPu.out];rfl
               ·show World.ownsRow _ _ _ _ _ (P++ [_]).length _
                rw[List.length_append,hPu.out,yeZ]
                exact hown3
               ·exact hSv0.grown ((hbt.alloc _).drew) hgrow
               ·rw[List.map_append,HPG.out.2.2,List.take_add_one,HPA.out];rfl
             ·have hpl:(vcZ (sZ (lv (kOf ks) S) (r-1))).length<=u:=by
               have h1:=hRW.out.len
               rw[hRm.out]at h1
               have h2:=he2.out
               rw[ffZ];omega
              have hPW2:=hPW.out
              rw[List.take_of_length_le hpl]at hPW2
              have hLf:=(HLX.out.step (hbw.trans (hbd.mono hzw)))
              have hbwd:Below w.heap.size w wr:=HBW.out.trans ((hbw.trans (hbd.mono hzw)).mono hbwb)
              have hrow1:Row wr wr.heap.size (some ⟨gl,0,none⟩) q 2 (rcF R):=by
               have h1:=hLf.1
               rw[<-HRL.out]at h1
               have h2:=RowI.row h1
               rw[HRL.out]at h2
               exact h2
              have hrow2:Row wr wr.heap.size Ap u 2 (rcF P):=by
               have h1:=hPW2.1
               rw[<-hPu.out]at h1
               have h2:=RowI.row h1
               rw[hPu.out]at h2
               exact h2
              have CM:=hid (vhZb wr (some ⟨gl,0,none⟩) Ap q cv u cp R P HRL.out hPu.out (by omega) (by omega) (Sv.shapes hLf.2.1) (Sv.shapes hPW2.2.1) hrow1 hrow2)
              have HLF:=hid hLf
              have HPW2:=hid hPW2
              clear hrow1 hrow2 hLf hPW2 hpl
              go_wp2_with fail
              refine CM.out.mono ?_
              rintro ee w9 ⟨v9,done,rfl,hrow9,hmap9,hmem9,hb9⟩
              have hz9:=hb9.size
              have hR9:Rws w9 w.heap.size (sZ (lv (kOf ks) S) r) v9 done:=by
               refine⟨nZ hrow9 (by omega),fun p hp=> ?_,?_⟩
               ·rcases hmem9 p hp with h|h
                ·exact(HLF.out.2.1.step hb9) p h
                ·exact nZ ((HPW2.out.2.1.step hb9) p h) (by omega)
               ·rw[hmap9,HLF.out.2.2,HPW2.out.2.2]
                obtain⟨r',rfl⟩:∃r',r=r'+1:=⟨r-1,by omega⟩
                rfl
              obtain⟨A9,c9,rfl⟩:=hrow9.shape
              have HR9:=hid hR9
              clear hrow9 hmap9 hmem9 hR9
              go_wp2_with fail
              go_roundw
              case measure=>go_light;simp[intOf];omega
              case rel=>go_light;exact⟨r+1,done.length,A9,c9,done,by omega,by omega,by go_num,rfl,by show _=_;rfl,by rw[Nat.add_sub_cancel];exact HR9,(hbw.trans (hbd.mono hzw)).trans (hb9.mono (by omega))⟩
           ·obtain rfl:r=i:=by omega
            have hT:2*q-2<=m:=by
             have h1:=ytZ (k:=kOf ks) (S:=S) (limit:=r) (by omega) (by rw[hql.out];omega) (by rw[hql.out];exact hqM.out)
             rw[<-hRW.out.len,hRm.out,hql.out]at h1
             exact h1
            have hboc:Blk wc go 5 cs:=HBO.out.step hbw
            have hgrgo:gr≠go:=fun h=>kZ hRW.out.1 hboc (by decide) (by rw[<-h];rfl)
            have HBC:=hid hboc
            have hgoc:=hboc.lt
            have hu00:Hid (∀j,(fun _:Nat=>0) j=(flat ((sZ (lv (kOf ks) S) (r-1)).take 0)).count j):=fun j=>by simp[flat]
            have hbwc:Below w.heap.size w wc:=HBW.out.trans (hbw.mono hbwb)
            have HBWC:=hid hbwc
            clear hboc hbwc
            go_wp2_with fail
            go_loopw [20] (fun zv wr=>∃ (z:Nat) (f:Nat->Nat) (cs':Array Value),z<=2*q-2/\zv= .int .i64 z/\Hid (∀j,f j=(flat ((sZ (lv (kOf ks) S) (r-1)).take z)).count j)/\Hid (U8p f s cs')/\Blk wr go 5 cs'/\Hid (Kept (fun b=>b<wc.heap.size/\b≠go) wc wr)) (fun z _=>2*q-(intOf z).toNat)
            case atStart=>exact⟨0,_,cs,by omega,rfl,hu00,HU0,HBC.out,Kept.refl _ _⟩
            case round=>as_aux_lemma=>
             clear hu00
             obtain⟨z,f,cs',hz,rfl,hF,hU,bl,hK⟩:=hrel
             have hks:=hK.out.size
             by_cases hzT:z<2*q-2
             ·obtain⟨p,hp⟩:∃p,Rr[z]? =some p:=⟨_,List.getElem?_eq_getElem (by rw[hRm.out];omega)⟩
              have hxz:(sZ (lv (kOf ks) S) (r-1))[z]? =some p.1:=by rw[<-hRW.out.2.2];exact jmZ hp
              have hcp:=(HGR.out z p hp).2
              have hsv:=hRW.out.2.1 p (List.mem_of_getElem? hp)
              have hlen:=tjZ (k:=kOf ks) (S:=S) (r-1) _ (List.mem_of_getElem? hxz)
              have hpos:0<p.1.2.length:=List.length_pos_iff.2 (hpZ (k:=kOf ks) (S:=S) (r-1) _ (List.mem_of_getElem? hxz))
              have hmem:∀y∈p.1.2,y<s:=fun y hy=>HSY.out.below y ((lrZb (k:=kOf ks) (S:=S) (r-1) _ (List.mem_of_getElem? hxz)).2 y hy)
              have hcnt:∀kk y,(flat ((sZ (lv (kOf ks) S) (r-1)).take z)).count y+(p.1.2.take kk).count y<=15:=by
               intro kk y
               have h1:=ncZb (kk:=kk) (y:=y) hxz hzT
               rw[kpZ HSY.out.nodup (r-1) (2*q-2) (by rw[<-hRW.out.len,hRm.out];exact hT)]at h1
               have h2:=rwZ (k:=kOf ks) (S:=S) (r-1) (2*q-2) y
               omega
              have q14:2 ^ (r-1)<=2 ^ 14:=Nat.pow_le_pow_right (by omega) (by omega)
              obtain⟨Ax,cx,hsh⟩:=bZ hsv
              rw[hsh]at hsv hcp
              obtain⟨⟨xa,xs⟩,xv⟩:=p
              simp only at hsv hcp hlen hpos hmem hcnt
              obtain⟨lx,hlx⟩:∃lx,lx=xs.length:=⟨_,rfl⟩
              rw[<-hlx]at hsv hcp hlen hpos
              have hgsgo:=fun g (h:Ax=some ⟨g,0,none⟩)=>(kZ hsv HBC.out (by decide))
              obtain⟨gs,rfl,hgs1,hgs2,hgs3,hgs4,hgsc⟩:=own_cells hsv hpos
              have hgne:gs≠go:=fun h=>hgsgo gs rfl (by rw[<-h];rfl)
              have hlb:lx<=16384:=by omega
              have HGS:=hid hgsc
              have HMEM:=hid hmem
              have HCNT:=hid hcnt
              have HXZ:=hid hxz
              have HLX2:=hid hlx
              have hf0:Hid (∀j,f j=(flat ((sZ (lv (kOf ks) S) (r-1)).take z)).count j+(xs.take 0).count j):=fun j=>by rw[hF.out j];simp
              clear hp hxz hsv hlen hmem hcnt q14 hsh hgsgo hgsc hlx hF
              obtain⟨wz,rfl⟩:∃wz:World,wz=wr:=⟨_,rfl⟩
              have z0:(0:Int)<=(z:Int):=by omega
              have z1:(z:Int)<(m:Int):=by omega
              go_wp2_with fail
              go_loopw [21] (fun kv wr=>∃ (kk:Nat) (f:Nat->Nat) (cs':Array Value),kk<=lx/\kv= .int .i64 kk/\Hid (∀j,f j=(flat ((sZ (lv (kOf ks) S) (r-1)).take z)).count j+(xs.take kk).count j)/\Hid (U8p f s cs')/\Blk wr go 5 cs'/\Hid (Kept (fun b=>b<wc.heap.size/\b≠go) wc wr)) (fun kv _=>lx-(intOf kv).toNat)
              case atStart=>exact⟨0,f,cs',by omega,rfl,hf0,hU,bl,hK⟩
              case round=>as_aux_lemma=>
               clear hf0 hU bl hK
               obtain⟨kk,f1,cs1,hkk,rfl,hF,hU,bl,hK⟩:=hrel
               have hks1:=hK.out.size
               have e01:wr.cell? ⟨gr,z*2+1,none⟩=some (.slice (some ⟨gs,0,none⟩) lx cx):=(World.cell?_of_block (a:=⟨gr,z*2+1,none⟩) (hK.out.block gr ⟨by omega,hgrgo⟩)).trans hcp
               by_cases hkl:kk<lx
               ·obtain⟨y,hy⟩:∃y,xs[kk]? =some y:=⟨_,List.getElem?_eq_getElem (by rw[<-HLX2.out];exact hkl)⟩
                have hys:=HMEM.out y (List.mem_of_getElem? hy)
                have e02:wr.cell? ⟨gs,kk,none⟩=some (.int .i64 (y:Nat)):=(World.cell?_of_block (a:=⟨gs,kk,none⟩) (hK.out.block gs ⟨by omega,hgne⟩)).trans (HGS.out kk _ (by rw[dZ,List.getElem?_map,hy];rfl))
                have e03:=bl.cell y
                rw[hU.out.2 y hys]at e03
                have f03:=bl.frozen y
                have hc1:=HCNT.out (kk+1) y
                have hcs:=fun j=>ewZ (j:=j) hy
                have hfy:=hF.out y
                have hfb:f1 y+1<=15:=by
                 have:=hcs y
                 rw[if_pos rfl]at this
                 omega
                have hU2:=hU.out.set (g:=fun j=>if j=y then f1 y+1 else f1 j) (i:=y) (v:=f1 y+1) hys (by simp) (fun j hj=>by simp[hj])
                have hF2:Hid (∀j,(fun j=>if j=y then f1 y+1 else f1 j) j=(flat ((sZ (lv (kOf ks) S) (r-1)).take z)).count j+(xs.take (kk+1)).count j):=by
                 intro j
                 have h1:=hF.out j
                 have h2:=hcs j
                 show(if j=y then f1 y+1 else f1 j)=_
                 by_cases e:j=y
                 ·subst e;rw[if_pos rfl]at h2 ⊢;omega
                 ·rw[if_neg e]at h2 ⊢;omega
                have HU2:=hid hU2
                obtain⟨fy,hfy'⟩:∃fy,fy=f1 y:=⟨_,rfl⟩
                rw[<-hfy']at e03 hfb
                have HFY:=hid hfy'
                have s1:IntKind.u8.wrap ((fy:Int)+1)=(fy:Int)+1:=by rw[IntKind.wrap_u8];omega
                have y0:(0:Int)<=(kk:Int):=by omega
                have y1:(kk:Int)<(lx:Int):=by omega
                have y2:(0:Int)<=(y:Int):=by omega
                have y3:(y:Int)<(s:Int):=by omega
                clear hy hc1 hcs hfy hU2 hfy' hF
                go_wp2_with fail
                go_roundw
                case measure=>go_light;simp[intOf];omega
                case rel=>
                 go_light
                 refine⟨kk+1,_,cs1.setIfInBounds y (.int .u8 ((f1 y+1:Nat):Int)),by omega,by go_num,hF2,HU2,?_,hK.out.set (p:=⟨go,y,none⟩) (fun hb=>hb.2 rfl) _⟩
                 rw[<-HFY.out]
                 exact bl.set y _
               ·obtain rfl:kk=lx:=by omega
                have hF2:Hid (∀j,f1 j=(flat ((sZ (lv (kOf ks) S) (r-1)).take (z+1))).count j):=by
                 intro j
                 have e:xs.take kk=xs:=List.take_of_length_le (Nat.le_of_eq HLX2.out.symm)
                 rw[hF.out j,gzZ HXZ.out,List.count_append,e]
                clear hF
                go_wp2_with fail
                go_roundw
                case rel=>go_light;exact⟨z+1,f1,cs1,by omega,by go_num,hF2,hU,bl,hK⟩
                case measure=>go_light;simp[intOf];omega
             ·obtain rfl:z=2*q-2:=by omega
              have hV:hiZ ks r=(List.range s).map f:=by
               rw[opZ,HN.out]
               refine List.map_congr_left fun j _=> ?_
               rw[hF.out j,kpZ HSY.out.nodup (r-1) (2*q-2) (by rw[<-hRW.out.len,hRm.out];exact hT)]
               unfold vdZ
               rw[<-HSO.out,hql.out,if_neg (by omega)]
              have HV:=hid hV
              clear hV
              go_wp2_with fail
              go_ret2
              exact ykZ HE0.out (by rw[Int.toNat_natCast,HV.out]) hU.out hnc bl rfl (HBWC.out.trans (hK.out.below (fun b hb=>⟨by omega,by omega⟩))) (by omega)
end Go.Proofs.YtmlaajebadfkoaaGreatDoor.Lens
namespace Go.Proofs.YtmlaajebadfkoaaGreatDoor.Lens
open Go.RowKit Mem Own Srt Canon
theorem llZb(w:World)(A:Option Addr)(n c:Nat)(ks:List Nat)(limit:Int)(hn:ks.length=n)(hN:n<=9223372036854775807)(hl1: -9223372036854775808<=limit)(hl2:limit<=9223372036854775807)(h:n>300∨limit<1∨limit>15):
 Calls Tryz.prog 247 #[.slice A n c, .int .i64 limit] w (odZ ks limit w):=by
 have hE:Hid (pcZ ks limit=13):=by show _=_;unfold pcZ;rw[hn,if_pos h]
 clear hn
 by_cases h1:300<n
 ·clear h
  go_enter Tryz.func247,Tryz.ntmps247
  go_wp2_with fail
  go_ret2
  exact cfZ (by decide) hE.out rfl (Below.refl _ _)
 ·have g1:decide ((300:Int)<(n:Int))=false:=by simp;omega
  have g2:decide (300<n)=false:=by simp;omega
  by_cases h2:limit<1
  ·clear h
   have g3:decide (limit<1)=true:=by simpa using h2
   go_enter Tryz.func247,Tryz.ntmps247
   go_wp2_with fail
   go_ret2
   exact cfZ (by decide) hE.out rfl (Below.refl _ _)
  ·have h3:15<limit:=by omega
   have g3:decide (limit<1)=false:=by simp;omega
   have g4:decide (15<limit)=true:=by simpa using h3
   clear h
   go_enter Tryz.func247,Tryz.ntmps247
   go_wp2_with fail
   go_ret2
   exact cfZ (by decide) hE.out rfl (Below.refl _ _)
theorem hzZ(w:World)(A:Option Addr)(n c:Nat)(ks:List Nat)(limit:Int)(hn:ks.length=n)(hN:n<=9223372036854775807)(hl1: -9223372036854775808<=limit)(hl2:limit<=9223372036854775807)(h32:∀x∈ks,x<4294967296)(ha:Row w w.heap.size A n 1 (rZ .u32 ks)):
 Calls Tryz.prog 247 #[.slice A n c, .int .i64 limit] w (odZ ks limit w):=by
 by_cases h:n>300∨limit<1∨limit>15
 ·exact llZb w A n c ks limit hn hN hl1 hl2 h
 ·obtain⟨L,rfl⟩:∃L:Nat,limit=L:=⟨limit.toNat,by omega⟩
  exact noZb w A n c L ks hn (by omega) (by omega) (by omega) h32 ha
end Go.Proofs.YtmlaajebadfkoaaGreatDoor.Lens
