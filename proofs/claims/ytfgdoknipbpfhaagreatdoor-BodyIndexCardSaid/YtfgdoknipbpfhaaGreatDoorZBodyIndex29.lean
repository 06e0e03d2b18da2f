/- The walk of the refe -/
import Derived.Test.YtfgdoknipbpfhaaGreatDoorZBodyIndex17
namespace Go.Proofs.YtfgdoknipbpfhaaGreatDoor
open Go.Proofs.Tryz
open Go.Lib (hid)
set_option maxRecDepth 100000
section
variable{w w':World}{base i k n:Nat}{A:Option Addr}
namespace Lens
open Go.RowKit Mem Own Srt Canon
abbrev RI:=It×Value
def ri0:RI:=((0,[]), .slice none 0 0)
def rcL(R:List RI):List Value:=R.flatMap fun p=> [.int .u64 (p.1.1:Nat),p.2]
def rcF(R:List RI):Nat->Nat->Value:=fun i j=>if j=0 then .int .u64 ((R.getD i ri0).1.1:Nat)else(R.getD i ri0).2
theorem Il(a b:List RI):rcL (a++b)=rcL a++rcL b:=by simp[rcL]
theorem J3:∀ (X:List RI) (i j:Nat),i<X.length->j<2->(rcL X)[i*2+j]? =some (rcF X i j)
 | [],i,j,h,_=>pS
 |x :: t,0,j,_,hj=>by
  have:j=0∨j=1:=nB
  rcases this with rfl|rfl<;>simp[rcL,rcF]
 |x :: t,i+1,j,h,hj=>by have:=J3 t i j qh hj;rw[rcL,Dm,show(i+1)*2+j=(i*2+j)+2 by omega,I8 pR];simpa[rcF,rcL]using this
def Sv(w:World)(base:Nat)(R:List RI):Prop:=∀p∈R,w.ownsRow base 3 1 p.2 p.1.2.length (bZ .i64 p.1.2)
theorem Sv.one{R:List RI}(h:Sv w base R):∀u∈rcL R,u.oneCell'=true:=by
 intro u hu;obtain⟨p,hp,hr⟩:=List.mem_flatMap.1 hu;simp only[List.mem_cons,List.not_mem_nil,or_false]at hr;rcases hr with rfl|rfl
 ·rfl
 ·obtain⟨A,c,hs⟩:=aZ (h p hp);rw[hs];rfl
theorem Sv.step{R:List RI}(h:Sv w base R)(hb:Below w w w'):Sv w' base R:=fun p hp=>eZ (h p hp) fun g hg=>hb.block g (Ai (h p hp) g hg).2
theorem Sv.grown{R:List RI}{v:Value}{xs:List Value}(h:Sv w base R)(hv:w.ownsRow i 329 2 v n xs)(hg:w.grownBy w' v.ownBlock):Sv w' base R:=fun p hp=>eZ (h p hp) fun g hgp=>by
 refine hg.block g (Ai (h p hp) g hgp).2 ?_;rcases EN (h p hp) hv ji with h0|h0
 ·rw[h0]at hgp;cases hgp
 ·rw[<-hgp];exact h0
def RowI(w:World)(base:Nat)(v:Value)(R:List RI):Prop:=w.ownsRow base 329 2 v R.length (rcL R)
theorem RowI.row{c:Nat}{R:List RI}(h:RowI w base (.slice A R.length c) R):Row w w A R.length 2 (rcF R):=Row.of_own h rfl fun i j hi hj=>J3 R i j hi hj
theorem RowI.shape{v:Value}{R:List RI}(h:RowI w base v R):∃A c,v= .slice A R.length c:=aZ h
theorem O7{B:Nat}{R:List RI}(h:Row w B A n 2 (rcF R))(hn:R.length=n)(hk:k<n):
 ∃b i p,A=some ⟨b,i,none⟩/\b<B/\R[k]? =some p/\w.cell? ⟨b,i+k*2,none⟩=some (.int .u64 (p.1.1:Nat))/\w.cell? ⟨b,i+k*2+1,none⟩=some p.2:=by
 obtain⟨b,i,e,hb,hc⟩:=h nB;have hl:k<R.length:=nB
 have h0:=hc k 0 hk nB;have h1:=hc k 1 hk nB;have hg:R.getD k ri0=R[k]:=by rw[Aq,AD hl];rfl
 rw[rcF,Ag rfl,hg]at h0;rw[rcF,Ae nB,hg]at h1;exact⟨b,i,R[k],e,hb,AD hl,h0,h1⟩
theorem RX:(prog.info? 329).map (fun i=>(i.zero,i.size,i.bytes))=some (some (.agg #[.int .u64 0,()]),2,32):=ni
def RMAt(R1 R2:List RI)(i k:Nat)(done:List RI):Prop:=done.map (·.1)++mrg ((R1.map (·.1)).drop i) ((R2.map (·.1)).drop k)=mrg (R1.map (·.1)) (R2.map (·.1))/\∀p∈done,p∈R1∨p∈R2
theorem RMAt.len{R1 R2:List RI}{done:List RI}(h:RMAt R1 R2 i k done):done.length<=R1.length+R2.length:=by have:=AM List.length h.1;rw[Aj,MC,MC]at this;simp at this;omega
theorem Jz{R:List RI}{p:RI}(h:R[i]? =some p):(R.map (·.1))[i]? =some p.1:=by rw[BR,h];rfl
theorem RMAt.left{R1 R2:List RI}{done:List RI}{p:RI}(h:RMAt R1 R2 i k done)(hp:R1[i]? =some p)(hc:R2.length<=k∨∃q,R2[k]? =some q/\p.1.1<=q.1.1):RMAt R1 R2 (i+1) k (done++ [p]):=by
 refine⟨?_,fun r hr=> ?_⟩
 ·rw[<-h.1,drop_at (Jz hp),DY,AK];congr 1;rcases hc with hc|⟨q,hq,j⟩
  ·have hd:(R2.map (·.1)).drop k= []:=CF (by simpa using hc);rw[hd,KE,KE];rfl
  ·rw[drop_at (Jz hq),Lq j];rfl
 ·rcases Bx.1 hr with hr|hr
  ·exact h.2 r hr
  ·rw[Em]at hr;subst hr;exact .inl (AY hp)
theorem RMAt.right{R1 R2:List RI}{done:List RI}{q:RI}(h:RMAt R1 R2 i k done)(hq:R2[k]? =some q)(hc:R1.length<=i∨∃p,R1[i]? =some p/\¬p.1.1<=q.1.1):RMAt R1 R2 i (k+1) (done++ [q]):=by
 refine⟨?_,fun r hr=> ?_⟩
 ·rw[<-h.1,drop_at (Jz hq),DY,AK];congr 1;rcases hc with hc|⟨p,hp,j⟩
  ·have hd:(R1.map (·.1)).drop i= []:=CF (by simpa using hc);rw[hd,JV,JV];rfl
  ·rw[drop_at (Jz hp),Lo j];rfl
 ·rcases Bx.1 hr with hr|hr
  ·exact h.2 r hr
  ·rw[Em]at hr;subst hr;exact .inr (AY hq)
theorem RMAt.done{R1 R2:List RI}{i k:Nat}{done:List RI}(h:RMAt R1 R2 i k done)(hi:R1.length<=i)(hk:R2.length<=k):done.map (·.1)=mrg (R1.map (·.1)) (R2.map (·.1)):=by have:=h.1;rw[CF (by simpa using hi),JV,CF (by simpa using hk),Cx]at this;exact this
def j7(R1 R2:List RI)(w:World)(e:Ending)(w':World):Prop:=
 ∃v done,e= .returned v/\RowI w' w v done/\done.map (·.1)=mrg (R1.map (·.1)) (R2.map (·.1))/\(∀p∈done,p∈R1∨p∈R2)/\Below w w w'
set_option maxHeartbeats 1000000 in
set_option maxRecDepth 100000 in
theorem lK(w:World)(A B:Option Addr)(n c m d:Nat)(R1 R2:List RI)(hn:R1.length=n)(hm:R2.length=m)(hN:n<=1000)(hM:m<=1000)(a4:∀p∈R1,∃A c,p.2= .slice A p.1.2.length c)(a1:∀p∈R2,∃A c,p.2= .slice A p.1.2.length c)
 (ha:Row w w A n 2 (rcF R1))(hb:Row w w B m 2 (rcF R2)):
 Calls prog 252 #[.slice A n c, .slice B m d] w (j7 R1 R2 w):=by
 have HN:=hid hn;have HM:=hid hm;have HA:=hid ha;have HB:=hid hb;have a0:=hid a4;have a9:=hid a1;obtain⟨j0,aw,aq,au,av⟩:=info_parts RX;clear hn hm ha hb a4 a1;go_enter func252,ntmps252;go_wp2_with fail;go_loopw [5,6,7] (fun v iv kv wr=>∃ (i k q:Nat) (done:List RI),i<=n/\k<=m/\q<=2001/\iv= .int .i64 i/\kv= .int .i64 k/\Hid (done.length=q)/\wr.ownsRow w 329 2 v q (rcL done)/\Hid (RMAt R1 R2 i k done)/\Below w w wr) (fun _ i k _=>(n-(intOf i).toNat)+(m-(intOf k).toNat))
 case atStart=>exact⟨0,0,0,[],nB,nB,nB,rfl,rfl,rfl,AE _ _ _ _,⟨rfl,fun p h=>jh⟩,Ak _ _⟩
 case round=>
  obtain⟨i,k,q,done,hi,hk,hq,rfl,rfl,ah,Q,ag,bel⟩:=hrel;have ar:=bel.size;have bf:q<=n+m:=by have:=ag.out.len;rw[ah.out,HN.out,HM.out]at this;exact this
  obtain⟨va,vc,rfl⟩:=aZ Q;have hr:Hid (∀k,(Value.slice va q vc).ownBlock=some k->w.heap.size<=k):=fun k hk=>(Ai Q k hk).1;have x0:(0:Int)<=(i:Int):=nB
  have z0:(0:Int)<=(k:Int):=nB
  have HO:=hid Q;have N:=hid bel;by_cases bc:k<m
  ·have z1:(k:Int)<(m:Int):=nB;have z2:((k:Int)==(m:Int))=false:=p5;obtain⟨b,an,y,rfl,bg,hy,c0,c1⟩:=O7 (HB.out.below bel) HM.out bc;obtain⟨sA,sc,a3⟩:=a9.out y (AY hy);have U:=ag.out.right hy;have J:=fun p hp am=>ag.out.left (p:=p) hp (.inr ⟨y,hy,am⟩);obtain⟨⟨ya,ys⟩,yv⟩:=y;simp only at a3 c0 c1 U J;subst a3;have af:=hid U;have Z:=hid J;clear hy U J Q bel;by_cases ai:i<n
   ·have x1:(i:Int)<(n:Int):=nB;obtain⟨b2,Y,x,rfl,az,hx,d0,d1⟩:=O7 (HA.out.below N.out) HN.out ai;obtain⟨tA,tc,al⟩:=a0.out x (AY hx);obtain⟨⟨xa,xs⟩,xv⟩:=x;simp only at al d0 d1;subst al;have a5:=hid hx;obtain⟨xl,aa⟩:=jc xs.length;rw[<-aa]at d1;have ay:=hid aa;obtain⟨yl,ab⟩:=jc ys.length;rw[<-ab]at c1;have ax:=hid ab;clear hx aa ab;by_cases am:xa<=ya
    ·go_wp2_with fail;go_quiet (fail);have j:(wr.drewN nq).ownsRow w 329 2 (.slice va q vc) q (rcL done):=eZ HO.out (fun _ _=>rfl);have G:Below w w (wr.drewN nq):=below_drewN N.out nq;have M:w.heap.size<=(wr.drewN nq).heap.size:=ar;have bb:(wr.drewN nq).cell? ⟨b2,Y+i*2,none⟩=some (.int .u64 (xa:Nat)):=d0;have ba:(wr.drewN nq).cell? ⟨b2,Y+i*2+1,none⟩=some (.slice tA xl tc):=d1;clear d0 d1 c0 c1;generalize wr.drewN nq=wq at *;have ac:=hid j;have L:=hid G;clear j G HO N;go_wp2_with(at_builtin;refine fZ rfl (.tmp 41) (.tmp 46) 327 rfl w 329 j0 _ 2 32 underlying327 aw aq au av rfl ji _ _ _ nC (ac.out.alloc _) _ 1 1 [.int .u64 (xa:Nat), .slice tA xl tc] nC (Src.of_blk (Blk.made _ _ _) 1 1 2 rfl) m4 qn nB p5 ?_;intro v4 w4 E ae ak);go_roundw
     case measure=>exact ld
     case rel=>
      go_light;refine⟨i+1,k,q+1,done++ [((xa,xs), .slice tA xs.length tc)],nB,nB,nB,lj,rfl,?_,?_,hid (Z.out _ a5.out am),(mZ M L.out).grown ae p5 (fun k hk=>hr.out k hk)⟩
      ·show _=_;rw[Aj,ah.out];rfl
      ·rw[Il];rw[ay.out]at E;exact E
    ·go_wp2_with fail;go_quiet (fail);have j:(wr.drewN nq).ownsRow w 329 2 (.slice va q vc) q (rcL done):=eZ HO.out (fun _ _=>rfl);have G:Below w w (wr.drewN nq):=below_drewN N.out nq;have M:w.heap.size<=(wr.drewN nq).heap.size:=ar;have a6:(wr.drewN nq).cell? ⟨b,an+k*2,none⟩=some (.int .u64 (ya:Nat)):=c0;have bd:(wr.drewN nq).cell? ⟨b,an+k*2+1,none⟩=some (.slice sA yl sc):=c1;clear d0 d1 c0 c1;have be:ya<xa:=nB;generalize wr.drewN nq=wq at *;have ac:=hid j;have L:=hid G;clear j G HO N;go_wp2_with(at_builtin;refine fZ rfl (.tmp 50) (.tmp 55) 327 rfl w 329 j0 _ 2 32 underlying327 aw aq au av rfl ji _ _ _ nC (ac.out.alloc _) _ 1 1 [.int .u64 (ya:Nat), .slice sA yl sc] nC (Src.of_blk (Blk.made _ _ _) 1 1 2 rfl) m4 qn nB p5 ?_;intro v4 w4 E ae ak);go_roundw
     case measure=>exact ld
     case rel=>
      go_light;refine⟨i,k+1,q+1,done++ [((ya,ys), .slice sA ys.length sc)],nB,nB,nB,rfl,lj,?_,?_,hid (af.out (.inr ⟨_,a5.out,am⟩)),(mZ M L.out).grown ae p5 (fun k hk=>hr.out k hk)⟩
      ·show _=_;rw[Aj,ah.out];rfl
      ·rw[Il];rw[ax.out]at E;exact E
   ·obtain⟨yl,ab⟩:=jc ys.length;rw[<-ab]at c1;have ax:=hid ab;have k1:decide (i<n)=false:=(by simpa using ai);have k2:=jb ((i:Int)<n);clear ab;go_wp2_with fail;go_quiet (fail);have j:(wr.drewN nq).ownsRow w 329 2 (.slice va q vc) q (rcL done):=eZ HO.out (fun _ _=>rfl);have G:Below w w (wr.drewN nq):=below_drewN N.out nq;have M:w.heap.size<=(wr.drewN nq).heap.size:=ar;have a6:(wr.drewN nq).cell? ⟨b,an+k*2,none⟩=some (.int .u64 (ya:Nat)):=c0;have bd:(wr.drewN nq).cell? ⟨b,an+k*2+1,none⟩=some (.slice sA yl sc):=c1;clear c0 c1;generalize wr.drewN nq=wq at *;have ac:=hid j;have L:=hid G;clear j G HO N;go_wp2_with(at_builtin;refine fZ rfl (.tmp 50) (.tmp 55) 327 rfl w 329 j0 _ 2 32 underlying327 aw aq au av rfl ji _ _ _ nC (ac.out.alloc _) _ 1 1 [.int .u64 (ya:Nat), .slice sA yl sc] nC (Src.of_blk (Blk.made _ _ _) 1 1 2 rfl) m4 qn nB p5 ?_;intro v4 w4 E ae ak);go_roundw
    case measure=>exact ld
    case rel=>
     go_light;refine⟨i,k+1,q+1,done++ [((ya,ys), .slice sA ys.length sc)],nB,nB,nB,rfl,lj,?_,?_,hid (af.out (.inl oA)),(mZ M L.out).grown ae p5 (fun k hk=>hr.out k hk)⟩
     ·show _=_;rw[Aj,ah.out];rfl
     ·rw[Il];rw[ax.out]at E;exact E
  ·obtain rfl:k=m:=by omega
   by_cases ai:i<n
   ·have x1:(i:Int)<(n:Int):=nB;obtain⟨b2,Y,x,rfl,az,hx,d0,d1⟩:=O7 (HA.out.below N.out) HN.out ai;obtain⟨tA,tc,al⟩:=a0.out x (AY hx);have J:=ag.out.left hx (.inl (by rw[HM.out];omega));obtain⟨⟨xa,xs⟩,xv⟩:=x;simp only at al d0 d1;subst al;have Z:=hid J;obtain⟨xl,aa⟩:=jc xs.length;rw[<-aa]at d1;have ay:=hid aa;clear hx aa J Q bel;go_wp2_with fail;go_quiet (fail);have j:(wr.drewN nq).ownsRow w 329 2 (.slice va q vc) q (rcL done):=eZ HO.out (fun _ _=>rfl);have G:Below w w (wr.drewN nq):=below_drewN N.out nq;have M:w.heap.size<=(wr.drewN nq).heap.size:=ar;have bb:(wr.drewN nq).cell? ⟨b2,Y+i*2,none⟩=some (.int .u64 (xa:Nat)):=d0;have ba:(wr.drewN nq).cell? ⟨b2,Y+i*2+1,none⟩=some (.slice tA xl tc):=d1;clear d0 d1;generalize wr.drewN nq=wq at *;have ac:=hid j;have L:=hid G;clear j G HO N;go_wp2_with(at_builtin;refine fZ rfl (.tmp 41) (.tmp 46) 327 rfl w 329 j0 _ 2 32 underlying327 aw aq au av rfl ji _ _ _ nC (ac.out.alloc _) _ 1 1 [.int .u64 (xa:Nat), .slice tA xl tc] nC (Src.of_blk (Blk.made _ _ _) 1 1 2 rfl) m4 qn nB p5 ?_;intro v4 w4 E ae ak);go_roundw
    case measure=>exact ld
    case rel=>
     go_light;refine⟨i+1,k,q+1,done++ [((xa,xs), .slice tA xs.length tc)],nB,nB,nB,lj,rfl,?_,?_,Z,(mZ M L.out).grown ae p5 (fun k hk=>hr.out k hk)⟩
     ·show _=_;rw[Aj,ah.out];rfl
     ·rw[Il];rw[ay.out]at E;exact E
   ·have aj:=ag.out.done oA (by rw[HM.out];omega);have HD:=hid aj;have k1:decide (i<n)=false:=(by simpa using ai);have k2:=jb ((i:Int)<n);have k3:=jb (k<k);have k4:=jb ((k:Int)<k);clear aj;go_wp2_with fail;go_ret;refine⟨_,done,rfl,?_,HD.out,ag.out.2,bel⟩;show World.ownsRow _ _ _ _ _ _ _;rw[ah.out];exact Q
end Lens
end
variable{w w':World}{base c i kk n s y z:Nat}{e:TypeId}{A:Option Addr}{xs:List Value}{S:List Nat}
namespace Lens
open Go.RowKit Mem Own Srt Canon
theorem Vg{B:Nat}{w0:World}(h:Drawn w w')(hb:Below B w0 w):Below B w0 w':=by obtain⟨q,rfl⟩:=h;exact below_drewN hb q
theorem OZ{k:Nat->Nat}{s:Nat}:∀ {l:List Nat} {at_:Nat},l.Pairwise (Lt k)->at_<=l.length->(∀j x,at_<=j->l[j]? =some x->k s<k x)->(at_=0∨∃x,l[at_-1]? =some x/\k x<=k s)->ins k s l=l.take at_++s :: l.drop at_
 | [],at_,_,h,_,_=>by
  have:at_=0:=qh
  subst this;rfl
 |y :: t,0,_,_,h,_=>by rw[ins,Ag (h 0 y (Am _) rfl)];rfl
 |y :: t,a+1,hs,hl,h,h2=>by
  have hp:=FN.1 hs
  have hy:k y<=k s:=by
   rcases h2 with h2|⟨x,hx,i⟩
   ·omega
   ·rw[Nat.add_sub_cancel]at hx;rcases a with _|a
    ·simp at hx;subst hx;exact i
    ·rw[List.getElem?_cons_succ]at hx;have:=hp.1 x (AY hx);unfold Lt at this;omega
  rw[ins,Ae nB,List.take_succ_cons,List.drop_succ_cons,En,<-OZ hp.2 (by simpa using hl) (fun j x hj hx=>h (j+1) x nB (by rw[List.getElem?_cons_succ];exact hx)) ?_];rcases a with _|a
  ·exact .inl rfl
  ·rcases h2 with h2|⟨x,hx,i⟩
   ·omega
   ·refine .inr ⟨x,?_,i⟩;rw[Nat.add_sub_cancel,List.getElem?_cons_succ]at hx;simpa using hx
theorem src_own(h:w.ownsRow base e s (.slice A n c) n xs):Src w A n c s xs:=by
 refine⟨h.1,?_⟩;rcases h.2 with ⟨hv,h0⟩|⟨g,G,cur,hv,hb,hh,J,E,L,i⟩
 ·injection hv with e1 e2 e3;exact .inl ⟨e1,e2,e3⟩
 ·injection hv with e1 e2 e3;refine .inr ⟨⟨g,0,none⟩,e1,fun j u hu=> ?_⟩;rw[add_none,B0,Blk.cell hh];rw[<-i,Gn]at hu;split at hu
  ·simpa using hu
  ·cases hu
theorem src_head{m:Nat}(h:Src w A n c s xs)(hm:m<=n):Src w (Ba A 0 c s) m c s (xs.take (m*s)):=by
 refine⟨by rw[Bc,h.1];exact Nat.min_eq_left (GG _ hm),?_⟩;rcases h.2 with ⟨rfl,rfl,rfl⟩|⟨ad,rfl,hc⟩
 ·exact .inl ⟨rfl,nB,rfl⟩
 ·refine .inr ⟨ad,?_,fun j u hu=>hc j u ?_⟩
  ·unfold Ba;split
   ·rfl
   ·obtain⟨b,i,sp⟩:=ad;simp[Addr.add]
  ·rw[Gn]at hu;split at hu
   ·exact hu
   ·cases hu
theorem RF{k:Nat}(h:Src w A n c s xs)(hk:k<=n)(hc:n<=c)(hA:∀a,A=some a->a.spot=none):Src w (Ba A k c s) (n-k) (c-k) s (xs.drop (k*s)):=by
 refine⟨by rw[AZ,h.1,Nat.sub_mul],?_⟩;rcases h.2 with ⟨rfl,rfl,rfl⟩|⟨ad,rfl,i⟩
 ·exact .inl ⟨by unfold Ba;split<;>rfl,nB,nB⟩
 ·unfold Ba;by_cases e:c=k
  ·refine .inr ⟨ad,by rw[Ag e],fun j u hu=> ?_⟩;have hj:j<(xs.drop (k*s)).length:=(BS.1 hu).1;have hz:k=n:=nB;rw[AZ,h.1,hz]at hj;omega
  ·obtain⟨b,G,sp⟩:=ad;have E:sp=none:=hA _ rfl;subst E;refine .inr ⟨⟨b,G+k*s,none⟩,by rw[Ae e];simp[Gx],fun j u hu=> ?_⟩;rw[FX]at hu;have:=i (k*s+j) u hu;rw[add_none]at this ⊢;rw[<-this];congr 2;omega
theorem Pt:∀ (R:List RI) (m:Nat),rcL (R.take m)=(rcL R).take (m*2)
 | [],m=>by simp[rcL]
 |p :: t,0=>by simp[rcL]
 |p :: t,m+1=>by have ih:=Pt t m;rw[List.take_succ_cons,rcL,Dm,rcL,Dm,show(m+1)*2=m*2+2 by omega];unfold rcL at ih;rw[ih];simp
theorem Pm:∀ (R:List RI) (m:Nat),rcL (R.drop m)=(rcL R).drop (m*2)
 | [],m=>by simp[rcL]
 |p :: t,0=>by simp[rcL]
 |p :: t,m+1=>by have ih:=Pm t m;rw[List.drop_succ_cons,ih,rcL,rcL,Dm,show(m+1)*2=m*2+2 by omega];simp
def Lfs(w:World)(base:Nat)(k:Nat->Nat)(S:List Nat)(v:Value)(R:List RI):Prop:=RowI w base v R/\Sv w base R/\R.map (·.1)=lv k S
theorem Lfs.at_{k:Nat->Nat}{v:Value}{R:List RI}(h:Lfs w base k S v R){x:Nat}(hx:S[i]? =some x):∃p,R[i]? =some p/\p.1=(k x,[x]):=by
 have h1:(R.map (·.1))[i]? =some (k x,[x]):=by rw[h.2.2,lv,BR,hx];rfl
 rw[BR]at h1;obtain⟨p,hp,he⟩:=Option.map_eq_some_iff.1 h1;exact⟨p,hp,he⟩
theorem Lfs.len{k:Nat->Nat}{v:Value}{R:List RI}(h:Lfs w base k S v R):R.length=S.length:=by have:=AM List.length h.2.2;simpa[Js]using this
theorem own_cells(h:w.ownsRow base e s (.slice A n c) n xs)(hn:0<n):
 ∃g,A=some ⟨g,0,none⟩/\base<=g/\g<w.heap.size/\n<=c/\c<=maxLen/\∀j u,xs[j]? =some u->w.cell? ⟨g,j,none⟩=some u:=by
 rcases h.2 with ⟨_,h0⟩|⟨g,J,cur,hv,hb,hh,G,E,L,i⟩
 ·omega
 ·injection hv with e1 e2 e3;subst e1 e3;refine⟨g,rfl,hb,Blk.lt hh,G,E,fun j u hu=> ?_⟩;rw[Blk.cell hh];rw[<-i,Gn]at hu;split at hu
  ·simpa using hu
  ·cases hu
def U8p(f:Nat->Nat)(n:Nat)(cs:Array Value):Prop:=n<=cs.size/\∀i,i<n->cs[i]? =some (.int .u8 (f i:Nat))
theorem U8p.set{f g:Nat->Nat}{cs:Array Value}(h:U8p f n cs){v:Nat}(hi:i<n)(hv:g i=v)(ho:∀j,j≠i->g j=f j):U8p g n (cs.setIfInBounds i (.int .u8 (v:Nat))):=by
 refine⟨by simpa using h.1,fun j hj=> ?_⟩;have hs:=h.1;rw[Hm];by_cases e:i=j
 ·subst e;rw[Ag rfl,Ag nB,hv]
 ·rw[Ae e,h.2 j hj,ho j (By e)]
theorem Ph{ks:List Nat}{limit:Int}{e:Ending}{g:Nat}{f:Nat->Nat}{cs:Array Value}(hE:EI ks limit=0)(hl:Jy ks limit.toNat=(List.range n).map f)
 (h:U8p f n cs)(J:n<=c)(hb:Blk w' g 5 cs)(he:e= .returned (.tuple #[.slice (some ⟨g,0,none⟩) n c,jd]))(G:Below w w w')(hg:w.heap.size<=g):Kd ks limit w e w':=by
 have h0:Dy ks limit=(List.range n).map f:=by unfold Dy;rw[Ag hE,hl]
 have E:(Dy ks limit).length=n:=by rw[h0];simp
 refine⟨some ⟨g,0,none⟩,c,?_,?_,?_,G,fun _ p hp=>by cases hp;exact hg⟩
 ·rw[he,hE,E]
 ·rw[E];refine Row.of_blk hb hb.lt fun i j hi hj=> ?_;obtain rfl:j=0:=by omega
  rw[EK,Cw,h.2 i hi,h0];unfold kZ;rw[Aq,BR,List.getElem?_range hi];rfl
 ·rw[E];exact Wf.some J
theorem T9(h:w.ownsRow base 5 1 (.slice A n c) n (List.replicate n (.int .u8 0)))(hn:0<n):
 ∃g cs,A=some ⟨g,0,none⟩/\base<=g/\n<=c/\Blk w g 5 cs/\U8p (fun _=>0) n cs:=by
 rcases h.2 with ⟨_,h0⟩|⟨g,J,cur,hv,hb,hh,E,G,L,j⟩
 ·omega
 ·injection hv with e1 e2 e3;subst e1 e3;refine⟨g,cur,rfl,hb,E,hh,nB,fun i hi=> ?_⟩;have h1:(List.replicate n (Value.int .u8 0))[i]? =some (.int .u8 0):=by rw[List.getElem?_replicate,Ag hi]
  rw[<-j,Gn]at h1;split at h1
  ·simpa using h1
  ·cases h1
def Rws(w:World)(base:Nat)(X:List It)(v:Value)(R:List RI):Prop:=RowI w base v R/\Sv w base R/\R.map (·.1)=X
theorem Rws.step{X:List It}{v:Value}{R:List RI}(h:Rws w base X v R)(hb:Below w w w'):Rws w' base X v R:=
 ⟨eZ h.1 (fun g hg=>hb.block g (Ai h.1 g hg).2),h.2.1.step hb,h.2.2⟩
theorem Rws.len{X:List It}{v:Value}{R:List RI}(h:Rws w base X v R):R.length=X.length:=by rw[<-h.2.2];simp
theorem Sv.shapes{R:List RI}(h:Sv w base R):∀p∈R,∃A c,p.2= .slice A p.1.2.length c:=fun p hp=>aZ (h p hp)
theorem SW:∀ {X:List It} {u:Nat} {x y:It},X[2*u]? =some x->X[2*u+1]? =some y->(ET X)[u]? =some (x.1+y.1,x.2++y.2)
 | [],u,x,y,h,_=>pS
 | [_],0,x,y,_,h=>pS
 | [_],u+1,x,y,h,_=>pS
 |a :: b :: t,0,x,y,h1,h2=>by simp at h1 h2;subst h1 h2;rfl
 |a :: b :: t,u+1,x,y,h1,h2=>by rw[show 2*(u+1)=2*u+1+1 by omega,List.getElem?_cons_succ,List.getElem?_cons_succ]at h1;rw[show 2*(u+1)+1=2*u+1+1+1 by omega,List.getElem?_cons_succ,List.getElem?_cons_succ]at h2;rw[Ky,List.getElem?_cons_succ];exact SW h1 h2
theorem Ly{k:Nat->Nat}{S:List Nat}:∀ (r:Nat),∀x∈rowN (lv k S) r,x.2.length<=2 ^ r
 |0,x,hx=>by obtain⟨s,_,rfl⟩:=Cl.1 hx;exact Am _
 |r+1,x,hx=>by
  have hp:1<=2 ^ (r+1):=Nat.one_le_two_pow;rcases Mu.1 hx with h|h
  ·obtain⟨s,_,rfl⟩:=Cl.1 h;exact hp
  ·obtain⟨a,b,ha,hb,rfl⟩:=Kl h;have h1:=Ly r a ha;have h2:=Ly r b hb;show(a.2++b.2).length<=_;rw[Aj,Dl];omega
theorem U3{X:List It}{x:It}(hx:X[z]? =some x):flat (X.take (z+1))=flat (X.take z)++x.2:=by rw[Ca,hx,OY];simp[flat]
theorem Zo{X:List It}{T:Nat}{x:It}(hx:X[z]? =some x)(hz:z<T):(flat (X.take z)).count y+(x.2.take kk).count y<=(flat (X.take T)).count y:=by
 have e1:X.take T=X.take (z+1)++(X.drop (z+1)).take (T-(z+1)):=by rw[<-List.take_add];congr 1;omega
 rw[e1,OY,List.count_append,U3 hx,List.count_append];have e2:x.2.count y=(x.2.take kk).count y+(x.2.drop kk).count y:=by rw[<-List.count_append,EX]
 omega
theorem Z8{l:List Nat}{j:Nat}(h:l[kk]? =some y):(l.take (kk+1)).count j=(l.take kk).count j+if j=y then 1 else 0:=by
 rw[Ca,h,Option.toList_some,List.count_append];congr 1;by_cases e:j=y
 ·subst e;simp
 ·rw[Ae e,List.count_eq_zero];simpa using e
theorem Ss(h:w.ownsRow base e s (.slice A n c) n xs)(hb:Below w w w'):Src w' A n c s xs:=
 src_own (eZ h fun g hg=>hb.block g (Ai h g hg).2)
theorem Rws.cells{X:List It}{R:List RI}(h:Rws w base X (.slice A n c) R)(hn:R.length=n)(h0:0<n):
 ∃g,A=some ⟨g,0,none⟩/\base<=g/\g<w.heap.size/\n<=c/\∀i p,R[i]? =some p->w.cell? ⟨g,i*2,none⟩=some (.int .u64 (p.1.1:Nat))/\w.cell? ⟨g,i*2+1,none⟩=some p.2:=by
 have hr:=h.1;unfold RowI at hr;rw[hn]at hr;obtain⟨g,rfl,h1,h2,h3,h4,hc⟩:=own_cells hr h0;refine⟨g,rfl,h1,h2,h3,fun i p hp=> ?_⟩;have hi:i<R.length:=(BS.1 hp).1;have k0:=hc (i*2+0) _ (J3 R i 0 hi nB);have k1:=hc (i*2+1) _ (J3 R i 1 hi nB);have hg:R.getD i ri0=p:=by rw[Aq,hp];rfl
 rw[rcF,Ag rfl,hg]at k0;rw[rcF,Ae nB,hg]at k1;exact⟨k0,k1⟩
theorem Lfs.step{k:Nat->Nat}{v:Value}{R:List RI}(h:Lfs w base k S v R)(hb:Below w w w'):Lfs w' base k S v R:=
 ⟨eZ h.1 (fun g hg=>hb.block g (Ai h.1 g hg).2),h.2.1.step hb,h.2.2⟩
set_option maxHeartbeats 4000000 in
theorem fM(w:World)(A:Option Addr)(n c L:Nat)(ks:List Nat)(hn:ks.length=n)(hN:n<=300)(b7:1<=L)(ih:L<=15)(fg:∀x∈ks,x<4294967296)(ha:Row w w A n 1 (kZ .u32 ks)):
 Calls prog 204 #[.slice A n c,L] w (Kd ks L w):=by
 have HN:=hid hn;have HA:=hid ha;have f0:=hid fg;have g1:=jb ((300:Int)<n)
 have g2:=jb (300<n)
 have g3:=jb ((L:Int)<1)
 have g4:=jb ((15:Int)<L)
 have g5:=jb (L<1)
 have g6:=jb (15<L)
 obtain⟨j0,bM,bp,bf,bC⟩:=info_parts RX;obtain⟨i0,gg,f5,ce,fl⟩:=info_parts aY;obtain⟨u0,hh,gn,gt,gE⟩:=info_parts Xm;clear hn ha fg;go_enter func204,ntmps204;go_wp2_with fail;clear g1 g2 g3 g4 g5 g6;go_loopw [6,7] (fun v iv wr=>∃ (t q:Nat) (R:List RI),t<=n/\q<=t/\iv= .int .i64 t/\Hid ((Bb (kOf ks) t).length=q)/\(∃Av cv,v= .slice Av q cv)/\Hid (Lfs wr w (kOf ks) (Bb (kOf ks) t) v R)/\Below w w wr) (fun _ i _=>n-(intOf i).toNat)
 case atStart=>exact⟨0,0,[],nB,nB,rfl,rfl,⟨_,_,rfl⟩,⟨AE _ _ _ _,fun p h=>jh,rfl⟩,Ak _ _⟩
 case round=>as_aux_lemma=>
  obtain⟨t,q,R,ht,hq,rfl,E,⟨Av,cv,rfl⟩,hL,bel⟩:=hrel;have ir:=bel.size;by_cases hl:t<n
  ·obtain⟨b,be,x,rfl,im,hx,c0⟩:=Dg (HA.out.below bel) HN.out hl;have eg:kOf ks t=x:=(by simp[kOf,List.getD_eq_getElem?_getD,hx]);have h4:=f0.out x (AY hx);have dq:Bb (kOf ks) (t+1)=if x=0 then Bb (kOf ks) t else ins (kOf ks) t (Bb (kOf ks) t):=(by rw[Bb,eg]);have bO:=hid dq;have cc:=hid eg;have x0:(0:Int)<=(t:Int):=nB;have x1:(t:Int)<(n:Int):=nB;clear hx eg dq;by_cases ax:x=0
   ·have HU:Hid (Bb (kOf ks) (t+1)=Bb (kOf ks) t):=(by show _=_;rw[bO.out,Ag ax]);subst ax;clear bO;go_wp2_with fail;go_roundw
    case rel=>go_light;exact⟨t+1,q,R,nB,nB,lj,by show _=_;rw[HU.out];exact E.out,⟨_,_,rfl⟩,by rw[HU.out];exact hL,bel⟩
    case measure=>exact ld
   ·have HU:Hid (Bb (kOf ks) (t+1)=ins (kOf ks) t (Bb (kOf ks) t)):=(by show _=_;rw[bO.out,Ae ax]);have it:((x:Int)==0)=false:=p5;have s0:IntKind.u64.wrap (x:Int)=(x:Int):=n4;have fd:R.length=q:=(by rw[hL.out.len,E.out]);have Z:=hid fd;clear fd bO ax;obtain⟨wo,rfl⟩:=jc wr;go_wp2_with fail;go_loopw [8] (fun av wr=>∃at_:Nat,at_<=q/\av= .int .i64 at_/\Hid (∀j y,at_<=j->(Bb (kOf ks) t)[j]? =some y->x<kOf ks y)/\Hid (Drawn wo wr)) (fun a _=>(intOf a).toNat)
    case atStart=>exact⟨q,Am _,rfl,(fun j y hj hy=>by have:=(BS.1 hy).1;have:=E.out;omega),Drawn.refl _⟩
    case round=>
     obtain⟨at_,bd,rfl,hI,hD⟩:=hrel;have dp:=hD.out;have d0:wr.cell? ⟨b,be+t,none⟩=some (.int .u32 (x:Nat)):=(by obtain⟨p,rfl⟩:=dp;exact c0);by_cases ds:0<at_
     ·obtain⟨y,hy⟩:∃y,(Bb (kOf ks) t)[at_-1]? =some y:=⟨_,AD (by rw[E.out];omega)⟩;obtain⟨pp,cd,al⟩:=hL.out.at_ hy;have ay:=hL.out.1;unfold RowI at ay;rw[Z.out]at ay;obtain⟨gl,rfl,e7,eL,fp,fo,a3⟩:=own_cells ay nB;have d1:wr.cell? ⟨gl,(at_-1)*2,none⟩=some (.int .u64 (kOf ks y:Nat)):=(by have h1:=a3 ((at_-1)*2) _ (J3 R (at_-1) 0 oT nB);have h2:rcF R (at_-1) 0= .int .u64 (kOf ks y:Nat):=(by unfold rcF;rw[Ag rfl,Aq,cd];show Value.int .u64 ((pp.1.1:Nat):Int)=_;rw[al]);rw[h2]at h1;obtain⟨p,rfl⟩:=dp;exact h1);have HY:=hid hy;have y0:(0:Int)<=(at_:Int)-1:=nB;have y1:(at_:Int)-1<(q:Int):=nB;have y2:(1:Int)<=(at_:Int):=nB;have y3:(0:Int)<(at_:Int):=nB;have s1:IntKind.i64.wrap ((at_:Int)-1)=(at_:Int)-1:=Az _ nB;have s2:((at_:Int)-1).toNat=at_-1:=nB;have bi:∀q,Hid (Drawn wo (wr.drewN q)):=fun q=>hD.out.more q;obtain⟨ky,em⟩:=jc (kOf ks y);rw[<-em]at d1;have fe:=hid em;clear hy cd al ay a3 em dp;by_cases dr:x<ky
      ·go_wp2_with fail;go_quiet (fail);have ho:=bi nq;clear bi d0 d1 s1 s2 hD;generalize wr.drewN nq=wq at *;go_wp2_with fail;go_roundw
       case rel=>
        go_light;refine⟨at_-1,nB,AM (Value.int .i64) nB,fun j z hj hz=> ?_,ho⟩;by_cases e:j=at_-1
        ·subst e;rw[HY.out]at hz;injection hz with hz;rw[<-hz,<-fe.out];exact dr
        ·exact hI.out j z nB hz
       case measure=>exact ld
      ·have HC:Hid (at_=0∨∃y,(Bb (kOf ks) t)[at_-1]? =some y/\kOf ks y<=x):= .inr ⟨y,HY.out,by rw[<-fe.out];omega⟩;go_wp2_with fail;go_quiet (fail);have cT:=bi nq;clear bi d0 d1 s1 s2;generalize wr.drewN nq=wq at *;generalize some (⟨gl,0,none⟩:Addr)=Av at *;have a6:ins (kOf ks) t (Bb (kOf ks) t)=(Bb (kOf ks) t).take at_++t :: (Bb (kOf ks) t).drop at_:=OZ (IH _ _) (by rw[E.out];exact bd) (fun j y hj hy=>by rw[cc.out];exact hI.out j y hj hy) (by rw[cc.out];exact HC.out);have aw:=cT.out;have ar:Lfs wq w (kOf ks) (Bb (kOf ks) t) (.slice Av q cv) R:=np;have bn:Below w w wq:=Vg aw bel;have cX:=bn.size;have c8:wq.cell? ⟨b,be+t,none⟩=some (.int .u32 (x:Nat)):=(by obtain⟨p,rfl⟩:=aw;exact c0);have G:=ar.1;unfold RowI at G;rw[Z.out]at G;have bq:=Ew G
       have c3:∀a,Av=some a->a.spot=none:=by
        intro a ha;rcases G.2 with ⟨hv,_⟩|⟨g,gu,cur,hv,_⟩
        ·injection hv with e1;rw[e1]at ha;cases ha
        ·injection hv with e1;rw[e1]at ha;injection ha with ha;rw[<-ha]
       have p1:∀w,(Instr.slice 327 (.slice Av q cv) none (some (.int .i64 (at_:Int))) none).run prog w= .ok (.slice (Ba Av 0 cv 2) at_ cv) w:=run_head underlying327 Tryz.sizeOf329 Av q cv .i64 (at_:Int) at_ rfl (by have:=bq.2;omega);have p2:∀w,(Instr.slice 327 (.slice Av q cv) (some (.int .i64 (at_:Int))) none none).run prog w= .ok (.slice (Ba Av at_ cv 2) (q-at_) (cv-at_)) w:=Gg underlying327 Tryz.sizeOf329 Av q cv .i64 (at_:Int) at_ rfl bd;have Y:=hid (src_head (src_own G) bd);have a5:=hid (Sv.one ar.2.1);have cy:=hid a6;have aj:=hid ar;have eB:=hid bn;have ej:=hid c3;have eu:=bq.2;clear a6 ar bn G bq c3 hL bel hD cT aw hI HC c0;go_upto_region 13 with (at_builtin;refine fZ rfl (.tmp 64) (.tmp 67) 327 rfl wq 329 j0 _ 2 32 underlying327 bM bp bf bC rfl ji _ _ _ nC (AE _ _ _ _) _ at_ cv ((rcL R).take (at_*2)) nC Y.out (fun u hu=>a5.out u (CN hu)) qn nB (Am _) ?_;intro v1 w1 J cz cB);have ak:Below wq wq w1:=(Ak _ _).grown cz (Am _) (fun k hk=>by simp[Value.ownBlock]at hk);have ce:=ak.size;rw[B0,Ey]at J;have c1:w1.cell? ⟨b,be+t,none⟩=some (.int .u32 (x:Nat)):=(World.cell?_of_block (a:=⟨b,be+t,none⟩) (ak.block b nB)).trans c8;obtain⟨A1,eG,rfl⟩:=aZ J;have cP:=hid J;have en:=hid ak;clear J cz cB ak c8 p1 Y;go_upto_region 14 with (at_builtin;refine fZ rfl (.tmp 69) (.tmp 78) 327 rfl wq 329 j0 _ 2 32 underlying327 bM bp bf bC rfl ji _ _ _ nC ((cP.out.alloc _).alloc _) _ 1 1 [.int .u64 (x:Nat), .slice (some ⟨w1,0,none⟩) 1 1] nC (Src.of_blk (g:=w1.heap.size+1) (Blk.made_at _ _ _ pR) 1 1 2 rfl) m4 qn nB p5 ?_;intro v2 w3 U bh cu);have a4:∀k,(Value.slice A1 at_ eG).ownBlock=some k->wq.heap.size<=k/\k<w1.heap.size:=fun k hk=>Ai cP.out k hk;have af:Below wq wq w3:=((en.out.alloc ce (.cells #[t] 3)).alloc p5 _).grown bh p5 (fun k hk=>(a4 k hk).1);have ah:Blk w3 w1 3 #[t]:=lm;have cq:=af.size;obtain⟨A2,ed,rfl⟩:=aZ U;have bt:Lfs w3 w (kOf ks) (Bb (kOf ks) t) (.slice Av q cv) R:=⟨eZ aj.out.1 (fun g hg=>af.block g (Ai aj.out.1 g hg).2),aj.out.2.1.step af,aj.out.2.2⟩;have N:=bt.1;unfold RowI at N;rw[Z.out]at N;have bj:=hid (RF (src_own N) bd eu ej.out);have ag:=hid U;have eo:=hid af;have cj:=hid ah;have bF:=hid bt;clear U bh cu af ah bt N a4 aj;go_wp2_with(at_builtin;refine fZ rfl (.tmp 80) (.tmp 83) 327 rfl wq 329 j0 _ 2 32 underlying327 bM bp bf bC rfl ji _ _ _ nC ag.out _ (q-at_) (cv-at_) ((rcL R).drop (at_*2)) nC bj.out (fun u hu=>a5.out u (Cg hu)) qn nB cq ?_;intro v4 w4 Q ae d3);go_roundw
       case measure=>exact ld
       case rel=>
        go_light;obtain⟨A4,c4,rfl⟩:=aZ Q;have dm:∀k,(Value.slice A2 (at_+1) ed).ownBlock=some k->wq.heap.size<=k/\k<w3.heap.size:=fun k hk=>Ai ag.out k hk;have et:Below wq wq w4:=eo.out.grown ae cq (fun k hk=>(dm k hk).1);have ek:at_+1+(q-at_)=q+1:=nB;rw[ek]at Q ⊢;have bu:Blk w4 w1 3 #[t]:=cj.out.grown ae (fun h=>iZ ag.out cj.out ji h.symm);refine⟨t+1,q+1,R.take at_++ [((x,[t]), .slice (some ⟨w1,0,none⟩) 1 1)]++R.drop at_,nB,nB,lj,?_,⟨_,_,rfl⟩,⟨?_,?_,?_⟩,eB.out.trans (et.mono cX)⟩
        ·show _=_;rw[HU.out,(KN _ _ _).length_eq,AI,E.out]
        ·show World.ownsRow _ _ _ _ _ _ _;have e1:(R.take at_++ [((x,[t]),Value.slice (some ⟨w1,0,none⟩) 1 1)]++R.drop at_).length=q+1:=(by simp[Z.out];omega);rw[e1,Il,Il,Pt,Pm];exact lZ Q cX
        ·intro p hp;rcases Bx.1 hp with hp|hp
         ·rcases Bx.1 hp with hp|hp
          ·have h1:=bF.out.2.1 p (CN hp);refine eZ h1 (fun g hg=>ae.block g (Ai h1 g hg).2 ?_);rcases EN h1 ag.out ji with h0|h0
           ·rw[h0]at hg;cases hg
           ·rw[<-hg];exact h0
          ·rw[Em]at hp;subst hp;exact⟨rfl, .inr ⟨w1.heap.size,1,#[t],rfl,nB,bu,Am _,qn,rfl,rfl⟩⟩
         ·have h1:=bF.out.2.1 p (Cg hp);refine eZ h1 (fun g hg=>ae.block g (Ai h1 g hg).2 ?_);rcases EN h1 ag.out ji with h0|h0
          ·rw[h0]at hg;cases hg
          ·rw[<-hg];exact h0
        ·rw[HU.out,cy.out,DY,DY,List.map_take,List.map_drop,bF.out.2.2,lv,lv];simp[List.map_take,List.map_drop];exact cc.out.symm
     ·have HC:Hid (at_=0∨∃y,(Bb (kOf ks) t)[at_-1]? =some y/\kOf ks y<=x):= .inl nB;have k1:decide (0<at_)=false:=(by simpa using ds);have k2:=jb ((0:Int)<at_);have bi:∀q,Hid (Drawn wo (wr.drewN q)):=fun q=>hD.out.more q;clear dp ds;go_wp2_with fail;go_quiet (fail);have cT:=bi nq;clear bi d0 k1 k2;generalize wr.drewN nq=wq at *;have a6:ins (kOf ks) t (Bb (kOf ks) t)=(Bb (kOf ks) t).take at_++t :: (Bb (kOf ks) t).drop at_:=OZ (IH _ _) (by rw[E.out];exact bd) (fun j y hj hy=>by rw[cc.out];exact hI.out j y hj hy) (by rw[cc.out];exact HC.out);have aw:=cT.out;have ar:Lfs wq w (kOf ks) (Bb (kOf ks) t) (.slice Av q cv) R:=np;have bn:Below w w wq:=Vg aw bel;have cX:=bn.size;have c8:wq.cell? ⟨b,be+t,none⟩=some (.int .u32 (x:Nat)):=(by obtain⟨p,rfl⟩:=aw;exact c0);have G:=ar.1;unfold RowI at G;rw[Z.out]at G;have bq:=Ew G
      have c3:∀a,Av=some a->a.spot=none:=by
       intro a ha;rcases G.2 with ⟨hv,_⟩|⟨g,gu,cur,hv,_⟩
       ·injection hv with e1;rw[e1]at ha;cases ha
       ·injection hv with e1;rw[e1]at ha;injection ha with ha;rw[<-ha]
      have p1:∀w,(Instr.slice 327 (.slice Av q cv) none (some (.int .i64 (at_:Int))) none).run prog w= .ok (.slice (Ba Av 0 cv 2) at_ cv) w:=run_head underlying327 Tryz.sizeOf329 Av q cv .i64 (at_:Int) at_ rfl (by have:=bq.2;omega);have p2:∀w,(Instr.slice 327 (.slice Av q cv) (some (.int .i64 (at_:Int))) none none).run prog w= .ok (.slice (Ba Av at_ cv 2) (q-at_) (cv-at_)) w:=Gg underlying327 Tryz.sizeOf329 Av q cv .i64 (at_:Int) at_ rfl bd;have Y:=hid (src_head (src_own G) bd);have a5:=hid (Sv.one ar.2.1);have cy:=hid a6;have aj:=hid ar;have eB:=hid bn;have ej:=hid c3;have eu:=bq.2;clear a6 ar bn G bq c3 hL bel hD cT aw hI HC c0;go_upto_region 13 with (at_builtin;refine fZ rfl (.tmp 64) (.tmp 67) 327 rfl wq 329 j0 _ 2 32 underlying327 bM bp bf bC rfl ji _ _ _ nC (AE _ _ _ _) _ at_ cv ((rcL R).take (at_*2)) nC Y.out (fun u hu=>a5.out u (CN hu)) qn nB (Am _) ?_;intro v1 w1 J cz cB);have ak:Below wq wq w1:=(Ak _ _).grown cz (Am _) (fun k hk=>by simp[Value.ownBlock]at hk);have ce:=ak.size;rw[B0,Ey]at J;have c1:w1.cell? ⟨b,be+t,none⟩=some (.int .u32 (x:Nat)):=(World.cell?_of_block (a:=⟨b,be+t,none⟩) (ak.block b nB)).trans c8;obtain⟨A1,eG,rfl⟩:=aZ J;have cP:=hid J;have en:=hid ak;clear J cz cB ak c8 p1 Y;go_upto_region 14 with (at_builtin;refine fZ rfl (.tmp 69) (.tmp 78) 327 rfl wq 329 j0 _ 2 32 underlying327 bM bp bf bC rfl ji _ _ _ nC ((cP.out.alloc _).alloc _) _ 1 1 [.int .u64 (x:Nat), .slice (some ⟨w1,0,none⟩) 1 1] nC (Src.of_blk (g:=w1.heap.size+1) (Blk.made_at _ _ _ pR) 1 1 2 rfl) m4 qn nB p5 ?_;intro v2 w3 U bh cu);have a4:∀k,(Value.slice A1 at_ eG).ownBlock=some k->wq.heap.size<=k/\k<w1.heap.size:=fun k hk=>Ai cP.out k hk;have af:Below wq wq w3:=((en.out.alloc ce (.cells #[t] 3)).alloc p5 _).grown bh p5 (fun k hk=>(a4 k hk).1);have ah:Blk w3 w1 3 #[t]:=lm;have cq:=af.size;obtain⟨A2,ed,rfl⟩:=aZ U;have bt:Lfs w3 w (kOf ks) (Bb (kOf ks) t) (.slice Av q cv) R:=⟨eZ aj.out.1 (fun g hg=>af.block g (Ai aj.out.1 g hg).2),aj.out.2.1.step af,aj.out.2.2⟩;have N:=bt.1;unfold RowI at N;rw[Z.out]at N;have bj:=hid (RF (src_own N) bd eu ej.out);have ag:=hid U;have eo:=hid af;have cj:=hid ah;have bF:=hid bt;clear U bh cu af ah bt N a4 aj;go_wp2_with(at_builtin;refine fZ rfl (.tmp 80) (.tmp 83) 327 rfl wq 329 j0 _ 2 32 underlying327 bM bp bf bC rfl ji _ _ _ nC ag.out _ (q-at_) (cv-at_) ((rcL R).drop (at_*2)) nC bj.out (fun u hu=>a5.out u (Cg hu)) qn nB cq ?_;intro v4 w4 Q ae d3);go_roundw
      case measure=>exact ld
      case rel=>
       go_light;obtain⟨A4,c4,rfl⟩:=aZ Q;have dm:∀k,(Value.slice A2 (at_+1) ed).ownBlock=some k->wq.heap.size<=k/\k<w3.heap.size:=fun k hk=>Ai ag.out k hk;have et:Below wq wq w4:=eo.out.grown ae cq (fun k hk=>(dm k hk).1);have ek:at_+1+(q-at_)=q+1:=nB;rw[ek]at Q ⊢;have bu:Blk w4 w1 3 #[t]:=cj.out.grown ae (fun h=>iZ ag.out cj.out ji h.symm);refine⟨t+1,q+1,R.take at_++ [((x,[t]), .slice (some ⟨w1,0,none⟩) 1 1)]++R.drop at_,nB,nB,lj,?_,⟨_,_,rfl⟩,⟨?_,?_,?_⟩,eB.out.trans (et.mono cX)⟩
       ·show _=_;rw[HU.out,(KN _ _ _).length_eq,AI,E.out]
       ·show World.ownsRow _ _ _ _ _ _ _;have e1:(R.take at_++ [((x,[t]),Value.slice (some ⟨w1,0,none⟩) 1 1)]++R.drop at_).length=q+1:=(by simp[Z.out];omega);rw[e1,Il,Il,Pt,Pm];exact lZ Q cX
       ·intro p hp;rcases Bx.1 hp with hp|hp
        ·rcases Bx.1 hp with hp|hp
         ·have h1:=bF.out.2.1 p (CN hp);refine eZ h1 (fun g hg=>ae.block g (Ai h1 g hg).2 ?_);rcases EN h1 ag.out ji with h0|h0
          ·rw[h0]at hg;cases hg
          ·rw[<-hg];exact h0
         ·rw[Em]at hp;subst hp;exact⟨rfl, .inr ⟨w1.heap.size,1,#[t],rfl,nB,bu,Am _,qn,rfl,rfl⟩⟩
        ·have h1:=bF.out.2.1 p (Cg hp);refine eZ h1 (fun g hg=>ae.block g (Ai h1 g hg).2 ?_);rcases EN h1 ag.out ji with h0|h0
         ·rw[h0]at hg;cases hg
         ·rw[<-hg];exact h0
       ·rw[HU.out,cy.out,DY,DY,List.map_take,List.map_drop,bF.out.2.2,lv,lv];simp[List.map_take,List.map_drop];exact cc.out.symm
  ·obtain rfl:t=n:=by omega
   have fm:EI ks L=if 2 ^ L<q then 6 else 0:=(by unfold EI;rw[Ae mR];show(if 2 ^ L<(Bb (kOf ks) ks.length).length then _ else _)=_;rw[HN.out,E.out]);have cC:=hid fm;obtain⟨S,hS⟩:=jc (Bb (kOf ks) t);have HS:=hid hS;rw[<-hS]at E hL;clear fm hS;go_wp2_with fail
   go_loop [11,12] (fun mv iv=>∃ (i M:Nat),i<=L/\M<=32768/\iv= .int .i64 i/\mv= .int .i64 M/\Hid (M=2 ^ i)) (fun _ i=>L-(intOf i).toNat)
   case atStart=>exact⟨0,1,nB,nB,rfl,rfl,rfl⟩
   case round=>as_aux_lemma=>
    obtain⟨i,M,hi,hM,rfl,rfl,hp⟩:=hrel;by_cases dr:i<L
    ·have hE:2*M<=32768:=(by rw[hp.out,Nat.mul_comm,<-Dl];have:2 ^ (i+1)<=2 ^ 15:=Cf nB nB;exact this);go_wp2_with fail
     go_round
     case rel=>go_light;exact⟨i+1,2*M,nB,hE,lj,lj,by show _=_;rw[hp.out,Dl,Nat.mul_comm]⟩
     case measure=>exact ld
    ·obtain rfl:i=L:=by omega
     rw[<-hp.out]at cC;by_cases am:M<q
     ·have g0:Hid (EI ks i=6):=(by show _=_;rw[cC.out,Ag am]);have k1:decide (M<q)=true:=(by simpa using am);have k2:decide ((M:Int)<(q:Int))=true:=(by simpa using am);clear cC;go_wp2_with fail;go_ret2;exact M5 ji g0.out rfl bel
     ·have cg:Hid (EI ks i=0):=(by show _=_;rw[cC.out,Ae am]);have k1:decide (M<q)=false:=(by simpa using am);have k2:=jb ((M:Int)<q);have hc:Hid (q<=2 ^ i):=(by show _<=_;rw[<-hp.out];omega);clear cC;go_wp2_with fail;clear k1 k2 am hp hM;obtain⟨wa,rfl⟩:=jc wr;have fH:=bel.size;go_loopw [13,14] (fun v sv wr=>∃s:Nat,s<=t/\sv= .int .i64 s/\wr.ownsRow wa 5 1 v s (List.replicate s (.int .u8 0))/\Below wa wa wr) (fun _ s _=>t-(intOf s).toNat)
      case atStart=>exact⟨0,nB,rfl,AE _ _ _ _,Ak _ _⟩
      case round=>as_aux_lemma=>
       obtain⟨s,hs,rfl,ac,ch⟩:=hrel;have hr:=ch.size;by_cases ip:s<t
       ·obtain⟨va,vc,rfl⟩:=aZ ac;have HO:=hid ac;have gF:=hid ch;clear ac ch;go_wp2_with(at_builtin;refine fZ rfl (.tmp 103) (.tmp 104) 28 rfl wa 5 u0 _ 1 1 underlying28 hh gn gt gE rfl ji _ _ _ nC (HO.out.alloc _) _ 1 1 [.int .u8 0] nC (Src.of_blk (Blk.made _ _ _) 1 1 1 rfl) na qn nB p5 ?_;intro v4 w4 Q ae d3);go_roundw
        case measure=>exact ld
        case rel=>go_light;refine⟨s+1,nB,lj,?_,(mZ hr gF.out).grown ae p5 (fun k hk=>(Ai HO.out k hk).1)⟩;rw[List.replicate_succ'];exact Q
       ·obtain rfl:s=t:=by omega
        obtain⟨va,vc,rfl⟩:=aZ ac;have f6:Lfs wr w (kOf ks) S (.slice Av q cv) R:=hL.out.step ch;have ba:Below w w wr:=bel.trans (ch.mono fH);have e3:S=Bb (kOf ks) ks.length:=(by rw[HS.out,HN.out]);have cm:=hid e3;have b6:=hid f6;have cf:=hid ba;clear e3 f6 hL;by_cases q0:q=0
        ·subst q0;have fx:S= []:=Hl E.out;have hV:Jy ks i=(List.range s).map (fun _=>0):=(by rw[Nj,HN.out];refine Hj fun z _=> ?_;exact Oo (by rw[<-cm.out,fx];simp));have HV:=hid hV;clear fx hV;go_wp2_with fail;go_ret2;rcases Nat.eq_zero_or_pos s with h0|h0
         ·subst h0;have hO:Dy ks i= []:=(by unfold Dy;rw[Ag cg.out,Br,HV.out];rfl);refine⟨va,vc,?_,?_,?_,cf.out,fun h=>by rw[hO]at h;simp at h⟩
          ·rw[hO,cg.out];rfl
          ·rw[hO];exact Row.zero
          ·rw[hO];exact Ew ac
         ·obtain⟨g,cs,rfl,hg,dh,hb,hu⟩:=T9 ac h0;exact Ph cg.out (by rw[Br,HV.out]) hu dh hb rfl cf.out nB
        ·obtain⟨go,cs,rfl,ij,dh,eC,fq⟩:=T9 ac nB;have h7:=eC.lt;have ep:=hid fq;have dl:=hid eC;have az:=b6.out.1;have bg:R.length=q:=(by rw[b6.out.len,E.out]);unfold RowI at az;rw[bg]at az;obtain⟨gl,rfl,e7,eL,fp,fo,a3⟩:=own_cells az nB;have fB:=hid a3;have Z:=hid bg;clear ac fq eC az a3 bg;by_cases q1:q=1
         ·subst q1;obtain⟨s0,ai⟩:∃s0,S= [s0]:=List.length_eq_one_iff.1 E.out;obtain⟨pp,cd,al⟩:=b6.out.at_ (i:=0) (x:=s0) (by rw[ai];rfl);have ab:=b6.out.2.1 pp (AY cd);rw[al]at ab;have fi:s0<s:=(by have:s0∈Bb (kOf ks) ks.length:=(by rw[<-cm.out,ai];simp);have:=(Kj.1 this).1;rw[HN.out]at this;exact this);obtain⟨sA,sc,bX⟩:=aZ ab;rw[bX]at ab;obtain⟨gs,rfl,fu,e0,_,_,bc⟩:=own_cells ab (by show 0< [s0].length;simp);have d0:wr.cell? ⟨gs,0,none⟩=some (.int .i64 (s0:Nat)):=bc 0 _ rfl;have d1:wr.cell? ⟨gl,1,none⟩=some (.slice (some ⟨gs,0,none⟩) 1 sc):=(by have h1:=fB.out 1 _ (J3 R 0 1 oT nB);rw[h1];unfold rcF;rw[Ae nB,Aq,cd];show some pp.2=_;rw[bX];rfl);have c2:=dl.out.cell s0;rw[ep.out.2 s0 fi]at c2;have f2:=dl.out.frozen s0;have hV:Jy ks i=(List.range s).map (fun z=>if z=s0 then 1 else 0):=(by rw[Nj,HN.out];refine Hj fun z _=> ?_;unfold lenS;rw[<-cm.out,ai,Ag pR];simp);have HV:=hid hV;have gq:Hid (U8p (fun z=>if z=s0 then 1 else 0) s (cs.setIfInBounds s0 (.int .u8 1))):=ep.out.set (v:=1) fi pR (fun j hj=>by simp[hj]);have x2:(0:Int)<=(s0:Int):=nB;have x3:(s0:Int)<(s:Int):=nB;clear ai cd al ab bX bc hV;go_wp2_with fail;go_ret2;exact Ph cg.out (by rw[Br,HV.out]) gq.out dh (dl.out.set s0 _) rfl (BN (p:=⟨go,s0,none⟩) (show w.heap.size<=go by omega) cf.out) nB
         ·have dd:Hid (Syms ks s S):=(by have e8:=cm.out;rw[HN.out]at e8;show Syms ks s S;rw[e8]at E ⊢;refine⟨IH _ _,Ys _ _,fun z hz=>(Kj.1 hz).1,fun z hz=> ?_,by have:=E.out;omega,by have:=Og (kOf ks) s;omega,Og (kOf ks) s⟩;have ii:=(Kj.1 hz).1;have es:z<ks.length:=mR;have:kOf ks z=ks[z]'es:=(by simp[kOf,List.getD_eq_getElem?_getD,List.getElem?_eq_getElem es]);rw[this];have:=f0.out _ (GI es);omega);have b1:((q:Int)==1)=false:=p5;have b2:=jb (q<2);have b3:=jb ((q:Int)<2);obtain⟨wb,rfl⟩:=jc wr;have dy:=cf.out.size;have e6:Hid (Rws wb w (rowN (lv (kOf ks) S) 0) (.slice (some ⟨gl,0,none⟩) q cv) R):=b6.out;clear fB;go_wp2_with fail;clear b1 b2 b3;go_loopw [15,16] (fun v rv wr=>∃ (r m:Nat) (Av:Option Addr) (cv:Nat) (Rr:List RI),1<=r/\r<=i/\rv= .int .i64 r/\v= .slice Av m cv/\Hid (Rr.length=m)/\Hid (Rws wr w (rowN (lv (kOf ks) S) (r-1)) (.slice Av m cv) Rr)/\Below wb wb wr) (fun _ r _=>i-(intOf r).toNat)
          case atStart=>exact⟨1,q,_,cv,R,nB,nB,rfl,rfl,Z.out,e6,Ak _ _⟩
          case round=>as_aux_lemma=>
           obtain⟨r,m,Ar,cr,Rr,a4,dm,rfl,rfl,aq,aa,ba⟩:=hrel;have ev:=ba.size;have ff:=ZV dd.out (r:=r-1) nB;rw[<-aa.out.len,aq.out,E.out]at ff;obtain⟨dw,hZ,hY⟩:=ff;have fc:=hid dw;obtain⟨gr,rfl,hW,bW,h6,dv⟩:=aa.out.cells aq.out nB;have ey:=hid dv;clear dw dv;obtain⟨wc,rfl⟩:=jc wr;by_cases ib:r<i
           ·go_wp2_with fail;go_loopw [17,18] (fun vp iv wr=>∃ (u e:Nat) (Ap:Option Addr) (cp:Nat) (P:List RI),e<=m/\Hid (e=2*u)/\u<=e/\iv= .int .i64 e/\vp= .slice Ap u cp/\Hid (P.length=u)/\Hid (Rws wr wc ((ET (rowN (lv (kOf ks) S) (r-1))).take u) (.slice Ap u cp) P)/\Below wc wc wr) (fun _ e _=>m-(intOf e).toNat)
            case atStart=>exact⟨0,0,none,0,[],nB,rfl,nB,rfl,rfl,rfl,⟨AE _ _ _ _,fun p h=>jh,rfl⟩,Ak _ _⟩
            case round=>as_aux_lemma=>
             obtain⟨u,e,Ap,cp,P,il,dn,iw,rfl,rfl,b0,ft,a9⟩:=hrel;have eP:=a9.size;by_cases h9:e+1<m
             ·obtain⟨p0,dj⟩:∃p0,Rr[e]? =some p0:=⟨_,AD oW⟩;obtain⟨p1,al⟩:∃p1,Rr[e+1]? =some p1:=⟨_,AD oW⟩;obtain⟨ec,ci⟩:=ey.out e p0 dj;obtain⟨ex,ct⟩:=ey.out (e+1) p1 al;have ax:(rowN (lv (kOf ks) S) (r-1))[e]? =some p0.1:=(by rw[<-aa.out.2.2];exact Jz dj);have dc:(rowN (lv (kOf ks) S) (r-1))[e+1]? =some p1.1:=(by rw[<-aa.out.2.2];exact Jz al);have ea:(ET (rowN (lv (kOf ks) S) (r-1)))[u]? =some (p0.1.1+p1.1.1,p0.1.2++p1.1.2):=SW (by rw[<-dn.out];exact ax) (by rw[<-dn.out];exact dc);have hB:=(fc.out p0.1 (AY ax)).2;have hA:=(fc.out p1.1 (AY dc)).2;have ai:=aa.out.2.1 p0 (AY dj);have b8:=aa.out.2.1 p1 (AY al);obtain⟨A0,k0,dz⟩:=aZ ai;obtain⟨A1,k1,du⟩:=aZ b8;rw[dz]at ai ci;rw[du]at b8 ct;obtain⟨⟨a0,b4⟩,v0⟩:=p0;obtain⟨⟨a1,b9⟩,v1⟩:=p1;simp only at ec ci ex ct ea hB hA ai b8;have el:2 ^ (r-1)<=2 ^ 14:=Cf nB nB;have cL:=Ly (k:=kOf ks) (S:=S) (r-1) _ (AY ax);have cS:=Ly (k:=kOf ks) (S:=S) (r-1) _ (AY dc);simp only at cL cS;obtain⟨l0,cJ⟩:=jc b4.length;obtain⟨l1,b7⟩:=jc b9.length;rw[<-cJ]at ai ci cL;rw[<-b7]at b8 ct cS;have ia:l0<=16384:=nB;have ak:l1<=16384:=nB;obtain⟨wd,rfl⟩:=jc wr;have ew:=hid (Ss ai a9);have gk:=(a9.cell (p:=⟨gr,e*2+1,none⟩) bW).trans ci;have hw:=hid b8;have HC:=hid (And.intro ec (And.intro ex ct));have hC:=hid ea;have gC:=hid (And.intro cJ b7);have x0:(0:Int)<=(e:Int):=nB;have x1:(e:Int)<(m:Int):=nB;have x2:(0:Int)<=(e:Int)+1:=nB;have x3:(e:Int)+1<(m:Int):=nB;clear dj al ax dc ea dz du ai b8 ec ci ex ct el cL cS cJ b7;go_upto_region 41 with (at_builtin;refine fZ rfl (.tmp 132) (.tmp 137) 37 rfl wd 3 i0 _ 1 8 underlying37 gg f5 ce fl rfl ji _ _ _ nC (AE _ _ _ _) _ l0 k0 (bZ .i64 b4) nC ew.out (qZ _ _) qn nB (Am _) ?_;intro va wf an gc e4);have dg:Below wd wd wf:=(Ak _ _).grown gc (Am _) (fun k hk=>by simp[Value.ownBlock]at hk);have gj:=dg.size;rw[B0,Ey]at an;obtain⟨Aa,ca,rfl⟩:=aZ an;have cG:Below wc wc wf:=a9.trans (dg.mono eP);have gz:=(cG.cell (p:=⟨gr,(e+1)*2+1,none⟩) bW).trans HC.out.2.2;have Y:=hid (Ss hw.out cG);have f9:=hid an;have hd:=hid dg;clear an gc e4 dg cG gk;go_upto_region 42 with (at_builtin;refine fZ rfl (.tmp 139) (.tmp 145) 37 rfl wd 3 i0 _ 1 8 underlying37 gg f5 ce fl rfl ji _ _ _ nC f9.out _ l1 k1 (bZ .i64 b9) nC Y.out (qZ _ _) qn nB gj ?_;intro vb wg bm eW fs);have df:Below wd wd wg:=hd.out.grown eW gj (fun k hk=>(Ai f9.out k hk).1);have ic:=df.size;obtain⟨Ab,cb,rfl⟩:=aZ bm;have bS:Below wc wc wg:=a9.trans (df.mono eP);have e9:=(bS.cell (p:=⟨gr,e*2,none⟩) bW).trans HC.out.1;have e5:=(bS.cell (p:=⟨gr,(e+1)*2,none⟩) bW).trans HC.out.2.1;have eA:=ft.out.step df;have bN:=eA.1;unfold RowI at bN;rw[b0.out]at bN;have s1:IntKind.i64.wrap ((e:Int)+1)=(e:Int)+1:=Az _ nB;have s2:((e:Int)+1).toNat=e+1:=nB;have s3:IntKind.u64.wrap ((a0:Int)+(a1:Int))=(a0:Int)+(a1:Int):=n4;have fn:=hid eA;have da:=hid bN;have gw:=hid bm;have f4:=hid bS;have dx:gr<wg.heap.size:=nB;have fj:wc.heap.size<=wg.heap.size:=nB;clear eA bN bm eW fs df bS gz;have eV:some gr≠(Value.slice Ap u cp).ownBlock:=fun h=>by have:=(Ai da.out gr h.symm).1;omega
              go_region_held3 (fun w'=>w'.cell? ⟨gr,e*2,none⟩=some (.int .u64 (a0:Nat))/\w'.cell? ⟨gr,(e+1)*2,none⟩=some (.int .u64 (a1:Nat)))
               (first|go_keep|exact⟨y0,y1⟩)
               ((refine step_append_lies _ nC _ _ _ nC wc 329 j0 _ 2 32 underlying327 bM bp bf bC rfl nB (.slice Ap u cp) u (rcL P) nC ((da.out.alloc _).drew) ⟨wg,0,none⟩ 1 1 [.int .u64 ((a0:Int)+(a1:Int)), .slice Ab (l0+l1) cb] nC nC (World.news_of_block (cs:=#[.int .u64 ((a0:Int)+(a1:Int)), .slice Ab (l0+l1) cb]) (t:=329) (fr:=(0,0)) (heap_alloc_new wg _)) m4 nB qn nB p5 (wg.heap.size+1) pR ?_;intro g3 gi w3 ez au hH hG;have y0:w3.cell? ⟨gr,e*2,none⟩=some (.int .u64 (a0:Nat)):=(World.cell?_of_block (a:=⟨gr,e*2,none⟩) ((au.block gr p5 eV).trans (EA wg _ gr dx))).trans e9;have y1:w3.cell? ⟨gr,(e+1)*2,none⟩=some (.int .u64 (a1:Nat)):=(World.cell?_of_block (a:=⟨gr,(e+1)*2,none⟩) ((au.block gr p5 eV).trans (EA wg _ gr dx))).trans e5))
              have gf:=da.out;clear s1 s2 s3 y0 y1 e9 e5;go_wp2_with fail;go_roundw
              case measure=>exact ld
              case rel=>
               go_light;obtain⟨cJ,b7⟩:=gC.out;have ef:Below wc wc w3:=((mZ fj f4.out).drew).grown au p5 (fun k hk=>(Ai gf k hk).1);have gv:((wg.alloc (.cells #[.int .u64 ((a0:Int)+(a1:Int)), .slice Ab (l0+l1) cb] 329)).drew).ownsRow wc 3 1 (.slice Ab (l0+l1) cb) (l0+l1) (bZ .i64 (b4++b9)):=by have h1:=gw.out.alloc (.cells #[.int .u64 ((a0:Int)+(a1:Int)), .slice Ab (l0+l1) cb] 329);have h2:=lZ (h1.drew) (show wc.heap.size<=wd.heap.size by omega);unfold bZ at h2 ⊢;rw[DY];exact h2
               have f8:Sv ((wg.alloc (.cells #[.int .u64 ((a0:Int)+(a1:Int)), .slice Ab (l0+l1) cb] 329)).drew) wc (P++ [((a0+a1,b4++b9), .slice Ab (l0+l1) cb)]):=by
                intro p hp;rcases Bx.1 hp with hp|hp
                ·exact(fn.out.2.1 p hp).alloc _
                ·rw[Em]at hp;subst hp;show World.ownsRow _ _ _ _ _ (b4++b9).length _;rw[Aj,<-cJ,<-b7];exact gv
               refine⟨u+1,e+2,_,gi,P++ [((a0+a1,b4++b9), .slice Ab (l0+l1) cb)],nB,?_,nB,lj,rfl,?_,hid ⟨?_,?_,?_⟩,ef⟩
               ·show _=_;have:=dn.out;omega
               ·show _=_;rw[Aj,b0.out];rfl
               ·show World.ownsRow _ _ _ _ _ (P++ [_]).length _;rw[Aj,b0.out,Il];exact ez
               ·exact f8.grown ((gf.alloc _).drew) au
               ·rw[DY,fn.out.2.2,Ca,hC.out];rfl
             ·have f3:(ET (rowN (lv (kOf ks) S) (r-1))).length<=u:=(by have h1:=aa.out.len;rw[aq.out]at h1;have h2:=dn.out;rw[Lc];omega);have bb:=ft.out;rw[Bp f3]at bb;have dk:=(b6.out.step (ba.trans (a9.mono ev)));have h3:Below w w wr:=cf.out.trans ((ba.trans (a9.mono ev)).mono dy);have cE:Row wr wr (some ⟨gl,0,none⟩) q 2 (rcF R):=(by have h1:=dk.1;rw[<-Z.out]at h1;have h2:=RowI.row h1;rw[Z.out]at h2;exact h2);have c5:Row wr wr Ap u 2 (rcF P):=(by have h1:=bb.1;rw[<-b0.out]at h1;have h2:=RowI.row h1;rw[b0.out]at h2;exact h2);have CM:=hid (lK wr (some ⟨gl,0,none⟩) Ap q cv u cp R P Z.out b0.out nB nB (Sv.shapes dk.2.1) (Sv.shapes bb.2.1) cE c5);have fk:=hid dk;have dt:=hid bb;clear cE c5 dk bb f3;go_wp2_with fail;refine CM.out.mono ?_;rintro ee w9 ⟨v9,done,rfl,bk,cF,c7,de⟩;have iu:=de.size
              have fw:Rws w9 w (rowN (lv (kOf ks) S) r) v9 done:=by
               refine⟨lZ bk nB,fun p hp=> ?_,?_⟩
               ·rcases c7 p hp with h|h
                ·exact(fk.out.2.1.step de) p h
                ·exact lZ ((dt.out.2.1.step de) p h) nB
               ·rw[cF,fk.out.2.2,dt.out.2.2];obtain⟨r',rfl⟩:∃r',r=r'+1:=⟨r-1,nB⟩;rfl
              obtain⟨A9,c9,rfl⟩:=bk.shape;have he:=hid fw;clear bk cF c7 fw;go_wp2_with fail;go_roundw
              case measure=>exact ld
              case rel=>go_light;exact⟨r+1,done.length,A9,c9,done,nB,nB,lj,rfl,by show _=_;rfl,by rw[Nat.add_sub_cancel];exact he,(ba.trans (a9.mono ev)).trans (de.mono nB)⟩
           ·obtain rfl:r=i:=by omega
            have hT:2*q-2<=m:=(by have h1:=SY (k:=kOf ks) (S:=S) (limit:=r) nB (by rw[E.out];omega) (by rw[E.out];exact hc.out);rw[<-aa.out.len,aq.out,E.out]at h1;exact h1);have bU:Blk wc go 5 cs:=dl.out.step ba;have eb:gr≠go:=fun h=>iZ aa.out.1 bU ji (by rw[<-h];rfl);have f7:=hid bU;have hR:=bU.lt;have d4:Hid (∀j,(fun _:Nat=>0) j=(flat ((rowN (lv (kOf ks) S) (r-1)).take 0)).count j):=fun j=>by simp[flat]
            have dF:Below w w wc:=cf.out.trans (ba.mono dy);have fA:=hid dF;clear bU dF;go_wp2_with fail;go_loopw [20] (fun zv wr=>∃ (z:Nat) (f:Nat->Nat) (bG:Array Value),z<=2*q-2/\zv= .int .i64 z/\Hid (∀j,f j=(flat ((rowN (lv (kOf ks) S) (r-1)).take z)).count j)/\Hid (U8p f s bG)/\Blk wr go 5 bG/\Hid (Kept (fun b=>b<wc.heap.size/\b≠go) wc wr)) (fun z _=>2*q-(intOf z).toNat)
            case atStart=>exact⟨0,_,cs,nB,rfl,d4,ep,f7.out,Kept.refl _ _⟩
            case round=>as_aux_lemma=>
             clear d4;obtain⟨z,f,bG,hz,rfl,hF,hU,bl,hK⟩:=hrel;have io:=hK.out.size;by_cases gx:z<2*q-2
             ·obtain⟨p,hp⟩:∃p,Rr[z]? =some p:=⟨_,AD oW⟩;have b5:(rowN (lv (kOf ks) S) (r-1))[z]? =some p.1:=(by rw[<-aa.out.2.2];exact Jz hp);have di:=(ey.out z p hp).2;have ab:=aa.out.2.1 p (AY hp);have c6:=Ly (k:=kOf ks) (S:=S) (r-1) _ (AY b5);have co:0<p.1.2.length:=FW.2 (Nz (k:=kOf ks) (S:=S) (r-1) _ (AY b5));have cw:∀y∈p.1.2,y<s:=fun y hy=>dd.out.below y ((Xg (k:=kOf ks) (S:=S) (r-1) _ (AY b5)).2 y hy);have cA:∀kk y,(flat ((rowN (lv (kOf ks) S) (r-1)).take z)).count y+(p.1.2.take kk).count y<=15:=(by intro kk y;have h1:=Zo (kk:=kk) (y:=y) b5 gx;rw[PW dd.out.nodup (r-1) (2*q-2) (by rw[<-aa.out.len,aq.out];exact hT)]at h1;have h2:=QW (k:=kOf ks) (S:=S) (r-1) (2*q-2) y;omega);have el:2 ^ (r-1)<=2 ^ 14:=Cf nB nB;obtain⟨Ax,cx,bX⟩:=aZ ab;rw[bX]at ab di;obtain⟨⟨xa,xs⟩,xv⟩:=p;simp only at ab di c6 co cw cA;obtain⟨lx,ei⟩:=jc xs.length;rw[<-ei]at ab di c6 co;have cH:=fun g (h:Ax=some ⟨g,0,none⟩)=>(iZ ab f7.out ji);obtain⟨gs,rfl,fu,e0,hJ,h5,bc⟩:=own_cells ab co;have eS:gs≠go:=fun h=>cH gs rfl (by rw[<-h];rfl);have id:lx<=16384:=nB;have gp:=hid bc;have eH:=hid cw;have fa:=hid cA;have g7:=hid b5;have dC:=hid ei;have fh:Hid (∀j,f j=(flat ((rowN (lv (kOf ks) S) (r-1)).take z)).count j+(xs.take 0).count j):=fun j=>by rw[hF.out j];simp
              clear hp b5 ab c6 cw cA el bX cH bc ei hF;obtain⟨wz,rfl⟩:=jc wr;have z0:(0:Int)<=(z:Int):=nB;have z1:(z:Int)<(m:Int):=nB;go_wp2_with fail;go_loopw [21] (fun kv wr=>∃ (kk:Nat) (f:Nat->Nat) (bG:Array Value),kk<=lx/\kv= .int .i64 kk/\Hid (∀j,f j=(flat ((rowN (lv (kOf ks) S) (r-1)).take z)).count j+(xs.take kk).count j)/\Hid (U8p f s bG)/\Blk wr go 5 bG/\Hid (Kept (fun b=>b<wc.heap.size/\b≠go) wc wr)) (fun kv _=>lx-(intOf kv).toNat)
              case atStart=>exact⟨0,f,bG,nB,rfl,fh,hU,bl,hK⟩
              case round=>as_aux_lemma=>
               clear fh hU bl hK;obtain⟨kk,f1,gh,ik,rfl,hF,hU,bl,hK⟩:=hrel;have hX:=hK.out.size;have iq:wr.cell? ⟨gr,z*2+1,none⟩=some (.slice (some ⟨gs,0,none⟩) lx cx):=(World.cell?_of_block (a:=⟨gr,z*2+1,none⟩) (hK.out.block gr ⟨nB,eb⟩)).trans di;by_cases g9:kk<lx
               ·obtain⟨y,hy⟩:∃y,xs[kk]? =some y:=⟨_,AD (by rw[<-dC.out];exact g9)⟩;have eO:=eH.out y (AY hy);have ig:wr.cell? ⟨gs,kk,none⟩=some (.int .i64 (y:Nat)):=(World.cell?_of_block (a:=⟨gs,kk,none⟩) (hK.out.block gs ⟨nB,eS⟩)).trans (gp.out kk _ (by rw[bZ,BR,hy];rfl));have ga:=bl.cell y;rw[hU.out.2 y eO]at ga;have ie:=bl.frozen y;have hf:=fa.out (kk+1) y;have eh:=fun j=>Z8 (j:=j) hy;have hm:=hF.out y;have gy:f1 y+1<=15:=(by have:=eh y;rw[Ag rfl]at this;omega);have fz:=hU.out.set (g:=fun j=>if j=y then f1 y+1 else f1 j) (i:=y) (v:=f1 y+1) eO pR (fun j hj=>by simp[hj])
                have eE:Hid (∀j,(fun j=>if j=y then f1 y+1 else f1 j) j=(flat ((rowN (lv (kOf ks) S) (r-1)).take z)).count j+(xs.take (kk+1)).count j):=by
                 intro j;have h1:=hF.out j;have h2:=eh j;show(if j=y then f1 y+1 else f1 j)=_;by_cases e:j=y
                 ·subst e;rw[Ag rfl]at h2 ⊢;omega
                 ·rw[Ae e]at h2 ⊢;omega
                have gm:=hid fz;obtain⟨fy,cl⟩:=jc (f1 y);rw[<-cl]at ga gy;have gB:=hid cl;have s1:IntKind.u8.wrap ((fy:Int)+1)=(fy:Int)+1:=(by rw[IntKind.wrap_u8];omega);have y0:(0:Int)<=(kk:Int):=nB;have y1:(kk:Int)<(lx:Int):=nB;have y2:(0:Int)<=(y:Int):=nB;have y3:(y:Int)<(s:Int):=nB;clear hy hf eh hm fz cl hF;go_wp2_with fail;go_roundw
                case measure=>exact ld
                case rel=>go_light;refine⟨kk+1,_,gh.setIfInBounds y (.int .u8 ((f1 y+1:Nat):Int)),nB,lj,eE,gm,?_,hK.out.set (p:=⟨go,y,none⟩) (fun hb=>hb.2 rfl) _⟩;rw[<-gB.out];exact bl.set y _
               ·obtain rfl:kk=lx:=by omega
                have eE:Hid (∀j,f1 j=(flat ((rowN (lv (kOf ks) S) (r-1)).take (z+1))).count j):=(by intro j;have e:xs.take kk=xs:=Bp (Nat.le_of_eq dC.out.symm);rw[hF.out j,U3 g7.out,List.count_append,e]);clear hF;go_wp2_with fail;go_roundw
                case rel=>go_light;exact⟨z+1,f1,gh,nB,lj,eE,hU,bl,hK⟩
                case measure=>exact ld
             ·obtain rfl:z=2*q-2:=by omega
              have hV:Jy ks r=(List.range s).map f:=(by rw[Nj,HN.out];refine Hj fun j _=> ?_;rw[hF.out j,PW dd.out.nodup (r-1) (2*q-2) (by rw[<-aa.out.len,aq.out];exact hT)];unfold lenS;rw[<-cm.out,E.out,Ae nB]);have HV:=hid hV;clear hV;go_wp2_with fail;go_ret2;exact Ph cg.out (by rw[Br,HV.out]) hU.out dh bl rfl (fA.out.trans (hK.out.below (fun b hb=>⟨nB,nB⟩))) nB
end Lens
namespace Lens
open Go.RowKit Mem Own Srt Canon
theorem dR(w:World)(A:Option Addr)(n c:Nat)(ks:List Nat)(limit:Int)(hn:ks.length=n)(hN:n<=9223372036854775807)(j: -9223372036854775808<=limit)(i:limit<=9223372036854775807)(h:n>300∨limit<1∨limit>15):
 Calls prog 204 #[.slice A n c,limit] w (Kd ks limit w):=by
 have hE:Hid (EI ks limit=13):=by show _=_;unfold EI;rw[hn,Ag h]
 clear hn;by_cases h1:300<n
 ·clear h;go_enter func204,ntmps204;go_wp2_with fail;go_ret2;exact M5 ji hE.out rfl (Ak _ _)
 ·have g1:=jb ((300:Int)<n)
  have g2:=jb (300<n)
  by_cases h2:limit<1
  ·clear h;have g3:decide (limit<1)=true:=qi;go_enter func204,ntmps204;go_wp2_with fail;go_ret2;exact M5 ji hE.out rfl (Ak _ _)
  ·have h3:15<limit:=nB;have g3:=jb (limit<1);have g4:decide (15<limit)=true:=(by simpa using h3);clear h;go_enter func204,ntmps204;go_wp2_with fail;go_ret2;exact M5 ji hE.out rfl (Ak _ _)
theorem UQ(w:World)(A:Option Addr)(n c:Nat)(ks:List Nat)(limit:Int)(hn:ks.length=n)(hN:n<=9223372036854775807)(j: -9223372036854775808<=limit)(i:limit<=9223372036854775807)(E:∀x∈ks,x<4294967296)(ha:Row w w A n 1 (kZ .u32 ks)):
 Calls prog 204 #[.slice A n c,limit] w (Kd ks limit w):=by
 by_cases h:n>300∨limit<1∨limit>15
 ·exact dR w A n c ks limit hn hN j i h
 ·obtain⟨L,rfl⟩:∃L:Nat,limit=L:=⟨limit.toNat,nB⟩;exact fM w A n c L ks hn nB nB nB E ha
end Lens
end Go.Proofs.YtfgdoknipbpfhaaGreatDoor
