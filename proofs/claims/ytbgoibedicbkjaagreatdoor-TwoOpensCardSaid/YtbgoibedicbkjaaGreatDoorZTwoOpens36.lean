/- The walk of the reference's Open of chapter 22. (By program: gen/reftw -/
import Derived.Test.YtbgoibedicbkjaaGreatDoorZTwoOpens31
import Derived.Test.YtbgoibedicbkjaaGreatDoorZTwoOpens35
import Derived.Deep.DeepCutAuto
namespace Go.Proofs.YtbgoibedicbkjaaGreatDoor end Go.Proofs.YtbgoibedicbkjaaGreatDoor open Go.Proofs.YtbgoibedicbkjaaGreatDoor
open Go.Lib (hid)
namespace Go.Proofs.YtbgoibedicbkjaaGreatDoor.Body
open Go.RowKit Mem Own Canon Nums Crc Recs
open Opts
open Go.Proofs.YtbgoibedicbkjaaGreatDoor.One (jdZ ueZ zoZ)
open Go.Proofs.YtbgoibedicbkjaaGreatDoor.Idx (Str IxAt)
structure RtI (w3 wr:World) (ob g:Nat) (ls:List Nat) (B:Option Addr) (d at_:Nat) (er:Int) (cs:Array Value):Prop where
 cur:RCur wr g w3.heap.size ls B d at_ er
 bo:Blk wr ob 25 cs
 bel:Below w3.heap.size w3 wr
 lo:w3.heap.size<=ob
section
variable {w3 wr w2:World} {ob g:Nat} {ls:List Nat} {B:Option Addr} {d at_ a2:Nat} {er e2:Int} {cs:Array Value}
theorem RtI.call(h:RtI w3 wr ob g ls B d at_ er cs)(hc:RCur w2 g w3.heap.size ls B d a2 e2)(hk:Kept (ebZ g wr) wr w2):RtI w3 w2 ob g ls B d a2 e2 cs:=
 have hlo:=h.cur.lo
 have hz:=h.bel.size
 ⟨hc,(hk.block ob ⟨h.bo.lt,fun e=>Blk.apart h.bo h.cur.blk (by decide) e⟩).trans h.bo,h.bel.trans (hk.below fun y hy=>⟨by omega,by omega⟩),h.lo⟩
theorem RtI.callx(h:RtI w3 wr ob g ls B d at_ er cs)(hc:RCur w2 g w3.heap.size ls B d a2 e2)(hk:Kept (fun x=>x≠g) wr w2):RtI w3 w2 ob g ls B d a2 e2 cs:=
 have hlo:=h.cur.lo
 ⟨hc,(hk.block ob (fun e=>Blk.apart h.bo h.cur.blk (by decide) e)).trans h.bo,h.bel.trans (hk.below fun y hy=>by omega),h.lo⟩
theorem RtI.step(h:RtI w3 wr ob g ls B d at_ er cs)(hb:Below wr.heap.size wr w2):RtI w3 w2 ob g ls B d at_ er cs:=
 ⟨h.cur.step hb,h.bo.step hb,h.bel.trans (hb.mono h.bel.size),h.lo⟩
theorem RtI.set(h:RtI w3 wr ob g ls B d at_ er cs)(k:Nat)(u:Value):RtI w3 (wr.setCell ⟨ob,k,none⟩ u) ob g ls B d at_ er (cs.setIfInBounds k u):=
 ⟨⟨h.cur.blk.far (fun e=>Blk.apart h.bo h.cur.blk (by decide) e.symm) _,vZ h.cur.own (jZ h.cur.own h.bo (by decide)) _,h.cur.le,h.cur.lo⟩,h.bo.set k u,fZ h.lo h.bel,h.lo⟩
end
def RBod(w':World)(base sz:Nat)(v:Value)(C T L:List Nat)(X:List Str×List (List Nat))(F:List (List Nat)):Prop:=
 ∃vc vf vt vl vT vL vals fv,v= .agg #[vc,vf,vt,vl,vT,vL]/\w'.ownsRow base 3 1 vc C.length (cZ .i64 C)/\w'.ownsRow base 22 1 vf F.length fv/\(∀ (i:Nat) u b,fv[i]? =some u->F[i]? =some b->mnZ w' sz u b)/\
  w'.ownsRow base 57 1 vt T.length (cZ .u64 T)/\w'.ownsRow base 5 1 vl L.length (cZ .u8 L)/\IxAt w' base vT vL vals X.1 X.2
theorem RBod.mono{w:World}{base b2 sz s2:Nat}{v:Value}{C T L:List Nat}{X:List Str×List (List Nat)}{F:List (List Nat)}(h:RBod w base sz v C T L X F)(hb:b2<=base)(hs:sz<=s2):RBod w b2 s2 v C T L X F:=by
 obtain⟨vc,vf,vt,vl,vT,vL,vals,fv,rfl,j1,j2,j3,j4,j5,j6⟩:=h
 exact⟨vc,vf,vt,vl,vT,vL,vals,fv,rfl,lZ j1 hb,lZ j2 hb,(fun i u b hv hi=>let ⟨A,n,c,e,h1,h2,h3,h4⟩:=j3 i u b hv hi;⟨A,n,c,e,h1,h2,h3,h4.mono hs⟩),lZ j4 hb,lZ j5 hb,⟨lZ j6.t hb,lZ j6.l hb,fun i v ids hv hi=>lZ (j6.r i v ids hv hi) hb⟩⟩
theorem RBod.step{w w':World}{base sz:Nat}{v:Value}{C T L:List Nat}{X:List Str×List (List Nat)}{F:List (List Nat)}(h:RBod w base sz v C T L X F)(hb:Below w.heap.size w w')(hs:sz<=w.heap.size):RBod w' base sz v C T L X F:=by
 obtain⟨vc,vf,vt,vl,vT,vL,vals,fv,rfl,j1,j2,j3,j4,j5,j6⟩:=h
 have far:∀ {n:Nat} {e:TypeId} {v:Value} {xs:List Value},w.ownsRow base e 1 v n xs->w'.ownsRow base e 1 v n xs:=fun ho=>eZ ho fun y hy=>hb.block y (World.ownsRow.lt ho y hy).2
 exact⟨vc,vf,vt,vl,vT,vL,vals,fv,rfl,far j1,far j2,(fun i u b hv hi=>let ⟨A,n,c,e,h1,h2,h3,h4⟩:=j3 i u b hv hi;⟨A,n,c,e,h1,h2,h3,h4.keep fun a ha=>World.cell?_of_block (a:=a) (hb.block a.block (by omega))⟩),far j4,far j5,⟨far j6.t,far j6.l,fun i v ids hv hi=>far (j6.r i v ids hv hi)⟩⟩
def NoU8(cs:Array Value):Prop:=∀v∈cs.toList,∀y,v≠ .int .u8 y
theorem NoU8.set{cs:Array Value}(h:NoU8 cs)(k:Nat){u:Value}(hu:∀y,u≠ .int .u8 y):NoU8 (cs.setIfInBounds k u):=fun v hv=>by
 rw[Array.toList_setIfInBounds]at hv
 rcases List.mem_or_eq_of_mem_set hv with h1|rfl
 ·exact h v h1
 ·exact hu
theorem jlZb{w:World}{sz x:Nat}{t:TypeId}{cs:Array Value}{u:Value}{b:List Nat}(h:mnZ w sz u b)(hx:Blk w x t cs)(hno:NoU8 cs)(k:Nat)(v:Value):mnZ (w.setCell ⟨x,k,none⟩ v) sz u b:=by
 obtain⟨A,n,c,e,h1,h2,h3,h4⟩:=h
 refine⟨A,n,c,e,h1,h2,h3,fun hn=> ?_⟩
 obtain⟨g,off,e2,hg,hc⟩:=h4 hn
 have hne:g≠x:=by
  rintro rfl
  have h5:=hc 0 0 hn (by omega)
  rw[hx.cell]at h5
  exact hno _ (Array.mem_toList_iff.2 (Array.mem_of_getElem? h5)) _ rfl
 exact⟨g,off,e2,hg,fun i j hi hj=>(World.cell?_of_block (a:=⟨g,_,none⟩) (Below.heap_setCell w _ _ g hne)).trans (hc i j hi hj)⟩
theorem RBod.set{w:World}{base sz x:Nat}{t:TypeId}{cs:Array Value}{v:Value}{C T L:List Nat}{X:List Str×List (List Nat)}{F:List (List Nat)}(h:RBod w base sz v C T L X F)(hx:Blk w x t cs)(ht:t=25∨t=38)(hno:NoU8 cs)(k:Nat)(u:Value):RBod (w.setCell ⟨x,k,none⟩ u) base sz v C T L X F:=by
 obtain⟨vc,vf,vt,vl,vT,vL,vals,fv,rfl,j1,j2,j3,j4,j5,j6⟩:=h
 have far:∀ {n:Nat} {e:TypeId} {v:Value} {xs:List Value},w.ownsRow base e 1 v n xs->e≠25/\e≠38->(w.setCell ⟨x,k,none⟩ u).ownsRow base e 1 v n xs:=fun ho hne=>vZ ho (jZ ho hx (ht.elim (fun h=>h ▸ hne.1) (fun h=>h ▸ hne.2))) _
 exact⟨vc,vf,vt,vl,vT,vL,vals,fv,rfl,far j1 (by decide),far j2 (by decide),(fun i u b hv hi=>jlZb (j3 i u b hv hi) hx hno k _),far j4 (by decide),far j5 (by decide),⟨far j6.t (by decide),far j6.l (by decide),fun i v ids hv hi=>far (j6.r i v ids hv hi) (by decide)⟩⟩
theorem esZ{w:World}{base sz r1 r2:Nat}{x:Value}{C T L:List Nat}{X:List Str×List (List Nat)}{F:List (List Nat)}{S K:Nat}{pb:Bool}{A0 A1 A2 A3 A4 A5:Option Addr}{n0 n1 n2 n3 n4 n5 c0 c1 c2 c3 c4 c5:Nat}(h:RBod w base sz x C T L X F)(h1:Blk w r1 25 #[.int .i64 0, .bool false, .int .i64 0, .int .i64 0, .int .i64 0, .int .i64 0])(h2:Blk w r2 38 #[.slice none 0 0, .slice none 0 0, .slice none 0 0, .slice none 0 0, .slice none 0 0, .slice none 0 0])(hne:¬r2=r1):RBod ((((((((((((w.setCell ⟨r1,0,none⟩ (.int .i64 (S:Nat))).setCell ⟨r1,1,none⟩ (.bool pb)).setCell ⟨r1,2,none⟩ (.int .i64 (K:Nat))).setCell ⟨r1,3,none⟩ (.int .i64 0)).setCell ⟨r1,4,none⟩ (.int .i64 0)).setCell ⟨r1,5,none⟩ (.int .i64 0)).setCell ⟨r2,0,none⟩ (.slice A0 n0 c0)).setCell ⟨r2,1,none⟩ (.slice A1 n1 c1)).setCell ⟨r2,2,none⟩ (.slice A2 n2 c2)).setCell ⟨r2,3,none⟩ (.slice A3 n3 c3)).setCell ⟨r2,4,none⟩ (.slice A4 n4 c4)).setCell ⟨r2,5,none⟩ (.slice A5 n5 c5)) base sz x C T L X F:=
 (RBod.set (RBod.set (RBod.set (RBod.set (RBod.set (RBod.set (RBod.set (RBod.set (RBod.set (RBod.set (RBod.set (RBod.set h h1 (.inl rfl) (by intro v hv y;simp at hv;rcases hv with rfl|rfl|rfl<;>(intro h;cases h)) 0 (.int .i64 (S:Nat))) (h1.set 0 (.int .i64 (S:Nat))) (.inl rfl) (NoU8.set (by intro v hv y;simp at hv;rcases hv with rfl|rfl|rfl<;>(intro h;cases h)) 0 (fun y h=>by cases h)) 1 (.bool pb)) ((h1.set 0 (.int .i64 (S:Nat))).set 1 (.bool pb)) (.inl rfl) (NoU8.set (NoU8.set (by intro v hv y;simp at hv;rcases hv with rfl|rfl|rfl<;>(intro h;cases h)) 0 (fun y h=>by cases h)) 1 (fun y h=>by cases h)) 2 (.int .i64 (K:Nat))) (((h1.set 0 (.int .i64 (S:Nat))).set 1 (.bool pb)).set 2 (.int .i64 (K:Nat))) (.inl rfl) (NoU8.set (NoU8.set (NoU8.set (by intro v hv y;simp at hv;rcases hv with rfl|rfl|rfl<;>(intro h;cases h)) 0 (fun y h=>by cases h)) 1 (fun y h=>by cases h)) 2 (fun y h=>by cases h)) 3 (.int .i64 0)) ((((h1.set 0 (.int .i64 (S:Nat))).set 1 (.bool pb)).set 2 (.int .i64 (K:Nat))).set 3 (.int .i64 0)) (.inl rfl) (NoU8.set (NoU8.set (NoU8.set (NoU8.set (by intro v hv y;simp at hv;rcases hv with rfl|rfl|rfl<;>(intro h;cases h)) 0 (fun y h=>by cases h)) 1 (fun y h=>by cases h)) 2 (fun y h=>by cases h)) 3 (fun y h=>by cases h)) 4 (.int .i64 0)) (((((h1.set 0 (.int .i64 (S:Nat))).set 1 (.bool pb)).set 2 (.int .i64 (K:Nat))).set 3 (.int .i64 0)).set 4 (.int .i64 0)) (.inl rfl) (NoU8.set (NoU8.set (NoU8.set (NoU8.set (NoU8.set (by intro v hv y;simp at hv;rcases hv with rfl|rfl|rfl<;>(intro h;cases h)) 0 (fun y h=>by cases h)) 1 (fun y h=>by cases h)) 2 (fun y h=>by cases h)) 3 (fun y h=>by cases h)) 4 (fun y h=>by cases h)) 5 (.int .i64 0)) (Blk.far (p:=⟨r1,5,none⟩) (Blk.far (p:=⟨r1,4,none⟩) (Blk.far (p:=⟨r1,3,none⟩) (Blk.far (p:=⟨r1,2,none⟩) (Blk.far (p:=⟨r1,1,none⟩) (Blk.far (p:=⟨r1,0,none⟩) h2 hne (.int .i64 (S:Nat))) hne (.bool pb)) hne (.int .i64 (K:Nat))) hne (.int .i64 0)) hne (.int .i64 0)) hne (.int .i64 0)) (.inr rfl) (by intro v hv y;simp at hv;subst hv;intro h;cases h) 0 (.slice A0 n0 c0)) ((Blk.far (p:=⟨r1,5,none⟩) (Blk.far (p:=⟨r1,4,none⟩) (Blk.far (p:=⟨r1,3,none⟩) (Blk.far (p:=⟨r1,2,none⟩) (Blk.far (p:=⟨r1,1,none⟩) (Blk.far (p:=⟨r1,0,none⟩) h2 hne (.int .i64 (S:Nat))) hne (.bool pb)) hne (.int .i64 (K:Nat))) hne (.int .i64 0)) hne (.int .i64 0)) hne (.int .i64 0)).set 0 (.slice A0 n0 c0)) (.inr rfl) (NoU8.set (by intro v hv y;simp at hv;subst hv;intro h;cases h) 0 (fun y h=>by cases h)) 1 (.slice A1 n1 c1)) (((Blk.far (p:=⟨r1,5,none⟩) (Blk.far (p:=⟨r1,4,none⟩) (Blk.far (p:=⟨r1,3,none⟩) (Blk.far (p:=⟨r1,2,none⟩) (Blk.far (p:=⟨r1,1,none⟩) (Blk.far (p:=⟨r1,0,none⟩) h2 hne (.int .i64 (S:Nat))) hne (.bool pb)) hne (.int .i64 (K:Nat))) hne (.int .i64 0)) hne (.int .i64 0)) hne (.int .i64 0)).set 0 (.slice A0 n0 c0)).set 1 (.slice A1 n1 c1)) (.inr rfl) (NoU8.set (NoU8.set (by intro v hv y;simp at hv;subst hv;intro h;cases h) 0 (fun y h=>by cases h)) 1 (fun y h=>by cases h)) 2 (.slice A2 n2 c2)) ((((Blk.far (p:=⟨r1,5,none⟩) (Blk.far (p:=⟨r1,4,none⟩) (Blk.far (p:=⟨r1,3,none⟩) (Blk.far (p:=⟨r1,2,none⟩) (Blk.far (p:=⟨r1,1,none⟩) (Blk.far (p:=⟨r1,0,none⟩) h2 hne (.int .i64 (S:Nat))) hne (.bool pb)) hne (.int .i64 (K:Nat))) hne (.int .i64 0)) hne (.int .i64 0)) hne (.int .i64 0)).set 0 (.slice A0 n0 c0)).set 1 (.slice A1 n1 c1)).set 2 (.slice A2 n2 c2)) (.inr rfl) (NoU8.set (NoU8.set (NoU8.set (by intro v hv y;simp at hv;subst hv;intro h;cases h) 0 (fun y h=>by cases h)) 1 (fun y h=>by cases h)) 2 (fun y h=>by cases h)) 3 (.slice A3 n3 c3)) (((((Blk.far (p:=⟨r1,5,none⟩) (Blk.far (p:=⟨r1,4,none⟩) (Blk.far (p:=⟨r1,3,none⟩) (Blk.far (p:=⟨r1,2,none⟩) (Blk.far (p:=⟨r1,1,none⟩) (Blk.far (p:=⟨r1,0,none⟩) h2 hne (.int .i64 (S:Nat))) hne (.bool pb)) hne (.int .i64 (K:Nat))) hne (.int .i64 0)) hne (.int .i64 0)) hne (.int .i64 0)).set 0 (.slice A0 n0 c0)).set 1 (.slice A1 n1 c1)).set 2 (.slice A2 n2 c2)).set 3 (.slice A3 n3 c3)) (.inr rfl) (NoU8.set (NoU8.set (NoU8.set (NoU8.set (by intro v hv y;simp at hv;subst hv;intro h;cases h) 0 (fun y h=>by cases h)) 1 (fun y h=>by cases h)) 2 (fun y h=>by cases h)) 3 (fun y h=>by cases h)) 4 (.slice A4 n4 c4)) ((((((Blk.far (p:=⟨r1,5,none⟩) (Blk.far (p:=⟨r1,4,none⟩) (Blk.far (p:=⟨r1,3,none⟩) (Blk.far (p:=⟨r1,2,none⟩) (Blk.far (p:=⟨r1,1,none⟩) (Blk.far (p:=⟨r1,0,none⟩) h2 hne (.int .i64 (S:Nat))) hne (.bool pb)) hne (.int .i64 (K:Nat))) hne (.int .i64 0)) hne (.int .i64 0)) hne (.int .i64 0)).set 0 (.slice A0 n0 c0)).set 1 (.slice A1 n1 c1)).set 2 (.slice A2 n2 c2)).set 3 (.slice A3 n3 c3)).set 4 (.slice A4 n4 c4)) (.inr rfl) (NoU8.set (NoU8.set (NoU8.set (NoU8.set (NoU8.set (by intro v hv y;simp at hv;subst hv;intro h;cases h) 0 (fun y h=>by cases h)) 1 (fun y h=>by cases h)) 2 (fun y h=>by cases h)) 3 (fun y h=>by cases h)) 4 (fun y h=>by cases h)) 5 (.slice A5 n5 c5))
def nnZ(ls:List Nat)(w:World)(e:Ending)(w':World):Prop:=
 Below w.heap.size w w'/\∃v,e= .returned (.tuple #[if ngZ ls=0 then(tO ls).val else .agg #[.int .i64 0, .bool false, .int .i64 0, .int .i64 0, .int .i64 0, .int .i64 0],v, .int .i64 (ngZ ls)])/\(ngZ ls≠0->v= .agg #[.slice none 0 0, .slice none 0 0, .slice none 0 0, .slice none 0 0, .slice none 0 0, .slice none 0 0])/\
  (ngZ ls=0->∃sz,sz<=w'.heap.size/\RBod w' w.heap.size sz v (kcZ (yZ (tB ls))) (jbZ (oN (tB ls)) (xZ (bdZ (tB ls)))).1 (jbZ (oN (tB ls)) (xZ (bdZ (tB ls)))).2.1 (Idx.ixR (tO ls).bucket.toNat (oN (tB ls)) (xZ (yfZ (tB ls)))).1 (sbZ (qcZ (yZ (tB ls))) ((tB ls).take (pdZ (tB ls)))))
theorem rhZ{ls:List Nat}{w w':World}{er:Int}(hE:ngZ ls=er)(hne:er≠0)(hb:Below w.heap.size w w'):nnZ ls w (.returned (.tuple #[.agg #[.int .i64 0, .bool false, .int .i64 0, .int .i64 0, .int .i64 0, .int .i64 0], .agg #[.slice none 0 0, .slice none 0 0, .slice none 0 0, .slice none 0 0, .slice none 0 0, .slice none 0 0], .int .i64 er])) w':=by
 subst hE
 exact⟨hb,_,by rw[if_neg hne],fun _=>rfl,fun h=>absurd h hne⟩
theorem ubZb(w:World)(o:Opt)(A:Option Addr)(n c:Nat)(ls:List Nat)(hn:ls.length=n)(hle:n<=100000)(hc:n<=c)(h8:∀x∈ls,x<=255)(hnil:A=none->n=0/\c=0)(ha:Row w w.heap.size A n 1 (mZ .u8 ls)):
 Calls Tryz.prog 21 #[o.val, .slice A n c] w (fun e w'=>∃A0 n0 c0 A1 n1 c1 A2 n2 c2 A3 n3 c3 A4 n4 c4 A5 n5 c5,e= .returned (.tuple #[.agg #[.slice A0 n0 c0, .slice A1 n1 c1, .slice A2 n2 c2, .slice A3 n3 c3, .slice A4 n4 c4, .slice A5 n5 c5], .int .i64 (idZ o ls)])/\Below w.heap.size w w'/\(idZ o ls=0->RBod w' w.heap.size w.heap.size (.agg #[.slice A0 n0 c0, .slice A1 n1 c1, .slice A2 n2 c2, .slice A3 n3 c3, .slice A4 n4 c4, .slice A5 n5 c5]) (kcZ (yZ ls)) (jbZ (oN ls) (xZ (bdZ ls))).1 (jbZ (oN ls) (xZ (bdZ ls))).2.1 (Idx.ixR o.bucket.toNat (oN ls) (xZ (yfZ ls))).1 (sbZ (qcZ (yZ ls)) (ls.take (pdZ ls))))):=by
 refine(tbZb w o A n c ls hn hle hc h8 hnil ha).mono ?_
 rintro e w' ⟨hb,v,rfl,hz,hr⟩
 by_cases h:idZ o ls=0
 ·obtain⟨vc,vf,vt,vl,vT,vL,vals,fv,rfl,j1,j2,j3,j4,j5,j6⟩:=hr h
  have j6t:=j6.t
  have j6l:=j6.l
  obtain⟨A0,c0,rfl⟩:=bZ j1
  obtain⟨A1,c1,rfl⟩:=bZ j2
  obtain⟨A2,c2,rfl⟩:=bZ j4
  obtain⟨A3,c3,rfl⟩:=bZ j5
  obtain⟨A4,c4,rfl⟩:=bZ j6t
  obtain⟨A5,c5,rfl⟩:=bZ j6l
  exact⟨_,_,_,_,_,_,_,_,_,_,_,_,_,_,_,_,_,_,rfl,hb,fun _=>⟨_,_,_,_,_,_,vals,fv,rfl,j1,j2,(fun i u b hv hi=>let ⟨A,n,c,e,h1,h2,h3,h4⟩:=j3 i u b hv hi;⟨A,n,c,e,h1,h2,h3,h4.below hb⟩),j4,j5,j6⟩⟩
 ·obtain rfl:=hz h
  exact⟨none,0,0,none,0,0,none,0,0,none,0,0,none,0,0,none,0,0,rfl,hb,fun h2=>absurd h2 h⟩
set_option maxHeartbeats 4000000 in
set_option maxRecDepth 100000 in
theorem nfZb(w:World)(A:Option Addr)(n c:Nat)(ls:List Nat)(hn:ls.length=n)(hle:n<=100000)(hc:n<=c)(h8:∀x∈ls,x<=255)(hnil:A=none->n=0/\c=0)(ha:Row w w.heap.size A n 1 (mZ .u8 ls)):
 Calls Tryz.prog 10 #[.slice A n c] w (nnZ ls w):=by
 have HRO:Hid (∀wx,Below w.heap.size w wx->Row wx wx.heap.size A n 1 (mZ .u8 ls)):=fun wx h=>(ha.below h).mono h.size
 have D0:=hid (fun wx (hb:Below w.heap.size w wx)=>zoZ wx A n c ls hn hle (HRO.out wx hb))
 have D1:=hid (fun wx (hb:Below w.heap.size w wx)=>rnew_any wx A n c ls hn hle hnil (HRO.out wx hb))
 have hle':ls.length<=100000:=by omega
 have HN:=hid hn
 have H8:=hid h8
 have HN0:=hid hnil
 have HA:=hid ha
 have ha4:tA4 ls<=n:=by rw[<-hn];exact gfZb h8
 have hP:tP ls<=255:=by
  unfold tP yeZ
  split
  ·omega
  ·rw[List.getD_eq_getElem?_getD]
   cases hq:ls[tA1 ls]? with
   |none=>simp
   |some y=>exact h8 y (List.mem_of_getElem? hq)
 obtain⟨O,hO⟩:∃O,O=ngZ ls:=⟨_,rfl⟩
 have HO:=hid hO
 rw[csZ]at hO
 generalize jdZ ls=me at *
 generalize ueZ ls=mv at *
 have HOE:=hid hO
 clear hO ha hnil h8 hn HRO
 go_enter Tryz.func10,Tryz.ntmps10
 go_wp2_with fail
 have hz1:Blk (((w.alloc (.cells #[.int .i64 0, .bool false, .int .i64 0, .int .i64 0, .int .i64 0, .int .i64 0] 25)).alloc (.cells #[.slice none 0 0, .slice none 0 0, .slice none 0 0, .slice none 0 0, .slice none 0 0, .slice none 0 0] 38))) w.heap.size 25 #[.int .i64 0, .bool false, .int .i64 0, .int .i64 0, .int .i64 0, .int .i64 0]:=(Blk.made _ _ _).alloc _
 have hz2:Blk (((w.alloc (.cells #[.int .i64 0, .bool false, .int .i64 0, .int .i64 0, .int .i64 0, .int .i64 0] 25)).alloc (.cells #[.slice none 0 0, .slice none 0 0, .slice none 0 0, .slice none 0 0, .slice none 0 0, .slice none 0 0] 38))) (w.heap.size+1) 38 #[.slice none 0 0, .slice none 0 0, .slice none 0 0, .slice none 0 0, .slice none 0 0, .slice none 0 0]:=Blk.made_at _ _ _ (by simp)
 have hb1:Below w.heap.size w (((w.alloc (.cells #[.int .i64 0, .bool false, .int .i64 0, .int .i64 0, .int .i64 0, .int .i64 0] 25)).alloc (.cells #[.slice none 0 0, .slice none 0 0, .slice none 0 0, .slice none 0 0, .slice none 0 0, .slice none 0 0] 38))):=by(repeat(first|(with_reducible first|exact Below.refl _ _|assumption|refine Below.drew ?_|refine below_drewN ?_ _|refine aZ ?_|refine dZ (by assumption) ?_)|((with_reducible first|refine fZ ?_ ?_|refine gZ ?_ ?_|refine iZ (by assumption) ?_ ?_);(focus(first|(simp;done)|(simp;omega)|omega|(simp at *;omega))))))
 have hzz:w.heap.size+2<=(((w.alloc (.cells #[.int .i64 0, .bool false, .int .i64 0, .int .i64 0, .int .i64 0, .int .i64 0] 25)).alloc (.cells #[.slice none 0 0, .slice none 0 0, .slice none 0 0, .slice none 0 0, .slice none 0 0, .slice none 0 0] 38))).heap.size:=by simp
 generalize ((w.alloc (.cells #[.int .i64 0, .bool false, .int .i64 0, .int .i64 0, .int .i64 0, .int .i64 0] 25)).alloc (.cells #[.slice none 0 0, .slice none 0 0, .slice none 0 0, .slice none 0 0, .slice none 0 0, .slice none 0 0] 38))=w3 at *
 generalize hr2e:w.heap.size+1=r2 at *
 have hwr2:w.heap.size<=r2:=by omega
 have hr1:w.heap.size<w3.heap.size:=by omega
 have hr2:r2<w3.heap.size:=by omega
 have hr12n:¬w.heap.size=r2:=by omega
 have hr21n:¬r2=w.heap.size:=by omega
 have hzw3:w.heap.size<=w3.heap.size:=by omega
 have HZ1:=hid hz1
 have HZ2:=hid hz2
 have HW3:=hid hb1
 have D0:=hid (D0.out w3 hb1)
 have D1:=hid (D1.out w3 hb1)
 clear hz1 hz2 hb1 hr2e hzz
 refine D0.out.mono ?_
 rintro e wm ⟨rfl,hwm⟩
 obtain rfl:=hwm.symm
 clear hwm
 by_cases hme:me=0
 ·subst hme
  have hO:=HOE.out
  rw[if_neg (show ¬((0:Int)≠0) from fun h=>h rfl)]at hO
  by_cases hmv:mv=2
  ·have gV:((mv:Int) != 2)=false:=by rw[hmv];rfl
   rw[if_neg (fun h=>h hmv)]at hO
   have HOV:Hid (O=if gcZ ls≠0 then gcZ ls else idZ (tO ls) (tB ls)):=hO
   have HE:Hid ((tE4 ls=0->(icZ (ls.take (tA4 ls))=0->gcZ ls=mdZ ⟨(tS ls:Nat),decide (tP ls=1),(tK ls:Nat),0,0,0⟩)/\(icZ (ls.take (tA4 ls))≠0->gcZ ls=icZ (ls.take (tA4 ls))))/\(tE4 ls≠0->gcZ ls=tE4 ls)):=by
    refine⟨fun h=>⟨fun h2=> ?_,fun h2=> ?_⟩,fun h=> ?_⟩
    ·unfold gcZ
     rw[if_neg (by simp[h]),if_neg (by simp[h2])]
     rfl
    ·unfold gcZ
     rw[if_neg (by simp[h]),if_pos h2]
    ·unfold gcZ
     rw[if_pos h]
   have D2:=hid (fun wx g B d hx=>nhZ wx g w3.heap.size ls B d 0 0 5 hle' (by omega) hx)
   have D3:=hid (fun wx g B d hx=>qfZ wx g w3.heap.size ls B d (tA0 ls) (tE0 ls) 32768 hle' H8.out (by omega) hx)
   have D4:=hid (fun wx g B d hx=>tsZ wx g w3.heap.size ls B d (tA1 ls) (tE1 ls) hle' hx)
   have D4f:=hid (fun wx g B d hx=>mcZb wx g w3.heap.size ls B d (tA2 ls) (tE2 ls) 2 hx)
   have D5g:=hid (fun wx g B d hx=>qfZ wx g w3.heap.size ls B d (tA2 ls) (tF2 ls) 64 hle' H8.out (by omega) hx)
   have D6g:=hid (fun wx g B d hx=>nhZ wx g w3.heap.size ls B d (tA3 ls) (tE3 ls) 4 hle' (by omega) hx)
   have hF:(1<tP ls->tF2 ls=ygZ (tE2 ls) 2)/\(¬1<tP ls->tF2 ls=tE2 ls):=⟨fun h=>if_pos h,fun h=>if_neg h⟩
   unfold ggZ at D2 D6g
   rw[show takeA ls 0 0 5=tA0 ls from rfl,show gbZ ls 0 0 5=tE0 ls from rfl]at D2
   rw[show tZ 32768 ls (tA0 ls) (tE0 ls)=tS ls from rfl,show pZ 32768 ls (tA0 ls) (tE0 ls)=tA1 ls from rfl,show qZ 32768 ls (tA0 ls) (tE0 ls)=tE1 ls from rfl]at D3
   rw[show yeZ ls (tA1 ls) (tE1 ls)=tP ls from rfl,show takeA ls (tA1 ls) (tE1 ls) 1=tA2 ls from rfl,show gbZ ls (tA1 ls) (tE1 ls) 1=tE2 ls from rfl]at D4
   rw[show tZ 64 ls (tA2 ls) (tF2 ls)=tK ls from rfl,show pZ 64 ls (tA2 ls) (tF2 ls)=tA3 ls from rfl,show qZ 64 ls (tA2 ls) (tF2 ls)=tE3 ls from rfl]at D5g
   rw[show takeA ls (tA3 ls) (tE3 ls) 4=tA4 ls from rfl,show gbZ ls (tA3 ls) (tE3 ls) 4=tE4 ls from rfl]at D6g
   obtain⟨ol,hol⟩:∃ol,ol=(tO ls).val:=⟨_,rfl⟩
   have HOL:Hid ((tO ls).val= .agg #[.int .i64 (tS ls:Nat), .bool (decide (tP ls=1)), .int .i64 (tK ls:Nat), .int .i64 0, .int .i64 0, .int .i64 0]):=rfl
   obtain⟨hh,hhh⟩:∃hh,hh=gcZ ls:=⟨_,rfl⟩
   rw[<-hhh]at HOV HE
   obtain⟨a4,ha4e⟩:∃a4,a4=tA4 ls:=⟨_,rfl⟩
   have HA4:=hid ha4e
   rw[<-ha4e]at D6g ha4 HE
   generalize tA0 ls=a0 at *
   generalize tE0 ls=e0 at *
   generalize tS ls=S at *
   generalize tA1 ls=a1 at *
   generalize tE1 ls=e1 at *
   generalize tP ls=P at *
   generalize tA2 ls=a2 at *
   generalize tE2 ls=e2 at *
   generalize tF2 ls=f2e at *
   generalize tK ls=K at *
   generalize tA3 ls=a3 at *
   generalize tE3 ls=e3 at *
   generalize tE4 ls=e4 at *
   have HFF:=hid hF
   have HHH:=hid hhh
   obtain⟨pb,hpb⟩:∃pb,pb=decide (P=1):=⟨_,rfl⟩
   rw[<-hpb]at HE HOL
   have gP:((P:Int)==1)=pb:=by
    rw[hpb]
    by_cases h:P=1
    ·subst h;rfl
    ·rw[decide_eq_false h,beq_eq_false_iff_ne];omega
   clear hO HOE D0 hmv hF hhh ha4e hpb hol ol
   go_wp2_with fail
   refine D1.out.mono ?_
   rintro e w4 ⟨g,B,d,rfl,hc4,hb4⟩
   have D2:=hid (D2.out _ g B d hc4)
   have D3:=hid (fun wx hx=>D3.out wx g B d hx)
   have D4:=hid (fun wx hx=>D4.out wx g B d hx)
   have D4f:=hid (fun wx hx=>D4f.out wx g B d hx)
   have D5:=hid (fun wx hx=>D5g.out wx g B d hx)
   have D6:=hid (fun wx hx=>D6g.out wx g B d hx)
   have HB4:=hid hb4
   have hglo:=hc4.lo
   have z4:=hb4.size
   clear hc4 hb4 D1 D5g D6g
   go_wp2_with fail
   refine D2.out.mono ?_
   rintro e wa ⟨va,rfl,_,hca,hka⟩
   have HBa:Hid (Below w3.heap.size w3 wa):=HB4.out.trans (hka.below fun b h=>⟨by omega,by omega⟩)
   have D3:=hid (D3.out _ hca)
   have za:=HBa.out.size
   clear hca hka D2 HB4
   go_wp2_with fail
   refine D3.out.mono ?_
   rintro e wb ⟨rfl,hcb,hkb⟩
   have HBb:Hid (Below w3.heap.size w3 wb):=HBa.out.trans (hkb.below fun b h=>⟨by omega,by omega⟩)
   have HCb:=hid hcb
   have zb:=HBb.out.size
   clear hcb hkb D3 HBa
   go_wp2_with fail
   have hob:Blk (wb.alloc (.cells #[.int .i64 (S:Nat), .bool false, .int .i64 0, .int .i64 0, .int .i64 0, .int .i64 0] 25)) wb.heap.size 25 #[.int .i64 (S:Nat), .bool false, .int .i64 0, .int .i64 0, .int .i64 0, .int .i64 0]:=Blk.made _ _ _
   have hbb:Below wb.heap.size wb (wb.alloc (.cells #[.int .i64 (S:Nat), .bool false, .int .i64 0, .int .i64 0, .int .i64 0, .int .i64 0] 25)):=aZ (Below.refl _ _)
   generalize wb.alloc (.cells #[.int .i64 (S:Nat), .bool false, .int .i64 0, .int .i64 0, .int .i64 0, .int .i64 0] 25)=w5 at *
   have HI5:Hid (RtI w3 w5 wb.heap.size g ls B d a1 e1 #[.int .i64 (S:Nat), .bool false, .int .i64 0, .int .i64 0, .int .i64 0, .int .i64 0]):=⟨HCb.out.step hbb,hob,HBb.out.trans (hbb.mono zb),zb⟩
   generalize wb.heap.size=ob at *
   have D:=hid (D4.out _ HI5.out.cur)
   clear hob hbb HCb HBb D4
   refine D.out.mono ?_
   rintro e w5b ⟨rfl,hc6,hk6⟩
   have hi6:=HI5.out.call hc6 hk6
   clear D hc6 hk6 HI5
   have HI6b:=hid hi6
   clear hi6
   go_upto_if 35 with fail
   go_cut [] (fun wx=>Hid (RtI w3 wx ob g ls B d a2 f2e #[.int .i64 (S:Nat), .bool false, .int .i64 0, .int .i64 0, .int .i64 0, .int .i64 0]))
   case first=>
    obtain⟨qp,hqp⟩:∃qp,qp=decide ((1:Int)<(P:Int)):=⟨_,rfl⟩
    rw[<-hqp]
    have HQ:=hid hqp
    clear hqp
    cases qp
    ·have hff:=HFF.out.2 (by have h:=HQ.out;simp at h;omega)
     have HI6:Hid (RtI w3 w5b ob g ls B d a2 f2e #[.int .i64 (S:Nat), .bool false, .int .i64 0, .int .i64 0, .int .i64 0, .int .i64 0]):=by rw[hff];exact HI6b
     clear hff HFF D4f HQ
     go_wp2_with fail
     go_meet
     case rel=>exact HI6
    ·have hff:=HFF.out.1 (by have h:=HQ.out;simp at h;omega)
     have D:=hid (D4f.out _ HI6b.out.cur)
     rw[<-hff]at D
     clear hff D4f HFF HQ
     go_wp2_with fail
     refine D.out.mono ?_
     rintro e w6 ⟨rfl,hc6,hk6⟩
     have HI6:=hid (HI6b.out.callx hc6 hk6)
     clear hc6 hk6 D
     go_wp2_with fail
     go_meet
     case rel=>exact HI6
   case rest=>
    have HI6:Hid (RtI w3 wc ob g ls B d a2 f2e #[.int .i64 (S:Nat), .bool false, .int .i64 0, .int .i64 0, .int .i64 0, .int .i64 0]):=hcut
    clear hcut HI6b D4f HFF
    obtain⟨w6,rfl⟩:∃w6:World,w6=wc:=⟨_,rfl⟩
    have hi6:=HI6.out
    have b1:=hi6.bo.cell 1
    have bf1:=hi6.bo.frozen 1
    simp only[List.getElem?_toArray,List.getElem?_cons_zero,List.getElem?_cons_succ]at b1
    have HI7:Hid (RtI w3 (w6.setCell ⟨ob,1,none⟩ (.bool pb)) ob g ls B d a2 f2e #[.int .i64 (S:Nat), .bool pb, .int .i64 0, .int .i64 0, .int .i64 0, .int .i64 0]):=hid (by simpa using hi6.set 1 (.bool pb))
    have D:=hid (D5.out _ HI7.out.cur)
    clear hi6 D5
    go_wp2_with fail
    refine D.out.mono ?_
    rintro e w7 ⟨rfl,hc7,hk7⟩
    have hi7:=HI7.out.call hc7 hk7
    clear hc7 hk7 D HI7 HI6 b1 bf1
    have b2:=hi7.bo.cell 2
    have bf2:=hi7.bo.frozen 2
    simp only[List.getElem?_toArray,List.getElem?_cons_zero,List.getElem?_cons_succ]at b2
    have HI7:=hid hi7
    have HI8:Hid (RtI w3 (w7.setCell ⟨ob,2,none⟩ (.int .i64 (K:Nat))) ob g ls B d a3 e3 #[.int .i64 (S:Nat), .bool pb, .int .i64 (K:Nat), .int .i64 0, .int .i64 0, .int .i64 0]):=hid (by simpa using hi7.set 2 (.int .i64 (K:Nat)))
    have D:=hid (D6.out _ HI8.out.cur)
    clear hi7 D6
    go_wp2_with fail
    refine D.out.mono ?_
    rintro e w9 ⟨v9,rfl,_,hc9,hk9⟩
    have hi9:=HI8.out.call hc9 hk9
    obtain⟨d0,d1,d2⟩:=hi9.cur.cells
    have HI9:=hid hi9
    clear hc9 hk9 D HI8 HI7 b2 bf2 hi9
    by_cases he4:e4=0
    ·subst he4
     have hE:=HE.out.1 (by first|trivial|rfl)
     have HEA:=hid hE
     have hz9:=HI9.out.bel.size
     have hpre:Row w9 w9.heap.size A a4 1 (mZ .u8 (ls.take a4)):=((hbZ HA.out ha4).below (HW3.out.trans (HI9.out.bel.mono hzw3))).mono (by omega)
     have D:=Block.amZ w9 A a4 c (ls.take a4) (by rw[List.length_take,HN.out];omega) (by omega) (by omega) (fun x hx=>H8.out x (List.mem_of_mem_take hx)) hpre
     unfold deZ at D
     have ks:=fun wx=>fcZ (P:=Tryz.prog) (t:=22) (s:=1) Tryz.underlying22 (fun _=>by kernel_rfl) A n c .i64 (a4:Int) a4 rfl (by omega) (fun a _=>rfl) wx
     generalize xZ (ls.take a4)=co at *
     generalize icZ (ls.take a4)=ce at *
     have D:=hid D
     clear hpre hE HE
     go_wp2_with fail
     refine D.out.mono ?_
     rintro e w10 ⟨v10,rfl,ho10,hb10⟩
     obtain⟨A10,c10,rfl⟩:=bZ ho10
     have HI10:=hid (HI9.out.step hb10)
     clear ho10 hb10 D HI9 d0 d1 d2
     by_cases hce:ce=0
     ·subst hce
      have hE:=HEA.out.1 (by first|trivial|rfl)
      have HEB:=hid hE
      have D:=hid (fun wx=>bnZ wx ⟨(S:Nat),pb,(K:Nat),0,0,0⟩)
      unfold Opt.val at D
      simp only at D
      generalize mdZ ⟨(S:Nat),pb,(K:Nat),0,0,0⟩=oe at *
      have hi10:=HI10.out
      have HBO:=hid hi10.bo
      have hbo:=HBO.out
      have o0:=hbo.cell 0;have o1:=hbo.cell 1;have o2:=hbo.cell 2;have o3:=hbo.cell 3;have o4:=hbo.cell 4;have o5:=hbo.cell 5;simp only[List.getElem?_toArray,List.getElem?_cons_zero,List.getElem?_cons_succ]at o0 o1 o2 o3 o4 o5
      clear hE HEA hi10 hbo
      go_wp2_with fail
      refine(D.out _).mono ?_
      rintro e w11 ⟨rfl,hb11⟩
      have HI11:=hid (HI10.out.step hb11)
      clear hb11 D HI10 HBO o0 o1 o2 o3 o4 o5
      by_cases hoe:oe=0
      ·subst hoe
       have HOO:Hid (O=idZ (tO ls) (tB ls)):=by show _=_;rw[HOV.out,HEB.out];exact if_neg (fun h=>h rfl)
       have htb:(tB ls).length=n-a4:=by unfold tB;rw[List.length_drop,HN.out,<-HA4.out]
       have hrow:Row w w.heap.size (sZ A a4 c 1) (n-a4) 1 (mZ .u8 (tB ls)):=by unfold tB;rw[<-HA4.out];exact uZ HA.out ha4 hc
       have hnl:sZ A a4 c 1=none->n-a4=0/\c-a4=0:=fun h=>by
        unfold sZ at h
        split at h
        ·exact⟨by omega,by omega⟩
        ·cases hA:A with
         |none=>have:=HN0.out hA;omega
         |some a=>rw[hA]at h;cases h
       have HW11:Hid (Below w.heap.size w w11):=HW3.out.trans (HI11.out.bel.mono hzw3)
       have D:=hid (fun wx (hb:Below w11.heap.size w11 wx)=>ubZb wx (tO ls) (sZ A a4 c 1) (n-a4) (c-a4) (tB ls) htb (by omega) (by omega) (fun x hx=>H8.out x (List.mem_of_mem_drop hx)) hnl ((hrow.below (HW11.out.trans (hb.mono HW11.out.size))).mono (Nat.le_trans HW11.out.size hb.size)))
       have ks:=fun wx=>vcZ (P:=Tryz.prog) (t:=22) (s:=1) Tryz.underlying22 (fun _=>by kernel_rfl) A n c .i64 (a4:Int) a4 rfl (by omega) wx
       generalize sZ A a4 c 1=AX at *
       generalize n-a4=nx at *
       generalize c-a4=cx at *
       rw[HOL.out]at D
       have hi11:=HI11.out
       have hog:=Blk.apart hi11.bo hi11.cur.blk (by decide)
       have HS:Hid (∀wx,Below w11.heap.size w11 wx->wx.cell? ⟨ob,0,none⟩=some (.int .i64 (S:Nat))/\wx.cell? ⟨ob,1,none⟩=some (.bool pb)/\wx.cell? ⟨ob,2,none⟩=some (.int .i64 (K:Nat))/\wx.cell? ⟨ob,3,none⟩=some (.int .i64 0)/\wx.cell? ⟨ob,4,none⟩=some (.int .i64 0)/\wx.cell? ⟨ob,5,none⟩=some (.int .i64 0)/\wx.cell? ⟨g,1,none⟩=some (.int .i64 (a4:Nat))):=fun wx hb=>⟨(HI11.out.bo.step hb).cell 0,(HI11.out.bo.step hb).cell 1,(HI11.out.bo.step hb).cell 2,(HI11.out.bo.step hb).cell 3,(HI11.out.bo.step hb).cell 4,(HI11.out.bo.step hb).cell 5,(HI11.out.cur.step hb).cells.2.1⟩
       generalize idZ (tO ls) (tB ls)=oe at *
       clear htb hrow hnl hi11 HEB
       have hbo:=HI11.out.bo
       have o0:=hbo.cell 0;have o1:=hbo.cell 1;have o2:=hbo.cell 2;have o3:=hbo.cell 3;have o4:=hbo.cell 4;have o5:=hbo.cell 5;simp only[List.getElem?_toArray,List.getElem?_cons_zero,List.getElem?_cons_succ]at o0 o1 o2 o3 o4 o5
       have q7:=HI11.out.cur.cells.2.1
       have hbo2:=HI11.out.bo.alloc (.cells #[.slice none 0 0, .slice none 0 0, .slice none 0 0, .slice none 0 0, .slice none 0 0, .slice none 0 0] 38)
       have p0:=hbo2.cell 0;have p1:=hbo2.cell 1;have p2:=hbo2.cell 2;have p3:=hbo2.cell 3;have p4:=hbo2.cell 4;have p5:=hbo2.cell 5;simp only[List.getElem?_toArray,List.getElem?_cons_zero,List.getElem?_cons_succ]at p0 p1 p2 p3 p4 p5
       have q72:=(HI11.out.cur.step (aZ (o:= .cells #[.slice none 0 0, .slice none 0 0, .slice none 0 0, .slice none 0 0, .slice none 0 0, .slice none 0 0] 38) (Below.refl w11.heap.size w11))).cells.2.1
       clear hbo hbo2
       go_upto_region 23 with fail
       go_cut [6,10] (fun s t wx=>∃yb sz A0 n0 c0 A1 n1 c1 A2 n2 c2 A3 n3 c3 A4 n4 c4 A5 n5 c5,s= .int .i64 oe/\t= .pointer (some ⟨yb,0,none⟩)/\Blk wx yb 38 #[.slice A0 n0 c0, .slice A1 n1 c1, .slice A2 n2 c2, .slice A3 n3 c3, .slice A4 n4 c4, .slice A5 n5 c5]/\Below w11.heap.size w11 wx/\w3.heap.size<=yb/\sz<=wx.heap.size/\(oe=0->RBod wx w11.heap.size sz (.agg #[.slice A0 n0 c0, .slice A1 n1 c1, .slice A2 n2 c2, .slice A3 n3 c3, .slice A4 n4 c4, .slice A5 n5 c5]) (kcZ (yZ (tB ls))) (jbZ (oN (tB ls)) (xZ (bdZ (tB ls)))).1 (jbZ (oN (tB ls)) (xZ (bdZ (tB ls)))).2.1 (Idx.ixR (tO ls).bucket.toNat (oN (tB ls)) (xZ (yfZ (tB ls)))).1 (sbZ (qcZ (yZ (tB ls))) ((tB ls).take (pdZ (tB ls))))))
       case first=>
        go_region_law(go_simp;go_at_call 21;(with_reducible refine(D.out _ (by(repeat(first|(with_reducible first|exact Below.refl _ _|assumption|refine Below.drew ?_|refine below_drewN ?_ _|refine aZ ?_|refine dZ (by assumption) ?_)|((with_reducible first|refine fZ ?_ ?_|refine gZ ?_ ?_|refine iZ (by assumption) ?_ ?_);(focus(first|(simp;done)|(simp;omega)|omega|(simp at *;omega)))))))).mono ?_);rintro e w12 ⟨A0,n0,c0,A1,n1,c1,A2,n2,c2,A3,n3,c3,A4,n4,c4,A5,n5,c5,rfl,hb12,hok⟩;have BB:Below w11.heap.size w11 w12:=dZ hb12 (by(repeat(first|(with_reducible first|exact Below.refl _ _|assumption|refine Below.drew ?_|refine below_drewN ?_ _|refine aZ ?_|refine dZ (by assumption) ?_)|((with_reducible first|refine fZ ?_ ?_|refine gZ ?_ ?_|refine iZ (by assumption) ?_ ?_);(focus(first|(simp;done)|(simp;omega)|omega|(simp at *;omega)))))));(first|(have y12:Blk w12 w11.heap.size 38 #[.slice none 0 0, .slice none 0 0, .slice none 0 0, .slice none 0 0, .slice none 0 0, .slice none 0 0]:=Blk.step (Blk.made w11 38 #[.slice none 0 0, .slice none 0 0, .slice none 0 0, .slice none 0 0, .slice none 0 0, .slice none 0 0]).drew hb12;have y0:=y12.cell 0;have y1:=y12.cell 1;have y2:=y12.cell 2;have y3:=y12.cell 3;have y4:=y12.cell 4;have y5:=y12.cell 5;simp only[List.getElem?_toArray,List.getElem?_cons_zero,List.getElem?_cons_succ]at y0 y1 y2 y3 y4 y5;have yf0:=y12.frozen 0;have yf1:=y12.frozen 1;have yf2:=y12.frozen 2;have yf3:=y12.frozen 3;have yf4:=y12.frozen 4;have yf5:=y12.frozen 5)|skip))
        all_goals
         go_wp2_with fail
         go_meet
         case rel=>
          first
           |(refine⟨w11.heap.size,w12.heap.size,A0,n0,c0,A1,n1,c1,A2,n2,c2,A3,n3,c3,A4,n4,c4,A5,n5,c5,rfl,rfl,by simpa using ((((((y12.set 0 (.slice A0 n0 c0)).set 1 (.slice A1 n1 c1)).set 2 (.slice A2 n2 c2)).set 3 (.slice A3 n3 c3)).set 4 (.slice A4 n4 c4)).set 5 (.slice A5 n5 c5)),(fZ (Nat.le_refl _) (fZ (Nat.le_refl _) (fZ (Nat.le_refl _) (fZ (Nat.le_refl _) (fZ (Nat.le_refl _) (fZ (Nat.le_refl _) BB)))))),HI11.out.bel.size,by simp,fun h=>(RBod.set (RBod.set (RBod.set (RBod.set (RBod.set (RBod.set ((hok h).mono (b2:=w11.heap.size) (by show _<=(w11.alloc _).heap.size;simp) hb12.size) y12 (.inr rfl) (by intro v hv y;simp at hv;subst hv;intro h;cases h) 0 (.slice A0 n0 c0)) (y12.set 0 (.slice A0 n0 c0)) (.inr rfl) (NoU8.set (by intro v hv y;simp at hv;subst hv;intro h;cases h) 0 (fun y h=>by cases h)) 1 (.slice A1 n1 c1)) ((y12.set 0 (.slice A0 n0 c0)).set 1 (.slice A1 n1 c1)) (.inr rfl) (NoU8.set (NoU8.set (by intro v hv y;simp at hv;subst hv;intro h;cases h) 0 (fun y h=>by cases h)) 1 (fun y h=>by cases h)) 2 (.slice A2 n2 c2)) (((y12.set 0 (.slice A0 n0 c0)).set 1 (.slice A1 n1 c1)).set 2 (.slice A2 n2 c2)) (.inr rfl) (NoU8.set (NoU8.set (NoU8.set (by intro v hv y;simp at hv;subst hv;intro h;cases h) 0 (fun y h=>by cases h)) 1 (fun y h=>by cases h)) 2 (fun y h=>by cases h)) 3 (.slice A3 n3 c3)) ((((y12.set 0 (.slice A0 n0 c0)).set 1 (.slice A1 n1 c1)).set 2 (.slice A2 n2 c2)).set 3 (.slice A3 n3 c3)) (.inr rfl) (NoU8.set (NoU8.set (NoU8.set (NoU8.set (by intro v hv y;simp at hv;subst hv;intro h;cases h) 0 (fun y h=>by cases h)) 1 (fun y h=>by cases h)) 2 (fun y h=>by cases h)) 3 (fun y h=>by cases h)) 4 (.slice A4 n4 c4)) (((((y12.set 0 (.slice A0 n0 c0)).set 1 (.slice A1 n1 c1)).set 2 (.slice A2 n2 c2)).set 3 (.slice A3 n3 c3)).set 4 (.slice A4 n4 c4)) (.inr rfl) (NoU8.set (NoU8.set (NoU8.set (NoU8.set (NoU8.set (by intro v hv y;simp at hv;subst hv;intro h;cases h) 0 (fun y h=>by cases h)) 1 (fun y h=>by cases h)) 2 (fun y h=>by cases h)) 3 (fun y h=>by cases h)) 4 (fun y h=>by cases h)) 5 (.slice A5 n5 c5))⟩)
           |(refine⟨w12.heap.size,w12.heap.size,A0,n0,c0,A1,n1,c1,A2,n2,c2,A3,n3,c3,A4,n4,c4,A5,n5,c5,rfl,rfl,Blk.made _ _ _,gZ BB.size BB,Nat.le_trans HI11.out.bel.size BB.size,by simp,fun h=>((hok h).mono (Nat.le_refl _) hb12.size).step (aZ (Below.refl _ _)) (Nat.le_refl _)⟩)
       case rest=>
        obtain⟨yb,sz,A0,n0,c0,A1,n1,c1,A2,n2,c2,A3,n3,c3,A4,n4,c4,A5,n5,c5,rfl,rfl,hy,hb13,hyl,hz13,hbd⟩:=hcut
        obtain⟨w13,rfl⟩:∃w13:World,w13=wc:=⟨_,rfl⟩
        have HB13:Hid (Below w3.heap.size w3 w13):=HI11.out.bel.trans (hb13.mono HI11.out.bel.size)
        have ho13:=HI11.out.bo.step hb13
        have hol:=HI11.out.lo
        have HZ13:=hid hz13
        clear o0 o1 o2 o3 o4 o5 p0 p1 p2 p3 p4 p5 q7 q72 D HS hb13 hz13
        by_cases hoe:oe=0
        ·subst hoe
         have HBD:=hid (((hbd (by first|trivial|rfl)).mono (b2:=w.heap.size) HW11.out.size (Nat.le_refl _)))
         have HFO:Hid (ngZ ls=0):=HO.out.symm.trans HOO.out
         have HBW:=HB13
         have hn1:=HZ1.out.below HBW.out hr1
         have hn2:=HZ2.out.below HBW.out hr2
         have hw0:=HW3.out.trans (HBW.out.mono hzw3)
         have HBF:=hid hw0
         have HN1:=hid hn1
         have HN2:=hid hn2
         have u0:=hn2.cell 0;have u1:=hn2.cell 1;have u2:=hn2.cell 2;have u3:=hn2.cell 3;have u4:=hn2.cell 4;have u5:=hn2.cell 5;simp only[List.getElem?_toArray,List.getElem?_cons_zero,List.getElem?_cons_succ]at u0 u1 u2 u3 u4 u5
         have v0:=hn1.cell 0;have v1:=hn1.cell 1;have v2:=hn1.cell 2;have v3:=hn1.cell 3;have v4:=hn1.cell 4;have v5:=hn1.cell 5;simp only[List.getElem?_toArray,List.getElem?_cons_zero,List.getElem?_cons_succ]at v0 v1 v2 v3 v4 v5
         have uf0:=hn2.frozen 0;have uf1:=hn2.frozen 1;have uf2:=hn2.frozen 2;have uf3:=hn2.frozen 3;have uf4:=hn2.frozen 4;have uf5:=hn2.frozen 5
         have vf0:=hn1.frozen 0;have vf1:=hn1.frozen 1;have vf2:=hn1.frozen 2;have vf3:=hn1.frozen 3;have vf4:=hn1.frozen 4;have vf5:=hn1.frozen 5
         have o0:=ho13.cell 0;have o1:=ho13.cell 1;have o2:=ho13.cell 2;have o3:=ho13.cell 3;have o4:=ho13.cell 4;have o5:=ho13.cell 5;simp only[List.getElem?_toArray,List.getElem?_cons_zero,List.getElem?_cons_succ]at o0 o1 o2 o3 o4 o5
         have y0:=hy.cell 0;have y1:=hy.cell 1;have y2:=hy.cell 2;have y3:=hy.cell 3;have y4:=hy.cell 4;have y5:=hy.cell 5;simp only[List.getElem?_toArray,List.getElem?_cons_zero,List.getElem?_cons_succ]at y0 y1 y2 y3 y4 y5
         have x1:¬ob=w.heap.size:=by omega
         have x2:¬w.heap.size=ob:=by omega
         have x3:¬ob=r2:=by omega
         have x4:¬r2=ob:=by omega
         have x5:¬yb=w.heap.size:=by omega
         have x6:¬w.heap.size=yb:=by omega
         have x7:¬yb=r2:=by omega
         have x8:¬r2=yb:=by omega
         clear hn1 hn2 hw0 hbd HI11 HOO HZ1 HZ2 HBW HB13 ho13 hy
         go_wp2_with fail
         go_region
         all_goals
          go_wp2_with fail
          refine bodyPost_ret (v:= .tuple #[.agg #[.int .i64 (S:Nat), .bool pb, .int .i64 (K:Nat), .int .i64 0, .int .i64 0, .int .i64 0], .agg #[.slice A0 n0 c0, .slice A1 n1 c1, .slice A2 n2 c2, .slice A3 n3 c3, .slice A4 n4 c4, .slice A5 n5 c5], .int .i64 0]) ?_ rfl ?_
          ·have hx1:=(Blk.far (p:=⟨r2,5,none⟩) (Blk.far (p:=⟨r2,4,none⟩) (Blk.far (p:=⟨r2,3,none⟩) (Blk.far (p:=⟨r2,2,none⟩) (Blk.far (p:=⟨r2,1,none⟩) (Blk.far (p:=⟨r2,0,none⟩) ((((((HN1.out.set 0 (.int .i64 (S:Nat))).set 1 (.bool pb)).set 2 (.int .i64 (K:Nat))).set 3 (.int .i64 0)).set 4 (.int .i64 0)).set 5 (.int .i64 0)) hr12n (.slice A0 n0 c0)) hr12n (.slice A1 n1 c1)) hr12n (.slice A2 n2 c2)) hr12n (.slice A3 n3 c3)) hr12n (.slice A4 n4 c4)) hr12n (.slice A5 n5 c5))
           have hx2:=(((((((Blk.far (p:=⟨w.heap.size,5,none⟩) (Blk.far (p:=⟨w.heap.size,4,none⟩) (Blk.far (p:=⟨w.heap.size,3,none⟩) (Blk.far (p:=⟨w.heap.size,2,none⟩) (Blk.far (p:=⟨w.heap.size,1,none⟩) (Blk.far (p:=⟨w.heap.size,0,none⟩) HN2.out hr21n (.int .i64 (S:Nat))) hr21n (.bool pb)) hr21n (.int .i64 (K:Nat))) hr21n (.int .i64 0)) hr21n (.int .i64 0)) hr21n (.int .i64 0)).set 0 (.slice A0 n0 c0)).set 1 (.slice A1 n1 c1)).set 2 (.slice A2 n2 c2)).set 3 (.slice A3 n3 c3)).set 4 (.slice A4 n4 c4)).set 5 (.slice A5 n5 c5))
           have e0:=hx1.cell 0;have e1:=hx1.cell 1;have e2:=hx1.cell 2;have e3:=hx1.cell 3;have e4:=hx1.cell 4;have e5:=hx1.cell 5
           have f0:=hx2.cell 0;have f1:=hx2.cell 1;have f2:=hx2.cell 2;have f3:=hx2.cell 3;have f4:=hx2.cell 4;have f5:=hx2.cell 5
           simp at e0 e1 e2 e3 e4 e5 f0 f1 f2 f3 f4 f5
           simp[results,Tryz.results10,go_sem,e0,e1,e2,e3,e4,e5,f0,f1,f2,f3,f4,f5]
          ·refine⟨?_,_,by rw[HFO.out,if_pos rfl,HOL.out],fun h=>absurd HFO.out h,fun _=>⟨sz,by simpa using HZ13.out,?_⟩⟩
           ·repeat (first|((with_reducible refine fZ ?_ ?_);(focus (first|exact Nat.le_refl _|exact hwr2)))|(with_reducible refine Below.drew ?_))
            first|(with_reducible exact HBF.out)|(with_reducible exact Below.drew HBF.out)|(with_reducible exact below_drewN HBF.out _)
           ·first
             |(with_reducible exact esZ (HBD.out.step (Below.drew (Below.refl _ _)) HZ13.out) HN1.out.drew HN2.out.drew hr21n)
             |(with_reducible exact esZ HBD.out HN1.out HN2.out hr21n)
             |((with_reducible refine RBod.step (esZ HBD.out HN1.out HN2.out hr21n) (Below.drew (Below.refl _ _)) ?_);simpa using HZ13.out)
        ·have gE2:(oe != 0)=true:=by simpa using hoe
         have HF:Hid (O=oe):=HOO.out
         have HNE:=hid hoe
         have HBW:=HB13
         obtain⟨er,her⟩:∃er:Int,er=oe:=⟨_,rfl⟩
         subst her
         clear hoe HOO HI11 hbd hy ho13 HB13
         have hn1:=HZ1.out.below HBW.out hr1
         have hn2:=HZ2.out.below HBW.out hr2
         have hw0:=HW3.out.trans (HBW.out.mono hzw3)
         have HBF:=hid hw0
         have HN1:=hid hn1
         have HN2:=hid hn2
         have u0:=hn2.cell 0;have u1:=hn2.cell 1;have u2:=hn2.cell 2;have u3:=hn2.cell 3;have u4:=hn2.cell 4;have u5:=hn2.cell 5;simp only[List.getElem?_toArray,List.getElem?_cons_zero,List.getElem?_cons_succ]at u0 u1 u2 u3 u4 u5
         have v0:=hn1.cell 0;have v1:=hn1.cell 1;have v2:=hn1.cell 2;have v3:=hn1.cell 3;have v4:=hn1.cell 4;have v5:=hn1.cell 5;simp only[List.getElem?_toArray,List.getElem?_cons_zero,List.getElem?_cons_succ]at v0 v1 v2 v3 v4 v5
         have uf0:=hn2.frozen 0;have uf1:=hn2.frozen 1;have uf2:=hn2.frozen 2;have uf3:=hn2.frozen 3;have uf4:=hn2.frozen 4;have uf5:=hn2.frozen 5
         have vf0:=hn1.frozen 0;have vf1:=hn1.frozen 1;have vf2:=hn1.frozen 2;have vf3:=hn1.frozen 3;have vf4:=hn1.frozen 4;have vf5:=hn1.frozen 5
         clear hn1 hn2 hw0
         go_wp2_with fail
         refine bodyPost_ret (v:= .tuple #[.agg #[.int .i64 0, .bool false, .int .i64 0, .int .i64 0, .int .i64 0, .int .i64 0], .agg #[.slice none 0 0, .slice none 0 0, .slice none 0 0, .slice none 0 0, .slice none 0 0, .slice none 0 0], .int .i64 er]) ?_ rfl ?_
         ·have hx1:=(Blk.far (p:=⟨r2,5,none⟩) (Blk.far (p:=⟨r2,4,none⟩) (Blk.far (p:=⟨r2,3,none⟩) (Blk.far (p:=⟨r2,2,none⟩) (Blk.far (p:=⟨r2,1,none⟩) (Blk.far (p:=⟨r2,0,none⟩) ((((((HN1.out.set 0 (.int .i64 0)).set 1 (.bool false)).set 2 (.int .i64 0)).set 3 (.int .i64 0)).set 4 (.int .i64 0)).set 5 (.int .i64 0)) hr12n (.slice none 0 0)) hr12n (.slice none 0 0)) hr12n (.slice none 0 0)) hr12n (.slice none 0 0)) hr12n (.slice none 0 0)) hr12n (.slice none 0 0))
          have hx2:=(((((((Blk.far (p:=⟨w.heap.size,5,none⟩) (Blk.far (p:=⟨w.heap.size,4,none⟩) (Blk.far (p:=⟨w.heap.size,3,none⟩) (Blk.far (p:=⟨w.heap.size,2,none⟩) (Blk.far (p:=⟨w.heap.size,1,none⟩) (Blk.far (p:=⟨w.heap.size,0,none⟩) HN2.out hr21n (.int .i64 0)) hr21n (.bool false)) hr21n (.int .i64 0)) hr21n (.int .i64 0)) hr21n (.int .i64 0)) hr21n (.int .i64 0)).set 0 (.slice none 0 0)).set 1 (.slice none 0 0)).set 2 (.slice none 0 0)).set 3 (.slice none 0 0)).set 4 (.slice none 0 0)).set 5 (.slice none 0 0))
          have e0:=hx1.cell 0;have e1:=hx1.cell 1;have e2:=hx1.cell 2;have e3:=hx1.cell 3;have e4:=hx1.cell 4;have e5:=hx1.cell 5
          have f0:=hx2.cell 0;have f1:=hx2.cell 1;have f2:=hx2.cell 2;have f3:=hx2.cell 3;have f4:=hx2.cell 4;have f5:=hx2.cell 5
          simp at e0 e1 e2 e3 e4 e5 f0 f1 f2 f3 f4 f5
          simp[results,Tryz.results10,go_sem,e0,e1,e2,e3,e4,e5,f0,f1,f2,f3,f4,f5]
         ·refine rhZ (HO.out.symm.trans HF.out) HNE.out ?_
          repeat (first|((with_reducible refine fZ ?_ ?_);(focus (first|exact Nat.le_refl _|exact hwr2)))|(with_reducible refine Below.drew ?_))
          first|(with_reducible exact HBF.out)|(with_reducible exact Below.drew HBF.out)|(with_reducible exact below_drewN HBF.out _)
      ·have gE:(oe != 0)=true:=by simpa using hoe
       have HF:Hid (O=oe):=by show _=_;rw[HOV.out,HEB.out,if_pos hoe]
       have HNE:=hid hoe
       have HBW:=hid HI11.out.bel
       obtain⟨er,her⟩:∃er:Int,er=oe:=⟨_,rfl⟩
       subst her
       clear hoe HEB HI11
       have hn1:=HZ1.out.below HBW.out hr1
       have hn2:=HZ2.out.below HBW.out hr2
       have hw0:=HW3.out.trans (HBW.out.mono hzw3)
       have HBF:=hid hw0
       have HN1:=hid hn1
       have HN2:=hid hn2
       have u0:=hn2.cell 0;have u1:=hn2.cell 1;have u2:=hn2.cell 2;have u3:=hn2.cell 3;have u4:=hn2.cell 4;have u5:=hn2.cell 5;simp only[List.getElem?_toArray,List.getElem?_cons_zero,List.getElem?_cons_succ]at u0 u1 u2 u3 u4 u5
       have v0:=hn1.cell 0;have v1:=hn1.cell 1;have v2:=hn1.cell 2;have v3:=hn1.cell 3;have v4:=hn1.cell 4;have v5:=hn1.cell 5;simp only[List.getElem?_toArray,List.getElem?_cons_zero,List.getElem?_cons_succ]at v0 v1 v2 v3 v4 v5
       have uf0:=hn2.frozen 0;have uf1:=hn2.frozen 1;have uf2:=hn2.frozen 2;have uf3:=hn2.frozen 3;have uf4:=hn2.frozen 4;have uf5:=hn2.frozen 5
       have vf0:=hn1.frozen 0;have vf1:=hn1.frozen 1;have vf2:=hn1.frozen 2;have vf3:=hn1.frozen 3;have vf4:=hn1.frozen 4;have vf5:=hn1.frozen 5
       clear hn1 hn2 hw0
       go_wp2_with fail
       refine bodyPost_ret (v:= .tuple #[.agg #[.int .i64 0, .bool false, .int .i64 0, .int .i64 0, .int .i64 0, .int .i64 0], .agg #[.slice none 0 0, .slice none 0 0, .slice none 0 0, .slice none 0 0, .slice none 0 0, .slice none 0 0], .int .i64 er]) ?_ rfl ?_
       ·have hx1:=(Blk.far (p:=⟨r2,5,none⟩) (Blk.far (p:=⟨r2,4,none⟩) (Blk.far (p:=⟨r2,3,none⟩) (Blk.far (p:=⟨r2,2,none⟩) (Blk.far (p:=⟨r2,1,none⟩) (Blk.far (p:=⟨r2,0,none⟩) ((((((HN1.out.set 0 (.int .i64 0)).set 1 (.bool false)).set 2 (.int .i64 0)).set 3 (.int .i64 0)).set 4 (.int .i64 0)).set 5 (.int .i64 0)) hr12n (.slice none 0 0)) hr12n (.slice none 0 0)) hr12n (.slice none 0 0)) hr12n (.slice none 0 0)) hr12n (.slice none 0 0)) hr12n (.slice none 0 0))
        have hx2:=(((((((Blk.far (p:=⟨w.heap.size,5,none⟩) (Blk.far (p:=⟨w.heap.size,4,none⟩) (Blk.far (p:=⟨w.heap.size,3,none⟩) (Blk.far (p:=⟨w.heap.size,2,none⟩) (Blk.far (p:=⟨w.heap.size,1,none⟩) (Blk.far (p:=⟨w.heap.size,0,none⟩) HN2.out hr21n (.int .i64 0)) hr21n (.bool false)) hr21n (.int .i64 0)) hr21n (.int .i64 0)) hr21n (.int .i64 0)) hr21n (.int .i64 0)).set 0 (.slice none 0 0)).set 1 (.slice none 0 0)).set 2 (.slice none 0 0)).set 3 (.slice none 0 0)).set 4 (.slice none 0 0)).set 5 (.slice none 0 0))
        have e0:=hx1.cell 0;have e1:=hx1.cell 1;have e2:=hx1.cell 2;have e3:=hx1.cell 3;have e4:=hx1.cell 4;have e5:=hx1.cell 5
        have f0:=hx2.cell 0;have f1:=hx2.cell 1;have f2:=hx2.cell 2;have f3:=hx2.cell 3;have f4:=hx2.cell 4;have f5:=hx2.cell 5
        simp at e0 e1 e2 e3 e4 e5 f0 f1 f2 f3 f4 f5
        simp[results,Tryz.results10,go_sem,e0,e1,e2,e3,e4,e5,f0,f1,f2,f3,f4,f5]
       ·refine rhZ (HO.out.symm.trans HF.out) HNE.out ?_
        repeat (first|((with_reducible refine fZ ?_ ?_);(focus (first|exact Nat.le_refl _|exact hwr2)))|(with_reducible refine Below.drew ?_))
        first|(with_reducible exact HBF.out)|(with_reducible exact Below.drew HBF.out)|(with_reducible exact below_drewN HBF.out _)
     ·have gE:(ce != 0)=true:=by simpa using hce
      have hE:=HEA.out.2 hce
      have HF:Hid (O=ce):=by show _=_;rw[HOV.out,hE,if_pos hce]
      have HNE:=hid hce
      have HBW:=hid HI10.out.bel
      obtain⟨er,her⟩:∃er:Int,er=ce:=⟨_,rfl⟩
      subst her
      clear hce hE HEA HI10
      have hn1:=HZ1.out.below HBW.out hr1
      have hn2:=HZ2.out.below HBW.out hr2
      have hw0:=HW3.out.trans (HBW.out.mono hzw3)
      have HBF:=hid hw0
      have HN1:=hid hn1
      have HN2:=hid hn2
      have u0:=hn2.cell 0;have u1:=hn2.cell 1;have u2:=hn2.cell 2;have u3:=hn2.cell 3;have u4:=hn2.cell 4;have u5:=hn2.cell 5;simp only[List.getElem?_toArray,List.getElem?_cons_zero,List.getElem?_cons_succ]at u0 u1 u2 u3 u4 u5
      have v0:=hn1.cell 0;have v1:=hn1.cell 1;have v2:=hn1.cell 2;have v3:=hn1.cell 3;have v4:=hn1.cell 4;have v5:=hn1.cell 5;simp only[List.getElem?_toArray,List.getElem?_cons_zero,List.getElem?_cons_succ]at v0 v1 v2 v3 v4 v5
      have uf0:=hn2.frozen 0;have uf1:=hn2.frozen 1;have uf2:=hn2.frozen 2;have uf3:=hn2.frozen 3;have uf4:=hn2.frozen 4;have uf5:=hn2.frozen 5
      have vf0:=hn1.frozen 0;have vf1:=hn1.frozen 1;have vf2:=hn1.frozen 2;have vf3:=hn1.frozen 3;have vf4:=hn1.frozen 4;have vf5:=hn1.frozen 5
      clear hn1 hn2 hw0
      go_wp2_with fail
      refine bodyPost_ret (v:= .tuple #[.agg #[.int .i64 0, .bool false, .int .i64 0, .int .i64 0, .int .i64 0, .int .i64 0], .agg #[.slice none 0 0, .slice none 0 0, .slice none 0 0, .slice none 0 0, .slice none 0 0, .slice none 0 0], .int .i64 er]) ?_ rfl ?_
      ·have hx1:=(Blk.far (p:=⟨r2,5,none⟩) (Blk.far (p:=⟨r2,4,none⟩) (Blk.far (p:=⟨r2,3,none⟩) (Blk.far (p:=⟨r2,2,none⟩) (Blk.far (p:=⟨r2,1,none⟩) (Blk.far (p:=⟨r2,0,none⟩) ((((((HN1.out.set 0 (.int .i64 0)).set 1 (.bool false)).set 2 (.int .i64 0)).set 3 (.int .i64 0)).set 4 (.int .i64 0)).set 5 (.int .i64 0)) hr12n (.slice none 0 0)) hr12n (.slice none 0 0)) hr12n (.slice none 0 0)) hr12n (.slice none 0 0)) hr12n (.slice none 0 0)) hr12n (.slice none 0 0))
       have hx2:=(((((((Blk.far (p:=⟨w.heap.size,5,none⟩) (Blk.far (p:=⟨w.heap.size,4,none⟩) (Blk.far (p:=⟨w.heap.size,3,none⟩) (Blk.far (p:=⟨w.heap.size,2,none⟩) (Blk.far (p:=⟨w.heap.size,1,none⟩) (Blk.far (p:=⟨w.heap.size,0,none⟩) HN2.out hr21n (.int .i64 0)) hr21n (.bool false)) hr21n (.int .i64 0)) hr21n (.int .i64 0)) hr21n (.int .i64 0)) hr21n (.int .i64 0)).set 0 (.slice none 0 0)).set 1 (.slice none 0 0)).set 2 (.slice none 0 0)).set 3 (.slice none 0 0)).set 4 (.slice none 0 0)).set 5 (.slice none 0 0))
       have e0:=hx1.cell 0;have e1:=hx1.cell 1;have e2:=hx1.cell 2;have e3:=hx1.cell 3;have e4:=hx1.cell 4;have e5:=hx1.cell 5
       have f0:=hx2.cell 0;have f1:=hx2.cell 1;have f2:=hx2.cell 2;have f3:=hx2.cell 3;have f4:=hx2.cell 4;have f5:=hx2.cell 5
       simp at e0 e1 e2 e3 e4 e5 f0 f1 f2 f3 f4 f5
       simp[results,Tryz.results10,go_sem,e0,e1,e2,e3,e4,e5,f0,f1,f2,f3,f4,f5]
      ·refine rhZ (HO.out.symm.trans HF.out) HNE.out ?_
       repeat (first|((with_reducible refine fZ ?_ ?_);(focus (first|exact Nat.le_refl _|exact hwr2)))|(with_reducible refine Below.drew ?_))
       first|(with_reducible exact HBF.out)|(with_reducible exact Below.drew HBF.out)|(with_reducible exact below_drewN HBF.out _)
    ·have gE:(e4 != 0)=true:=by simpa using he4
     have hE:=HE.out.2 he4
     have HF:Hid (O=e4):=by show _=_;rw[HOV.out,hE,if_pos he4]
     have HNE:=hid he4
     have HBW:=hid HI9.out.bel
     obtain⟨er,her⟩:∃er:Int,er=e4:=⟨_,rfl⟩
     subst her
     have hgr1:¬g=w.heap.size:=by have:=HI9.out.cur.lo;omega
     have hgr2:¬g=r2:=by have:=HI9.out.cur.lo;omega
     clear he4 hE HE HI9
     have hn1:=HZ1.out.below HBW.out hr1
     have hn2:=HZ2.out.below HBW.out hr2
     have hw0:=HW3.out.trans (HBW.out.mono hzw3)
     have HBF:=hid hw0
     have HN1:=hid hn1
     have HN2:=hid hn2
     have u0:=hn2.cell 0;have u1:=hn2.cell 1;have u2:=hn2.cell 2;have u3:=hn2.cell 3;have u4:=hn2.cell 4;have u5:=hn2.cell 5;simp only[List.getElem?_toArray,List.getElem?_cons_zero,List.getElem?_cons_succ]at u0 u1 u2 u3 u4 u5
     have v0:=hn1.cell 0;have v1:=hn1.cell 1;have v2:=hn1.cell 2;have v3:=hn1.cell 3;have v4:=hn1.cell 4;have v5:=hn1.cell 5;simp only[List.getElem?_toArray,List.getElem?_cons_zero,List.getElem?_cons_succ]at v0 v1 v2 v3 v4 v5
     have uf0:=hn2.frozen 0;have uf1:=hn2.frozen 1;have uf2:=hn2.frozen 2;have uf3:=hn2.frozen 3;have uf4:=hn2.frozen 4;have uf5:=hn2.frozen 5
     have vf0:=hn1.frozen 0;have vf1:=hn1.frozen 1;have vf2:=hn1.frozen 2;have vf3:=hn1.frozen 3;have vf4:=hn1.frozen 4;have vf5:=hn1.frozen 5
     clear hn1 hn2 hw0
     go_wp2_with fail
     go_region
     all_goals go_wp2_with fail
     refine bodyPost_ret (v:= .tuple #[.agg #[.int .i64 0, .bool false, .int .i64 0, .int .i64 0, .int .i64 0, .int .i64 0], .agg #[.slice none 0 0, .slice none 0 0, .slice none 0 0, .slice none 0 0, .slice none 0 0, .slice none 0 0], .int .i64 er]) ?_ rfl ?_
     ·have hx1:=(Blk.far (p:=⟨r2,5,none⟩) (Blk.far (p:=⟨r2,4,none⟩) (Blk.far (p:=⟨r2,3,none⟩) (Blk.far (p:=⟨r2,2,none⟩) (Blk.far (p:=⟨r2,1,none⟩) (Blk.far (p:=⟨r2,0,none⟩) ((((((HN1.out.set 0 (.int .i64 0)).set 1 (.bool false)).set 2 (.int .i64 0)).set 3 (.int .i64 0)).set 4 (.int .i64 0)).set 5 (.int .i64 0)) hr12n (.slice none 0 0)) hr12n (.slice none 0 0)) hr12n (.slice none 0 0)) hr12n (.slice none 0 0)) hr12n (.slice none 0 0)) hr12n (.slice none 0 0))
      have hx2:=(((((((Blk.far (p:=⟨w.heap.size,5,none⟩) (Blk.far (p:=⟨w.heap.size,4,none⟩) (Blk.far (p:=⟨w.heap.size,3,none⟩) (Blk.far (p:=⟨w.heap.size,2,none⟩) (Blk.far (p:=⟨w.heap.size,1,none⟩) (Blk.far (p:=⟨w.heap.size,0,none⟩) HN2.out hr21n (.int .i64 0)) hr21n (.bool false)) hr21n (.int .i64 0)) hr21n (.int .i64 0)) hr21n (.int .i64 0)) hr21n (.int .i64 0)).set 0 (.slice none 0 0)).set 1 (.slice none 0 0)).set 2 (.slice none 0 0)).set 3 (.slice none 0 0)).set 4 (.slice none 0 0)).set 5 (.slice none 0 0))
      have e0:=hx1.cell 0;have e1:=hx1.cell 1;have e2:=hx1.cell 2;have e3:=hx1.cell 3;have e4:=hx1.cell 4;have e5:=hx1.cell 5
      have f0:=hx2.cell 0;have f1:=hx2.cell 1;have f2:=hx2.cell 2;have f3:=hx2.cell 3;have f4:=hx2.cell 4;have f5:=hx2.cell 5
      simp at e0 e1 e2 e3 e4 e5 f0 f1 f2 f3 f4 f5
      simp[results,Tryz.results10,go_sem,e0,e1,e2,e3,e4,e5,f0,f1,f2,f3,f4,f5]
     ·refine rhZ (HO.out.symm.trans HF.out) HNE.out ?_
      repeat (first|((with_reducible refine fZ ?_ ?_);(focus (first|exact Nat.le_refl _|exact hwr2)))|(with_reducible refine Below.drew ?_))
      first|(with_reducible exact HBF.out)|(with_reducible exact Below.drew HBF.out)|(with_reducible exact below_drewN HBF.out _)
  ·have gV:((mv:Int) != 2)=true:=by rw[bne_iff_ne];omega
   have HF:Hid (O=4):=by rw[if_pos hmv]at hO;exact hO
   have HNE:Hid ((4:Int)≠0):=show(4:Int)≠0 by decide
   have HBW:Hid (Below w3.heap.size w3 w3):=Below.refl _ _
   clear hmv hO HOE D0 D1
   have hn1:=HZ1.out.below HBW.out hr1
   have hn2:=HZ2.out.below HBW.out hr2
   have hw0:=HW3.out.trans (HBW.out.mono hzw3)
   have HBF:=hid hw0
   have HN1:=hid hn1
   have HN2:=hid hn2
   have u0:=hn2.cell 0;have u1:=hn2.cell 1;have u2:=hn2.cell 2;have u3:=hn2.cell 3;have u4:=hn2.cell 4;have u5:=hn2.cell 5;simp only[List.getElem?_toArray,List.getElem?_cons_zero,List.getElem?_cons_succ]at u0 u1 u2 u3 u4 u5
   have v0:=hn1.cell 0;have v1:=hn1.cell 1;have v2:=hn1.cell 2;have v3:=hn1.cell 3;have v4:=hn1.cell 4;have v5:=hn1.cell 5;simp only[List.getElem?_toArray,List.getElem?_cons_zero,List.getElem?_cons_succ]at v0 v1 v2 v3 v4 v5
   have uf0:=hn2.frozen 0;have uf1:=hn2.frozen 1;have uf2:=hn2.frozen 2;have uf3:=hn2.frozen 3;have uf4:=hn2.frozen 4;have uf5:=hn2.frozen 5
   have vf0:=hn1.frozen 0;have vf1:=hn1.frozen 1;have vf2:=hn1.frozen 2;have vf3:=hn1.frozen 3;have vf4:=hn1.frozen 4;have vf5:=hn1.frozen 5
   clear hn1 hn2 hw0
   go_wp2_with fail
   refine bodyPost_ret (v:= .tuple #[.agg #[.int .i64 0, .bool false, .int .i64 0, .int .i64 0, .int .i64 0, .int .i64 0], .agg #[.slice none 0 0, .slice none 0 0, .slice none 0 0, .slice none 0 0, .slice none 0 0, .slice none 0 0], .int .i64 4]) ?_ rfl ?_
   ·have hx1:=(Blk.far (p:=⟨r2,5,none⟩) (Blk.far (p:=⟨r2,4,none⟩) (Blk.far (p:=⟨r2,3,none⟩) (Blk.far (p:=⟨r2,2,none⟩) (Blk.far (p:=⟨r2,1,none⟩) (Blk.far (p:=⟨r2,0,none⟩) ((((((HN1.out.set 0 (.int .i64 0)).set 1 (.bool false)).set 2 (.int .i64 0)).set 3 (.int .i64 0)).set 4 (.int .i64 0)).set 5 (.int .i64 0)) hr12n (.slice none 0 0)) hr12n (.slice none 0 0)) hr12n (.slice none 0 0)) hr12n (.slice none 0 0)) hr12n (.slice none 0 0)) hr12n (.slice none 0 0))
    have hx2:=(((((((Blk.far (p:=⟨w.heap.size,5,none⟩) (Blk.far (p:=⟨w.heap.size,4,none⟩) (Blk.far (p:=⟨w.heap.size,3,none⟩) (Blk.far (p:=⟨w.heap.size,2,none⟩) (Blk.far (p:=⟨w.heap.size,1,none⟩) (Blk.far (p:=⟨w.heap.size,0,none⟩) HN2.out hr21n (.int .i64 0)) hr21n (.bool false)) hr21n (.int .i64 0)) hr21n (.int .i64 0)) hr21n (.int .i64 0)) hr21n (.int .i64 0)).set 0 (.slice none 0 0)).set 1 (.slice none 0 0)).set 2 (.slice none 0 0)).set 3 (.slice none 0 0)).set 4 (.slice none 0 0)).set 5 (.slice none 0 0))
    have e0:=hx1.cell 0;have e1:=hx1.cell 1;have e2:=hx1.cell 2;have e3:=hx1.cell 3;have e4:=hx1.cell 4;have e5:=hx1.cell 5
    have f0:=hx2.cell 0;have f1:=hx2.cell 1;have f2:=hx2.cell 2;have f3:=hx2.cell 3;have f4:=hx2.cell 4;have f5:=hx2.cell 5
    simp at e0 e1 e2 e3 e4 e5 f0 f1 f2 f3 f4 f5
    simp[results,Tryz.results10,go_sem,e0,e1,e2,e3,e4,e5,f0,f1,f2,f3,f4,f5]
   ·refine rhZ (HO.out.symm.trans HF.out) HNE.out ?_
    repeat (first|((with_reducible refine fZ ?_ ?_);(focus (first|exact Nat.le_refl _|exact hwr2)))|(with_reducible refine Below.drew ?_))
    first|(with_reducible exact HBF.out)|(with_reducible exact Below.drew HBF.out)|(with_reducible exact below_drewN HBF.out _)
 ·have gE:(me != 0)=true:=by simpa using hme
  have HF:Hid (O=me):=by have h:=HOE.out;rw[if_pos hme]at h;exact h
  have HNE:=hid hme
  have HBW:Hid (Below w3.heap.size w3 w3):=Below.refl _ _
  obtain⟨er,her⟩:∃er:Int,er=me:=⟨_,rfl⟩
  subst her
  clear hme HOE D0 D1
  have hn1:=HZ1.out.below HBW.out hr1
  have hn2:=HZ2.out.below HBW.out hr2
  have hw0:=HW3.out.trans (HBW.out.mono hzw3)
  have HBF:=hid hw0
  have HN1:=hid hn1
  have HN2:=hid hn2
  have u0:=hn2.cell 0;have u1:=hn2.cell 1;have u2:=hn2.cell 2;have u3:=hn2.cell 3;have u4:=hn2.cell 4;have u5:=hn2.cell 5;simp only[List.getElem?_toArray,List.getElem?_cons_zero,List.getElem?_cons_succ]at u0 u1 u2 u3 u4 u5
  have v0:=hn1.cell 0;have v1:=hn1.cell 1;have v2:=hn1.cell 2;have v3:=hn1.cell 3;have v4:=hn1.cell 4;have v5:=hn1.cell 5;simp only[List.getElem?_toArray,List.getElem?_cons_zero,List.getElem?_cons_succ]at v0 v1 v2 v3 v4 v5
  have uf0:=hn2.frozen 0;have uf1:=hn2.frozen 1;have uf2:=hn2.frozen 2;have uf3:=hn2.frozen 3;have uf4:=hn2.frozen 4;have uf5:=hn2.frozen 5
  have vf0:=hn1.frozen 0;have vf1:=hn1.frozen 1;have vf2:=hn1.frozen 2;have vf3:=hn1.frozen 3;have vf4:=hn1.frozen 4;have vf5:=hn1.frozen 5
  clear hn1 hn2 hw0
  go_wp2_with fail
  refine bodyPost_ret (v:= .tuple #[.agg #[.int .i64 0, .bool false, .int .i64 0, .int .i64 0, .int .i64 0, .int .i64 0], .agg #[.slice none 0 0, .slice none 0 0, .slice none 0 0, .slice none 0 0, .slice none 0 0, .slice none 0 0], .int .i64 er]) ?_ rfl ?_
  ·have hx1:=(Blk.far (p:=⟨r2,5,none⟩) (Blk.far (p:=⟨r2,4,none⟩) (Blk.far (p:=⟨r2,3,none⟩) (Blk.far (p:=⟨r2,2,none⟩) (Blk.far (p:=⟨r2,1,none⟩) (Blk.far (p:=⟨r2,0,none⟩) ((((((HN1.out.set 0 (.int .i64 0)).set 1 (.bool false)).set 2 (.int .i64 0)).set 3 (.int .i64 0)).set 4 (.int .i64 0)).set 5 (.int .i64 0)) hr12n (.slice none 0 0)) hr12n (.slice none 0 0)) hr12n (.slice none 0 0)) hr12n (.slice none 0 0)) hr12n (.slice none 0 0)) hr12n (.slice none 0 0))
   have hx2:=(((((((Blk.far (p:=⟨w.heap.size,5,none⟩) (Blk.far (p:=⟨w.heap.size,4,none⟩) (Blk.far (p:=⟨w.heap.size,3,none⟩) (Blk.far (p:=⟨w.heap.size,2,none⟩) (Blk.far (p:=⟨w.heap.size,1,none⟩) (Blk.far (p:=⟨w.heap.size,0,none⟩) HN2.out hr21n (.int .i64 0)) hr21n (.bool false)) hr21n (.int .i64 0)) hr21n (.int .i64 0)) hr21n (.int .i64 0)) hr21n (.int .i64 0)).set 0 (.slice none 0 0)).set 1 (.slice none 0 0)).set 2 (.slice none 0 0)).set 3 (.slice none 0 0)).set 4 (.slice none 0 0)).set 5 (.slice none 0 0))
   have e0:=hx1.cell 0;have e1:=hx1.cell 1;have e2:=hx1.cell 2;have e3:=hx1.cell 3;have e4:=hx1.cell 4;have e5:=hx1.cell 5
   have f0:=hx2.cell 0;have f1:=hx2.cell 1;have f2:=hx2.cell 2;have f3:=hx2.cell 3;have f4:=hx2.cell 4;have f5:=hx2.cell 5
   simp at e0 e1 e2 e3 e4 e5 f0 f1 f2 f3 f4 f5
   simp[results,Tryz.results10,go_sem,e0,e1,e2,e3,e4,e5,f0,f1,f2,f3,f4,f5]
  ·refine rhZ (HO.out.symm.trans HF.out) HNE.out ?_
   repeat (first|((with_reducible refine fZ ?_ ?_);(focus (first|exact Nat.le_refl _|exact hwr2)))|(with_reducible refine Below.drew ?_))
   first|(with_reducible exact HBF.out)|(with_reducible exact Below.drew HBF.out)|(with_reducible exact below_drewN HBF.out _)
end Go.Proofs.YtbgoibedicbkjaaGreatDoor.Body
