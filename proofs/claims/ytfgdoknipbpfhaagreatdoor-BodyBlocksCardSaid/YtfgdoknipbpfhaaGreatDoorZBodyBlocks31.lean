/- The walks of post.li -/
import Derived.Test.YtfgdoknipbpfhaaGreatDoorZBodyBlocks30
import Derived.Test.YtfgdoknipbpfhaaGreatDoorZBodyBlocks28
namespace Go.Proofs.YtfgdoknipbpfhaaGreatDoor
open Go.Proofs.Tryz
open Go.Lib (hid)
set_option maxHeartbeats 4000000
set_option maxRecDepth 100000
variable{w w' w5:World}{b base:Nat}{u v5 vF vL:Value}{vals:List Value}{F j:List (List Nat)}
namespace Idx
open Go.RowKit Mem Own Canon Sift
open NumPut Recs Crc Block
open Ef
theorem aM(w:World)(base gd size:Nat)(ts hs:List Str)(vT vH:Value)(h:DAt w base gd size ts hs vT vH):
 Calls prog 120 #[.pointer (some ⟨gd,0,none⟩)] w fun e w'=>e= .returned (.int .i64 (ts.length:Nat))/\w'=w:=by
 have c0:=h.blk.ia 0;have ot:=h.ot;obtain⟨n,hn⟩:=ii ts.length;rw[<-hn]at ot ⊢;obtain⟨A,c,rfl⟩:=bZ ot;clear h ot hn;go_enter func120,ntmps120;go_wp2_with fail;go_ret;exact⟨rfl,rfl⟩
theorem ZY(w:World)(base gd size:Nat)(ts hs:List Str)(vT vH:Value)(h:DAt w base gd size ts hs vT vH)(hl:ts.length<=3000000):
 Calls prog 121 #[.pointer (some ⟨gd,0,none⟩)] w fun e w'=>∃v,e= .returned v/\w'.ownsRow w 9 1 v ts.length (Ba ts)/\Below w w w':=by
 have c0:=h.blk.ia 0;have ot:=h.ot;obtain⟨n,hn⟩:=ii ts.length;rw[<-hn]at ot hl ⊢;obtain⟨A,c,rfl⟩:=bZ ot;have D:=hid (VA w base A n c (Ba ts) hl ot (fD ts));clear h ot hn;go_enter func121,ntmps121;go_wp2_with fail;refine D.out.mono ?_;rintro e w1 ⟨v,rfl,ho,hb⟩;have HO:=hid ho;have HB:=hid hb;obtain⟨A1,c1,rfl⟩:=bZ ho;clear ho hb D;go_wp2_with fail;go_ret;exact⟨_,rfl,HO.out,HB.out⟩
def lsR(bound:Nat)(ls:List Nat):Nat->Nat->List (List Nat)->List (List Nat)×Int
 |0,at_,acc=>if at_<ls.length then([],2)else(acc,0)
 |k+1,at_,acc=>if(efR bound (ls.drop at_)).2.2≠0 then([],(efR bound (ls.drop at_)).2.2)else if(efR bound (ls.drop at_)).1.length=0 then([],2)else lsR bound ls k (at_+(efR bound (ls.drop at_)).2.1) (acc++ [(efR bound (ls.drop at_)).1])
structure LsAt (w:World) (base:Nat) (vL:Value) (vals:List Value) (acc:List (List Nat)):Prop where
 l:w.ownsRow base 37 1 vL acc.length vals
 r:∀ (i:Nat) v ids,vals[i]? =some v->acc[i]? =some ids->w.ownsRow base 3 1 v ids.length (cZ .i64 ids)
theorem LsAt.step(h:LsAt w base vL vals j)(hb:Below w w w'):LsAt w' base vL vals j:=
 ⟨eZ h.l fun y hy=>hb.block y (Aj h.l y hy).2,fun i v ids hv hi=>eZ (h.r i v ids hv hi) fun y hy=>hb.block y (Aj (h.r i v ids hv hi) y hy).2⟩
theorem LsAt.nil(w:World)(base:Nat):LsAt w base (.slice none 0 0) [] []:=⟨AI _ _ _ _,fun i v ids h=>oL⟩
theorem LsAt.add{z:List Nat}(h:LsAt w base vL vals j)(hu:w.ownsRow base 3 1 u z.length (cZ .i64 z))(hg:w.grownBy w5 vL.ownBlock)(E:w5.ownsRow base 37 1 v5 (j.length+1) (vals++ [u])):LsAt w5 base v5 (vals++ [u]) (j++ [z]):=by
 have far:∀ {n:Nat} {v:Value} {xs:List Value},w.ownsRow base 3 1 v n xs->w5.ownsRow base 3 1 v n xs:=fun hv=>eZ hv fun y hy=>hg.block y (Aj hv y hy).2 fun e2=>by
  rcases ER h.l hv ip with e3|e3
  ·rw[e3]at e2;cases e2
  ·exact e3 (by rw[<-e2,hy])
 have G:vals.length=j.length:=by have:=h.l.1;omega
 refine⟨by rw[Ae];exact E,fun i v is hv hi=> ?_⟩;by_cases J:i<j.length
 ·rw[GR mw]at hv;rw[GR J]at hi;exact far (h.r i v is hv hi)
 ·rw[IT mw]at hv;rw[IT mw]at hi;have h0:i-j.length=0:=by have:=(Cv.1 hi).1;simp at this;omega
  rw[G,h0]at hv;rw[h0]at hi;simp at hv hi;subst hv hi;exact far hu
theorem ZB:(prog.info? 37).map (fun i=>(i.zero,i.size,i.bytes))=some (some (.slice none 0 0),1,24):=mr
def kD(w:World)(R:List (List Nat)×Int)(e:Ending)(w':World):Prop:=
 Below w w w'/\∃v vals,e= .returned (.tuple #[v,R.2])/\LsAt w' w v vals R.1
theorem jK(w:World)(A:Option Addr)(m c n bound:Nat)(ls:List Nat)(hm:ls.length=m)(bi:m<=100000)(h8:∀x∈ls,x<=255)(hc:m<=c)(ae:A=none->m=0/\c=0)(ha:Row w w A m 1 (jZ .u8 ls))(hb:bound<=20000)(hn:n<=1100000):
 Calls prog 119 #[.int .i64 (n:Nat), .int .i64 (bound:Nat), .slice A m c] w (kD w (lsR bound ls n 0 [])):=by
 obtain⟨j0,a0,bb,a5,bd⟩:=info_parts ZB;obtain⟨R,hR⟩:=ii (lsR bound ls n 0 []);rw[<-hR];have am:Hid (lsR bound ls (n-0) 0 []=R):=hR.symm;have H8:=hid h8;have HM:=hid hm;have aw:Hid (Row w w A m 1 (jZ .u8 (ls.drop 0))):=by show Row _ _ _ _ _ _;rw[Hd];exact ha
 have an:=hid ae;clear hm h8 ae ha hR;go_enter func119,ntmps119;go_wp2_with fail;go_loopw [2,8,13] (fun bv ov iv wr=>∃ (k at_ mx cx:Nat) (Ax:Option Addr) (E:List (List Nat)) (vals:List Value),k<=n/\iv= .int .i64 k/\bv= .slice Ax mx cx/\mx+at_=m/\mx<=cx/\Hid (Ax=none->mx=0/\cx=0)/\Hid (Row w w Ax mx 1 (jZ .u8 (ls.drop at_)))/\Hid (E.length=k)/\Hid (LsAt wr w ov vals E)/\Hid (Below w w wr)/\Hid (lsR bound ls (n-k) at_ E=R)) (fun _ _ iv _=>n-(intOf iv).toNat)
 case atStart=>exact⟨0,0,m,c,A,[],[],mw,rfl,rfl,mw,hc,an.out,aw.out,rfl,LsAt.nil _ _,Ag _ _,am.out⟩
 case round=>
  obtain⟨k,at_,mx,cx,Ax,E,vals,hk,rfl,rfl,bj,aq,ar,ay,HL,G,HB,HG⟩:=hrel;obtain⟨vo,co,rfl⟩:=bZ G.out.l;have zr:=HB.out.size;clear am aw an;by_cases bl:k<n
  ·have gk:=ic ((k:Int)<n);have bk:=ic (k<n);have hG:=HG.out;rw[show n-k=(n-(k+1))+1 by omega,lsR]at hG;have af:∀x∈ls.drop at_,x<=255:=fun x hx=>H8.out x (BY hx);have J:(ls.drop at_).length=mx:=(by rw[AO,HM.out];omega);have DR:=lC wr Ax mx cx bound (ls.drop at_) J mw af aq ar.out ((ay.out.below HB.out).mono zr) hb;have Z:=Yt (bound:=bound) af;rw[J]at Z;generalize efR bound (ls.drop at_)=T at *;obtain⟨N,t1,te⟩:=T;simp only at hG Z;unfold ML at DR;simp only at DR;have Y:=hid hG;have DR:=hid DR;clear hG HG af J;go_wp2_with fail;refine DR.out.mono ?_;rintro e w3 ⟨M,z,aa⟩;have Q:Hid (Below w w w3):=HB.out.trans (M.mono zr);by_cases ht:te=0
   ·subst ht;obtain⟨p,rfl,hp⟩:=aa rfl;have ab:=hid (G.out.step M);have DL:=hid (len_any w3 wr p N hp);have DA:=hid (bI w3 wr p N hp);have hG:=Y.out;rw[Aa (show ¬((0:Int)≠0) from fun h=>h rfl)]at hG;obtain⟨L,hL⟩:=ii N.length;rw[<-hL]at DL DA hG;by_cases h0:L=0
    ·have gz:((L:Int)==0)=true:=(by rw[h0];rfl);have HF:Hid (R=([],2)):=(by rw[Ab h0]at hG;exact hG.symm);clear M z aa hp G HB DR hG Y h0 hL DA;go_wp2_with fail;refine DL.out.mono ?_;rintro e w4 ⟨rfl,rfl⟩;go_wp2_with fail;go_ret2;rw[HF.out];exact⟨Q.out,_,[],rfl,LsAt.nil _ _⟩
    ·have gz:((L:Int)==0)=false:=nc;rw[Aa h0]at hG;have bg:=hid hG;have bc:=hid hL;have ks:=fun wx=>FU (P:=prog) (t:=28) (s:=1) underlying28 (fun _=>by kernel_rfl) Ax mx cx .i64 (t1:Int) t1 rfl Z wx;have aj:=EQ ay.out Z aq;rw[List.drop_drop]at aj;have a1:Hid (Row w w (AQ Ax t1 cx 1) (mx-t1) 1 (jZ .u8 (ls.drop (at_+t1)))):=aj
     have bh:Hid (AQ Ax t1 cx 1=none->mx-t1=0/\cx-t1=0):=fun h=>by
      have hA:Ax=none:=by
       unfold AQ at h;split at h
       ·exact h
       ·cases Ax with
        |none=>rfl
        |some x=>cases h
      have:=ar.out hA;omega
     have a3:mx-t1+(at_+t1)=m:=mw;have ba:mx-t1<=cx-t1:=mw;generalize AQ Ax t1 cx 1=A2 at *;generalize a4:mx-t1=m2 at *;generalize be:cx-t1=c2 at *;have au:=Q.out.size;clear M z aa hp G HB DR hG Y h0 hL aj a4 be;go_wp2_with fail;refine DL.out.mono ?_;rintro e w4 ⟨rfl,rfl⟩;go_wp2_with fail;refine DA.out.mono ?_;rintro e w5 ⟨v5,rfl,ai,ah⟩;have U:=hid (ab.out.step ah);have ak:Hid (Below w w w5):=Q.out.trans (ah.mono au);have az:Hid (w5.ownsRow w 3 1 v5 L (cZ .i64 N)):=kZ ai au;obtain⟨A5,c5,rfl⟩:=bZ ai;have bf:=ak.out.size;have al:Hid (w5.ownsRow w 37 1 (.slice vo E.length co) k vals):=(by have h:=U.out.l;rw[HL.out]at h ⊢;exact h);clear ai ah DL DA ab Q;go_wp2_with(at_builtin;refine iZ rfl (.tmp 30) (.tmp 33) 51 rfl w 37 j0 _ 1 24 underlying51 a0 bb a5 bd rfl ip _ _ _ mz (al.out.alloc _) _ 1 1 [.slice A5 L c5] mz (Src.of_blk (Blk.made_at _ _ _ oK) 1 1 1 rfl) mj pm mw oT ?_;intro v7 w7 i ag ax;obtain⟨A7,c7,rfl⟩:=bZ i);have ac:=(U.out.step (aZ (o:= .cells #[.slice A5 L c5] 37) (Ag w5 w5))).add (by rw[<-bc.out];exact az.out.alloc _) ag (by rw[HL.out];exact i);have av:=hid ac;have a6:Hid (Below w w w7):=(nZ bf ak.out).grown ag oT (fun y hy=>(Aj al.out y hy).1);clear i ag ax ac al az U ak;go_roundw
     case measure=>exact jo
     case rel=>go_light;exact⟨k+1,at_+t1,m2,c2,A2,E++ [N],vals++ [Value.slice A5 L c5],mw,iu,rfl,a3,ba,bh.out,a1.out,ow,av.out,a6.out,bg.out⟩
   ·have he:=z ht;subst he;have gE:(te != 0)=true:=(by simpa using ht);have HF:Hid (R=([],te)):=(by have h:=Y.out;rw[Ab ht]at h;exact h.symm);clear M z aa ht Y G HB DR;go_wp2_with fail;go_ret2;rw[HF.out];exact⟨Q.out,_,[],rfl,LsAt.nil _ _⟩
  ·obtain rfl:k=n:=by omega
   have gk:=ig ((k:Int)<k);have hG:=HG.out;rw[Gx,lsR]at hG;by_cases j:at_<ls.length
   ·rw[Ab j]at hG;have g0:decide ((0:Int)<(mx:Int))=true:=lp;have a9:decide (0<mx)=true:=lp;have HF:=hid hG.symm;clear hG HG j;go_wp2_with fail;go_ret2;rw[HF.out];exact⟨HB.out,_,[],rfl,LsAt.nil _ _⟩
   ·rw[Aa j]at hG;have g0:decide ((0:Int)<(mx:Int))=false:=lp;have a9:decide (0<mx)=false:=lp;have HF:=hid hG.symm;clear hG HG j;go_wp2_with fail;go_ret2;rw[HF.out];exact⟨HB.out,_,vals,rfl,G.out⟩
end Idx
namespace Body
open Go.RowKit Mem Own Canon Nums Crc
def Dk:List Nat->List Nat->List (List Nat)
 | [],_=> []
 |n :: S,ls=>ls.take n :: Dk S (ls.drop n)
theorem Nq:∀ (S ls:List Nat),(Dk S ls).length=S.length
 | [],_=>rfl
 |n :: S,ls=>by rw[Dk,AD,AD,Nq S]
theorem Vs:∀ (S:List Nat) (n:Nat) (ls:List Nat),Dk (S++ [n]) ls=Dk S ls++ [(ls.drop S.sum).take n]
 | [],n,ls=>by simp[Dk]
 |m :: S,n,ls=>by rw[DH,Dk,Vs S n,Dk,List.drop_drop,Fo];rfl
theorem YJ{S:List Nat}{i n:Nat}(ls:List Nat)(h:S[i]? =some n):Dk (S.take (i+1)) ls=Dk (S.take i) ls++ [(ls.drop (S.take i).sum).take n]:=by rw[Cj,h];exact Vs _ _ _
structure FrAt (w:World) (base:Nat) (vF:Value) (vals:List Value) (F:List (List Nat)):Prop where
 l:w.ownsRow base 28 1 vF F.length vals
 r:∀ (i:Nat) v b,vals[i]? =some v->F[i]? =some b->w.ownsRow base 5 1 v b.length (cZ .u8 b)
theorem FrAt.step(h:FrAt w base vF vals F)(hb:Below w w w'):FrAt w' base vF vals F:=
 ⟨eZ h.l fun y hy=>hb.block y (Aj h.l y hy).2,fun i v b hv hi=>eZ (h.r i v b hv hi) fun y hy=>hb.block y (Aj (h.r i v b hv hi) y hy).2⟩
theorem FrAt.nil(w:World)(base:Nat):FrAt w base (.slice none 0 0) [] []:=⟨AI _ _ _ _,fun i v b h=>oL⟩
theorem FrAt.set{t:TypeId}{cs:Array Value}(h:FrAt w base vF vals F)(j:Blk w b t cs)(h1:28≠t)(h2:5≠t)(k:Nat)(u:Value):FrAt (w.setCell ⟨b,k,none⟩ u) base vF vals F:=
 ⟨BS h.l (gZ h.l j h1) _,fun i v ids hv hi=>BS (h.r i v ids hv hi) (gZ (h.r i v ids hv hi) j h2) _⟩
theorem FrAt.mono{j:Nat}(h:FrAt w base vF vals F)(hb:j<=base):FrAt w j vF vals F:=
 ⟨kZ h.l hb,fun i v b hv hi=>kZ (h.r i v b hv hi) hb⟩
theorem FrAt.add{b:List Nat}(h:FrAt w base vF vals F)(hu:w.ownsRow base 5 1 u b.length (cZ .u8 b))(hg:w.grownBy w5 vF.ownBlock)(j:w5.ownsRow base 28 1 v5 (F.length+1) (vals++ [u])):FrAt w5 base v5 (vals++ [u]) (F++ [b]):=by
 have far:∀ {n:Nat} {v:Value} {xs:List Value},w.ownsRow base 5 1 v n xs->w5.ownsRow base 5 1 v n xs:=fun hv=>own_far hv h.l ip hg;have y:vals.length=F.length:=by have:=h.l.1;omega
 refine⟨by rw[Ae];exact j,fun i v is hv hi=> ?_⟩;by_cases z:i<F.length
 ·rw[GR mw]at hv;rw[GR z]at hi;exact far (h.r i v is hv hi)
 ·rw[IT mw]at hv;rw[IT mw]at hi;have h0:i-F.length=0:=by have:=(Cv.1 hi).1;simp at this;omega
  rw[y,h0]at hv;rw[h0]at hi;simp at hv hi;subst hv hi;exact far hu
theorem Ze:(prog.info? 28).map (fun i=>(i.zero,i.size,i.bytes))=some (some (.slice none 0 0),1,24):=mr
structure SpI (w wr:World) (gb:Nat) (t:TypeId) (pre post:List Value) (vF:Value) (vals:List Value) (F:List (List Nat)):Prop where
 blk:Blk wr gb t (pre++vF :: post).toArray
 fr:FrAt wr w vF vals F
 kept:Kept (fun x=>x<w.heap.size/\x≠gb) w wr
 lt:gb<w.heap.size
 t1:28≠t
 t2:5≠t
section
variable {w wr w1 w2 w3:World} {gb:Nat} {t:TypeId} {pre post:List Value} {vF v3 u:Value} {vals:List Value} {F:List (List Nat)} {b:List Nat}
theorem SpI.step(h:SpI w wr gb t pre post vF vals F)(hb:Below wr wr w1):SpI w w1 gb t pre post vF vals F:=
 have hz:=h.kept.size
 ⟨h.blk.step hb,h.fr.step hb,h.kept.trans (Kept.of_below hb (fun x hx=>by have:=hx.1;omega)),h.lt,h.t1,h.t2⟩
theorem SpI.cell(h:SpI w wr gb t pre post vF vals F):wr.cell? ⟨gb,pre.length,none⟩=some vF:=by rw[h.blk.cell pre.length];simp
theorem SpI.add(h:SpI w wr gb t pre post vF vals F)(hu:wr.ownsRow w 5 1 u b.length (cZ .u8 b))(hb:Below wr wr w1)(hg:w1.grownBy w3 vF.ownBlock)(i:w3.ownsRow w 28 1 v3 (F.length+1) (vals++ [u])):
 SpI w (w3.setCell ⟨gb,pre.length,none⟩ v3) gb t pre post v3 (vals++ [u]) (F++ [b]):=by
 have h1:=h.step hb;have b3:=h1.blk.grown hg (AU (gZ h1.fr.l h1.blk h.t1));have j:w1.ownsRow w 5 1 u b.length (cZ .u8 b):=eZ hu (fun y hy=>hb.block y (Aj hu y hy).2);have f3:=h1.fr.add j hg i;have hz:=h1.kept.size;refine⟨?_,f3.set b3 h.t1 h.t2 _ _,?_,h.lt,h.t1,h.t2⟩
 ·have hx:=b3.set pre.length v3;rw[Mz,List.set_append_right _ _ (Ak _),Gx]at hx;exact hx
 ·exact(h1.kept.grown hg (fun y hy=>by have:=hy.1;omega) (fun y hy hk=>by have:=(Aj h1.fr.l y hy).1;have:=hk.1;omega)).set (fun hk=>hk.2 rfl) _
end
end Body
namespace Body
open Go.RowKit Mem Own Canon Nums Crc
theorem YU{A:Option Addr}{m c k:Nat}(i:A=none->m=0/\c=0):AQ A k c 1=none->m-k=0/\c-k=0:=fun h=>by
 have hA:A=none:=by
  unfold AQ at h;split at h
  ·exact h
  ·cases A with
   |none=>rfl
   |some x=>cases h
 have:=i hA;omega
def PT(w:World)(base gb p:Nat)(t:TypeId)(pre post:List Value)(S ls:List Nat)(e:Ending)(w':World):Prop:=
 ∃ (A2 A3:Option Addr) (c2 c3:Nat) (vF:Value) (vals:List Value),e= .returned (.tuple #[.slice A2 p c2, .slice A3 (ls.length-S.sum-p) c3])/\
  p<=c2/\ls.length-S.sum-p<=c3/\Row w base A2 p 1 (jZ .u8 ((ls.drop S.sum).take p))/\Row w base A3 (ls.length-S.sum-p) 1 (jZ .u8 (ls.drop (S.sum+p)))/\
  SpI w w' gb t pre post vF vals (Dk S ls)
theorem iW(w:World)(gb base bs p q:Nat)(t:TypeId)(x0 x4 x5 x6 x7:Value)(post:List Value)(As A:Option Addr)(ns cs n c:Nat)(S ls:List Nat)(hB:Blk w gb t (x0 :: .slice As ns cs :: .int .i64 (p:Nat) :: .int .i64 (q:Nat) :: x4 :: x5 :: x6 :: x7 :: .slice none 0 0 :: post).toArray)
 (bk:3≠t)(a1:28≠t)(bh:5≠t)(hS:S.length=ns)(cd:ns<=100000)(E:w.ownsRow bs 3 1 (.slice As ns cs) ns (cZ .i64 S))(hn:ls.length=n)(b8:n<=100000)(hc:n<=c)(h8:∀x∈ls,x<=255)(b6:S.sum+p<=n)
 (ha:Row w base A n 1 (jZ .u8 ls))(bb:base<=gb)(Z:A=none->n=0/\c=0):
 Calls prog 58 #[.pointer (some ⟨gb,0,none⟩), .slice A n c] w (PT w base gb p t [x0, .slice As ns cs, .int .i64 (p:Nat), .int .i64 (q:Nat),x4,x5,x6,x7] post S ls):=by
 obtain⟨j0,a3,bp,bf,bu⟩:=info_parts Ze;have bN:=hB.lt;have aa:Hid (SpI w w gb t [x0, .slice As ns cs, .int .i64 (p:Nat), .int .i64 (q:Nat),x4,x5,x6,x7] post (.slice none 0 0) [] []):=⟨hB,FrAt.nil _ _,Kept.refl _ _,bN,a1,bh⟩;have c1:=hB.ia 1;have b3:Hid (∀k x,S[k]? =some x->(S.take (k+1)).sum=(S.take k).sum+x/\(S.take (k+1)).sum+p<=n):=fun k x h=>by have h1:=SG h;have h2:=JD S (k+1);exact⟨h1,mw⟩
 have HS:=hid hS;have am:=hid E;have HN:=hid hn;have H8:=hid h8;have b7:=hid hB;have av:Hid (Row w base A n 1 (jZ .u8 (ls.drop 0))):=by show Row _ _ _ _ _ _;rw[Hd];exact ha
 have an:=hid Z;have bm:=hid (gZ E hB bk);clear hB hS E hn h8 ha Z;go_enter func58,ntmps58;go_wp2_with fail;go_loopw [1,14] (fun bv iv wr=>∃ (k mx cx j:Nat) (Ax:Option Addr) (vF:Value) (vals:List Value),k<=ns/\iv= .int .i64 k/\bv= .slice Ax mx cx/\mx+j=n/\mx<=cx/\Hid (j=(S.take k).sum)/\Hid (Row w base Ax mx 1 (jZ .u8 (ls.drop j)))/\Hid (Ax=none->mx=0/\cx=0)/\Hid (SpI w wr gb t [x0, .slice As ns cs, .int .i64 (p:Nat), .int .i64 (q:Nat),x4,x5,x6,x7] post vF vals (Dk (S.take k) ls))) (fun _ iv _=>ns-(intOf iv).toNat)
 case atStart=>exact⟨0,n,c,0,A,_,[],mw,rfl,rfl,mw,hc,rfl,av.out,an.out,aa.out⟩
 case round=>
  obtain⟨k,mx,cx,j,Ax,vF,vals,hk,rfl,rfl,ca,aq,J,Q,ar,HI⟩:=hrel;have zr:=HI.out.kept.size;clear aa av an;by_cases b4:k<ns
  ·have gk:=ic ((k:Int)<ns);have cj:=ic (k<ns);obtain⟨x,hx⟩:∃x,S[k]? =some x:=⟨_,Az (by rw[HS.out];exact b4)⟩;obtain⟨ah,bt⟩:=b3.out k x hx;rw[<-J.out]at ah;have b9:x+p<=mx:=mw;have E:wr.ownsRow bs 3 1 (.slice As ns cs) ns (cZ .i64 S):=eZ am.out (fun y hy=>HI.out.kept.block y ⟨(Aj am.out y hy).2,fun e=>bm.out (e ▸ hy)⟩);obtain⟨gv,cv,ba,cg,_⟩:=E.form mw;injection ba with q1 q2 q3;subst q1 q3;clear q2;have ck:wr.cell? ⟨gv,k,none⟩=some (.int .i64 (x:Nat)):=(by rw[E.cellAt k mw];unfold cZ;rw[BG,hx];rfl);have ci:(0:Int)<=(k:Int):=mw;have ce:(k:Int)<(ns:Int):=mw;have aw:Row wr base Ax mx 1 (jZ .u8 (ls.drop j)):=Q.out.keep fun a ha=>World.cell?_of_block (a:=a) (HI.out.kept.block a.block ⟨by have:=HI.out.lt;omega,mw⟩);have au:Hid ((ls.drop j).length=mx):=(by show _=_;rw[AO,HN.out];omega);have a4:Hid ((ls.drop j).take x=(ls.drop (S.take k).sum).take x):=(by rw[J.out];rfl);have bS:=hid (YJ ls hx);obtain⟨pc,ae⟩:=ii ((ls.drop j).take x);have af:pc.length=x:=(by rw[ae,AZ,au.out];omega);have DC:=hid (fun wx (hb:Below wr wr wx)=>Hw wx Ax x cx pc af mw (fun h=>by have:=ar.out h;omega) (((ae ▸ Gu aw (by omega:x<=mx):Row wr base Ax x 1 (jZ .u8 pc)).mono (by have:=HI.out.lt;omega)).below hb |>.mono hb.size));have bC:=fun wx=>Fy (P:=prog) (t:=28) (s:=1) underlying28 (fun _=>by kernel_rfl) Ax mx cx .i64 (x:Int) x rfl mw (fun a _=>rfl) wx;have bl:=fun wx=>FU (P:=prog) (t:=28) (s:=1) underlying28 (fun _=>by kernel_rfl) Ax mx cx .i64 (x:Int) x rfl mw wx;have a5:Hid (Row w base (AQ Ax x cx 1) (mx-x) 1 (jZ .u8 (ls.drop (j+x)))):=(by have h:=EQ Q.out (by omega:x<=mx) aq;rw[List.drop_drop]at h;exact h);have a0:=hid (YU (k:=x) ar.out);have a6:mx-x+(j+x)=n:=mw;have bi:mx-x<=cx-x:=mw;have aj:Hid (j+x=(S.take (k+1)).sum):=ah.symm;have be:=hid af;have c8:=HI.out.cell;have f8:=HI.out.blk.frozen 8;simp only[List.length_cons,List.length_nil,Nat.zero_add,Nat.reduceAdd]at c8;obtain⟨fl,Y⟩:=ii ((Dk (S.take k) ls).length);have ay:fl=k:=(by rw[Y,Nq,AZ,HS.out];omega);subst ay;have U:=HI.out.fr.l;rw[<-Y]at U;obtain⟨Af,cf,rfl⟩:=bZ U;have N:=hid U;have bn:=hid Y;generalize AQ Ax x cx 1=A2 at *;generalize a9:mx-x=m2 at *;generalize b1:cx-x=c2 at *;clear E aw af hx ah bt a9 b1 U Y;go_upto_region 4 with fail;go_region_law(first|(go_simp;go_at_call 100;(with_reducible refine(DC.out _ pn).mono ?_);rintro e w4 ⟨v4,rfl,ac,az⟩;obtain⟨A4,c4,rfl⟩:=bZ ac;have z:Below wr wr w4:=dZ az pn;have q8:=(HI.out.step z).cell;simp only[List.length_cons,List.length_nil,Nat.zero_add,Nat.reduceAdd]at q8;have ai:Hid (w4.ownsRow w 28 1 (.slice Af fl cf) fl vals):=eZ N.out (fun y hy=>z.block y (Aj N.out y hy).2);have cc:=z.size;have q9:=((HI.out.step z).step (aZ (o:= .cells #[.slice A4 x c4] 28) (Ag w4 w4))).cell;simp only[List.length_cons,List.length_nil,Nat.zero_add,Nat.reduceAdd]at q9)|(refine N7 rfl (.tmp 22) (.tmp 27) 59 rfl w 28 j0 _ 1 24 underlying59 a3 bp bf bu rfl ip (.slice Af fl cf) fl vals mz (by first|exact ai.out.alloc _|exact(ai.out.alloc _).drew) _ 1 1 [.slice A4 x c4] mz (Src.of_blk (Blk.made_at _ _ _ oK) 1 1 1 rfl) mj pm mw oT ?_;intro A5 c5 w5 M ab;have b5:=((HI.out.step z).blk.alloc (.cells #[.slice A4 x c4] 28)).grown ab (AU (gZ N.out HI.out.blk a1));have r8:=b5.cell 8;have s8:=b5.frozen 8;simp only[List.cons_append,List.nil_append,List.getElem?_toArray,List.getElem?_cons_zero,List.getElem?_cons_succ]at r8))
   all_goals
    have al:SpI w (w5.setCell ⟨gb,8,none⟩ (.slice A5 (fl+1) c5)) gb t [x0, .slice (some ⟨gv,0,none⟩) ns cs, .int .i64 (p:Nat), .int .i64 (q:Nat),x4,x5,x6,x7] post (.slice A5 (fl+1) c5) (vals++ [.slice A4 x c4]) (Dk (S.take fl) ls++ [pc]):=(HI.out.step z).add (kZ (by rw[be.out];exact ac) (by simpa using zr)) (aZ (o:= .cells #[.slice A4 x c4] 28) (Ag w4 w4)) ab (by rw[<-bn.out];exact M);have bj:Hid (SpI w (w5.setCell ⟨gb,8,none⟩ (.slice A5 (fl+1) c5)) gb t [x0, .slice (some ⟨gv,0,none⟩) ns cs, .int .i64 (p:Nat), .int .i64 (q:Nat),x4,x5,x6,x7] post (.slice A5 (fl+1) c5) (vals++ [.slice A4 x c4]) (Dk (S.take (fl+1)) ls)):=(by show SpI _ _ _ _ _ _ _ _ _;rw[bS.out,<-a4.out,<-ae];exact al);clear al M ab b5 r8 s8 q8 q9 ac az z ai HI c8 f8 DC N;generalize w5.setCell ⟨gb,8,none⟩ (.slice A5 (fl+1) c5)=w6 at *;go_wp2_with fail;go_roundw
    case measure=>exact jo
    case rel=>go_light;exact⟨fl+1,m2,c2,j+x,A2,Value.slice A5 (fl+1) c5,vals++ [Value.slice A4 x c4],mw,iu,rfl,a6,bi,aj.out,a5.out,a0.out,bj.out⟩
  ·obtain rfl:k=ns:=by omega
   have gk:=ig ((k:Int)<k);have ag:S.take k=S:=BQ (by rw[HS.out];exact Ak _);have L:=J.out;rw[ag]at L;have bc:=HI.out.blk.cell 2;simp only[List.cons_append,List.nil_append,List.getElem?_toArray,List.getElem?_cons_zero,List.getElem?_cons_succ]at bc;have ak:p<=mx:=mw;have bC:=fun wx=>Fy (P:=prog) (t:=28) (s:=1) underlying28 (fun _=>by kernel_rfl) Ax mx cx .i64 (p:Int) p rfl mw (fun a _=>rfl) wx;have bl:=fun wx=>FU (P:=prog) (t:=28) (s:=1) underlying28 (fun _=>by kernel_rfl) Ax mx cx .i64 (p:Int) p rfl ak wx;have bq:Hid (Row w base Ax p 1 (jZ .u8 ((ls.drop S.sum).take p))):=(by rw[<-L];exact Gu Q.out ak);have bx:Hid (Row w base (AQ Ax p cx 1) (mx-p) 1 (jZ .u8 (ls.drop (S.sum+p)))):=(by have h:=EQ Q.out ak aq;rw[List.drop_drop,L]at h;exact h);have ax:ls.length-S.sum-p=mx-p:=np;have b0:=hid ax;have G:Hid (SpI w wr gb t [x0, .slice As k cs, .int .i64 (p:Nat), .int .i64 (q:Nat),x4,x5,x6,x7] post vF vals (Dk S ls)):=(by have h:=HI.out;rw[ag]at h;exact h);have bg:p<=cx:=mw;have bd:mx-p<=cx-p:=mw;generalize AQ Ax p cx 1=A3 at *;generalize mx-p=m3 at *;generalize cx-p=c3 at *;clear HI ag L ax J;go_wp2_with fail;go_quiet (fail);go_wp2_with fail;go_ret2;unfold PT;rw[b0.out];exact⟨Ax,A3,cx,c3,vF,vals,rfl,bg,bd,bq.out,bx.out,⟨G.out.blk,⟨eZ G.out.fr.l (fun y _=>rfl),fun i v b hv hi=>eZ (G.out.fr.r i v b hv hi) (fun y _=>rfl)⟩,G.out.kept.drewN _,G.out.lt,G.out.t1,G.out.t2⟩⟩
end Body
namespace Idx
open Go.RowKit Mem Own Canon Sift
open NumPut Recs Crc Block
open Ef Nums
theorem Ul{n size:Nat}{ls:List Nat}(h8:∀x∈ls,x<=255):∀ (f at_ x:Nat) (i:List Nat),at_<=ls.length->(szR n size ls f at_ x i).2.1<=ls.length
 |0,_,_,_,h=>h
 |f+1,at_,x,i,h=>by
  unfold szR;split
  ·exact h
  ·split
   ·exact intA_le h8 0 h
   ·exact Ul h8 f _ _ _ (intA_le h8 0 h)
theorem T8{size:Nat}{ls:List Nat}:∀ (ks:List Nat) (r at_:Nat) (i:List Str),at_<=ls.length->(bkR size ls ks r at_ i).2.1<=ls.length
 | [],_,_,_,h=>h
 |k :: ks,r,at_,i,h=>by
  unfold bkR;split
  ·exact Cr _
  ·split
   ·exact Cr _
   ·exact T8 ks _ _ _ (L5 ls at_ 0 k h)
theorem Qi{size:Nat}{ls:List Nat}:∀ (ks:List Nat) (r at_:Nat) (i:List Str),(bkR size ls ks r at_ i).1.length<=i.length+r
 | [],_,_,_=>Nat.le_add_right _ _
 |k :: ks,r,at_,i=>by
  unfold bkR;split
  ·exact Cr _
  ·split
   ·exact Cr _
   ·rename_i h;have h1:=Ls (Bu ls at_ 0 k) (min size r) true 0 i (Nn h);have h2:=Qi (size:=size) (ls:=ls) ks (r-size) (takeA ls at_ 0 k) (CP (Bu ls at_ 0 k) (min size r) true 0 i).1;omega
theorem Yz{size:Nat}{ls:List Nat}(h8:∀x∈ls,x<=255):(FC size ls).2.1<=ls.length/\(FC size ls).1.length<=1048576:=by
 have hv:AY 1048576 ls 0 0<=1048576:=FQ h8 0 0;have ha:zZ 1048576 ls 0 0<=ls.length:=intA_le h8 0 mw
 have hs:(Gv size ls).2.1<=ls.length:=by
  unfold Gv;split
  ·exact ha
  ·exact Ul h8 _ _ _ _ ha
 unfold FC;split
 ·exact⟨Cr _,Cr _⟩
 ·have:=Qi (size:=size) (ls:=ls) (Gv size ls).1 (AY 1048576 ls 0 0) (Gv size ls).2.1 [];exact⟨T8 _ _ _ _ hs,by simp only[List.length_nil]at this;omega⟩
def ixF(ts:List Str)(L:List (List Nat)×Int):(List Str×List (List Nat))×Int:=if L.2≠0 then(([],[]),L.2)else((ts,L.1),0)
def ixR(size bound:Nat)(ls:List Nat):(List Str×List (List Nat))×Int:=
 if(FC size ls).2.2≠0 then(([],[]),(FC size ls).2.2)else ixF (FC size ls).1 (lsR bound (ls.drop (FC size ls).2.1) (FC size ls).1.length 0 [])
def N4(w:World)(R:(List Str×List (List Nat))×Int)(e:Ending)(w':World):Prop:=
 ∃vT vL vals,e= .returned (.tuple #[.agg #[vT,vL],R.2])/\IxAt w' w vT vL vals R.1.1 R.1.2/\Below w w w'
theorem Q8(w:World)(base:Nat):IxAt w base (.slice none 0 0) (.slice none 0 0) [] [] []:=⟨AI _ _ _ _,AI _ _ _ _,fun i v ids h=>oL⟩
theorem IxAt.set{vT:Value}{ts:List Str}{ls:List (List Nat)}{cs:Array Value}(h:IxAt w base vT vL vals ts ls)(j:Blk w b 53 cs)(k:Nat)(u:Value):IxAt (w.setCell ⟨b,k,none⟩ u) base vT vL vals ts ls:=
 ⟨BS h.t (gZ h.t j ip) _,BS h.l (gZ h.l j ip) _,fun i v ids hv hi=>BS (h.r i v ids hv hi) (gZ (h.r i v ids hv hi) j ip) _⟩
theorem RP(w:World)(A:Option Addr)(m c size bound:Nat)(ls:List Nat)(hm:ls.length=m)(ax:m<=100000)(h8:∀x∈ls,x<=255)(hc:m<=c)(Q:A=none->m=0/\c=0)(ha:Row w w A m 1 (jZ .u8 ls))(a4:1<=size)(a1:size<=64)(hb:bound<=20000):
 Calls prog 61 #[.int .i64 (size:Nat), .int .i64 (bound:Nat), .slice A m c] w (N4 w (ixR size bound ls)):=by
 have an:Hid (∀wx,Below w w wx->Row wx wx A m 1 (jZ .u8 ls)):=fun wx h=>(ha.below h).mono h.size;have D0:=hid (fun wx (h:Below w w wx)=>aS wx A m c size ls hm ax h8 Q (an.out wx h) a4 a1);have a5:=ig ((bound:Int)<0)
 have a6:=ig ((20000:Int)<bound)
 have a3:=ig (20000<bound)
 obtain⟨R,hR⟩:=ii (ixR size bound ls);rw[<-hR];unfold ixR at hR;obtain⟨ac,a0⟩:=Yz (size:=size) h8;generalize FC size ls=T at *;obtain⟨ts,t1,te⟩:=T;simp only at hR ac a0;rw[hm]at ac;have ag:=EQ (hm ▸ ha:Row w w A ls.length 1 (jZ .u8 ls)) (by omega:t1<=ls.length) (by omega:ls.length<=c);rw[hm]at ag
 have am:AQ A t1 c 1=none->m-t1=0/\c-t1=0:=fun h=>by
  have hA:A=none:=by
   unfold AQ at h;split at h
   ·exact h
   ·cases A with
    |none=>rfl
    |some x=>cases h
  have:=Q hA;omega
 have aj:=hid (fun wx (hbx:Below w w wx)=>jK wx (AQ A t1 c 1) (m-t1) (c-t1) ts.length bound (ls.drop t1) (by rw[AO,hm]) mw (fun x hx=>h8 x (BY hx)) mw am ((ag.below hbx).mono hbx.size) hb mw);have ks:=fun wx=>FU (P:=prog) (t:=28) (s:=1) underlying28 (fun _=>by kernel_rfl) A m c .i64 (t1:Int) t1 rfl ac wx;generalize lsR bound (ls.drop t1) ts.length 0 []=L at *;generalize AQ A t1 c 1=A2 at *;obtain⟨lv,le⟩:=L;have HR:=hid hR;unfold N4;clear hR ag am ha h8 Q hm an;go_enter func61,ntmps61;go_wp2_with fail;have ak:Below w w (w.alloc (.cells #[(),()] 53)):=aZ (Ag _ _);have ar:Blk (w.alloc (.cells #[(),()] 53)) w 53 #[(),()]:=Blk.made _ _ _;have a9:(w.alloc (.cells #[(),()] 53)).heap.size=w.heap.size+1:=oK
 have D1:=hid (D0.out _ ak);generalize w.alloc (.cells #[(),()] 53)=w1 at *;have al:=hid ak;have af:=hid ar;clear ak ar D0;refine D1.out.mono ?_;rintro e w2 ⟨M,U,ai⟩;have Y:Hid (Below w w w2):=al.out.trans (M.mono mw);have G:=hid (af.out.step M);have z2:=M.size;have k0:=G.out.ia 0;have k1:=G.out.ia 1;have f0:=G.out.frozen 0;have f1:=G.out.frozen 1;by_cases ht:te=0
 ·subst ht;obtain⟨gd,sz,hs,vT,vH,rfl,hD⟩:=ai rfl;have HD:=hid hD;have hr:=HR.out;rw[Aa (show ¬((0:Int)≠0) from fun h=>h rfl)]at hr;have au:=hid hr;have aq:=hid (fun wx (hb:Below w2 w2 wx)=>aM wx w1 gd sz ts hs vT vH (hD.keep (fun y _ hy=>hb.block y hy)));have aa:=hid (fun wx (hb:Below w2 w2 wx)=>aj.out wx (Y.out.trans (hb.mono mw)));clear M U ai hD hr HR D1 al af aj;go_wp2_with fail;go_region_held3 (fun _=>True) (trivial) (first|(go_at_call 120;(with_reducible refine(aq.out _ pn).mono ?_);rintro e wA ⟨rfl,rfl⟩)|(go_at_call 119;(with_reducible refine(aa.out _ pn).mono ?_);rintro e wB ⟨av,vB,vals,rfl,ab⟩;have BB:Below w2 w2 wB:=(by have hq:=av;exact dZ hq pn)))
  all_goals
   have ah:Hid (Below w w wB):=Y.out.trans (BB.mono mw);have z:=hid (G.out.step BB);have zB:=BB.size;have Z:Hid (LsAt wB w2 vB vals lv):=ab;have aw:Hid (DAt wB w1 gd sz ts hs vT vH):=HD.out.keep (fun y _ hy=>BB.block y hy);obtain⟨Av,cv,rfl⟩:=bZ Z.out.l;have p0:=z.out.ia 0;have p1:=z.out.ia 1;have r0:=z.out.frozen 0;have r1:=z.out.frozen 1;clear av ab BB aq aa HD G Y k0 k1 f0 f1;by_cases J:le=0
   ·subst J;have HF:Hid (R=((ts,lv),0)):=(by show _=_;rw[au.out];exact Aa (fun h=>h rfl));have DA:=hid (ZY wB w1 gd sz ts hs vT vH aw.out mw);go_wp2_with fail;refine DA.out.mono ?_;rintro e w6 ⟨vt,rfl,ae,N⟩;obtain⟨At,ct,rfl⟩:=bZ ae;have E:=hid (z.out.step N);have ay:Hid (IxAt w6 w (.slice At ts.length ct) (.slice Av lv.length cv) vals ts lv):=⟨kZ ae mw,kZ (Z.out.step N).l mw,fun i v ids hv hi=>kZ ((Z.out.step N).r i v ids hv hi) mw⟩;have az:Hid (Below w w w6):=ah.out.trans (N.mono mw);have q0:=E.out.ia 0;have q1:=E.out.ia 1;have s0:=E.out.frozen 0;have s1:=E.out.frozen 1;clear ae N DA z Z aw ah p0 p1 r0 r1;go_wp2_with fail;rw[HF.out];refine Cz (v:= .tuple #[.agg #[.slice At ts.length ct, .slice Av lv.length cv],ij]) ?_ rfl ⟨_,_,vals,rfl,?_,?_⟩
    ·have j:=(E.out.set 0 (.slice At ts.length ct)).set 1 (.slice Av lv.length cv);have e0:=j.cell 0;have e1:=j.cell 1;simp at e0 e1;simp[results,results61,go_sem,e0,e1]
    ·exact(ay.out.set E.out 0 _).set (E.out.set 0 _) 1 _
    ·exact BW (Ak _) (BW (Ak _) az.out)
   ·have gE:(le != 0)=true:=(by simpa using J);have HF:Hid (R=(([],[]),le)):=(by show _=_;rw[au.out];exact Ab J);clear J;go_wp2_with fail;rw[HF.out];refine Cz (v:= .tuple #[.agg #[(),()],le]) ?_ rfl ⟨_,_,[],rfl,Q8 _ _,?_⟩
    ·have j:=(z.out.set 0 (.slice none 0 0)).set 1 (.slice none 0 0);have e0:=j.cell 0;have e1:=j.cell 1;simp at e0 e1;simp[results,results61,go_sem,e0,e1]
    ·exact BW (Ak _) (BW (Ak _) ah.out)
 ·have he:=U ht;subst he;have gE:(te != 0)=true:=by simpa using ht
  have HF:Hid (R=(([],[]),te)):=by have h:=HR.out;rw[Ab ht]at h;exact h
  clear M U ai ht HR D1 al af aj;go_wp2_with fail;rw[HF.out];refine Cz (v:= .tuple #[.agg #[(),()],te]) ?_ rfl ⟨_,_,[],rfl,Q8 _ _,?_⟩
  ·have j:=(G.out.set 0 (.slice none 0 0)).set 1 (.slice none 0 0);have e0:=j.cell 0;have e1:=j.cell 1;simp at e0 e1;simp[results,results61,go_sem,e0,e1]
  ·exact BW (Ak _) (BW (Ak _) Y.out)
end Idx
end Go.Proofs.YtfgdoknipbpfhaaGreatDoor
