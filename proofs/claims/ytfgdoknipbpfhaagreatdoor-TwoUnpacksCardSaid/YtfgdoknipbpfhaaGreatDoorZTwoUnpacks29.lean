/- The walks of post.li -/
import Derived.Test.YtfgdoknipbpfhaaGreatDoorZTwoUnpacks28
import Derived.Test.YtfgdoknipbpfhaaGreatDoorZTwoUnpacks24
namespace Go.Proofs.YtfgdoknipbpfhaaGreatDoor
open Go.Proofs.Tryz
open Go.Lib (hid)
set_option maxHeartbeats 4000000
set_option maxRecDepth 100000
variable{w w' w5:World}{b base:Nat}{u v5 vF vL:Value}{vals:List Value}{F j:List (List Nat)}
namespace Idx
open Go.RowKit Mem Own Canon Sift
open NumPut Recs Crc Block
open Ef
theorem UI(w:World)(base gd size:Nat)(ts hs:List Str)(vT vH:Value)(h:DAt w base gd size ts hs vT vH):
 Calls prog 120 #[.pointer (some ⟨gd,0,none⟩)] w fun e w'=>e= .returned (.int .i64 (ts.length:Nat))/\w'=w:=by
 have c0:=h.blk.iO 0;have ot:=h.ot;obtain⟨n,hn⟩:=iS ts.length;rw[<-hn]at ot ⊢;obtain⟨A,c,rfl⟩:=aZ ot;clear h ot hn;go_enter func120,ntmps120;go_wp2_with fail;go_ret;exact⟨rfl,rfl⟩
theorem Uu(w:World)(base gd size:Nat)(ts hs:List Str)(vT vH:Value)(h:DAt w base gd size ts hs vT vH)(hl:ts.length<=3000000):
 Calls prog 121 #[.pointer (some ⟨gd,0,none⟩)] w fun e w'=>∃v,e= .returned v/\w'.ownsRow w 9 1 v ts.length (AD ts)/\aO w w':=by
 have c0:=h.blk.iO 0;have ot:=h.ot;obtain⟨n,hn⟩:=iS ts.length;rw[<-hn]at ot hl ⊢;obtain⟨A,c,rfl⟩:=aZ ot;have D:=hid (Ux w base A n c (AD ts) hl ot (Kl ts));clear h ot hn;go_enter func121,ntmps121;go_wp2_with fail;refine D.out.mono ?_;rintro e w1 ⟨v,rfl,ho,hb⟩;have HO:=hid ho;have HB:=hid hb;obtain⟨A1,c1,rfl⟩:=aZ ho;clear ho hb D;go_wp2_with fail;go_ret;exact⟨_,rfl,HO.out,HB.out⟩
def lsR(bound:Nat)(ls:List Nat):Nat->Nat->List (List Nat)->List (List Nat)×Int
 |0,at_,acc=>if at_<ls.length then([],2)else(acc,0)
 |k+1,at_,acc=>if(efR bound (ls.drop at_)).2.2≠0 then([],(efR bound (ls.drop at_)).2.2)else if(efR bound (ls.drop at_)).1.length=0 then([],2)else lsR bound ls k (at_+(efR bound (ls.drop at_)).2.1) (acc++ [(efR bound (ls.drop at_)).1])
structure LsAt (w:World) (base:Nat) (vL:Value) (vals:List Value) (acc:List (List Nat)):Prop where
 l:w.ownsRow base 37 1 vL acc.length vals
 r:∀ (i:Nat) v ids,vals[i]? =some v->acc[i]? =some ids->w.ownsRow base 3 1 v ids.length (cZ .i64 ids)
theorem LsAt.step(h:LsAt w base vL vals j)(hb:aO w w'):LsAt w' base vL vals j:=
 ⟨dZ h.l fun y hy=>hb.block y (Ae h.l y hy).2,fun i v ids hv hi=>dZ (h.r i v ids hv hi) fun y hy=>hb.block y (Ae (h.r i v ids hv hi) y hy).2⟩
theorem LsAt.nil(w:World)(base:Nat):LsAt w base (.slice none 0 0) [] []:=⟨Aq _ _ _ _,fun i v ids h=>by simp at h⟩
theorem LsAt.add{z:List Nat}(h:LsAt w base vL vals j)(hu:w.ownsRow base 3 1 u z.length (cZ .i64 z))(hg:w.grownBy w5 vL.ownBlock)(G:w5.ownsRow base 37 1 v5 (j.length+1) (vals++ [u])):LsAt w5 base v5 (vals++ [u]) (j++ [z]):=by
 have far:∀ {n:Nat} {v:Value} {xs:List Value},w.ownsRow base 3 1 v n xs->w5.ownsRow base 3 1 v n xs:=fun hv=>dZ hv fun y hy=>hg.block y (Ae hv y hy).2 fun e2=>by
  rcases Fh h.l hv iX with e3|e3
  ·rw[e3]at e2;cases e2
  ·exact e3 (by rw[<-e2,hy])
 have E:vals.length=j.length:=by have:=h.l.1;omega
 refine⟨by rw[Aj];exact G,fun i v is hv hi=> ?_⟩;by_cases J:i<j.length
 ·rw[Hj kR]at hv;rw[Hj J]at hi;exact far (h.r i v is hv hi)
 ·rw[JU kR]at hv;rw[JU kR]at hi;have h0:i-j.length=0:=by have:=(Ch.1 hi).1;simp at this;omega
  rw[E,h0]at hv;rw[h0]at hi;simp at hv hi;subst hv hi;exact far hu
theorem QQ:(prog.info? 37).map (fun i=>(i.zero,i.size,i.bytes))=some (some (.slice none 0 0),1,24):=kG
def WN(w:World)(R:List (List Nat)×Int)(e:Ending)(w':World):Prop:=
 aO w w'/\∃v vals,e= .returned (.tuple #[v,R.2])/\LsAt w' w v vals R.1
theorem Wx(w:World)(A:Option Addr)(m c n bound:Nat)(ls:List Nat)(hm:ls.length=m)(a8:m<=100000)(h8:∀x∈ls,x<=255)(hc:m<=c)(ac:A=none->m=0/\c=0)(ha:Row w w A m 1 (jZ .u8 ls))(hb:bound<=20000)(hn:n<=1100000):
 Calls prog 119 #[.int .i64 (n:Nat), .int .i64 (bound:Nat), .slice A m c] w (WN w (lsR bound ls n 0 [])):=by
 obtain⟨j0,aV,a1,aS,aX⟩:=info_parts QQ;obtain⟨R,hR⟩:=iS (lsR bound ls n 0 []);rw[<-hR];have ax:Hid (lsR bound ls (n-0) 0 []=R):=hR.symm;have H8:=hid h8;have HM:=hid hm;have am:Hid (Row w w A m 1 (jZ .u8 (ls.drop 0))):=by show Row _ _ _ _ _ _;rw[Hk];exact ha
 have aw:=hid ac;clear hm h8 ac ha hR;go_enter func119,ntmps119;go_wp2_with fail;go_loopw [2,8,13] (fun bv ov iv wr=>∃ (k at_ mx cx:Nat) (Ax:Option Addr) (G:List (List Nat)) (vals:List Value),k<=n/\iv= .int .i64 k/\bv= .slice Ax mx cx/\mx+at_=m/\mx<=cx/\Hid (Ax=none->mx=0/\cx=0)/\Hid (Row w w Ax mx 1 (jZ .u8 (ls.drop at_)))/\Hid (G.length=k)/\Hid (LsAt wr w ov vals G)/\Hid (aO w wr)/\Hid (lsR bound ls (n-k) at_ G=R)) (fun _ _ iv _=>n-(intOf iv).toNat)
 case atStart=>exact⟨0,0,m,c,A,[],[],kR,rfl,rfl,kR,hc,aw.out,am.out,rfl,LsAt.nil _ _,Ag _ _,ax.out⟩
 case round=>
  obtain⟨k,at_,mx,cx,Ax,G,vals,hk,rfl,rfl,a7,an,ar,aq,HL,E,HB,HG⟩:=hrel;obtain⟨vo,co,rfl⟩:=aZ E.out.l;have zr:=HB.out.size;clear ax am aw;by_cases a9:k<n
  ·have gk:=iQ ((k:Int)<n);have a6:=iQ (k<n);have hG:=HG.out;rw[show n-k=(n-(k+1))+1 by omega,lsR]at hG;have af:∀x∈ls.drop at_,x<=255:=fun x hx=>H8.out x (Be hx);have J:(ls.drop at_).length=mx:=(by rw[AK,HM.out];omega);have DR:=W8 wr Ax mx cx bound (ls.drop at_) J kR af an ar.out ((aq.out.below HB.out).mono zr) hb;have aa:=Q9 (bound:=bound) af;rw[J]at aa;generalize efR bound (ls.drop at_)=T at *;obtain⟨U,t1,te⟩:=T;simp only at hG aa;unfold LF at DR;simp only at DR;have M:=hid hG;have DR:=hid DR;clear hG HG af J;go_wp2_with fail;refine DR.out.mono ?_;rintro e w3 ⟨Y,j,Z⟩;have Q:Hid (aO w w3):=HB.out.trans (Y.mono zr);by_cases ht:te=0
   ·subst ht;obtain⟨p,rfl,hp⟩:=Z rfl;have ae:=hid (E.out.step Y);have DL:=hid (len_any w3 wr p U hp);have DA:=hid (UZ w3 wr p U hp);have hG:=M.out;rw[Aa (show ¬((0:Int)≠0) from fun h=>h rfl)]at hG;obtain⟨L,hL⟩:=iS U.length;rw[<-hL]at DL DA hG;by_cases h0:L=0
    ·have gz:((L:Int)==0)=true:=(by rw[h0];rfl);have HF:Hid (R=([],2)):=(by rw[Ab h0]at hG;exact hG.symm);clear Y j Z hp E HB DR hG M h0 hL DA;go_wp2_with fail;refine DL.out.mono ?_;rintro e w4 ⟨rfl,rfl⟩;go_wp2_with fail;go_ret2;rw[HF.out];exact⟨Q.out,_,[],rfl,LsAt.nil _ _⟩
    ·have gz:((L:Int)==0)=false:=lH;rw[Aa h0]at hG;have aW:=hid hG;have a3:=hid hL;have ks:=fun wx=>EM (P:=prog) (t:=28) (s:=1) underlying28 (fun _=>by kernel_rfl) Ax mx cx .i64 (t1:Int) t1 rfl aa wx;have al:=Cv aq.out aa an;rw[List.drop_drop]at al;have a5:Hid (Row w w (xZ Ax t1 cx 1) (mx-t1) 1 (jZ .u8 (ls.drop (at_+t1)))):=al
     have aQ:Hid (xZ Ax t1 cx 1=none->mx-t1=0/\cx-t1=0):=fun h=>by
      have hA:Ax=none:=by
       unfold xZ at h;split at h
       ·exact h
       ·cases Ax with
        |none=>rfl
        |some x=>cases h
      have:=ar.out hA;omega
     have aY:mx-t1+(at_+t1)=m:=kR;have aT:mx-t1<=cx-t1:=kR;generalize xZ Ax t1 cx 1=A2 at *;generalize a0:mx-t1=m2 at *;generalize a4:cx-t1=c2 at *;have au:=Q.out.size;clear Y j Z hp E HB DR hG M h0 hL al a0 a4;go_wp2_with fail;refine DL.out.mono ?_;rintro e w4 ⟨rfl,rfl⟩;go_wp2_with fail;refine DA.out.mono ?_;rintro e w5 ⟨v5,rfl,ai,ak⟩;have N:=hid (ae.out.step ak);have ag:Hid (aO w w5):=Q.out.trans (ak.mono au);have ay:Hid (w5.ownsRow w 3 1 v5 L (cZ .i64 U)):=iZ ai au;obtain⟨A5,c5,rfl⟩:=aZ ai;have aU:=ag.out.size;have aj:Hid (w5.ownsRow w 37 1 (.slice vo G.length co) k vals):=(by have h:=N.out.l;rw[HL.out]at h ⊢;exact h);clear ai ak DL DA ae Q;go_wp2_with(at_builtin;refine gZ rfl (.tmp 30) (.tmp 33) 51 rfl w 37 j0 _ 1 24 underlying51 aV a1 aS aX rfl iX _ _ _ kU (aj.out.alloc _) _ 1 1 [.slice A5 L c5] kU (Src.of_blk (Blk.made_at _ _ _ mY) 1 1 1 rfl) kw nI kR ni ?_;intro v7 w7 i ah av;obtain⟨A7,c7,rfl⟩:=aZ i);have ab:=(N.out.step (bZ (o:= .cells #[.slice A5 L c5] 37) (Ag w5 w5))).add (by rw[<-a3.out];exact ay.out.alloc _) ah (by rw[HL.out];exact i);have az:=hid ab;have aP:Hid (aO w w7):=(lZ aU ag.out).grown ah ni (fun y hy=>(Ae aj.out y hy).1);clear i ah av ab aj ay N ag;go_roundw
     case measure=>exact jw
     case rel=>go_light;exact⟨k+1,at_+t1,m2,c2,A2,G++ [U],vals++ [Value.slice A5 L c5],kR,i5,rfl,aY,aT,aQ.out,a5.out,mO,az.out,aP.out,aW.out⟩
   ·have he:=j ht;subst he;have gE:(te != 0)=true:=(by simpa using ht);have HF:Hid (R=([],te)):=(by have h:=M.out;rw[Ab ht]at h;exact h.symm);clear Y j Z ht M E HB DR;go_wp2_with fail;go_ret2;rw[HF.out];exact⟨Q.out,_,[],rfl,LsAt.nil _ _⟩
  ·obtain rfl:k=n:=by omega
   have gk:=iR ((k:Int)<k);have hG:=HG.out;rw[Fj,lsR]at hG;by_cases z:at_<ls.length
   ·rw[Ab z]at hG;have g0:decide ((0:Int)<(mx:Int))=true:=ke;have aR:decide (0<mx)=true:=ke;have HF:=hid hG.symm;clear hG HG z;go_wp2_with fail;go_ret2;rw[HF.out];exact⟨HB.out,_,[],rfl,LsAt.nil _ _⟩
   ·rw[Aa z]at hG;have g0:decide ((0:Int)<(mx:Int))=false:=ke;have aR:decide (0<mx)=false:=ke;have HF:=hid hG.symm;clear hG HG z;go_wp2_with fail;go_ret2;rw[HF.out];exact⟨HB.out,_,vals,rfl,E.out⟩
end Idx
namespace Body
open Go.RowKit Mem Own Canon Nums Crc
def Bv:List Nat->List Nat->List (List Nat)
 | [],_=> []
 |n :: S,ls=>ls.take n :: Bv S (ls.drop n)
theorem JF:∀ (S ls:List Nat),(Bv S ls).length=S.length
 | [],_=>rfl
 |n :: S,ls=>by rw[Bv,Bu,Bu,JF S]
theorem Ts:∀ (S:List Nat) (n:Nat) (ls:List Nat),Bv (S++ [n]) ls=Bv S ls++ [(ls.drop S.sum).take n]
 | [],n,ls=>by simp[Bv]
 |m :: S,n,ls=>by rw[Ix,Bv,Ts S n,Bv,List.drop_drop,GU];rfl
theorem Tg{S:List Nat}{i n:Nat}(ls:List Nat)(h:S[i]? =some n):Bv (S.take (i+1)) ls=Bv (S.take i) ls++ [(ls.drop (S.take i).sum).take n]:=by rw[EG,h];exact Ts _ _ _
structure FrAt (w:World) (base:Nat) (vF:Value) (vals:List Value) (F:List (List Nat)):Prop where
 l:w.ownsRow base 28 1 vF F.length vals
 r:∀ (i:Nat) v b,vals[i]? =some v->F[i]? =some b->w.ownsRow base 5 1 v b.length (cZ .u8 b)
theorem FrAt.step(h:FrAt w base vF vals F)(hb:aO w w'):FrAt w' base vF vals F:=
 ⟨dZ h.l fun y hy=>hb.block y (Ae h.l y hy).2,fun i v b hv hi=>dZ (h.r i v b hv hi) fun y hy=>hb.block y (Ae (h.r i v b hv hi) y hy).2⟩
theorem FrAt.nil(w:World)(base:Nat):FrAt w base (.slice none 0 0) [] []:=⟨Aq _ _ _ _,fun i v b h=>by simp at h⟩
theorem FrAt.set{t:TypeId}{cs:Array Value}(h:FrAt w base vF vals F)(j:Blk w b t cs)(h1:28≠t)(h2:5≠t)(k:Nat)(u:Value):FrAt (w.setCell ⟨b,k,none⟩ u) base vF vals F:=
 ⟨sZ h.l (fZ h.l j h1) _,fun i v ids hv hi=>sZ (h.r i v ids hv hi) (fZ (h.r i v ids hv hi) j h2) _⟩
theorem FrAt.mono{j:Nat}(h:FrAt w base vF vals F)(hb:j<=base):FrAt w j vF vals F:=
 ⟨iZ h.l hb,fun i v b hv hi=>iZ (h.r i v b hv hi) hb⟩
theorem FrAt.add{b:List Nat}(h:FrAt w base vF vals F)(hu:w.ownsRow base 5 1 u b.length (cZ .u8 b))(hg:w.grownBy w5 vF.ownBlock)(y:w5.ownsRow base 28 1 v5 (F.length+1) (vals++ [u])):FrAt w5 base v5 (vals++ [u]) (F++ [b]):=by
 have far:∀ {n:Nat} {v:Value} {xs:List Value},w.ownsRow base 5 1 v n xs->w5.ownsRow base 5 1 v n xs:=fun hv=>own_far hv h.l iX hg;have j:vals.length=F.length:=by have:=h.l.1;omega
 refine⟨by rw[Aj];exact y,fun i v is hv hi=> ?_⟩;by_cases z:i<F.length
 ·rw[Hj kR]at hv;rw[Hj z]at hi;exact far (h.r i v is hv hi)
 ·rw[JU kR]at hv;rw[JU kR]at hi;have h0:i-F.length=0:=by have:=(Ch.1 hi).1;simp at this;omega
  rw[j,h0]at hv;rw[h0]at hi;simp at hv hi;subst hv hi;exact far hu
theorem QH:(prog.info? 28).map (fun i=>(i.zero,i.size,i.bytes))=some (some (.slice none 0 0),1,24):=kG
structure SpI (w wr:World) (gb:Nat) (t:TypeId) (pre post:List Value) (vF:Value) (vals:List Value) (F:List (List Nat)):Prop where
 blk:Blk wr gb t (pre++vF :: post).toArray
 fr:FrAt wr w vF vals F
 kept:Kept (fun x=>x<w.heap.size/\x≠gb) w wr
 lt:gb<w.heap.size
 t1:28≠t
 t2:5≠t
section
variable {w wr w1 w2 w3:World} {gb:Nat} {t:TypeId} {pre post:List Value} {vF v3 u:Value} {vals:List Value} {F:List (List Nat)} {b:List Nat}
theorem SpI.step(h:SpI w wr gb t pre post vF vals F)(hb:aO wr w1):SpI w w1 gb t pre post vF vals F:=
 have hz:=h.kept.size
 ⟨h.blk.step hb,h.fr.step hb,h.kept.trans (Kept.of_below hb (fun x hx=>by have:=hx.1;omega)),h.lt,h.t1,h.t2⟩
theorem SpI.cell(h:SpI w wr gb t pre post vF vals F):wr.cell? ⟨gb,pre.length,none⟩=some vF:=by rw[h.blk.cell pre.length];simp
theorem SpI.add(h:SpI w wr gb t pre post vF vals F)(hu:wr.ownsRow w 5 1 u b.length (cZ .u8 b))(hb:aO wr w1)(hg:w1.grownBy w3 vF.ownBlock)(i:w3.ownsRow w 28 1 v3 (F.length+1) (vals++ [u])):
 SpI w (w3.setCell ⟨gb,pre.length,none⟩ v3) gb t pre post v3 (vals++ [u]) (F++ [b]):=by
 have h1:=h.step hb;have b3:=h1.blk.grown hg (Br (fZ h1.fr.l h1.blk h.t1));have j:w1.ownsRow w 5 1 u b.length (cZ .u8 b):=dZ hu (fun y hy=>hb.block y (Ae hu y hy).2);have f3:=h1.fr.add j hg i;have hz:=h1.kept.size;refine⟨?_,f3.set b3 h.t1 h.t2 _ _,?_,h.lt,h.t1,h.t2⟩
 ·have hx:=b3.set pre.length v3;rw[WK,List.set_append_right _ _ (Ai _),Fj]at hx;exact hx
 ·exact(h1.kept.grown hg (fun y hy=>by have:=hy.1;omega) (fun y hy hk=>by have:=(Ae h1.fr.l y hy).1;have:=hk.1;omega)).set (fun hk=>hk.2 rfl) _
end
end Body
namespace Body
open Go.RowKit Mem Own Canon Nums Crc
theorem cut_none{A:Option Addr}{m c k:Nat}(i:A=none->m=0/\c=0):xZ A k c 1=none->m-k=0/\c-k=0:=fun h=>by
 have hA:A=none:=by
  unfold xZ at h;split at h
  ·exact h
  ·cases A with
   |none=>rfl
   |some x=>cases h
 have:=i hA;omega
def M4(w:World)(base gb p:Nat)(t:TypeId)(pre post:List Value)(S ls:List Nat)(e:Ending)(w':World):Prop:=
 ∃ (A2 A3:Option Addr) (c2 c3:Nat) (vF:Value) (vals:List Value),e= .returned (.tuple #[.slice A2 p c2, .slice A3 (ls.length-S.sum-p) c3])/\
  p<=c2/\ls.length-S.sum-p<=c3/\Row w base A2 p 1 (jZ .u8 ((ls.drop S.sum).take p))/\Row w base A3 (ls.length-S.sum-p) 1 (jZ .u8 (ls.drop (S.sum+p)))/\
  SpI w w' gb t pre post vF vals (Bv S ls)
theorem Wh(w:World)(gb base bs p q:Nat)(t:TypeId)(x0 x4 x5 x6 x7:Value)(post:List Value)(As A:Option Addr)(ns cs n c:Nat)(S ls:List Nat)(hB:Blk w gb t (x0 :: .slice As ns cs :: .int .i64 (p:Nat) :: .int .i64 (q:Nat) :: x4 :: x5 :: x6 :: x7 :: .slice none 0 0 :: post).toArray)
 (aS:3≠t)(az:28≠t)(bg:5≠t)(hS:S.length=ns)(bF:ns<=100000)(E:w.ownsRow bs 3 1 (.slice As ns cs) ns (cZ .i64 S))(hn:ls.length=n)(bE:n<=100000)(hc:n<=c)(h8:∀x∈ls,x<=255)(bp:S.sum+p<=n)
 (ha:Row w base A n 1 (jZ .u8 ls))(bn:base<=gb)(Z:A=none->n=0/\c=0):
 Calls prog 58 #[.pointer (some ⟨gb,0,none⟩), .slice A n c] w (M4 w base gb p t [x0, .slice As ns cs, .int .i64 (p:Nat), .int .i64 (q:Nat),x4,x5,x6,x7] post S ls):=by
 obtain⟨j0,a6,bk,a3,bb⟩:=info_parts QH;have a0:=hB.lt;have aa:Hid (SpI w w gb t [x0, .slice As ns cs, .int .i64 (p:Nat), .int .i64 (q:Nat),x4,x5,x6,x7] post (.slice none 0 0) [] []):=⟨hB,FrAt.nil _ _,Kept.refl _ _,a0,az,bg⟩;have c1:=hB.iO 1;have a7:Hid (∀k x,S[k]? =some x->(S.take (k+1)).sum=(S.take k).sum+x/\(S.take (k+1)).sum+p<=n):=fun k x h=>by have h1:=Nq h;have h2:=Hu S (k+1);exact⟨h1,kR⟩
 have HS:=hid hS;have am:=hid E;have HN:=hid hn;have H8:=hid h8;have bD:=hid hB;have al:Hid (Row w base A n 1 (jZ .u8 (ls.drop 0))):=by show Row _ _ _ _ _ _;rw[Hk];exact ha
 have ax:=hid Z;have aT:=hid (fZ E hB aS);clear hB hS E hn h8 ha Z;go_enter func58,ntmps58;go_wp2_with fail;go_loopw [1,14] (fun bv iv wr=>∃ (k mx cx j:Nat) (Ax:Option Addr) (vF:Value) (vals:List Value),k<=ns/\iv= .int .i64 k/\bv= .slice Ax mx cx/\mx+j=n/\mx<=cx/\Hid (j=(S.take k).sum)/\Hid (Row w base Ax mx 1 (jZ .u8 (ls.drop j)))/\Hid (Ax=none->mx=0/\cx=0)/\Hid (SpI w wr gb t [x0, .slice As ns cs, .int .i64 (p:Nat), .int .i64 (q:Nat),x4,x5,x6,x7] post vF vals (Bv (S.take k) ls))) (fun _ iv _=>ns-(intOf iv).toNat)
 case atStart=>exact⟨0,n,c,0,A,_,[],kR,rfl,rfl,kR,hc,rfl,al.out,ax.out,aa.out⟩
 case round=>
  obtain⟨k,mx,cx,j,Ax,vF,vals,hk,rfl,rfl,bC,an,J,Q,av,HI⟩:=hrel;have zr:=HI.out.kept.size;clear aa al ax;by_cases ba:k<ns
  ·have gk:=iQ ((k:Int)<ns);have bq:=iQ (k<ns);obtain⟨x,hx⟩:∃x,S[k]? =some x:=⟨_,AE (by rw[HS.out];exact ba)⟩;obtain⟨af,a1⟩:=a7.out k x hx;rw[<-J.out]at af;have bu:x+p<=mx:=kR;have E:wr.ownsRow bs 3 1 (.slice As ns cs) ns (cZ .i64 S):=dZ am.out (fun y hy=>HI.out.kept.block y ⟨(Ae am.out y hy).2,fun e=>aT.out (e ▸ hy)⟩);obtain⟨gv,cv,bh,bt,_⟩:=E.form kR;injection bh with q1 q2 q3;subst q1 q3;clear q2;have ck:wr.cell? ⟨gv,k,none⟩=some (.int .i64 (x:Nat)):=(by rw[E.cellAt k kR];unfold cZ;rw[B0,hx];rfl);have bB:(0:Int)<=(k:Int):=kR;have bA:(k:Int)<(ns:Int):=kR;have au:Row wr base Ax mx 1 (jZ .u8 (ls.drop j)):=Q.out.keep fun a ha=>World.cell?_of_block (a:=a) (HI.out.kept.block a.block ⟨by have:=HI.out.lt;omega,kR⟩);have aP:Hid ((ls.drop j).length=mx):=(by show _=_;rw[AK,HN.out];omega);have a9:Hid ((ls.drop j).take x=(ls.drop (S.take k).sum).take x):=(by rw[J.out];rfl);have aV:=hid (Tg ls hx);obtain⟨pc,ai⟩:=iS ((ls.drop j).take x);have ak:pc.length=x:=(by rw[ai,AN,aP.out];omega);have DC:=hid (fun wx (hb:aO wr wx)=>Hp wx Ax x cx pc ak kR (fun h=>by have:=av.out h;omega) (((ai ▸ Dd au (by omega:x<=mx):Row wr base Ax x 1 (jZ .u8 pc)).mono (by have:=HI.out.lt;omega)).below hb |>.mono hb.size));have bf:=fun wx=>CX (P:=prog) (t:=28) (s:=1) underlying28 (fun _=>by kernel_rfl) Ax mx cx .i64 (x:Int) x rfl kR (fun a _=>rfl) wx;have aX:=fun wx=>EM (P:=prog) (t:=28) (s:=1) underlying28 (fun _=>by kernel_rfl) Ax mx cx .i64 (x:Int) x rfl kR wx;have bm:Hid (Row w base (xZ Ax x cx 1) (mx-x) 1 (jZ .u8 (ls.drop (j+x)))):=(by have h:=Cv Q.out (by omega:x<=mx) an;rw[List.drop_drop]at h;exact h);have aq:=hid (cut_none (k:=x) av.out);have bc:mx-x+(j+x)=n:=kR;have a4:mx-x<=cx-x:=kR;have ah:Hid (j+x=(S.take (k+1)).sum):=af.symm;have bd:=hid ak;have c8:=HI.out.cell;have f8:=HI.out.blk.frozen 8;simp only[List.length_cons,List.length_nil,Nat.zero_add,Nat.reduceAdd]at c8;obtain⟨fl,N⟩:=iS ((Bv (S.take k) ls).length);have ay:fl=k:=(by rw[N,JF,AN,HS.out];omega);subst ay;have Y:=HI.out.fr.l;rw[<-N]at Y;obtain⟨Af,cf,rfl⟩:=aZ Y;have U:=hid Y;have a8:=hid N;generalize xZ Ax x cx 1=A2 at *;generalize be:mx-x=m2 at *;generalize bl:cx-x=c2 at *;clear E au ak hx af a1 be bl Y N;go_upto_region 4 with fail;go_region_law(first|(go_simp;go_at_call 100;(with_reducible refine(DC.out _ nJ).mono ?_);rintro e w4 ⟨v4,rfl,ae,aw⟩;obtain⟨A4,c4,rfl⟩:=aZ ae;have z:aO wr w4:=eZ aw nJ;have q8:=(HI.out.step z).cell;simp only[List.length_cons,List.length_nil,Nat.zero_add,Nat.reduceAdd]at q8;have ab:Hid (w4.ownsRow w 28 1 (.slice Af fl cf) fl vals):=dZ U.out (fun y hy=>z.block y (Ae U.out y hy).2);have bG:=z.size;have q9:=((HI.out.step z).step (bZ (o:= .cells #[.slice A4 x c4] 28) (Ag w4 w4))).cell;simp only[List.length_cons,List.length_nil,Nat.zero_add,Nat.reduceAdd]at q9)|(refine NT rfl (.tmp 22) (.tmp 27) 59 rfl w 28 j0 _ 1 24 underlying59 a6 bk a3 bb rfl iX (.slice Af fl cf) fl vals kU (by first|exact ab.out.alloc _|exact(ab.out.alloc _).drew) _ 1 1 [.slice A4 x c4] kU (Src.of_blk (Blk.made_at _ _ _ mY) 1 1 1 rfl) kw nI kR ni ?_;intro A5 c5 w5 M aj;have b5:=((HI.out.step z).blk.alloc (.cells #[.slice A4 x c4] 28)).grown aj (Br (fZ U.out HI.out.blk az));have r8:=b5.cell 8;have s8:=b5.frozen 8;simp only[List.cons_append,List.nil_append,List.getElem?_toArray,List.getElem?_cons_zero,List.getElem?_cons_succ]at r8))
   all_goals
    have aQ:SpI w (w5.setCell ⟨gb,8,none⟩ (.slice A5 (fl+1) c5)) gb t [x0, .slice (some ⟨gv,0,none⟩) ns cs, .int .i64 (p:Nat), .int .i64 (q:Nat),x4,x5,x6,x7] post (.slice A5 (fl+1) c5) (vals++ [.slice A4 x c4]) (Bv (S.take fl) ls++ [pc]):=(HI.out.step z).add (iZ (by rw[bd.out];exact ae) (by simpa using zr)) (bZ (o:= .cells #[.slice A4 x c4] 28) (Ag w4 w4)) aj (by rw[<-a8.out];exact M);have bi:Hid (SpI w (w5.setCell ⟨gb,8,none⟩ (.slice A5 (fl+1) c5)) gb t [x0, .slice (some ⟨gv,0,none⟩) ns cs, .int .i64 (p:Nat), .int .i64 (q:Nat),x4,x5,x6,x7] post (.slice A5 (fl+1) c5) (vals++ [.slice A4 x c4]) (Bv (S.take (fl+1)) ls)):=(by show SpI _ _ _ _ _ _ _ _ _;rw[aV.out,<-a9.out,<-ai];exact aQ);clear aQ M aj b5 r8 s8 q8 q9 ae aw z ab HI c8 f8 DC U;generalize w5.setCell ⟨gb,8,none⟩ (.slice A5 (fl+1) c5)=w6 at *;go_wp2_with fail;go_roundw
    case measure=>exact jw
    case rel=>go_light;exact⟨fl+1,m2,c2,j+x,A2,Value.slice A5 (fl+1) c5,vals++ [Value.slice A4 x c4],kR,i5,rfl,bc,a4,ah.out,bm.out,aq.out,bi.out⟩
  ·obtain rfl:k=ns:=by omega
   have gk:=iR ((k:Int)<k);have ag:S.take k=S:=BR (by rw[HS.out];exact Ai _);have L:=J.out;rw[ag]at L;have aY:=HI.out.blk.cell 2;simp only[List.cons_append,List.nil_append,List.getElem?_toArray,List.getElem?_cons_zero,List.getElem?_cons_succ]at aY;have ac:p<=mx:=kR;have bf:=fun wx=>CX (P:=prog) (t:=28) (s:=1) underlying28 (fun _=>by kernel_rfl) Ax mx cx .i64 (p:Int) p rfl kR (fun a _=>rfl) wx;have aX:=fun wx=>EM (P:=prog) (t:=28) (s:=1) underlying28 (fun _=>by kernel_rfl) Ax mx cx .i64 (p:Int) p rfl ac wx;have aR:Hid (Row w base Ax p 1 (jZ .u8 ((ls.drop S.sum).take p))):=(by rw[<-L];exact Dd Q.out ac);have aW:Hid (Row w base (xZ Ax p cx 1) (mx-p) 1 (jZ .u8 (ls.drop (S.sum+p)))):=(by have h:=Cv Q.out ac an;rw[List.drop_drop,L]at h;exact h);have ar:ls.length-S.sum-p=mx-p:=lR;have a5:=hid ar;have G:Hid (SpI w wr gb t [x0, .slice As k cs, .int .i64 (p:Nat), .int .i64 (q:Nat),x4,x5,x6,x7] post vF vals (Bv S ls)):=(by have h:=HI.out;rw[ag]at h;exact h);have bj:p<=cx:=kR;have aU:mx-p<=cx-p:=kR;generalize xZ Ax p cx 1=A3 at *;generalize mx-p=m3 at *;generalize cx-p=c3 at *;clear HI ag L ar J;go_wp2_with fail;go_quiet (fail);go_wp2_with fail;go_ret2;unfold M4;rw[a5.out];exact⟨Ax,A3,cx,c3,vF,vals,rfl,bj,aU,aR.out,aW.out,⟨G.out.blk,⟨dZ G.out.fr.l (fun y _=>rfl),fun i v b hv hi=>dZ (G.out.fr.r i v b hv hi) (fun y _=>rfl)⟩,G.out.kept.drewN _,G.out.lt,G.out.t1,G.out.t2⟩⟩
end Body
namespace Idx
open Go.RowKit Mem Own Canon Sift
open NumPut Recs Crc Block
open Ef Nums
theorem Ql{n size:Nat}{ls:List Nat}(h8:∀x∈ls,x<=255):∀ (f at_ x:Nat) (i:List Nat),at_<=ls.length->(szR n size ls f at_ x i).2.1<=ls.length
 |0,_,_,_,h=>h
 |f+1,at_,x,i,h=>by
  unfold szR;split
  ·exact h
  ·split
   ·exact intA_le h8 0 h
   ·exact Ql h8 f _ _ _ (intA_le h8 0 h)
theorem Qa{size:Nat}{ls:List Nat}:∀ (ks:List Nat) (r at_:Nat) (i:List Str),at_<=ls.length->(bkR size ls ks r at_ i).2.1<=ls.length
 | [],_,_,_,h=>h
 |k :: ks,r,at_,i,h=>by
  unfold bkR;split
  ·exact Ba _
  ·split
   ·exact Ba _
   ·exact Qa ks _ _ _ (GL ls at_ 0 k h)
theorem PT{size:Nat}{ls:List Nat}:∀ (ks:List Nat) (r at_:Nat) (i:List Str),(bkR size ls ks r at_ i).1.length<=i.length+r
 | [],_,_,_=>Nat.le_add_right _ _
 |k :: ks,r,at_,i=>by
  unfold bkR;split
  ·exact Ba _
  ·split
   ·exact Ba _
   ·rename_i h;have h1:=Lb (AZ ls at_ 0 k) (min size r) true 0 i (Fm h);have h2:=PT (size:=size) (ls:=ls) ks (r-size) (takeA ls at_ 0 k) (Cp (AZ ls at_ 0 k) (min size r) true 0 i).1;omega
theorem Mc{size:Nat}{ls:List Nat}(h8:∀x∈ls,x<=255):(Ee size ls).2.1<=ls.length/\(Ee size ls).1.length<=1048576:=by
 have hv:zZ 1048576 ls 0 0<=1048576:=CI h8 0 0;have ha:nZ 1048576 ls 0 0<=ls.length:=intA_le h8 0 kR
 have hs:(FO size ls).2.1<=ls.length:=by
  unfold FO;split
  ·exact ha
  ·exact Ql h8 _ _ _ _ ha
 unfold Ee;split
 ·exact⟨Ba _,Ba _⟩
 ·have:=PT (size:=size) (ls:=ls) (FO size ls).1 (zZ 1048576 ls 0 0) (FO size ls).2.1 [];exact⟨Qa _ _ _ _ hs,by simp only[List.length_nil]at this;omega⟩
def ixF(ts:List Str)(L:List (List Nat)×Int):(List Str×List (List Nat))×Int:=if L.2≠0 then(([],[]),L.2)else((ts,L.1),0)
def ixR(size bound:Nat)(ls:List Nat):(List Str×List (List Nat))×Int:=
 if(Ee size ls).2.2≠0 then(([],[]),(Ee size ls).2.2)else ixF (Ee size ls).1 (lsR bound (ls.drop (Ee size ls).2.1) (Ee size ls).1.length 0 [])
def JI(w:World)(R:(List Str×List (List Nat))×Int)(e:Ending)(w':World):Prop:=
 ∃vT vL vals,e= .returned (.tuple #[.agg #[vT,vL],R.2])/\IxAt w' w vT vL vals R.1.1 R.1.2/\aO w w'
theorem Jr(w:World)(base:Nat):IxAt w base (.slice none 0 0) (.slice none 0 0) [] [] []:=⟨Aq _ _ _ _,Aq _ _ _ _,fun i v ids h=>by simp at h⟩
theorem IxAt.set{vT:Value}{ts:List Str}{ls:List (List Nat)}{cs:Array Value}(h:IxAt w base vT vL vals ts ls)(j:Blk w b 53 cs)(k:Nat)(u:Value):IxAt (w.setCell ⟨b,k,none⟩ u) base vT vL vals ts ls:=
 ⟨sZ h.t (fZ h.t j iX) _,sZ h.l (fZ h.l j iX) _,fun i v ids hv hi=>sZ (h.r i v ids hv hi) (fZ (h.r i v ids hv hi) j iX) _⟩
theorem PH(w:World)(A:Option Addr)(m c size bound:Nat)(ls:List Nat)(hm:ls.length=m)(aR:m<=100000)(h8:∀x∈ls,x<=255)(hc:m<=c)(U:A=none->m=0/\c=0)(ha:Row w w A m 1 (jZ .u8 ls))(ay:1<=size)(aQ:size<=64)(hb:bound<=20000):
 Calls prog 61 #[.int .i64 (size:Nat), .int .i64 (bound:Nat), .slice A m c] w (JI w (ixR size bound ls)):=by
 have an:Hid (∀wx,aO w wx->Row wx wx A m 1 (jZ .u8 ls)):=fun wx h=>(ha.below h).mono h.size;have D0:=hid (fun wx (h:aO w wx)=>T3 wx A m c size ls hm aR h8 U (an.out wx h) ay aQ);have aT:=iR ((bound:Int)<0)
 have aU:=iR ((20000:Int)<bound)
 have az:=iR (20000<bound)
 obtain⟨R,hR⟩:=iS (ixR size bound ls);rw[<-hR];unfold ixR at hR;obtain⟨ah,aS⟩:=Mc (size:=size) h8;generalize Ee size ls=T at *;obtain⟨ts,t1,te⟩:=T;simp only at hR ah aS;rw[hm]at ah;have al:=Cv (hm ▸ ha:Row w w A ls.length 1 (jZ .u8 ls)) (by omega:t1<=ls.length) (by omega:ls.length<=c);rw[hm]at al
 have aw:xZ A t1 c 1=none->m-t1=0/\c-t1=0:=fun h=>by
  have hA:A=none:=by
   unfold xZ at h;split at h
   ·exact h
   ·cases A with
    |none=>rfl
    |some x=>cases h
  have:=U hA;omega
 have ak:=hid (fun wx (hbx:aO w wx)=>Wx wx (xZ A t1 c 1) (m-t1) (c-t1) ts.length bound (ls.drop t1) (by rw[AK,hm]) kR (fun x hx=>h8 x (Be hx)) kR aw ((al.below hbx).mono hbx.size) hb kR);have ks:=fun wx=>EM (P:=prog) (t:=28) (s:=1) underlying28 (fun _=>by kernel_rfl) A m c .i64 (t1:Int) t1 rfl ah wx;generalize lsR bound (ls.drop t1) ts.length 0 []=L at *;generalize xZ A t1 c 1=A2 at *;obtain⟨lv,le⟩:=L;have HR:=hid hR;unfold JI;clear hR al aw ha h8 U hm an;go_enter func61,ntmps61;go_wp2_with fail;have af:aO w (w.alloc (.cells #[(),()] 53)):=bZ (Ag _ _);have au:Blk (w.alloc (.cells #[(),()] 53)) w 53 #[(),()]:=Blk.made _ _ _;have aV:(w.alloc (.cells #[(),()] 53)).heap.size=w.heap.size+1:=mY
 have D1:=hid (D0.out _ af);generalize w.alloc (.cells #[(),()] 53)=w1 at *;have ac:=hid af;have ag:=hid au;clear af au D0;refine D1.out.mono ?_;rintro e w2 ⟨N,M,ai⟩;have Z:Hid (aO w w2):=ac.out.trans (N.mono kR);have z:=hid (ag.out.step N);have z2:=N.size;have k0:=z.out.iO 0;have k1:=z.out.iO 1;have f0:=z.out.frozen 0;have f1:=z.out.frozen 1;by_cases ht:te=0
 ·subst ht;obtain⟨gd,sz,hs,vT,vH,rfl,hD⟩:=ai rfl;have HD:=hid hD;have hr:=HR.out;rw[Aa (show ¬((0:Int)≠0) from fun h=>h rfl)]at hr;have ar:=hid hr;have av:=hid (fun wx (hb:aO w2 wx)=>UI wx w1 gd sz ts hs vT vH (hD.keep (fun y _ hy=>hb.block y hy)));have ab:=hid (fun wx (hb:aO w2 wx)=>ak.out wx (Z.out.trans (hb.mono kR)));clear N M ai hD hr HR D1 ac ag ak;go_wp2_with fail;go_region_held3 (fun _=>True) (trivial) (first|(go_at_call 120;(with_reducible refine(av.out _ nJ).mono ?_);rintro e wA ⟨rfl,rfl⟩)|(go_at_call 119;(with_reducible refine(ab.out _ nJ).mono ?_);rintro e wB ⟨am,vB,vals,rfl,aa⟩;have BB:aO w2 wB:=(by have hq:=am;exact eZ hq nJ)))
  all_goals
   have ae:Hid (aO w wB):=Z.out.trans (BB.mono kR);have G:=hid (z.out.step BB);have zB:=BB.size;have Y:Hid (LsAt wB w2 vB vals lv):=aa;have aq:Hid (DAt wB w1 gd sz ts hs vT vH):=HD.out.keep (fun y _ hy=>BB.block y hy);obtain⟨Av,cv,rfl⟩:=aZ Y.out.l;have p0:=G.out.iO 0;have p1:=G.out.iO 1;have r0:=G.out.frozen 0;have r1:=G.out.frozen 1;clear am aa BB av ab HD z Z k0 k1 f0 f1;by_cases J:le=0
   ·subst J;have HF:Hid (R=((ts,lv),0)):=(by show _=_;rw[ar.out];exact Aa (fun h=>h rfl));have DA:=hid (Uu wB w1 gd sz ts hs vT vH aq.out kR);go_wp2_with fail;refine DA.out.mono ?_;rintro e w6 ⟨vt,rfl,aj,Q⟩;obtain⟨At,ct,rfl⟩:=aZ aj;have E:=hid (G.out.step Q);have ax:Hid (IxAt w6 w (.slice At ts.length ct) (.slice Av lv.length cv) vals ts lv):=⟨iZ aj kR,iZ (Y.out.step Q).l kR,fun i v ids hv hi=>iZ ((Y.out.step Q).r i v ids hv hi) kR⟩;have aP:Hid (aO w w6):=ae.out.trans (Q.mono kR);have q0:=E.out.iO 0;have q1:=E.out.iO 1;have s0:=E.out.frozen 0;have s1:=E.out.frozen 1;clear aj Q DA G Y aq ae p0 p1 r0 r1;go_wp2_with fail;rw[HF.out];refine AV (v:= .tuple #[.agg #[.slice At ts.length ct, .slice Av lv.length cv],iT]) ?_ rfl ⟨_,_,vals,rfl,?_,?_⟩
    ·have j:=(E.out.set 0 (.slice At ts.length ct)).set 1 (.slice Av lv.length cv);have e0:=j.cell 0;have e1:=j.cell 1;simp at e0 e1;simp[results,results61,go_sem,e0,e1]
    ·exact(ax.out.set E.out 0 _).set (E.out.set 0 _) 1 _
    ·exact kZ (Ai _) (kZ (Ai _) aP.out)
   ·have gE:(le != 0)=true:=(by simpa using J);have HF:Hid (R=(([],[]),le)):=(by show _=_;rw[ar.out];exact Ab J);clear J;go_wp2_with fail;rw[HF.out];refine AV (v:= .tuple #[.agg #[(),()],le]) ?_ rfl ⟨_,_,[],rfl,Jr _ _,?_⟩
    ·have j:=(G.out.set 0 (.slice none 0 0)).set 1 (.slice none 0 0);have e0:=j.cell 0;have e1:=j.cell 1;simp at e0 e1;simp[results,results61,go_sem,e0,e1]
    ·exact kZ (Ai _) (kZ (Ai _) ae.out)
 ·have he:=M ht;subst he;have gE:(te != 0)=true:=by simpa using ht
  have HF:Hid (R=(([],[]),te)):=by have h:=HR.out;rw[Ab ht]at h;exact h
  clear N M ai ht HR D1 ac ag ak;go_wp2_with fail;rw[HF.out];refine AV (v:= .tuple #[.agg #[(),()],te]) ?_ rfl ⟨_,_,[],rfl,Jr _ _,?_⟩
  ·have j:=(z.out.set 0 (.slice none 0 0)).set 1 (.slice none 0 0);have e0:=j.cell 0;have e1:=j.cell 1;simp at e0 e1;simp[results,results61,go_sem,e0,e1]
  ·exact kZ (Ai _) (kZ (Ai _) Z.out)
end Idx
end Go.Proofs.YtfgdoknipbpfhaaGreatDoor
