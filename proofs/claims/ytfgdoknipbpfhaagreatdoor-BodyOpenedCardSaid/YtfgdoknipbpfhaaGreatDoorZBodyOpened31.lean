/- The walks of post.li -/
import Derived.Test.YtfgdoknipbpfhaaGreatDoorZBodyOpened30
import Derived.Test.YtfgdoknipbpfhaaGreatDoorZBodyOpened28
namespace Go.Proofs.YtfgdoknipbpfhaaGreatDoor
open Go.Proofs.Tryz
open Go.Lib (hid)
set_option maxHeartbeats 4000000
set_option maxRecDepth 100000
variable{w w' w5:World}{b base:Nat}{u v5 vF vL:Value}{vals:List Value}{F j:List (List Nat)}
namespace Idx
open Go.RowKit Mem Own Canon Sift
open NumPut Recs Crc Block
open Ef
theorem jE(w:World)(base gd size:Nat)(ts hs:List Str)(vT vH:Value)(h:DAt w base gd size ts hs vT vH):
 Calls prog 120 #[.pointer (some ⟨gd,0,none⟩)] w fun e w'=>e= .returned (.int .i64 (ts.length:Nat))/\w'=w:=by
 have c0:=h.blk.ia 0;have ot:=h.ot;obtain⟨n,hn⟩:=ii ts.length;rw[<-hn]at ot ⊢;obtain⟨A,c,rfl⟩:=bZ ot;clear h ot hn;go_enter func120,ntmps120;go_wp2_with fail;go_ret;exact⟨rfl,rfl⟩
theorem iO(w:World)(base gd size:Nat)(ts hs:List Str)(vT vH:Value)(h:DAt w base gd size ts hs vT vH)(hl:ts.length<=3000000):
 Calls prog 121 #[.pointer (some ⟨gd,0,none⟩)] w fun e w'=>∃v,e= .returned v/\w'.ownsRow w 9 1 v ts.length (Bh ts)/\Below w w w':=by
 have c0:=h.blk.ia 0;have ot:=h.ot;obtain⟨n,hn⟩:=ii ts.length;rw[<-hn]at ot hl ⊢;obtain⟨A,c,rfl⟩:=bZ ot;have D:=hid (Wq w base A n c (Bh ts) hl ot (mT ts));clear h ot hn;go_enter func121,ntmps121;go_wp2_with fail;refine D.out.mono ?_;rintro e w1 ⟨v,rfl,ho,hb⟩;have HO:=hid ho;have HB:=hid hb;obtain⟨A1,c1,rfl⟩:=bZ ho;clear ho hb D;go_wp2_with fail;go_ret;exact⟨_,rfl,HO.out,HB.out⟩
def lsR(bound:Nat)(ls:List Nat):Nat->Nat->List (List Nat)->List (List Nat)×Int
 |0,at_,acc=>if at_<ls.length then([],2)else(acc,0)
 |k+1,at_,acc=>if(efR bound (ls.drop at_)).2.2≠0 then([],(efR bound (ls.drop at_)).2.2)else if(efR bound (ls.drop at_)).1.length=0 then([],2)else lsR bound ls k (at_+(efR bound (ls.drop at_)).2.1) (acc++ [(efR bound (ls.drop at_)).1])
structure LsAt (w:World) (base:Nat) (vL:Value) (vals:List Value) (acc:List (List Nat)):Prop where
 l:w.ownsRow base 37 1 vL acc.length vals
 r:∀ (i:Nat) v ids,vals[i]? =some v->acc[i]? =some ids->w.ownsRow base 3 1 v ids.length (cZ .i64 ids)
theorem LsAt.step(h:LsAt w base vL vals j)(hb:Below w w w'):LsAt w' base vL vals j:=
 ⟨eZ h.l fun y hy=>hb.block y (Am h.l y hy).2,fun i v ids hv hi=>eZ (h.r i v ids hv hi) fun y hy=>hb.block y (Am (h.r i v ids hv hi) y hy).2⟩
theorem LsAt.nil(w:World)(base:Nat):LsAt w base (.slice none 0 0) [] []:=⟨AK _ _ _ _,fun i v ids h=>pJ⟩
theorem LsAt.add{z:List Nat}(h:LsAt w base vL vals j)(hu:w.ownsRow base 3 1 u z.length (cZ .i64 z))(hg:w.grownBy w5 vL.ownBlock)(G:w5.ownsRow base 37 1 v5 (j.length+1) (vals++ [u])):LsAt w5 base v5 (vals++ [u]) (j++ [z]):=by
 have far:∀ {n:Nat} {v:Value} {xs:List Value},w.ownsRow base 3 1 v n xs->w5.ownsRow base 3 1 v n xs:=fun hv=>eZ hv fun y hy=>hg.block y (Am hv y hy).2 fun e2=>by
  rcases EZ h.l hv ip with e3|e3
  ·rw[e3]at e2;cases e2
  ·exact e3 (by rw[<-e2,hy])
 have E:vals.length=j.length:=by have:=h.l.1;omega
 refine⟨by rw[Aj];exact G,fun i v is hv hi=> ?_⟩;by_cases J:i<j.length
 ·rw[G1 mz]at hv;rw[G1 J]at hi;exact far (h.r i v is hv hi)
 ·rw[I4 mz]at hv;rw[I4 mz]at hi;have h0:i-j.length=0:=by have:=(CE.1 hi).1;simp at this;omega
  rw[E,h0]at hv;rw[h0]at hi;simp at hv hi;subst hv hi;exact far hu
theorem gR:(prog.info? 37).map (fun i=>(i.zero,i.size,i.bytes))=some (some (.slice none 0 0),1,24):=mr
def mY(w:World)(R:List (List Nat)×Int)(e:Ending)(w':World):Prop:=
 Below w w w'/\∃v vals,e= .returned (.tuple #[v,R.2])/\LsAt w' w v vals R.1
theorem l8(w:World)(A:Option Addr)(m c n bound:Nat)(ls:List Nat)(hm:ls.length=m)(bi:m<=100000)(h8:∀x∈ls,x<=255)(hc:m<=c)(ac:A=none->m=0/\c=0)(ha:Row w w A m 1 (jZ .u8 ls))(hb:bound<=20000)(hn:n<=1100000):
 Calls prog 119 #[.int .i64 (n:Nat), .int .i64 (bound:Nat), .slice A m c] w (mY w (lsR bound ls n 0 [])):=by
 obtain⟨j0,bg,bh,a5,a6⟩:=info_parts gR;obtain⟨R,hR⟩:=ii (lsR bound ls n 0 []);rw[<-hR];have az:Hid (lsR bound ls (n-0) 0 []=R):=hR.symm;have H8:=hid h8;have HM:=hid hm;have an:Hid (Row w w A m 1 (jZ .u8 (ls.drop 0))):=by show Row _ _ _ _ _ _;rw[Iy];exact ha
 have am:=hid ac;clear hm h8 ac ha hR;go_enter func119,ntmps119;go_wp2_with fail;go_loopw [2,8,13] (fun bv ov iv wr=>∃ (k at_ mx cx:Nat) (Ax:Option Addr) (E:List (List Nat)) (vals:List Value),k<=n/\iv= .int .i64 k/\bv= .slice Ax mx cx/\mx+at_=m/\mx<=cx/\Hid (Ax=none->mx=0/\cx=0)/\Hid (Row w w Ax mx 1 (jZ .u8 (ls.drop at_)))/\Hid (E.length=k)/\Hid (LsAt wr w ov vals E)/\Hid (Below w w wr)/\Hid (lsR bound ls (n-k) at_ E=R)) (fun _ _ iv _=>n-(intOf iv).toNat)
 case atStart=>exact⟨0,0,m,c,A,[],[],mz,rfl,rfl,mz,hc,am.out,an.out,rfl,LsAt.nil _ _,Ag _ _,az.out⟩
 case round=>
  obtain⟨k,at_,mx,cx,Ax,E,vals,hk,rfl,rfl,bk,ar,ay,av,HL,G,HB,HG⟩:=hrel;obtain⟨vo,co,rfl⟩:=bZ G.out.l;have zr:=HB.out.size;clear az an am;by_cases bj:k<n
  ·have gk:=ic ((k:Int)<n);have bl:=ic (k<n);have hG:=HG.out;rw[show n-k=(n-(k+1))+1 by omega,lsR]at hG;have ai:∀x∈ls.drop at_,x<=255:=fun x hx=>H8.out x (Cb hx);have M:(ls.drop at_).length=mx:=(by rw[AU,HM.out];omega);have DR:=V3 wr Ax mx cx bound (ls.drop at_) M mz ai ar ay.out ((av.out.below HB.out).mono zr) hb;have Z:=dA (bound:=bound) ai;rw[M]at Z;generalize efR bound (ls.drop at_)=T at *;obtain⟨N,t1,te⟩:=T;simp only at hG Z;unfold Mm at DR;simp only at DR;have Y:=hid hG;have DR:=hid DR;clear hG HG ai M;go_wp2_with fail;refine DR.out.mono ?_;rintro e w3 ⟨J,j,aa⟩;have Q:Hid (Below w w w3):=HB.out.trans (J.mono zr);by_cases ht:te=0
   ·subst ht;obtain⟨p,rfl,hp⟩:=aa rfl;have ae:=hid (G.out.step J);have DL:=hid (len_any w3 wr p N hp);have DA:=hid (j5 w3 wr p N hp);have hG:=Y.out;rw[Ab (show ¬((0:Int)≠0) from fun h=>h rfl)]at hG;obtain⟨L,hL⟩:=ii N.length;rw[<-hL]at DL DA hG;by_cases h0:L=0
    ·have gz:((L:Int)==0)=true:=(by rw[h0];rfl);have HF:Hid (R=([],2)):=(by rw[Ae h0]at hG;exact hG.symm);clear J j aa hp G HB DR hG Y h0 hL DA;go_wp2_with fail;refine DL.out.mono ?_;rintro e w4 ⟨rfl,rfl⟩;go_wp2_with fail;go_ret2;rw[HF.out];exact⟨Q.out,_,[],rfl,LsAt.nil _ _⟩
    ·have gz:((L:Int)==0)=false:=n8;rw[Ab h0]at hG;have a9:=hid hG;have a4:=hid hL;have ks:=fun wx=>Gc (P:=prog) (t:=28) (s:=1) underlying28 (fun _=>by kernel_rfl) Ax mx cx .i64 (t1:Int) t1 rfl Z wx;have ag:=Fe av.out Z ar;rw[List.drop_drop]at ag;have bd:Hid (Row w w (AW Ax t1 cx 1) (mx-t1) 1 (jZ .u8 (ls.drop (at_+t1)))):=ag
     have a0:Hid (AW Ax t1 cx 1=none->mx-t1=0/\cx-t1=0):=fun h=>by
      have hA:Ax=none:=by
       unfold AW at h;split at h
       ·exact h
       ·cases Ax with
        |none=>rfl
        |some x=>cases h
      have:=ay.out hA;omega
     have bc:mx-t1+(at_+t1)=m:=mz;have bb:mx-t1<=cx-t1:=mz;generalize AW Ax t1 cx 1=A2 at *;generalize a3:mx-t1=m2 at *;generalize bf:cx-t1=c2 at *;have au:=Q.out.size;clear J j aa hp G HB DR hG Y h0 hL ag a3 bf;go_wp2_with fail;refine DL.out.mono ?_;rintro e w4 ⟨rfl,rfl⟩;go_wp2_with fail;refine DA.out.mono ?_;rintro e w5 ⟨v5,rfl,al,ah⟩;have U:=hid (ae.out.step ah);have aj:Hid (Below w w w5):=Q.out.trans (ah.mono au);have aw:Hid (w5.ownsRow w 3 1 v5 L (cZ .i64 N)):=kZ al au;obtain⟨A5,c5,rfl⟩:=bZ al;have ba:=aj.out.size;have ak:Hid (w5.ownsRow w 37 1 (.slice vo E.length co) k vals):=(by have h:=U.out.l;rw[HL.out]at h ⊢;exact h);clear al ah DL DA ae Q;go_wp2_with(at_builtin;refine iZ rfl (.tmp 30) (.tmp 33) 51 rfl w 37 j0 _ 1 24 underlying51 bg bh a5 a6 rfl ip _ _ _ nc (ak.out.alloc _) _ 1 1 [.slice A5 L c5] nc (Src.of_blk (Blk.made_at _ _ _ pI) 1 1 1 rfl) mj qg mz pQ ?_;intro v7 w7 i af ax;obtain⟨A7,c7,rfl⟩:=bZ i);have ab:=(U.out.step (aZ (o:= .cells #[.slice A5 L c5] 37) (Ag w5 w5))).add (by rw[<-a4.out];exact aw.out.alloc _) af (by rw[HL.out];exact i);have aq:=hid ab;have be:Hid (Below w w w7):=(mZ ba aj.out).grown af pQ (fun y hy=>(Am ak.out y hy).1);clear i af ax ab ak aw U aj;go_roundw
     case measure=>exact jo
     case rel=>go_light;exact⟨k+1,at_+t1,m2,c2,A2,E++ [N],vals++ [Value.slice A5 L c5],mz,iu,rfl,bc,bb,a0.out,bd.out,py,aq.out,be.out,a9.out⟩
   ·have he:=j ht;subst he;have gE:(te != 0)=true:=(by simpa using ht);have HF:Hid (R=([],te)):=(by have h:=Y.out;rw[Ae ht]at h;exact h.symm);clear J j aa ht Y G HB DR;go_wp2_with fail;go_ret2;rw[HF.out];exact⟨Q.out,_,[],rfl,LsAt.nil _ _⟩
  ·obtain rfl:k=n:=by omega
   have gk:=ig ((k:Int)<k);have hG:=HG.out;rw[Gn,lsR]at hG;by_cases z:at_<ls.length
   ·rw[Ae z]at hG;have g0:decide ((0:Int)<(mx:Int))=true:=ln;have a1:decide (0<mx)=true:=ln;have HF:=hid hG.symm;clear hG HG z;go_wp2_with fail;go_ret2;rw[HF.out];exact⟨HB.out,_,[],rfl,LsAt.nil _ _⟩
   ·rw[Ab z]at hG;have g0:decide ((0:Int)<(mx:Int))=false:=ln;have a1:decide (0<mx)=false:=ln;have HF:=hid hG.symm;clear hG HG z;go_wp2_with fail;go_ret2;rw[HF.out];exact⟨HB.out,_,vals,rfl,G.out⟩
end Idx
namespace Body
open Go.RowKit Mem Own Canon Nums Crc
def Ds:List Nat->List Nat->List (List Nat)
 | [],_=> []
 |n :: S,ls=>ls.take n :: Ds S (ls.drop n)
theorem Ps:∀ (S ls:List Nat),(Ds S ls).length=S.length
 | [],_=>rfl
 |n :: S,ls=>by rw[Ds,AI,AI,Ps S]
theorem Ux:∀ (S:List Nat) (n:Nat) (ls:List Nat),Ds (S++ [n]) ls=Ds S ls++ [(ls.drop S.sum).take n]
 | [],n,ls=>by simp[Ds]
 |m :: S,n,ls=>by rw[Ec,Ds,Ux S n,Ds,List.drop_drop,GI];rfl
theorem cO{S:List Nat}{i n:Nat}(ls:List Nat)(h:S[i]? =some n):Ds (S.take (i+1)) ls=Ds (S.take i) ls++ [(ls.drop (S.take i).sum).take n]:=by rw[Cm,h];exact Ux _ _ _
structure FrAt (w:World) (base:Nat) (vF:Value) (vals:List Value) (F:List (List Nat)):Prop where
 l:w.ownsRow base 28 1 vF F.length vals
 r:∀ (i:Nat) v b,vals[i]? =some v->F[i]? =some b->w.ownsRow base 5 1 v b.length (cZ .u8 b)
theorem FrAt.step(h:FrAt w base vF vals F)(hb:Below w w w'):FrAt w' base vF vals F:=
 ⟨eZ h.l fun y hy=>hb.block y (Am h.l y hy).2,fun i v b hv hi=>eZ (h.r i v b hv hi) fun y hy=>hb.block y (Am (h.r i v b hv hi) y hy).2⟩
theorem FrAt.nil(w:World)(base:Nat):FrAt w base (.slice none 0 0) [] []:=⟨AK _ _ _ _,fun i v b h=>pJ⟩
theorem FrAt.set{t:TypeId}{cs:Array Value}(h:FrAt w base vF vals F)(j:Blk w b t cs)(h1:28≠t)(h2:5≠t)(k:Nat)(u:Value):FrAt (w.setCell ⟨b,k,none⟩ u) base vF vals F:=
 ⟨BZ h.l (gZ h.l j h1) _,fun i v ids hv hi=>BZ (h.r i v ids hv hi) (gZ (h.r i v ids hv hi) j h2) _⟩
theorem FrAt.mono{j:Nat}(h:FrAt w base vF vals F)(hb:j<=base):FrAt w j vF vals F:=
 ⟨kZ h.l hb,fun i v b hv hi=>kZ (h.r i v b hv hi) hb⟩
theorem FrAt.add{b:List Nat}(h:FrAt w base vF vals F)(hu:w.ownsRow base 5 1 u b.length (cZ .u8 b))(hg:w.grownBy w5 vF.ownBlock)(y:w5.ownsRow base 28 1 v5 (F.length+1) (vals++ [u])):FrAt w5 base v5 (vals++ [u]) (F++ [b]):=by
 have far:∀ {n:Nat} {v:Value} {xs:List Value},w.ownsRow base 5 1 v n xs->w5.ownsRow base 5 1 v n xs:=fun hv=>own_far hv h.l ip hg;have j:vals.length=F.length:=by have:=h.l.1;omega
 refine⟨by rw[Aj];exact y,fun i v is hv hi=> ?_⟩;by_cases z:i<F.length
 ·rw[G1 mz]at hv;rw[G1 z]at hi;exact far (h.r i v is hv hi)
 ·rw[I4 mz]at hv;rw[I4 mz]at hi;have h0:i-F.length=0:=by have:=(CE.1 hi).1;simp at this;omega
  rw[j,h0]at hv;rw[h0]at hi;simp at hv hi;subst hv hi;exact far hu
theorem fP:(prog.info? 28).map (fun i=>(i.zero,i.size,i.bytes))=some (some (.slice none 0 0),1,24):=mr
structure SpI (w wr:World) (gb:Nat) (t:TypeId) (pre post:List Value) (vF:Value) (vals:List Value) (F:List (List Nat)):Prop where
 blk:Blk wr gb t (pre++vF :: post).toArray
 fr:FrAt wr w vF vals F
 kept:Kept (fun x=>x<w.heap.size/\x≠gb) w wr
 lt:gb<w.heap.size
 t1:28≠t
 t2:5≠t
section
variable {w wr w1 w2 w3:World} {gb:Nat} {t:TypeId} {pre post:List Value} {vF v3 u:Value} {vals:List Value} {F:List (List Nat)} {b:List Nat}
theorem SpI.step(h:SpI w wr gb t pre post vF vals F)(hb:Below wr wr w1):SpI w w1 gb t pre post vF vals F:=
 have hz:=h.kept.size
 ⟨h.blk.step hb,h.fr.step hb,h.kept.trans (Kept.of_below hb (fun x hx=>by have:=hx.1;omega)),h.lt,h.t1,h.t2⟩
theorem SpI.cell(h:SpI w wr gb t pre post vF vals F):wr.cell? ⟨gb,pre.length,none⟩=some vF:=by rw[h.blk.cell pre.length];simp
theorem SpI.add(h:SpI w wr gb t pre post vF vals F)(hu:wr.ownsRow w 5 1 u b.length (cZ .u8 b))(hb:Below wr wr w1)(hg:w1.grownBy w3 vF.ownBlock)(i:w3.ownsRow w 28 1 v3 (F.length+1) (vals++ [u])):
 SpI w (w3.setCell ⟨gb,pre.length,none⟩ v3) gb t pre post v3 (vals++ [u]) (F++ [b]):=by
 have h1:=h.step hb;have b3:=h1.blk.grown hg (AZ (gZ h1.fr.l h1.blk h.t1));have j:w1.ownsRow w 5 1 u b.length (cZ .u8 b):=eZ hu (fun y hy=>hb.block y (Am hu y hy).2);have f3:=h1.fr.add j hg i;have hz:=h1.kept.size;refine⟨?_,f3.set b3 h.t1 h.t2 _ _,?_,h.lt,h.t1,h.t2⟩
 ·have hx:=b3.set pre.length v3;rw[Mp,List.set_append_right _ _ (Aq _),Gn]at hx;exact hx
 ·exact(h1.kept.grown hg (fun y hy=>by have:=hy.1;omega) (fun y hy hk=>by have:=(Am h1.fr.l y hy).1;have:=hk.1;omega)).set (fun hk=>hk.2 rfl) _
end
end Body
namespace Body
open Go.RowKit Mem Own Canon Nums Crc
theorem eJ{A:Option Addr}{m c k:Nat}(i:A=none->m=0/\c=0):AW A k c 1=none->m-k=0/\c-k=0:=fun h=>by
 have hA:A=none:=by
  unfold AW at h;split at h
  ·exact h
  ·cases A with
   |none=>rfl
   |some x=>cases h
 have:=i hA;omega
def Po(w:World)(base gb p:Nat)(t:TypeId)(pre post:List Value)(S ls:List Nat)(e:Ending)(w':World):Prop:=
 ∃ (A2 A3:Option Addr) (c2 c3:Nat) (vF:Value) (vals:List Value),e= .returned (.tuple #[.slice A2 p c2, .slice A3 (ls.length-S.sum-p) c3])/\
  p<=c2/\ls.length-S.sum-p<=c3/\Row w base A2 p 1 (jZ .u8 ((ls.drop S.sum).take p))/\Row w base A3 (ls.length-S.sum-p) 1 (jZ .u8 (ls.drop (S.sum+p)))/\
  SpI w w' gb t pre post vF vals (Ds S ls)
theorem lA(w:World)(gb base bs p q:Nat)(t:TypeId)(x0 x4 x5 x6 x7:Value)(post:List Value)(As A:Option Addr)(ns cs n c:Nat)(S ls:List Nat)(hB:Blk w gb t (x0 :: .slice As ns cs :: .int .i64 (p:Nat) :: .int .i64 (q:Nat) :: x4 :: x5 :: x6 :: x7 :: .slice none 0 0 :: post).toArray)
 (bm:3≠t)(an:28≠t)(bl:5≠t)(hS:S.length=ns)(ci:ns<=100000)(E:w.ownsRow bs 3 1 (.slice As ns cs) ns (cZ .i64 S))(hn:ls.length=n)(b9:n<=100000)(hc:n<=c)(h8:∀x∈ls,x<=255)(b7:S.sum+p<=n)
 (ha:Row w base A n 1 (jZ .u8 ls))(a9:base<=gb)(aa:A=none->n=0/\c=0):
 Calls prog 58 #[.pointer (some ⟨gb,0,none⟩), .slice A n c] w (Po w base gb p t [x0, .slice As ns cs, .int .i64 (p:Nat), .int .i64 (q:Nat),x4,x5,x6,x7] post S ls):=by
 obtain⟨j0,b3,b4,be,bf⟩:=info_parts fP;have a4:=hB.lt;have ab:Hid (SpI w w gb t [x0, .slice As ns cs, .int .i64 (p:Nat), .int .i64 (q:Nat),x4,x5,x6,x7] post (.slice none 0 0) [] []):=⟨hB,FrAt.nil _ _,Kept.refl _ _,a4,an,bl⟩;have c1:=hB.ia 1;have bN:Hid (∀k x,S[k]? =some x->(S.take (k+1)).sum=(S.take k).sum+x/\(S.take (k+1)).sum+p<=n):=fun k x h=>by have h1:=Vk h;have h2:=Lv S (k+1);exact⟨h1,mz⟩
 have HS:=hid hS;have aw:=hid E;have HN:=hid hn;have H8:=hid h8;have ca:=hid hB;have ar:Hid (Row w base A n 1 (jZ .u8 (ls.drop 0))):=by show Row _ _ _ _ _ _;rw[Iy];exact ha
 have aq:=hid aa;have bC:=hid (gZ E hB bm);clear hB hS E hn h8 ha aa;go_enter func58,ntmps58;go_wp2_with fail;go_loopw [1,14] (fun bv iv wr=>∃ (k mx cx j:Nat) (Ax:Option Addr) (vF:Value) (vals:List Value),k<=ns/\iv= .int .i64 k/\bv= .slice Ax mx cx/\mx+j=n/\mx<=cx/\Hid (j=(S.take k).sum)/\Hid (Row w base Ax mx 1 (jZ .u8 (ls.drop j)))/\Hid (Ax=none->mx=0/\cx=0)/\Hid (SpI w wr gb t [x0, .slice As ns cs, .int .i64 (p:Nat), .int .i64 (q:Nat),x4,x5,x6,x7] post vF vals (Ds (S.take k) ls))) (fun _ iv _=>ns-(intOf iv).toNat)
 case atStart=>exact⟨0,n,c,0,A,_,[],mz,rfl,rfl,mz,hc,rfl,ar.out,aq.out,ab.out⟩
 case round=>
  obtain⟨k,mx,cx,j,Ax,vF,vals,hk,rfl,rfl,ce,ay,M,U,a1,HI⟩:=hrel;have zr:=HI.out.kept.size;clear ab ar aq;by_cases bi:k<ns
  ·have gk:=ic ((k:Int)<ns);have cj:=ic (k<ns);obtain⟨x,hx⟩:∃x,S[k]? =some x:=⟨_,AD (by rw[HS.out];exact bi)⟩;obtain⟨ae,bq⟩:=bN.out k x hx;rw[<-M.out]at ae;have cc:x+p<=mx:=mz;have E:wr.ownsRow bs 3 1 (.slice As ns cs) ns (cZ .i64 S):=eZ aw.out (fun y hy=>HI.out.kept.block y ⟨(Am aw.out y hy).2,fun e=>bC.out (e ▸ hy)⟩);obtain⟨gv,cv,bx,b8,_⟩:=E.form mz;injection bx with q1 q2 q3;subst q1 q3;clear q2;have ck:wr.cell? ⟨gv,k,none⟩=some (.int .i64 (x:Nat)):=(by rw[E.cellAt k mz];unfold cZ;rw[BE,hx];rfl);have cl:(0:Int)<=(k:Int):=mz;have cd:(k:Int)<(ns:Int):=mz;have a0:Row wr base Ax mx 1 (jZ .u8 (ls.drop j)):=U.out.keep fun a ha=>World.cell?_of_block (a:=a) (HI.out.kept.block a.block ⟨by have:=HI.out.lt;omega,mz⟩);have au:Hid ((ls.drop j).length=mx):=(by show _=_;rw[AU,HN.out];omega);have b1:Hid ((ls.drop j).take x=(ls.drop (S.take k).sum).take x):=(by rw[M.out];rfl);have bp:=hid (cO ls hx);obtain⟨pc,ag⟩:=ii ((ls.drop j).take x);have ak:pc.length=x:=(by rw[ag,Bd,au.out];omega);have DC:=hid (fun wx (hb:Below wr wr wx)=>If wx Ax x cx pc ak mz (fun h=>by have:=a1.out h;omega) (((ag ▸ GC a0 (by omega:x<=mx):Row wr base Ax x 1 (jZ .u8 pc)).mono (by have:=HI.out.lt;omega)).below hb |>.mono hb.size));have bd:=fun wx=>FG (P:=prog) (t:=28) (s:=1) underlying28 (fun _=>by kernel_rfl) Ax mx cx .i64 (x:Int) x rfl mz (fun a _=>rfl) wx;have bc:=fun wx=>Gc (P:=prog) (t:=28) (s:=1) underlying28 (fun _=>by kernel_rfl) Ax mx cx .i64 (x:Int) x rfl mz wx;have bu:Hid (Row w base (AW Ax x cx 1) (mx-x) 1 (jZ .u8 (ls.drop (j+x)))):=(by have h:=Fe U.out (by omega:x<=mx) ay;rw[List.drop_drop]at h;exact h);have a3:=hid (eJ (k:=x) a1.out);have bt:mx-x+(j+x)=n:=mz;have bk:mx-x<=cx-x:=mz;have aj:Hid (j+x=(S.take (k+1)).sum):=ae.symm;have bS:=hid ak;have c8:=HI.out.cell;have f8:=HI.out.blk.frozen 8;simp only[List.length_cons,List.length_nil,Nat.zero_add,Nat.reduceAdd]at c8;obtain⟨fl,Q⟩:=ii ((Ds (S.take k) ls).length);have az:fl=k:=(by rw[Q,Ps,Bd,HS.out];omega);subst az;have Y:=HI.out.fr.l;rw[<-Q]at Y;obtain⟨Af,cf,rfl⟩:=bZ Y;have Z:=hid Y;have bg:=hid Q;generalize AW Ax x cx 1=A2 at *;generalize bb:mx-x=m2 at *;generalize b0:cx-x=c2 at *;clear E a0 ak hx ae bq bb b0 Y Q;go_upto_region 4 with fail;go_region_law(first|(go_simp;go_at_call 100;(with_reducible refine(DC.out _ qh).mono ?_);rintro e w4 ⟨v4,rfl,al,am⟩;obtain⟨A4,c4,rfl⟩:=bZ al;have z:Below wr wr w4:=dZ am qh;have q8:=(HI.out.step z).cell;simp only[List.length_cons,List.length_nil,Nat.zero_add,Nat.reduceAdd]at q8;have ai:Hid (w4.ownsRow w 28 1 (.slice Af fl cf) fl vals):=eZ Z.out (fun y hy=>z.block y (Am Z.out y hy).2);have cg:=z.size;have q9:=((HI.out.step z).step (aZ (o:= .cells #[.slice A4 x c4] 28) (Ag w4 w4))).cell;simp only[List.length_cons,List.length_nil,Nat.zero_add,Nat.reduceAdd]at q9)|(refine PV rfl (.tmp 22) (.tmp 27) 59 rfl w 28 j0 _ 1 24 underlying59 b3 b4 be bf rfl ip (.slice Af fl cf) fl vals nc (by first|exact ai.out.alloc _|exact(ai.out.alloc _).drew) _ 1 1 [.slice A4 x c4] nc (Src.of_blk (Blk.made_at _ _ _ pI) 1 1 1 rfl) mj qg mz pQ ?_;intro A5 c5 w5 N af;have b5:=((HI.out.step z).blk.alloc (.cells #[.slice A4 x c4] 28)).grown af (AZ (gZ Z.out HI.out.blk an));have r8:=b5.cell 8;have s8:=b5.frozen 8;simp only[List.cons_append,List.nil_append,List.getElem?_toArray,List.getElem?_cons_zero,List.getElem?_cons_succ]at r8))
   all_goals
    have av:SpI w (w5.setCell ⟨gb,8,none⟩ (.slice A5 (fl+1) c5)) gb t [x0, .slice (some ⟨gv,0,none⟩) ns cs, .int .i64 (p:Nat), .int .i64 (q:Nat),x4,x5,x6,x7] post (.slice A5 (fl+1) c5) (vals++ [.slice A4 x c4]) (Ds (S.take fl) ls++ [pc]):=(HI.out.step z).add (kZ (by rw[bS.out];exact al) (by simpa using zr)) (aZ (o:= .cells #[.slice A4 x c4] 28) (Ag w4 w4)) af (by rw[<-bg.out];exact N);have bn:Hid (SpI w (w5.setCell ⟨gb,8,none⟩ (.slice A5 (fl+1) c5)) gb t [x0, .slice (some ⟨gv,0,none⟩) ns cs, .int .i64 (p:Nat), .int .i64 (q:Nat),x4,x5,x6,x7] post (.slice A5 (fl+1) c5) (vals++ [.slice A4 x c4]) (Ds (S.take (fl+1)) ls)):=(by show SpI _ _ _ _ _ _ _ _ _;rw[bp.out,<-b1.out,<-ag];exact av);clear av N af b5 r8 s8 q8 q9 al am z ai HI c8 f8 DC Z;generalize w5.setCell ⟨gb,8,none⟩ (.slice A5 (fl+1) c5)=w6 at *;go_wp2_with fail;go_roundw
    case measure=>exact jo
    case rel=>go_light;exact⟨fl+1,m2,c2,j+x,A2,Value.slice A5 (fl+1) c5,vals++ [Value.slice A4 x c4],mz,iu,rfl,bt,bk,aj.out,bu.out,a3.out,bn.out⟩
  ·obtain rfl:k=ns:=by omega
   have gk:=ig ((k:Int)<k);have ac:S.take k=S:=BV (by rw[HS.out];exact Aq _);have J:=M.out;rw[ac]at J;have a5:=HI.out.blk.cell 2;simp only[List.cons_append,List.nil_append,List.getElem?_toArray,List.getElem?_cons_zero,List.getElem?_cons_succ]at a5;have ah:p<=mx:=mz;have bd:=fun wx=>FG (P:=prog) (t:=28) (s:=1) underlying28 (fun _=>by kernel_rfl) Ax mx cx .i64 (p:Int) p rfl mz (fun a _=>rfl) wx;have bc:=fun wx=>Gc (P:=prog) (t:=28) (s:=1) underlying28 (fun _=>by kernel_rfl) Ax mx cx .i64 (p:Int) p rfl ah wx;have bh:Hid (Row w base Ax p 1 (jZ .u8 ((ls.drop S.sum).take p))):=(by rw[<-J];exact GC U.out ah);have b6:Hid (Row w base (AW Ax p cx 1) (mx-p) 1 (jZ .u8 (ls.drop (S.sum+p)))):=(by have h:=Fe U.out ah ay;rw[List.drop_drop,J]at h;exact h);have ax:ls.length-S.sum-p=mx-p:=ou;have bj:=hid ax;have G:Hid (SpI w wr gb t [x0, .slice As k cs, .int .i64 (p:Nat), .int .i64 (q:Nat),x4,x5,x6,x7] post vF vals (Ds S ls)):=(by have h:=HI.out;rw[ac]at h;exact h);have a6:p<=cx:=mz;have ba:mx-p<=cx-p:=mz;generalize AW Ax p cx 1=A3 at *;generalize mx-p=m3 at *;generalize cx-p=c3 at *;clear HI ac J ax M;go_wp2_with fail;go_quiet (fail);go_wp2_with fail;go_ret2;unfold Po;rw[bj.out];exact⟨Ax,A3,cx,c3,vF,vals,rfl,a6,ba,bh.out,b6.out,⟨G.out.blk,⟨eZ G.out.fr.l (fun y _=>rfl),fun i v b hv hi=>eZ (G.out.fr.r i v b hv hi) (fun y _=>rfl)⟩,G.out.kept.drewN _,G.out.lt,G.out.t1,G.out.t2⟩⟩
end Body
namespace Idx
open Go.RowKit Mem Own Canon Sift
open NumPut Recs Crc Block
open Ef Nums
theorem Vg{n size:Nat}{ls:List Nat}(h8:∀x∈ls,x<=255):∀ (f at_ x:Nat) (i:List Nat),at_<=ls.length->(szR n size ls f at_ x i).2.1<=ls.length
 |0,_,_,_,h=>h
 |f+1,at_,x,i,h=>by
  unfold szR;split
  ·exact h
  ·split
   ·exact intA_le h8 0 h
   ·exact Vg h8 f _ _ _ (intA_le h8 0 h)
theorem U5{size:Nat}{ls:List Nat}:∀ (ks:List Nat) (r at_:Nat) (i:List Str),at_<=ls.length->(bkR size ls ks r at_ i).2.1<=ls.length
 | [],_,_,_,h=>h
 |k :: ks,r,at_,i,h=>by
  unfold bkR;split
  ·exact Cr _
  ·split
   ·exact Cr _
   ·exact U5 ks _ _ _ (zW ls at_ 0 k h)
theorem R7{size:Nat}{ls:List Nat}:∀ (ks:List Nat) (r at_:Nat) (i:List Str),(bkR size ls ks r at_ i).1.length<=i.length+r
 | [],_,_,_=>Nat.le_add_right _ _
 |k :: ks,r,at_,i=>by
  unfold bkR;split
  ·exact Cr _
  ·split
   ·exact Cr _
   ·rename_i h;have h1:=Nn (Bx ls at_ 0 k) (min size r) true 0 i (LC h);have h2:=R7 (size:=size) (ls:=ls) ks (r-size) (takeA ls at_ 0 k) (CU (Bx ls at_ 0 k) (min size r) true 0 i).1;omega
theorem dH{size:Nat}{ls:List Nat}(h8:∀x∈ls,x<=255):(FK size ls).2.1<=ls.length/\(FK size ls).1.length<=1048576:=by
 have hv:Ba 1048576 ls 0 0<=1048576:=Gb h8 0 0;have ha:AM 1048576 ls 0 0<=ls.length:=intA_le h8 0 mz
 have hs:(Gz size ls).2.1<=ls.length:=by
  unfold Gz;split
  ·exact ha
  ·exact Vg h8 _ _ _ _ ha
 unfold FK;split
 ·exact⟨Cr _,Cr _⟩
 ·have:=R7 (size:=size) (ls:=ls) (Gz size ls).1 (Ba 1048576 ls 0 0) (Gz size ls).2.1 [];exact⟨U5 _ _ _ _ hs,by simp only[List.length_nil]at this;omega⟩
def ixF(ts:List Str)(L:List (List Nat)×Int):(List Str×List (List Nat))×Int:=if L.2≠0 then(([],[]),L.2)else((ts,L.1),0)
def ixR(size bound:Nat)(ls:List Nat):(List Str×List (List Nat))×Int:=
 if(FK size ls).2.2≠0 then(([],[]),(FK size ls).2.2)else ixF (FK size ls).1 (lsR bound (ls.drop (FK size ls).2.1) (FK size ls).1.length 0 [])
def Qg(w:World)(R:(List Str×List (List Nat))×Int)(e:Ending)(w':World):Prop:=
 ∃vT vL vals,e= .returned (.tuple #[.agg #[vT,vL],R.2])/\IxAt w' w vT vL vals R.1.1 R.1.2/\Below w w w'
theorem TN(w:World)(base:Nat):IxAt w base (.slice none 0 0) (.slice none 0 0) [] [] []:=⟨AK _ _ _ _,AK _ _ _ _,fun i v ids h=>pJ⟩
theorem IxAt.set{vT:Value}{ts:List Str}{ls:List (List Nat)}{cs:Array Value}(h:IxAt w base vT vL vals ts ls)(j:Blk w b 53 cs)(k:Nat)(u:Value):IxAt (w.setCell ⟨b,k,none⟩ u) base vT vL vals ts ls:=
 ⟨BZ h.t (gZ h.t j ip) _,BZ h.l (gZ h.l j ip) _,fun i v ids hv hi=>BZ (h.r i v ids hv hi) (gZ (h.r i v ids hv hi) j ip) _⟩
theorem Qr(w:World)(A:Option Addr)(m c size bound:Nat)(ls:List Nat)(hm:ls.length=m)(ay:m<=100000)(h8:∀x∈ls,x<=255)(hc:m<=c)(Q:A=none->m=0/\c=0)(ha:Row w w A m 1 (jZ .u8 ls))(az:1<=size)(a0:size<=64)(hb:bound<=20000):
 Calls prog 61 #[.int .i64 (size:Nat), .int .i64 (bound:Nat), .slice A m c] w (Qg w (ixR size bound ls)):=by
 have ar:Hid (∀wx,Below w w wx->Row wx wx A m 1 (jZ .u8 ls)):=fun wx h=>(ha.below h).mono h.size;have D0:=hid (fun wx (h:Below w w wx)=>bG wx A m c size ls hm ay h8 Q (ar.out wx h) az a0);have a5:=ig ((bound:Int)<0)
 have a6:=ig ((20000:Int)<bound)
 have ax:=ig (20000<bound)
 obtain⟨R,hR⟩:=ii (ixR size bound ls);rw[<-hR];unfold ixR at hR;obtain⟨al,a4⟩:=dH (size:=size) h8;generalize FK size ls=T at *;obtain⟨ts,t1,te⟩:=T;simp only at hR al a4;rw[hm]at al;have ah:=Fe (hm ▸ ha:Row w w A ls.length 1 (jZ .u8 ls)) (by omega:t1<=ls.length) (by omega:ls.length<=c);rw[hm]at ah
 have au:AW A t1 c 1=none->m-t1=0/\c-t1=0:=fun h=>by
  have hA:A=none:=by
   unfold AW at h;split at h
   ·exact h
   ·cases A with
    |none=>rfl
    |some x=>cases h
  have:=Q hA;omega
 have aj:=hid (fun wx (hbx:Below w w wx)=>l8 wx (AW A t1 c 1) (m-t1) (c-t1) ts.length bound (ls.drop t1) (by rw[AU,hm]) mz (fun x hx=>h8 x (Cb hx)) mz au ((ah.below hbx).mono hbx.size) hb mz);have ks:=fun wx=>Gc (P:=prog) (t:=28) (s:=1) underlying28 (fun _=>by kernel_rfl) A m c .i64 (t1:Int) t1 rfl al wx;generalize lsR bound (ls.drop t1) ts.length 0 []=L at *;generalize AW A t1 c 1=A2 at *;obtain⟨lv,le⟩:=L;have HR:=hid hR;unfold Qg;clear hR ah au ha h8 Q hm ar;go_enter func61,ntmps61;go_wp2_with fail;have ac:Below w w (w.alloc (.cells #[(),()] 53)):=aZ (Ag _ _);have av:Blk (w.alloc (.cells #[(),()] 53)) w 53 #[(),()]:=Blk.made _ _ _;have a9:(w.alloc (.cells #[(),()] 53)).heap.size=w.heap.size+1:=pI
 have D1:=hid (D0.out _ ac);generalize w.alloc (.cells #[(),()] 53)=w1 at *;have ag:=hid ac;have ae:=hid av;clear ac av D0;refine D1.out.mono ?_;rintro e w2 ⟨M,N,ak⟩;have Y:Hid (Below w w w2):=ag.out.trans (M.mono mz);have G:=hid (ae.out.step M);have z2:=M.size;have k0:=G.out.ia 0;have k1:=G.out.ia 1;have f0:=G.out.frozen 0;have f1:=G.out.frozen 1;by_cases ht:te=0
 ·subst ht;obtain⟨gd,sz,hs,vT,vH,rfl,hD⟩:=ak rfl;have HD:=hid hD;have hr:=HR.out;rw[Ab (show ¬((0:Int)≠0) from fun h=>h rfl)]at hr;have aw:=hid hr;have an:=hid (fun wx (hb:Below w2 w2 wx)=>jE wx w1 gd sz ts hs vT vH (hD.keep (fun y _ hy=>hb.block y hy)));have ab:=hid (fun wx (hb:Below w2 w2 wx)=>aj.out wx (Y.out.trans (hb.mono mz)));clear M N ak hD hr HR D1 ag ae aj;go_wp2_with fail;go_region_held3 (fun _=>True) (trivial) (first|(go_at_call 120;(with_reducible refine(an.out _ qh).mono ?_);rintro e wA ⟨rfl,rfl⟩)|(go_at_call 119;(with_reducible refine(ab.out _ qh).mono ?_);rintro e wB ⟨aq,vB,vals,rfl,aa⟩;have BB:Below w2 w2 wB:=(by have hq:=aq;exact dZ hq qh)))
  all_goals
   have ai:Hid (Below w w wB):=Y.out.trans (BB.mono mz);have E:=hid (G.out.step BB);have zB:=BB.size;have Z:Hid (LsAt wB w2 vB vals lv):=aa;have am:Hid (DAt wB w1 gd sz ts hs vT vH):=HD.out.keep (fun y _ hy=>BB.block y hy);obtain⟨Av,cv,rfl⟩:=bZ Z.out.l;have p0:=E.out.ia 0;have p1:=E.out.ia 1;have r0:=E.out.frozen 0;have r1:=E.out.frozen 1;clear aq aa BB an ab HD G Y k0 k1 f0 f1;by_cases J:le=0
   ·subst J;have HF:Hid (R=((ts,lv),0)):=(by show _=_;rw[aw.out];exact Ab (fun h=>h rfl));have DA:=hid (iO wB w1 gd sz ts hs vT vH am.out mz);go_wp2_with fail;refine DA.out.mono ?_;rintro e w6 ⟨vt,rfl,af,U⟩;obtain⟨At,ct,rfl⟩:=bZ af;have z:=hid (E.out.step U);have a1:Hid (IxAt w6 w (.slice At ts.length ct) (.slice Av lv.length cv) vals ts lv):=⟨kZ af mz,kZ (Z.out.step U).l mz,fun i v ids hv hi=>kZ ((Z.out.step U).r i v ids hv hi) mz⟩;have a3:Hid (Below w w w6):=ai.out.trans (U.mono mz);have q0:=z.out.ia 0;have q1:=z.out.ia 1;have s0:=z.out.frozen 0;have s1:=z.out.frozen 1;clear af U DA E Z am ai p0 p1 r0 r1;go_wp2_with fail;rw[HF.out];refine CI (v:= .tuple #[.agg #[.slice At ts.length ct, .slice Av lv.length cv],ij]) ?_ rfl ⟨_,_,vals,rfl,?_,?_⟩
    ·have j:=(z.out.set 0 (.slice At ts.length ct)).set 1 (.slice Av lv.length cv);have e0:=j.cell 0;have e1:=j.cell 1;simp at e0 e1;simp[results,results61,go_sem,e0,e1]
    ·exact(a1.out.set z.out 0 _).set (z.out.set 0 _) 1 _
    ·exact B4 (Aq _) (B4 (Aq _) a3.out)
   ·have gE:(le != 0)=true:=(by simpa using J);have HF:Hid (R=(([],[]),le)):=(by show _=_;rw[aw.out];exact Ae J);clear J;go_wp2_with fail;rw[HF.out];refine CI (v:= .tuple #[.agg #[(),()],le]) ?_ rfl ⟨_,_,[],rfl,TN _ _,?_⟩
    ·have j:=(E.out.set 0 (.slice none 0 0)).set 1 (.slice none 0 0);have e0:=j.cell 0;have e1:=j.cell 1;simp at e0 e1;simp[results,results61,go_sem,e0,e1]
    ·exact B4 (Aq _) (B4 (Aq _) ai.out)
 ·have he:=N ht;subst he;have gE:(te != 0)=true:=by simpa using ht
  have HF:Hid (R=(([],[]),te)):=by have h:=HR.out;rw[Ae ht]at h;exact h
  clear M N ak ht HR D1 ag ae aj;go_wp2_with fail;rw[HF.out];refine CI (v:= .tuple #[.agg #[(),()],te]) ?_ rfl ⟨_,_,[],rfl,TN _ _,?_⟩
  ·have j:=(G.out.set 0 (.slice none 0 0)).set 1 (.slice none 0 0);have e0:=j.cell 0;have e1:=j.cell 1;simp at e0 e1;simp[results,results61,go_sem,e0,e1]
  ·exact B4 (Aq _) (B4 (Aq _) Y.out)
end Idx
namespace Body
open Go.RowKit Mem Own Canon
def Cu(K:List Bool)(n:Nat):List Nat:=(List.range n).filter fun k=>K.getD k false
theorem Um(K:List Bool)(n:Nat):Cu K (n+1)=Cu K n++(if K.getD n false=true then [n]else []):=by unfold Cu;rw[GJ,List.filter_append];congr 1;simp[List.filter_cons]
theorem bJ(w:World)(gb base n c:Nat)(A:Option Addr)(K:List Bool)(hc:w.cell? ⟨gb,9,none⟩=some (.slice A n c))(hN:n<=1000000)(hK:K.length=n)(ho:w.ownsRow base 4 1 (.slice A n c) n (K.map Value.bool)):
 Calls prog 36 #[.pointer (some ⟨gb,0,none⟩)] w fun e w'=>∃v,e= .returned v/\w'.ownsRow w 3 1 v (Cu K n).length (cZ .i64 (Cu K n))/\Below w w w':=by
 obtain⟨j0,aa,ac,Y,Z⟩:=info_parts Ef.Px;have HO:=hid ho;have HK:=hid hK;clear ho hK;go_enter func36,ntmps36;go_wp2_with fail;go_loopw [3,13] (fun ov iv wr=>∃ (i m:Nat),i<=n/\m<=i/\iv= .int .i64 i/\Hid ((Cu K i).length=m)/\Hid (wr.ownsRow w 3 1 ov m (cZ .i64 (Cu K i)))/\Hid (Below w w wr)) (fun _ iv _=>n-(intOf iv).toNat)
 case atStart=>exact⟨0,0,mz,mz,rfl,rfl,AK _ _ _ _,Ag _ _⟩
 case round=>
  obtain⟨i,m,hi,hm,rfl,HM,HV,HB⟩:=hrel;obtain⟨va,vc,rfl⟩:=bZ HV.out;have zr:=HB.out.size;by_cases N:i<n
  ·have gi:=ic ((i:Int)<n);have af:=ic (i<n);have z:wr.ownsRow base 4 1 (.slice A n c) n (K.map Value.bool):=eZ HO.out fun y hy=>HB.out.block y (Am HO.out y hy).2;obtain⟨gv,cv,Q,ae,_⟩:=z.form mz;injection Q with q1 q2 q3;subst q1 q3;obtain⟨b,hb⟩:∃b,K[i]? =some b:=⟨_,AD (by rw[HK.out];exact N)⟩;have ck:wr.cell? ⟨gv,i,none⟩=some (.bool b):=(by rw[z.cellAt i mz,BE,hb];rfl);have G:K.getD i false=b:=(by rw[Ar,hb];rfl);have HS:Hid (Cu K (i+1)=Cu K i++(if b=true then [i]else [])):=(by show _=_;rw[Um,G]);have x0:(0:Int)<=(i:Int):=mz;have x1:(i:Int)<(n:Int):=mz;clear q2 hb G z;cases b with
   |true=>
    have j:Hid (Cu K (i+1)=Cu K i++ [i]):=HS.out;clear HS;go_wp2_with(at_builtin;refine iZ rfl (.tmp 19) (.tmp 21) 37 rfl w 3 j0 _ 1 8 underlying37 aa ac Y Z rfl ip _ _ _ nc (HV.out.alloc _) _ 1 1 [.int .i64 (i:Nat)] nc (Src.of_blk (Blk.made_at _ _ _ pI) 1 1 1 rfl) mj qg mz pQ ?_;intro v5 w5 h J E;obtain⟨A5,c5,rfl⟩:=bZ h);have M:Hid (Below w w w5):=(mZ zr HB.out).grown J pQ (fun y hy=>(Am HV.out y hy).1);have U:Hid (w5.ownsRow w 3 1 (.slice A5 (m+1) c5) (m+1) (cZ .i64 (Cu K (i+1)))):=(by show World.ownsRow _ _ _ _ _ _ _;rw[j.out,show cZ .i64 (Cu K i++ [i])=cZ .i64 (Cu K i)++ [.int .i64 (i:Nat)] by simp[cZ]];exact h);have ab:Hid ((Cu K (i+1)).length=m+1):=(by show _=_;rw[j.out,Aj,HM.out];rfl);clear h J E j;go_roundw
    case measure=>exact jo
    case rel=>go_light;exact⟨i+1,m+1,mz,mz,iu,ab.out,U.out,M.out⟩
   |false=>
    have j:Hid (Cu K (i+1)=Cu K i):=(by show _=_;rw[HS.out];simp);clear HS;go_wp2_with fail;go_roundw
    case measure=>exact jo
    case rel=>go_light;exact⟨i+1,m,mz,mz,iu,by show _=_;rw[j.out];exact HM.out,by show World.ownsRow _ _ _ _ _ _ _;rw[j.out];exact HV.out,HB.out⟩
  ·obtain rfl:i=n:=by omega
   have gi:=ig ((i:Int)<i);go_wp2_with fail;go_ret;exact⟨_,rfl,by rw[HM.out];exact HV.out,HB.out⟩
end Body
end Go.Proofs.YtfgdoknipbpfhaaGreatDoor
