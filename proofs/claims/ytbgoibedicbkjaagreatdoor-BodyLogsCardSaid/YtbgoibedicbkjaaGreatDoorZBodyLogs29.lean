/- The walks of post.li -/
import Derived.Test.YtbgoibedicbkjaaGreatDoorZBodyLogs28
import Derived.Test.YtbgoibedicbkjaaGreatDoorZBodyLogs24
namespace Go.Proofs.YtbgoibedicbkjaaGreatDoor
open Go.Lib (hid)
set_option maxHeartbeats 4000000
set_option maxRecDepth 100000
namespace Idx
open Go.RowKit Mem Own Canon Sift
open NumPut Recs Go.Proofs.YtbgoibedicbkjaaGreatDoor Crc Block
open Ef
theorem VX(w:World)(base gd size:Nat)(ts hs:List Str)(vT vH:Value)(h:DAt w base gd size ts hs vT vH):
 Calls Tryz.prog 116 #[.pointer (some ⟨gd,0,none⟩)] w fun e w'=>e= .returned (.int .i64 (ts.length:Nat))/\w'=w:=by
 have c0:=h.blk.cell 0;have ot:=h.ot;obtain⟨n,hn⟩:∃n,n=ts.length:=⟨_,rfl⟩;rw[<-hn]at ot ⊢;obtain⟨A,c,rfl⟩:=aZ ot;simp only[List.getElem?_toArray,List.getElem?_cons_zero]at c0;clear h ot hn;go_enter Tryz.func116,Tryz.ntmps116;go_wp2_with fail;go_ret;exact⟨rfl,rfl⟩
theorem VH(w:World)(base gd size:Nat)(ts hs:List Str)(vT vH:Value)(h:DAt w base gd size ts hs vT vH)(hl:ts.length<=3000000):
 Calls Tryz.prog 117 #[.pointer (some ⟨gd,0,none⟩)] w fun e w'=>∃v,e= .returned v/\w'.ownsRow w.heap.size 9 1 v ts.length (tZ ts)/\Below w.heap.size w w':=by
 have c0:=h.blk.cell 0;have ot:=h.ot;obtain⟨n,hn⟩:∃n,n=ts.length:=⟨_,rfl⟩;rw[<-hn]at ot hl ⊢;obtain⟨A,c,rfl⟩:=aZ ot;simp only[List.getElem?_toArray,List.getElem?_cons_zero]at c0;have D:=hid (T5 w base A n c (tZ ts) hl ot (JD ts));clear h ot hn;go_enter Tryz.func117,Tryz.ntmps117;go_wp2_with fail;refine D.out.mono ?_;rintro e w1 ⟨v,rfl,ho,hb⟩;have HO:=hid ho;have HB:=hid hb;obtain⟨A1,c1,rfl⟩:=aZ ho;clear ho hb D;go_wp2_with fail;go_ret;exact⟨_,rfl,HO.out,HB.out⟩
def lsR(bound:Nat)(ls:List Nat):Nat->Nat->List (List Nat)->List (List Nat)×Int
 |0,at_,acc=>if at_<ls.length then([],2)else(acc,0)
 |k+1,at_,acc=>if(efR bound (ls.drop at_)).2.2≠0 then([],(efR bound (ls.drop at_)).2.2)else if(efR bound (ls.drop at_)).1.length=0 then([],2)else lsR bound ls k (at_+(efR bound (ls.drop at_)).2.1) (acc++ [(efR bound (ls.drop at_)).1])
structure LsAt (w:World) (base:Nat) (vL:Value) (vals:List Value) (acc:List (List Nat)):Prop where
 l:w.ownsRow base 30 1 vL acc.length vals
 r:∀ (i:Nat) v ids,vals[i]? =some v->acc[i]? =some ids->w.ownsRow base 3 1 v ids.length (cZ .i64 ids)
theorem LsAt.step{w w':World}{base:Nat}{vL:Value}{vals:List Value}{j:List (List Nat)}(h:LsAt w base vL vals j)(hb:Below w.heap.size w w'):LsAt w' base vL vals j:=
 ⟨dZ h.l fun y hy=>hb.block y (Ae h.l y hy).2,fun i v ids hv hi=>dZ (h.r i v ids hv hi) fun y hy=>hb.block y (Ae (h.r i v ids hv hi) y hy).2⟩
theorem LsAt.nil(w:World)(base:Nat):LsAt w base (.slice none 0 0) [] []:=⟨Am _ _ _ _,fun i v ids h=>by simp at h⟩
theorem LsAt.add{w w5:World}{base:Nat}{vL v5 u:Value}{vals:List Value}{j:List (List Nat)}{z:List Nat}(h:LsAt w base vL vals j)(hu:w.ownsRow base 3 1 u z.length (cZ .i64 z))(hg:w.grownBy w5 vL.ownBlock)(G:w5.ownsRow base 30 1 v5 (j.length+1) (vals++ [u])):LsAt w5 base v5 (vals++ [u]) (j++ [z]):=by
 have far:∀ {n:Nat} {v:Value} {xs:List Value},w.ownsRow base 3 1 v n xs->w5.ownsRow base 3 1 v n xs:=fun hv=>dZ hv fun y hy=>hg.block y (Ae hv y hy).2 fun e2=>by
  rcases EJ h.l hv (by decide)with e3|e3
  ·rw[e3]at e2;cases e2
  ·exact e3 (by rw[<-e2,hy])
 have E:vals.length=j.length:=by have:=h.l.1;omega
 refine⟨by rw[Ai];exact G,fun i v is hv hi=> ?_⟩;by_cases J:i<j.length
 ·rw[GT (by omega)]at hv;rw[GT J]at hi;exact far (h.r i v is hv hi)
 ·rw[Jp (by omega)]at hv;rw[Jp (by omega)]at hi;have h0:i-j.length=0:=by have:=(BO.1 hi).1;simp at this;omega
  rw[E,h0]at hv;rw[h0]at hi;simp at hv hi;subst hv hi;exact far hu
theorem ON:(Tryz.prog.info? 30).map (fun i=>(i.zero,i.size,i.bytes))=some (some (.slice none 0 0),1,24):=by kernel_rfl
def Wh(w:World)(R:List (List Nat)×Int)(e:Ending)(w':World):Prop:=
 Below w.heap.size w w'/\∃v vals,e= .returned (.tuple #[v, .int .i64 R.2])/\LsAt w' w.heap.size v vals R.1
theorem V1(w:World)(A:Option Addr)(m c n bound:Nat)(ls:List Nat)(hm:ls.length=m)(aP:m<=100000)(h8:∀x∈ls,x<=255)(hc:m<=c)(ac:A=none->m=0/\c=0)(ha:Row w w.heap.size A m 1 (iZ .u8 ls))(hb:bound<=20000)(hn:n<=1100000):
 Calls Tryz.prog 115 #[.int .i64 (n:Nat), .int .i64 (bound:Nat), .slice A m c] w (Wh w (lsR bound ls n 0 [])):=by
 obtain⟨j0,aL,aJ,aE,aA⟩:=info_parts ON;obtain⟨R,hR⟩:∃R,R=lsR bound ls n 0 []:=⟨_,rfl⟩;rw[<-hR];have ax:Hid (lsR bound ls (n-0) 0 []=R):=hR.symm;have H8:=hid h8;have HM:=hid hm;have au:Hid (Row w w.heap.size A m 1 (iZ .u8 (ls.drop 0))):=by show Row _ _ _ _ _ _;rw[GU];exact ha
 have ay:=hid ac;clear hm h8 ac ha hR;go_enter Tryz.func115,Tryz.ntmps115;go_wp2_with fail;go_loopw [2,8,13] (fun bv ov iv wr=>∃ (k at_ mx cx:Nat) (Ax:Option Addr) (G:List (List Nat)) (vals:List Value),k<=n/\iv= .int .i64 k/\bv= .slice Ax mx cx/\mx+at_=m/\mx<=cx/\Hid (Ax=none->mx=0/\cx=0)/\Hid (Row w w.heap.size Ax mx 1 (iZ .u8 (ls.drop at_)))/\Hid (G.length=k)/\Hid (LsAt wr w.heap.size ov vals G)/\Hid (Below w.heap.size w wr)/\Hid (lsR bound ls (n-k) at_ G=R)) (fun _ _ iv _=>n-(intOf iv).toNat)
 case atStart=>exact⟨0,0,m,c,A,[],[],by omega,rfl,rfl,by omega,hc,ay.out,au.out,rfl,LsAt.nil _ _,Ag _ _,ax.out⟩
 case round=>
  obtain⟨k,at_,mx,cx,Ax,G,vals,hk,rfl,rfl,aS,az,am,av,HL,E,HB,HG⟩:=hrel;obtain⟨vo,co,rfl⟩:=aZ E.out.l;have zr:=HB.out.size;clear ax au ay;by_cases aR:k<n
  ·have gk:decide ((k:Int)<(n:Int))=true:=(by simp;omega);have aQ:decide (k<n)=true:=(by simp;omega);have hG:=HG.out;rw[show n-k=(n-(k+1))+1 by omega,lsR]at hG;have al:∀x∈ls.drop at_,x<=255:=fun x hx=>H8.out x (Bb hx);have J:(ls.drop at_).length=mx:=(by rw[AQ,HM.out];omega);have DR:=Ww wr Ax mx cx bound (ls.drop at_) J (by omega) al az am.out ((av.out.below HB.out).mono zr) hb;have aa:=QG (bound:=bound) al;rw[J]at aa;generalize efR bound (ls.drop at_)=T at *;obtain⟨U,t1,te⟩:=T;simp only at hG aa;unfold Lg at DR;simp only at DR;have Y:=hid hG;have DR:=hid DR;clear hG HG al J;go_wp2_with fail;refine DR.out.mono ?_;rintro e w3 ⟨Q,j,Z⟩;have M:Hid (Below w.heap.size w w3):=HB.out.trans (Q.mono zr);by_cases ht:te=0
   ·subst ht;obtain⟨p,rfl,hp⟩:=Z rfl;have ab:=hid (E.out.step Q);have DL:=hid (len_any w3 wr.heap.size p U hp);have DA:=hid (We w3 wr.heap.size p U hp);have hG:=Y.out;rw[Aa (show ¬((0:Int)≠0) from fun h=>h rfl)]at hG;obtain⟨L,hL⟩:∃L,L=U.length:=⟨_,rfl⟩;rw[<-hL]at DL DA hG;by_cases h0:L=0
    ·have gz:((L:Int)==0)=true:=(by rw[h0];rfl);have HF:Hid (R=([],2)):=(by rw[Ab h0]at hG;exact hG.symm);clear Q j Z hp E HB DR hG Y h0 hL DA;go_wp2_with fail;refine DL.out.mono ?_;rintro e w4 ⟨rfl,rfl⟩;go_wp2_with fail;go_ret2;rw[HF.out];exact⟨M.out,_,[],rfl,LsAt.nil _ _⟩
    ·have gz:((L:Int)==0)=false:=(by rw[Dd];omega);rw[Aa h0]at hG;have aO:=hid hG;have aM:=hid hL;have ks:=fun wx=>EG (P:=Tryz.prog) (t:=22) (s:=1) Tryz.underlying22 (fun _=>by kernel_rfl) Ax mx cx .i64 (t1:Int) t1 rfl aa wx;have ak:=Ct av.out aa az;rw[List.drop_drop]at ak;have aN:Hid (Row w w.heap.size (vZ Ax t1 cx 1) (mx-t1) 1 (iZ .u8 (ls.drop (at_+t1)))):=ak
     have aG:Hid (vZ Ax t1 cx 1=none->mx-t1=0/\cx-t1=0):=fun h=>by
      have hA:Ax=none:=by
       unfold vZ at h;split at h
       ·exact h
       ·cases Ax with
        |none=>rfl
        |some x=>cases h
      have:=am.out hA;omega
     have aF:mx-t1+(at_+t1)=m:=(by omega);have aC:mx-t1<=cx-t1:=(by omega);generalize vZ Ax t1 cx 1=A2 at *;generalize aH:mx-t1=m2 at *;generalize aB:cx-t1=c2 at *;have aq:=M.out.size;clear Q j Z hp E HB DR hG Y h0 hL ak aH aB;go_wp2_with fail;refine DL.out.mono ?_;rintro e w4 ⟨rfl,rfl⟩;go_wp2_with fail;refine DA.out.mono ?_;rintro e w5 ⟨v5,rfl,ai,ah⟩;have N:=hid (ab.out.step ah);have aj:Hid (Below w.heap.size w w5):=M.out.trans (ah.mono aq);have an:Hid (w5.ownsRow w.heap.size 3 1 v5 L (cZ .i64 U)):=jZ ai aq;obtain⟨A5,c5,rfl⟩:=aZ ai;have aK:=aj.out.size;have af:Hid (w5.ownsRow w.heap.size 30 1 (.slice vo G.length co) k vals):=(by have h:=N.out.l;rw[HL.out]at h ⊢;exact h);clear ai ah DL DA ab M;go_wp2_with(at_builtin;refine gZ rfl (.tmp 30) (.tmp 33) 34 rfl w.heap.size 30 j0 _ 1 24 Tryz.underlying34 aL aJ aE aA rfl (by decide) _ _ _ (by rfl) (af.out.alloc _) _ 1 1 [.slice A5 L c5] (by rfl) (Src.of_blk (Blk.made_at _ _ _ (by simp)) 1 1 1 rfl) (by intro u hu;simp at hu;rcases hu with rfl;rfl) (by unfold maxLen;omega) (by omega) (by simp;omega) ?_;intro v7 w7 i ag ar;obtain⟨A7,c7,rfl⟩:=aZ i);have ae:=(N.out.step (bZ (o:= .cells #[.slice A5 L c5] 30) (Ag w5.heap.size w5))).add (by rw[<-aM.out];exact an.out.alloc _) ag (by rw[HL.out];exact i);have aw:=hid ae;have aD:Hid (Below w.heap.size w w7):=(kZ aK aj.out).grown ag (by simp;omega) (fun y hy=>(Ae af.out y hy).1);clear i ag ar ae af an N aj;go_roundw
     case measure=>go_light;simp[intOf];omega
     case rel=>go_light;exact⟨k+1,at_+t1,m2,c2,A2,G++ [U],vals++ [Value.slice A5 L c5],by omega,by first|rfl|go_num,rfl,aF,aC,aG.out,aN.out,by show _=_;rw[Ai,HL.out];rfl,aw.out,aD.out,aO.out⟩
   ·have he:=j ht;subst he;have gE:(te != 0)=true:=(by simpa using ht);have HF:Hid (R=([],te)):=(by have h:=Y.out;rw[Ab ht]at h;exact h.symm);clear Q j Z ht Y E HB DR;go_wp2_with fail;go_ret2;rw[HF.out];exact⟨M.out,_,[],rfl,LsAt.nil _ _⟩
  ·obtain rfl:k=n:=by omega
   have gk:decide ((k:Int)<(k:Int))=false:=(by simp);have hG:=HG.out;rw[EL,lsR]at hG;by_cases z:at_<ls.length
   ·rw[Ab z]at hG;have g0:decide ((0:Int)<(mx:Int))=true:=(by have:=HM.out;simp;omega);have aI:decide (0<mx)=true:=(by have:=HM.out;simp;omega);have HF:=hid hG.symm;clear hG HG z;go_wp2_with fail;go_ret2;rw[HF.out];exact⟨HB.out,_,[],rfl,LsAt.nil _ _⟩
   ·rw[Aa z]at hG;have g0:decide ((0:Int)<(mx:Int))=false:=(by have:=HM.out;simp;omega);have aI:decide (0<mx)=false:=(by have:=HM.out;simp;omega);have HF:=hid hG.symm;clear hG HG z;go_wp2_with fail;go_ret2;rw[HF.out];exact⟨HB.out,_,vals,rfl,E.out⟩
end Idx
namespace Body
open Go.RowKit Mem Own Canon Nums Crc
def BJ:List Nat->List Nat->List (List Nat)
 | [],_=> []
 |n :: S,ls=>ls.take n :: BJ S (ls.drop n)
theorem I9:∀ (S ls:List Nat),(BJ S ls).length=S.length
 | [],_=>rfl
 |n :: S,ls=>by rw[BJ,Bh,Bh,I9 S]
theorem Qi:∀ (S:List Nat) (n:Nat) (ls:List Nat),BJ (S++ [n]) ls=BJ S ls++ [(ls.drop S.sum).take n]
 | [],n,ls=>by simp[BJ]
 |m :: S,n,ls=>by rw[Ht,BJ,Qi S n,BJ,List.drop_drop,GR];rfl
theorem P8{S:List Nat}{i n:Nat}(ls:List Nat)(h:S[i]? =some n):BJ (S.take (i+1)) ls=BJ (S.take i) ls++ [(ls.drop (S.take i).sum).take n]:=by rw[Ed,h];exact Qi _ _ _
structure FrAt (w:World) (base:Nat) (vF:Value) (vals:List Value) (F:List (List Nat)):Prop where
 l:w.ownsRow base 22 1 vF F.length vals
 r:∀ (i:Nat) v b,vals[i]? =some v->F[i]? =some b->w.ownsRow base 5 1 v b.length (cZ .u8 b)
theorem FrAt.step{w w':World}{base:Nat}{vF:Value}{vals:List Value}{F:List (List Nat)}(h:FrAt w base vF vals F)(hb:Below w.heap.size w w'):FrAt w' base vF vals F:=
 ⟨dZ h.l fun y hy=>hb.block y (Ae h.l y hy).2,fun i v b hv hi=>dZ (h.r i v b hv hi) fun y hy=>hb.block y (Ae (h.r i v b hv hi) y hy).2⟩
theorem FrAt.nil(w:World)(base:Nat):FrAt w base (.slice none 0 0) [] []:=⟨Am _ _ _ _,fun i v b h=>by simp at h⟩
theorem FrAt.set{w:World}{base b:Nat}{vF:Value}{vals:List Value}{F:List (List Nat)}{t:TypeId}{cs:Array Value}(h:FrAt w base vF vals F)(j:Blk w b t cs)(h1:22≠t)(h2:5≠t)(k:Nat)(u:Value):FrAt (w.setCell ⟨b,k,none⟩ u) base vF vals F:=
 ⟨wZ h.l (fZ h.l j h1) _,fun i v ids hv hi=>wZ (h.r i v ids hv hi) (fZ (h.r i v ids hv hi) j h2) _⟩
theorem FrAt.mono{w:World}{base j:Nat}{vF:Value}{vals:List Value}{F:List (List Nat)}(h:FrAt w base vF vals F)(hb:j<=base):FrAt w j vF vals F:=
 ⟨jZ h.l hb,fun i v b hv hi=>jZ (h.r i v b hv hi) hb⟩
theorem FrAt.add{w w5:World}{base:Nat}{vF v5 u:Value}{vals:List Value}{F:List (List Nat)}{b:List Nat}(h:FrAt w base vF vals F)(hu:w.ownsRow base 5 1 u b.length (cZ .u8 b))(hg:w.grownBy w5 vF.ownBlock)(y:w5.ownsRow base 22 1 v5 (F.length+1) (vals++ [u])):FrAt w5 base v5 (vals++ [u]) (F++ [b]):=by
 have far:∀ {n:Nat} {v:Value} {xs:List Value},w.ownsRow base 5 1 v n xs->w5.ownsRow base 5 1 v n xs:=fun hv=>own_far hv h.l (by decide) hg;have j:vals.length=F.length:=by have:=h.l.1;omega
 refine⟨by rw[Ai];exact y,fun i v is hv hi=> ?_⟩;by_cases z:i<F.length
 ·rw[GT (by omega)]at hv;rw[GT z]at hi;exact far (h.r i v is hv hi)
 ·rw[Jp (by omega)]at hv;rw[Jp (by omega)]at hi;have h0:i-F.length=0:=by have:=(BO.1 hi).1;simp at this;omega
  rw[j,h0]at hv;rw[h0]at hi;simp at hv hi;subst hv hi;exact far hu
theorem OD:(Tryz.prog.info? 22).map (fun i=>(i.zero,i.size,i.bytes))=some (some (.slice none 0 0),1,24):=by kernel_rfl
structure SpI (w wr:World) (gb:Nat) (t:TypeId) (pre post:List Value) (vF:Value) (vals:List Value) (F:List (List Nat)):Prop where
 blk:Blk wr gb t (pre++vF :: post).toArray
 fr:FrAt wr w.heap.size vF vals F
 kept:Kept (fun x=>x<w.heap.size/\x≠gb) w wr
 lt:gb<w.heap.size
 t1:22≠t
 t2:5≠t
section
variable {w wr w1 w2 w3:World} {gb:Nat} {t:TypeId} {pre post:List Value} {vF v3 u:Value} {vals:List Value} {F:List (List Nat)} {b:List Nat}
theorem SpI.step(h:SpI w wr gb t pre post vF vals F)(hb:Below wr.heap.size wr w1):SpI w w1 gb t pre post vF vals F:=
 have hz:=h.kept.size
 ⟨h.blk.step hb,h.fr.step hb,h.kept.trans (Kept.of_below hb (fun x hx=>by have:=hx.1;omega)),h.lt,h.t1,h.t2⟩
theorem SpI.cell(h:SpI w wr gb t pre post vF vals F):wr.cell? ⟨gb,pre.length,none⟩=some vF:=by rw[h.blk.cell pre.length];simp
theorem SpI.add(h:SpI w wr gb t pre post vF vals F)(hu:wr.ownsRow w.heap.size 5 1 u b.length (cZ .u8 b))(hb:Below wr.heap.size wr w1)(hg:w1.grownBy w3 vF.ownBlock)(i:w3.ownsRow w.heap.size 22 1 v3 (F.length+1) (vals++ [u])):
 SpI w (w3.setCell ⟨gb,pre.length,none⟩ v3) gb t pre post v3 (vals++ [u]) (F++ [b]):=by
 have h1:=h.step hb;have b3:=h1.blk.grown hg (Bg (fZ h1.fr.l h1.blk h.t1));have j:w1.ownsRow w.heap.size 5 1 u b.length (cZ .u8 b):=dZ hu (fun y hy=>hb.block y (Ae hu y hy).2);have f3:=h1.fr.add j hg i;have hz:=h1.kept.size;refine⟨?_,f3.set b3 h.t1 h.t2 _ _,?_,h.lt,h.t1,h.t2⟩
 ·have hx:=b3.set pre.length v3;rw[XQ,List.set_append_right _ _ (Aj _),EL]at hx;exact hx
 ·exact(h1.kept.grown hg (fun y hy=>by have:=hy.1;omega) (fun y hy hk=>by have:=(Ae h1.fr.l y hy).1;have:=hk.1;omega)).set (fun hk=>hk.2 rfl) _
end
end Body
namespace Body
open Go.RowKit Mem Own Canon Nums Crc
theorem cut_none{A:Option Addr}{m c k:Nat}(i:A=none->m=0/\c=0):vZ A k c 1=none->m-k=0/\c-k=0:=fun h=>by
 have hA:A=none:=by
  unfold vZ at h;split at h
  ·exact h
  ·cases A with
   |none=>rfl
   |some x=>cases h
 have:=i hA;omega
def MD(w:World)(base gb p:Nat)(t:TypeId)(pre post:List Value)(S ls:List Nat)(e:Ending)(w':World):Prop:=
 ∃ (A2 A3:Option Addr) (c2 c3:Nat) (vF:Value) (vals:List Value),e= .returned (.tuple #[.slice A2 p c2, .slice A3 (ls.length-S.sum-p) c3])/\
  p<=c2/\ls.length-S.sum-p<=c3/\Row w base A2 p 1 (iZ .u8 ((ls.drop S.sum).take p))/\Row w base A3 (ls.length-S.sum-p) 1 (iZ .u8 (ls.drop (S.sum+p)))/\
  SpI w w' gb t pre post vF vals (BJ S ls)
theorem VK(w:World)(gb base bs p q:Nat)(t:TypeId)(x0 x4 x5 x6 x7:Value)(post:List Value)(As A:Option Addr)(ns cs n c:Nat)(S ls:List Nat)(hB:Blk w gb t (x0 :: .slice As ns cs :: .int .i64 (p:Nat) :: .int .i64 (q:Nat) :: x4 :: x5 :: x6 :: x7 :: .slice none 0 0 :: post).toArray)
 (aT:3≠t)(am:22≠t)(aL:5≠t)(hS:S.length=ns)(bc:ns<=100000)(G:w.ownsRow bs 3 1 (.slice As ns cs) ns (cZ .i64 S))(hn:ls.length=n)(bd:n<=100000)(hc:n<=c)(h8:∀x∈ls,x<=255)(a9:S.sum+p<=n)
 (ha:Row w base A n 1 (iZ .u8 ls))(aU:base<=gb)(Z:A=none->n=0/\c=0):
 Calls Tryz.prog 62 #[.pointer (some ⟨gb,0,none⟩), .slice A n c] w (MD w base gb p t [x0, .slice As ns cs, .int .i64 (p:Nat), .int .i64 (q:Nat),x4,x5,x6,x7] post S ls):=by
 obtain⟨j0,a4,a1,aM,aC⟩:=info_parts OD;have aW:=hB.lt;have aa:Hid (SpI w w gb t [x0, .slice As ns cs, .int .i64 (p:Nat), .int .i64 (q:Nat),x4,x5,x6,x7] post (.slice none 0 0) [] []):=⟨hB,FrAt.nil _ _,Kept.refl _ _,aW,am,aL⟩;have c1:=hB.cell 1;simp only[List.getElem?_toArray,List.getElem?_cons_zero,List.getElem?_cons_succ]at c1;have aX:Hid (∀k x,S[k]? =some x->(S.take (k+1)).sum=(S.take k).sum+x/\(S.take (k+1)).sum+p<=n):=fun k x h=>by have h1:=LM h;have h2:=Hj S (k+1);exact⟨h1,by omega⟩
 have HS:=hid hS;have ax:=hid G;have HN:=hid hn;have H8:=hid h8;have bb:=hid hB;have av:Hid (Row w base A n 1 (iZ .u8 (ls.drop 0))):=by show Row _ _ _ _ _ _;rw[GU];exact ha
 have ay:=hid Z;have a6:=hid (fZ G hB aT);clear hB hS G hn h8 ha Z;go_enter Tryz.func62,Tryz.ntmps62;go_wp2_with fail;go_loopw [1,14] (fun bv iv wr=>∃ (k mx cx j:Nat) (Ax:Option Addr) (vF:Value) (vals:List Value),k<=ns/\iv= .int .i64 k/\bv= .slice Ax mx cx/\mx+j=n/\mx<=cx/\Hid (j=(S.take k).sum)/\Hid (Row w base Ax mx 1 (iZ .u8 (ls.drop j)))/\Hid (Ax=none->mx=0/\cx=0)/\Hid (SpI w wr gb t [x0, .slice As ns cs, .int .i64 (p:Nat), .int .i64 (q:Nat),x4,x5,x6,x7] post vF vals (BJ (S.take k) ls))) (fun _ iv _=>ns-(intOf iv).toNat)
 case atStart=>exact⟨0,n,c,0,A,_,[],by omega,rfl,rfl,by omega,hc,rfl,av.out,ay.out,aa.out⟩
 case round=>
  obtain⟨k,mx,cx,j,Ax,vF,vals,hk,rfl,rfl,bf,aB,J,Y,an,HI⟩:=hrel;have zr:=HI.out.kept.size;clear aa av ay;by_cases aR:k<ns
  ·have gk:decide ((k:Int)<(ns:Int))=true:=(by simp;omega);have be:decide (k<ns)=true:=(by simp;omega);obtain⟨x,hx⟩:∃x,S[k]? =some x:=⟨_,AD (by rw[HS.out];exact aR)⟩;obtain⟨af,aI⟩:=aX.out k x hx;rw[<-J.out]at af;have bj:x+p<=mx:=(by omega);have G:wr.ownsRow bs 3 1 (.slice As ns cs) ns (cZ .i64 S):=dZ ax.out (fun y hy=>HI.out.kept.block y ⟨(Ae ax.out y hy).2,fun e=>a6.out (e ▸ hy)⟩);obtain⟨gv,cv,a8,ba,_⟩:=G.form (by omega);injection a8 with q1 q2 q3;subst q1 q3;clear q2;have ck:wr.cell? ⟨gv,k,none⟩=some (.int .i64 (x:Nat)):=(by rw[G.cellAt k (by omega)];unfold cZ;rw[Bw,hx];rfl);have bg:(0:Int)<=(k:Int):=(by omega);have bh:(k:Int)<(ns:Int):=(by omega);have aA:Row wr base Ax mx 1 (iZ .u8 (ls.drop j)):=Y.out.keep fun a ha=>World.cell?_of_block (a:=a) (HI.out.kept.block a.block ⟨by have:=HI.out.lt;omega,by omega⟩);have au:Hid ((ls.drop j).length=mx):=(by show _=_;rw[AQ,HN.out];omega);have a5:Hid ((ls.drop j).take x=(ls.drop (S.take k).sum).take x):=(by rw[J.out];rfl);have aJ:=hid (P8 ls hx);obtain⟨pc,ag⟩:∃pc,pc=(ls.drop j).take x:=⟨_,rfl⟩;have ae:pc.length=x:=(by rw[ag,AO,au.out];omega);have DC:=hid (fun wx (hb:Below wr.heap.size wr wx)=>GY wx Ax x cx pc ae (by omega) (fun h=>by have:=an.out h;omega) (((ag ▸ Du aA (by omega:x<=mx):Row wr base Ax x 1 (iZ .u8 pc)).mono (by have:=HI.out.lt;omega)).below hb |>.mono hb.size));have aN:=fun wx=>Dx (P:=Tryz.prog) (t:=22) (s:=1) Tryz.underlying22 (fun _=>by kernel_rfl) Ax mx cx .i64 (x:Int) x rfl (by omega) (fun a _=>rfl) wx;have aH:=fun wx=>EG (P:=Tryz.prog) (t:=22) (s:=1) Tryz.underlying22 (fun _=>by kernel_rfl) Ax mx cx .i64 (x:Int) x rfl (by omega) wx;have a7:Hid (Row w base (vZ Ax x cx 1) (mx-x) 1 (iZ .u8 (ls.drop (j+x)))):=(by have h:=Ct Y.out (by omega:x<=mx) aB;rw[List.drop_drop]at h;exact h);have al:=hid (cut_none (k:=x) an.out);have aP:mx-x+(j+x)=n:=(by omega);have aF:mx-x<=cx-x:=(by omega);have ah:Hid (j+x=(S.take (k+1)).sum):=af.symm;have aV:=hid ae;have c8:=HI.out.cell;have f8:=HI.out.blk.frozen 8;simp only[List.length_cons,List.length_nil,Nat.zero_add,Nat.reduceAdd]at c8;obtain⟨fl,N⟩:∃fl,fl=(BJ (S.take k) ls).length:=⟨_,rfl⟩;have ar:fl=k:=(by rw[N,I9,AO,HS.out];omega);subst ar;have Q:=HI.out.fr.l;rw[<-N]at Q;obtain⟨Af,cf,rfl⟩:=aZ Q;have U:=hid Q;have aE:=hid N;generalize vZ Ax x cx 1=A2 at *;generalize aS:mx-x=m2 at *;generalize aD:cx-x=c2 at *;clear G aA ae hx af aI aS aD Q N;go_upto_region 4 with fail;go_region_law(first|(go_simp;go_at_call 84;(with_reducible refine(DC.out _ (by(repeat (with_reducible first|exact Ag _ _|assumption|refine Aq ?_ |refine below_drewN ?_ _|refine qZ ?_ |refine bZ ?_ |refine eZ (by assumption) ?_ |refine belA ?_ |refine rZ (by assumption) ?_)))).mono ?_);rintro e w4 ⟨v4,rfl,ac,az⟩;obtain⟨A4,c4,rfl⟩:=aZ ac;have z:Below wr.heap.size wr w4:=eZ az (by(repeat (with_reducible first|exact Ag _ _|assumption|refine Aq ?_ |refine below_drewN ?_ _|refine qZ ?_ |refine bZ ?_ |refine eZ (by assumption) ?_ |refine belA ?_ |refine rZ (by assumption) ?_)));have q8:=(HI.out.step z).cell;simp only[List.length_cons,List.length_nil,Nat.zero_add,Nat.reduceAdd]at q8;have aj:Hid (w4.ownsRow w.heap.size 22 1 (.slice Af fl cf) fl vals):=dZ U.out (fun y hy=>z.block y (Ae U.out y hy).2);have bi:=z.size;have q9:=((HI.out.step z).step (bZ (o:= .cells #[.slice A4 x c4] 22) (Ag w4.heap.size w4))).cell;simp only[List.length_cons,List.length_nil,Nat.zero_add,Nat.reduceAdd]at q9)|(refine Mg rfl (.tmp 22) (.tmp 27) 31 rfl w.heap.size 22 j0 _ 1 24 Tryz.underlying31 a4 a1 aM aC rfl (by decide) (.slice Af fl cf) fl vals (by rfl) (by first|exact aj.out.alloc _|exact(aj.out.alloc _).drew) _ 1 1 [.slice A4 x c4] (by rfl) (Src.of_blk (Blk.made_at _ _ _ (by simp)) 1 1 1 rfl) (by intro u hu;simp at hu;rcases hu with rfl;rfl) (by unfold maxLen;omega) (by omega) (by simp;omega) ?_;intro A5 c5 w5 M ai;have b5:=((HI.out.step z).blk.alloc (.cells #[.slice A4 x c4] 22)).grown ai (Bg (fZ U.out HI.out.blk am));have r8:=b5.cell 8;have s8:=b5.frozen 8;simp only[List.cons_append,List.nil_append,List.getElem?_toArray,List.getElem?_cons_zero,List.getElem?_cons_succ]at r8))
   all_goals
    have aw:SpI w (w5.setCell ⟨gb,8,none⟩ (.slice A5 (fl+1) c5)) gb t [x0, .slice (some ⟨gv,0,none⟩) ns cs, .int .i64 (p:Nat), .int .i64 (q:Nat),x4,x5,x6,x7] post (.slice A5 (fl+1) c5) (vals++ [.slice A4 x c4]) (BJ (S.take fl) ls++ [pc]):=(HI.out.step z).add (jZ (by rw[aV.out];exact ac) (by simpa using zr)) (bZ (o:= .cells #[.slice A4 x c4] 22) (Ag w4.heap.size w4)) ai (by rw[<-aE.out];exact M);have aY:Hid (SpI w (w5.setCell ⟨gb,8,none⟩ (.slice A5 (fl+1) c5)) gb t [x0, .slice (some ⟨gv,0,none⟩) ns cs, .int .i64 (p:Nat), .int .i64 (q:Nat),x4,x5,x6,x7] post (.slice A5 (fl+1) c5) (vals++ [.slice A4 x c4]) (BJ (S.take (fl+1)) ls)):=(by show SpI _ _ _ _ _ _ _ _ _;rw[aJ.out,<-a5.out,<-ag];exact aw);clear aw M ai b5 r8 s8 q8 q9 ac az z aj HI c8 f8 DC U;generalize w5.setCell ⟨gb,8,none⟩ (.slice A5 (fl+1) c5)=w6 at *;go_wp2_with fail;go_roundw
    case measure=>go_light;simp[intOf];omega
    case rel=>go_light;exact⟨fl+1,m2,c2,j+x,A2,Value.slice A5 (fl+1) c5,vals++ [Value.slice A4 x c4],by omega,by first|rfl|go_num,rfl,aP,aF,ah.out,a7.out,al.out,aY.out⟩
  ·obtain rfl:k=ns:=by omega
   have gk:decide ((k:Int)<(k:Int))=false:=(by simp);have ab:S.take k=S:=Bv (by rw[HS.out];exact Aj _);have L:=J.out;rw[ab]at L;have aG:=HI.out.blk.cell 2;simp only[List.cons_append,List.nil_append,List.getElem?_toArray,List.getElem?_cons_zero,List.getElem?_cons_succ]at aG;have ak:p<=mx:=(by omega);have aN:=fun wx=>Dx (P:=Tryz.prog) (t:=22) (s:=1) Tryz.underlying22 (fun _=>by kernel_rfl) Ax mx cx .i64 (p:Int) p rfl (by omega) (fun a _=>rfl) wx;have aH:=fun wx=>EG (P:=Tryz.prog) (t:=22) (s:=1) Tryz.underlying22 (fun _=>by kernel_rfl) Ax mx cx .i64 (p:Int) p rfl ak wx;have a3:Hid (Row w base Ax p 1 (iZ .u8 ((ls.drop S.sum).take p))):=(by rw[<-L];exact Du Y.out ak);have aK:Hid (Row w base (vZ Ax p cx 1) (mx-p) 1 (iZ .u8 (ls.drop (S.sum+p)))):=(by have h:=Ct Y.out ak aB;rw[List.drop_drop,L]at h;exact h);have aq:ls.length-S.sum-p=mx-p:=(by rw[HN.out];omega);have aQ:=hid aq;have E:Hid (SpI w wr gb t [x0, .slice As k cs, .int .i64 (p:Nat), .int .i64 (q:Nat),x4,x5,x6,x7] post vF vals (BJ S ls)):=(by have h:=HI.out;rw[ab]at h;exact h);have aO:p<=cx:=(by omega);have a0:mx-p<=cx-p:=(by omega);generalize vZ Ax p cx 1=A3 at *;generalize mx-p=m3 at *;generalize cx-p=c3 at *;clear HI ab L aq J;go_wp2_with fail;go_quiet (fail);go_wp2_with fail;go_ret2;unfold MD;rw[aQ.out];exact⟨Ax,A3,cx,c3,vF,vals,rfl,aO,a0,a3.out,aK.out,⟨E.out.blk,⟨dZ E.out.fr.l (fun y _=>rfl),fun i v b hv hi=>dZ (E.out.fr.r i v b hv hi) (fun y _=>rfl)⟩,E.out.kept.drewN _,E.out.lt,E.out.t1,E.out.t2⟩⟩
end Body
namespace Idx
open Go.RowKit Mem Own Canon Sift
open NumPut Recs Go.Proofs.YtbgoibedicbkjaaGreatDoor Crc Block
open Ef Nums
theorem PG{n size:Nat}{ls:List Nat}(h8:∀x∈ls,x<=255):∀ (f at_ x:Nat) (i:List Nat),at_<=ls.length->(szR n size ls f at_ x i).2.1<=ls.length
 |0,_,_,_,h=>h
 |f+1,at_,x,i,h=>by
  unfold szR;split
  ·exact h
  ·split
   ·exact intA_le h8 0 h
   ·exact PG h8 f _ _ _ (intA_le h8 0 h)
theorem Pv{size:Nat}{ls:List Nat}:∀ (ks:List Nat) (r at_:Nat) (i:List Str),at_<=ls.length->(bkR size ls ks r at_ i).2.1<=ls.length
 | [],_,_,_,h=>h
 |k :: ks,r,at_,i,h=>by
  unfold bkR;split
  ·exact AY _
  ·split
   ·exact AY _
   ·exact Pv ks _ _ _ (La ls at_ 0 k h)
theorem Ol{size:Nat}{ls:List Nat}:∀ (ks:List Nat) (r at_:Nat) (i:List Str),(bkR size ls ks r at_ i).1.length<=i.length+r
 | [],_,_,_=>Nat.le_add_right _ _
 |k :: ks,r,at_,i=>by
  unfold bkR;split
  ·exact AY _
  ·split
   ·exact AY _
   ·rename_i h;have h1:=Kh (AW ls at_ 0 k) (min size r) true 0 i (EO h);have h2:=Ol (size:=size) (ls:=ls) ks (r-size) (takeA ls at_ 0 k) (BY (AW ls at_ 0 k) (min size r) true 0 i).1;omega
theorem Lx{size:Nat}{ls:List Nat}(h8:∀x∈ls,x<=255):(Dq size ls).2.1<=ls.length/\(Dq size ls).1.length<=1048576:=by
 have hv:xZ 1048576 ls 0 0<=1048576:=Cs h8 0 0;have ha:mZ 1048576 ls 0 0<=ls.length:=intA_le h8 0 (by omega)
 have hs:(Fm size ls).2.1<=ls.length:=by
  unfold Fm;split
  ·exact ha
  ·exact PG h8 _ _ _ _ ha
 unfold Dq;split
 ·exact⟨AY _,AY _⟩
 ·have:=Ol (size:=size) (ls:=ls) (Fm size ls).1 (xZ 1048576 ls 0 0) (Fm size ls).2.1 [];exact⟨Pv _ _ _ _ hs,by simp only[List.length_nil]at this;omega⟩
def ixF(ts:List Str)(L:List (List Nat)×Int):(List Str×List (List Nat))×Int:=if L.2≠0 then(([],[]),L.2)else((ts,L.1),0)
def ixR(size bound:Nat)(ls:List Nat):(List Str×List (List Nat))×Int:=
 if(Dq size ls).2.2≠0 then(([],[]),(Dq size ls).2.2)else ixF (Dq size ls).1 (lsR bound (ls.drop (Dq size ls).2.1) (Dq size ls).1.length 0 [])
def I4(w:World)(R:(List Str×List (List Nat))×Int)(e:Ending)(w':World):Prop:=
 ∃vT vL vals,e= .returned (.tuple #[.agg #[vT,vL], .int .i64 R.2])/\IxAt w' w.heap.size vT vL vals R.1.1 R.1.2/\Below w.heap.size w w'
theorem IL(w:World)(base:Nat):IxAt w base (.slice none 0 0) (.slice none 0 0) [] [] []:=⟨Am _ _ _ _,Am _ _ _ _,fun i v ids h=>by simp at h⟩
theorem IxAt.set{w:World}{base b:Nat}{vT vL:Value}{vals:List Value}{ts:List Str}{ls:List (List Nat)}{cs:Array Value}(h:IxAt w base vT vL vals ts ls)(j:Blk w b 36 cs)(k:Nat)(u:Value):IxAt (w.setCell ⟨b,k,none⟩ u) base vT vL vals ts ls:=
 ⟨wZ h.t (fZ h.t j (by decide)) _,wZ h.l (fZ h.l j (by decide)) _,fun i v ids hv hi=>wZ (h.r i v ids hv hi) (fZ (h.r i v ids hv hi) j (by decide)) _⟩
theorem Ny(w:World)(A:Option Addr)(m c size bound:Nat)(ls:List Nat)(hm:ls.length=m)(aC:m<=100000)(h8:∀x∈ls,x<=255)(hc:m<=c)(M:A=none->m=0/\c=0)(ha:Row w w.heap.size A m 1 (iZ .u8 ls))(aA:1<=size)(ay:size<=64)(hb:bound<=20000):
 Calls Tryz.prog 66 #[.int .i64 (size:Nat), .int .i64 (bound:Nat), .slice A m c] w (I4 w (ixR size bound ls)):=by
 have au:Hid (∀wx,Below w.heap.size w wx->Row wx wx.heap.size A m 1 (iZ .u8 ls)):=fun wx h=>(ha.below h).mono h.size;have D0:=hid (fun wx (h:Below w.heap.size w wx)=>SC wx A m c size ls hm aC h8 M (au.out wx h) aA ay);have aE:decide ((bound:Int)<0)=false:=by simp
 have aF:decide ((20000:Int)<(bound:Int))=false:=by simp;omega
 have aD:decide (20000<bound)=false:=by simp;omega
 obtain⟨R,hR⟩:∃R,R=ixR size bound ls:=⟨_,rfl⟩;rw[<-hR];unfold ixR at hR;obtain⟨ag,aB⟩:=Lx (size:=size) h8;generalize Dq size ls=T at *;obtain⟨ts,t1,te⟩:=T;simp only at hR ag aB;rw[hm]at ag;have al:=Ct (hm ▸ ha:Row w w.heap.size A ls.length 1 (iZ .u8 ls)) (by omega:t1<=ls.length) (by omega:ls.length<=c);rw[hm]at al
 have av:vZ A t1 c 1=none->m-t1=0/\c-t1=0:=fun h=>by
  have hA:A=none:=by
   unfold vZ at h;split at h
   ·exact h
   ·cases A with
    |none=>rfl
    |some x=>cases h
  have:=M hA;omega
 have ah:=hid (fun wx (hbx:Below w.heap.size w wx)=>V1 wx (vZ A t1 c 1) (m-t1) (c-t1) ts.length bound (ls.drop t1) (by rw[AQ,hm]) (by omega) (fun x hx=>h8 x (Bb hx)) (by omega) av ((al.below hbx).mono hbx.size) hb (by omega));have ks:=fun wx=>EG (P:=Tryz.prog) (t:=22) (s:=1) Tryz.underlying22 (fun _=>by kernel_rfl) A m c .i64 (t1:Int) t1 rfl ag wx;generalize lsR bound (ls.drop t1) ts.length 0 []=L at *;generalize vZ A t1 c 1=A2 at *;obtain⟨lv,le⟩:=L;have HR:=hid hR;unfold I4;clear hR al av ha h8 M hm au;go_enter Tryz.func66,Tryz.ntmps66;go_wp2_with fail;have aj:Below w.heap.size w (w.alloc (.cells #[.slice none 0 0, .slice none 0 0] 36)):=bZ (Ag _ _);have aw:Blk (w.alloc (.cells #[.slice none 0 0, .slice none 0 0] 36)) w.heap.size 36 #[.slice none 0 0, .slice none 0 0]:=Blk.made _ _ _;have aG:(w.alloc (.cells #[.slice none 0 0, .slice none 0 0] 36)).heap.size=w.heap.size+1:=by simp
 have D1:=hid (D0.out _ aj);generalize w.alloc (.cells #[.slice none 0 0, .slice none 0 0] 36)=w1 at *;have af:=hid aj;have ai:=hid aw;clear aj aw D0;refine D1.out.mono ?_;rintro e w2 ⟨Q,N,ae⟩;have Z:Hid (Below w.heap.size w w2):=af.out.trans (Q.mono (by omega));have G:=hid (ai.out.step Q);have z2:=Q.size;have k0:=G.out.cell 0;have k1:=G.out.cell 1;have f0:=G.out.frozen 0;have f1:=G.out.frozen 1;simp only[List.getElem?_toArray,List.getElem?_cons_zero,List.getElem?_cons_succ]at k0 k1;by_cases ht:te=0
 ·subst ht;obtain⟨gd,sz,hs,vT,vH,rfl,hD⟩:=ae rfl;have HD:=hid hD;have hr:=HR.out;rw[Aa (show ¬((0:Int)≠0) from fun h=>h rfl)]at hr;have aq:=hid hr;have am:=hid (fun wx (hb:Below w2.heap.size w2 wx)=>VX wx w1.heap.size gd sz ts hs vT vH (hD.keep (fun y _ hy=>hb.block y hy)));have aa:=hid (fun wx (hb:Below w2.heap.size w2 wx)=>ah.out wx (Z.out.trans (hb.mono (by omega))));clear Q N ae hD hr HR D1 af ai ah;go_wp2_with fail;go_region_held3 (fun _=>True) (trivial) (first|(go_at_call 116;(with_reducible refine(am.out _ (by(repeat (with_reducible first|exact Ag _ _|assumption|refine Aq ?_ |refine below_drewN ?_ _|refine qZ ?_ |refine bZ ?_ |refine eZ (by assumption) ?_ |refine belA ?_ |refine rZ (by assumption) ?_)))).mono ?_);rintro e wA ⟨rfl,rfl⟩)|(go_at_call 115;(with_reducible refine(aa.out _ (by(repeat (with_reducible first|exact Ag _ _|assumption|refine Aq ?_ |refine below_drewN ?_ _|refine qZ ?_ |refine bZ ?_ |refine eZ (by assumption) ?_ |refine belA ?_ |refine rZ (by assumption) ?_)))).mono ?_);rintro e wB ⟨an,vB,vals,rfl,ab⟩;have BB:Below w2.heap.size w2 wB:=(by have hq:=an;exact eZ hq (by(repeat (with_reducible first|exact Ag _ _|assumption|refine Aq ?_ |refine below_drewN ?_ _|refine qZ ?_ |refine bZ ?_ |refine eZ (by assumption) ?_ |refine belA ?_ |refine rZ (by assumption) ?_))))))
  all_goals
   have ak:Hid (Below w.heap.size w wB):=Z.out.trans (BB.mono (by omega));have E:=hid (G.out.step BB);have zB:=BB.size;have Y:Hid (LsAt wB w2.heap.size vB vals lv):=ab;have ar:Hid (DAt wB w1.heap.size gd sz ts hs vT vH):=HD.out.keep (fun y _ hy=>BB.block y hy);obtain⟨Av,cv,rfl⟩:=aZ Y.out.l;have p0:=E.out.cell 0;have p1:=E.out.cell 1;have r0:=E.out.frozen 0;have r1:=E.out.frozen 1;simp only[List.getElem?_toArray,List.getElem?_cons_zero,List.getElem?_cons_succ]at p0 p1;clear an ab BB am aa HD G Z k0 k1 f0 f1;by_cases J:le=0
   ·subst J;have HF:Hid (R=((ts,lv),0)):=(by show _=_;rw[aq.out];exact Aa (fun h=>h rfl));have DA:=hid (VH wB w1.heap.size gd sz ts hs vT vH ar.out (by omega));go_wp2_with fail;refine DA.out.mono ?_;rintro e w6 ⟨vt,rfl,ac,U⟩;obtain⟨At,ct,rfl⟩:=aZ ac;have z:=hid (E.out.step U);have az:Hid (IxAt w6 w.heap.size (.slice At ts.length ct) (.slice Av lv.length cv) vals ts lv):=⟨jZ ac (by omega),jZ (Y.out.step U).l (by omega),fun i v ids hv hi=>jZ ((Y.out.step U).r i v ids hv hi) (by omega)⟩;have ax:Hid (Below w.heap.size w w6):=ak.out.trans (U.mono (by omega));have q0:=z.out.cell 0;have q1:=z.out.cell 1;have s0:=z.out.frozen 0;have s1:=z.out.frozen 1;simp only[List.getElem?_toArray,List.getElem?_cons_zero,List.getElem?_cons_succ]at q0 q1;clear ac U DA E Y ar ak p0 p1 r0 r1;go_wp2_with fail;rw[HF.out];refine AN (v:= .tuple #[.agg #[.slice At ts.length ct, .slice Av lv.length cv], .int .i64 0]) ?_ rfl ⟨_,_,vals,rfl,?_,?_⟩
    ·have j:=(z.out.set 0 (.slice At ts.length ct)).set 1 (.slice Av lv.length cv);have e0:=j.cell 0;have e1:=j.cell 1;simp at e0 e1;simp[results,Tryz.results66,go_sem,e0,e1]
    ·exact(az.out.set z.out 0 _).set (z.out.set 0 _) 1 _
    ·exact nZ (Aj _) (nZ (Aj _) ax.out)
   ·have gE:(le != 0)=true:=(by simpa using J);have HF:Hid (R=(([],[]),le)):=(by show _=_;rw[aq.out];exact Ab J);clear J;go_wp2_with fail;rw[HF.out];refine AN (v:= .tuple #[.agg #[.slice none 0 0, .slice none 0 0], .int .i64 le]) ?_ rfl ⟨_,_,[],rfl,IL _ _,?_⟩
    ·have j:=(E.out.set 0 (.slice none 0 0)).set 1 (.slice none 0 0);have e0:=j.cell 0;have e1:=j.cell 1;simp at e0 e1;simp[results,Tryz.results66,go_sem,e0,e1]
    ·exact nZ (Aj _) (nZ (Aj _) ak.out)
 ·have he:=N ht;subst he;have gE:(te != 0)=true:=by simpa using ht
  have HF:Hid (R=(([],[]),te)):=by have h:=HR.out;rw[Ab ht]at h;exact h
  clear Q N ae ht HR D1 af ai ah;go_wp2_with fail;rw[HF.out];refine AN (v:= .tuple #[.agg #[.slice none 0 0, .slice none 0 0], .int .i64 te]) ?_ rfl ⟨_,_,[],rfl,IL _ _,?_⟩
  ·have j:=(G.out.set 0 (.slice none 0 0)).set 1 (.slice none 0 0);have e0:=j.cell 0;have e1:=j.cell 1;simp at e0 e1;simp[results,Tryz.results66,go_sem,e0,e1]
  ·exact nZ (Aj _) (nZ (Aj _) Z.out)
end Idx
end Go.Proofs.YtbgoibedicbkjaaGreatDoor
