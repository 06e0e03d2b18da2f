/- The walks of post.lists and of dict's Len and All. A body's frames: th -/
import Derived.Test.YtbgoibedicbkjaaGreatDoorZTwoOpens27
import Derived.Test.YtbgoibedicbkjaaGreatDoorZTwoOpens20
import Derived.Test.YtbgoibedicbkjaaGreatDoorZTwoOpens3
import Derived.Test.YtbgoibedicbkjaaGreatDoorZTwoOpens21
namespace Go.Proofs.YtbgoibedicbkjaaGreatDoor end Go.Proofs.YtbgoibedicbkjaaGreatDoor open Go.Proofs.YtbgoibedicbkjaaGreatDoor
open Go.Lib (hid)
set_option maxHeartbeats 4000000
set_option maxRecDepth 100000
namespace Go.Proofs.YtbgoibedicbkjaaGreatDoor.Idx
open Go.RowKit Mem Own Canon Sift
open NumPut Recs Go.Proofs.YtbgoibedicbkjaaGreatDoor Crc Block
open Ef
theorem fiZb(w:World)(base gd size:Nat)(ts hs:List Str)(vT vH:Value)(h:DAt w base gd size ts hs vT vH):
 Calls Tryz.prog 116 #[.pointer (some ⟨gd,0,none⟩)] w fun e w'=>e= .returned (.int .i64 (ts.length:Nat))/\w'=w:=by
 have c0:=h.blk.cell 0
 have ot:=h.ot
 obtain⟨n,hn⟩:∃n,n=ts.length:=⟨_,rfl⟩
 rw[<-hn]at ot ⊢
 obtain⟨A,c,rfl⟩:=bZ ot
 simp only[List.getElem?_toArray,List.getElem?_cons_zero]at c0
 clear h ot hn
 go_enter Tryz.func116,Tryz.ntmps116
 go_wp2_with fail
 go_ret
 exact⟨rfl,rfl⟩
theorem giZb(w:World)(base gd size:Nat)(ts hs:List Str)(vT vH:Value)(h:DAt w base gd size ts hs vT vH)(hl:ts.length<=3000000):
 Calls Tryz.prog 117 #[.pointer (some ⟨gd,0,none⟩)] w fun e w'=>∃v,e= .returned v/\w'.ownsRow w.heap.size 9 1 v ts.length (ccZ ts)/\Below w.heap.size w w':=by
 have c0:=h.blk.cell 0
 have ot:=h.ot
 obtain⟨n,hn⟩:∃n,n=ts.length:=⟨_,rfl⟩
 rw[<-hn]at ot hl ⊢
 obtain⟨A,c,rfl⟩:=bZ ot
 simp only[List.getElem?_toArray,List.getElem?_cons_zero]at c0
 have D:=hid (stZ w base A n c (ccZ ts) hl ot (quZ ts))
 clear h ot hn
 go_enter Tryz.func117,Tryz.ntmps117
 go_wp2_with fail
 refine D.out.mono ?_
 rintro e w1 ⟨v,rfl,ho,hb⟩
 have HO:=hid ho
 have HB:=hid hb
 obtain⟨A1,c1,rfl⟩:=bZ ho
 clear ho hb D
 go_wp2_with fail
 go_ret
 exact⟨_,rfl,HO.out,HB.out⟩
def lsR(bound:Nat)(ls:List Nat):Nat->Nat->List (List Nat)->List (List Nat)×Int
 |0,at_,acc=>if at_<ls.length then([],2)else(acc,0)
 |k+1,at_,acc=>if(efR bound (ls.drop at_)).2.2≠0 then([],(efR bound (ls.drop at_)).2.2)else if(efR bound (ls.drop at_)).1.length=0 then([],2)else lsR bound ls k (at_+(efR bound (ls.drop at_)).2.1) (acc++ [(efR bound (ls.drop at_)).1])
structure LsAt (w:World) (base:Nat) (vL:Value) (vals:List Value) (acc:List (List Nat)):Prop where
 l:w.ownsRow base 30 1 vL acc.length vals
 r:∀ (i:Nat) v ids,vals[i]? =some v->acc[i]? =some ids->w.ownsRow base 3 1 v ids.length (cZ .i64 ids)
theorem LsAt.step{w w':World}{base:Nat}{vL:Value}{vals:List Value}{acc:List (List Nat)}(h:LsAt w base vL vals acc)(hb:Below w.heap.size w w'):LsAt w' base vL vals acc:=
 ⟨eZ h.l fun y hy=>hb.block y (World.ownsRow.lt h.l y hy).2,fun i v ids hv hi=>eZ (h.r i v ids hv hi) fun y hy=>hb.block y (World.ownsRow.lt (h.r i v ids hv hi) y hy).2⟩
theorem LsAt.nil(w:World)(base:Nat):LsAt w base (.slice none 0 0) [] []:=⟨World.ownsRow_nil _ _ _ _,fun i v ids h=>by simp at h⟩
theorem LsAt.add{w w5:World}{base:Nat}{vL v5 u:Value}{vals:List Value}{acc:List (List Nat)}{ids:List Nat}(h:LsAt w base vL vals acc)(hu:w.ownsRow base 3 1 u ids.length (cZ .i64 ids))(hg:w.grownBy w5 vL.ownBlock)(hown:w5.ownsRow base 30 1 v5 (acc.length+1) (vals++ [u])):LsAt w5 base v5 (vals++ [u]) (acc++ [ids]):=by
 have far:∀ {n:Nat} {v:Value} {xs:List Value},w.ownsRow base 3 1 v n xs->w5.ownsRow base 3 1 v n xs:=fun hv=>eZ hv fun y hy=>hg.block y (World.ownsRow.lt hv y hy).2 fun e2=>by
  rcases ddZ h.l hv (by decide)with e3|e3
  ·rw[e3]at e2;cases e2
  ·exact e3 (by rw[<-e2,hy])
 have hlen:vals.length=acc.length:=by have:=h.l.1;omega
 refine⟨by rw[List.length_append];exact hown,fun i v is hv hi=> ?_⟩
 by_cases hlt:i<acc.length
 ·rw[List.getElem?_append_left (by omega)]at hv
  rw[List.getElem?_append_left hlt]at hi
  exact far (h.r i v is hv hi)
 ·rw[List.getElem?_append_right (by omega)]at hv
  rw[List.getElem?_append_right (by omega)]at hi
  have h0:i-acc.length=0:=by
   have:=(List.getElem?_eq_some_iff.1 hi).1
   simp at this
   omega
  rw[hlen,h0]at hv
  rw[h0]at hi
  simp at hv hi
  subst hv hi
  exact far hu
theorem ypZ:(Tryz.prog.info? 30).map (fun i=>(i.zero,i.size,i.bytes))=some (some (.slice none 0 0),1,24):=by kernel_rfl
def neZb(w:World)(R:List (List Nat)×Int)(e:Ending)(w':World):Prop:=
 Below w.heap.size w w'/\∃v vals,e= .returned (.tuple #[v, .int .i64 R.2])/\LsAt w' w.heap.size v vals R.1
theorem oeZb(w:World)(A:Option Addr)(m c n bound:Nat)(ls:List Nat)(hm:ls.length=m)(hle:m<=100000)(h8:∀x∈ls,x<=255)(hc:m<=c)(hnil:A=none->m=0/\c=0)(ha:Row w w.heap.size A m 1 (mZ .u8 ls))(hb:bound<=20000)(hn:n<=1100000):
 Calls Tryz.prog 115 #[.int .i64 (n:Nat), .int .i64 (bound:Nat), .slice A m c] w (neZb w (lsR bound ls n 0 [])):=by
 obtain⟨j0,hj0,hy0,hy1,hy2⟩:=info_parts ypZ
 obtain⟨R,hR⟩:∃R,R=lsR bound ls n 0 []:=⟨_,rfl⟩
 rw[<-hR]
 have HR0:Hid (lsR bound ls (n-0) 0 []=R):=hR.symm
 have H8:=hid h8
 have HM:=hid hm
 have HA0:Hid (Row w w.heap.size A m 1 (mZ .u8 (ls.drop 0))):=by show Row _ _ _ _ _ _;rw[List.drop_zero];exact ha
 have HN0:=hid hnil
 clear hm h8 hnil ha hR
 go_enter Tryz.func115,Tryz.ntmps115
 go_wp2_with fail
 go_loopw [2,8,13] (fun bv ov iv wr=>∃ (k at_ mx cx:Nat) (Ax:Option Addr) (acc:List (List Nat)) (vals:List Value),k<=n/\iv= .int .i64 k/\bv= .slice Ax mx cx/\mx+at_=m/\mx<=cx/\Hid (Ax=none->mx=0/\cx=0)/\Hid (Row w w.heap.size Ax mx 1 (mZ .u8 (ls.drop at_)))/\Hid (acc.length=k)/\Hid (LsAt wr w.heap.size ov vals acc)/\Hid (Below w.heap.size w wr)/\Hid (lsR bound ls (n-k) at_ acc=R)) (fun _ _ iv _=>n-(intOf iv).toNat)
 case atStart=>exact⟨0,0,m,c,A,[],[],by omega,rfl,rfl,by omega,hc,HN0.out,HA0.out,rfl,LsAt.nil _ _,Below.refl _ _,HR0.out⟩
 case round=>
  obtain⟨k,at_,mx,cx,Ax,acc,vals,hk,rfl,rfl,hmx,hcx,HNX,HAX,HL,HLS,HB,HG⟩:=hrel
  obtain⟨vo,co,rfl⟩:=bZ HLS.out.l
  have zr:=HB.out.size
  clear HR0 HA0 HN0
  by_cases hkn:k<n
  ·have gk:decide ((k:Int)<(n:Int))=true:=by simp;omega
   have gk':decide (k<n)=true:=by simp;omega
   have hG:=HG.out
   rw[show n-k=(n-(k+1))+1 by omega,lsR]at hG
   have h8d:∀x∈ls.drop at_,x<=255:=fun x hx=>H8.out x (List.mem_of_mem_drop hx)
   have hlen:(ls.drop at_).length=mx:=by rw[List.length_drop,HM.out];omega
   have DR:=meZb wr Ax mx cx bound (ls.drop at_) hlen (by omega) h8d hcx HNX.out ((HAX.out.below HB.out).mono zr) hb
   have htl:=leZb (bound:=bound) h8d
   rw[hlen]at htl
   generalize efR bound (ls.drop at_)=T at *
   obtain⟨ids,t1,te⟩:=T
   simp only at hG htl
   unfold vnZ at DR
   simp only at DR
   have HGG:=hid hG
   have DR:=hid DR
   clear hG HG h8d hlen
   go_wp2_with fail
   refine DR.out.mono ?_
   rintro e w3 ⟨hb3,hbad,hok⟩
   have HB3:Hid (Below w.heap.size w w3):=HB.out.trans (hb3.mono zr)
   by_cases ht:te=0
   ·subst ht
    obtain⟨p,rfl,hp⟩:=hok rfl
    have HLS3:=hid (HLS.out.step hb3)
    have DL:=hid (len_any w3 wr.heap.size p ids hp)
    have DA:=hid (eiZb w3 wr.heap.size p ids hp)
    have hG:=HGG.out
    rw[if_neg (show ¬((0:Int)≠0) from fun h=>h rfl)]at hG
    obtain⟨L,hL⟩:∃L,L=ids.length:=⟨_,rfl⟩
    rw[<-hL]at DL DA hG
    by_cases h0:L=0
    ·have gz:((L:Int)==0)=true:=by rw[h0];rfl
     have HF:Hid (R=([],2)):=by rw[if_pos h0]at hG;exact hG.symm
     clear hb3 hbad hok hp HLS HB DR hG HGG h0 hL DA
     go_wp2_with fail
     refine DL.out.mono ?_
     rintro e w4 ⟨rfl,rfl⟩
     go_wp2_with fail
     go_ret2
     rw[HF.out]
     exact⟨HB3.out,_,[],rfl,LsAt.nil _ _⟩
    ·have gz:((L:Int)==0)=false:=by rw[beq_eq_false_iff_ne];omega
     rw[if_neg h0]at hG
     have HG2:=hid hG
     have HLL:=hid hL
     have ks:=fun wx=>vcZ (P:=Tryz.prog) (t:=22) (s:=1) Tryz.underlying22 (fun _=>by kernel_rfl) Ax mx cx .i64 (t1:Int) t1 rfl htl wx
     have hnr:=uZ HAX.out htl hcx
     rw[List.drop_drop]at hnr
     have HNR:Hid (Row w w.heap.size (sZ Ax t1 cx 1) (mx-t1) 1 (mZ .u8 (ls.drop (at_+t1)))):=hnr
     have HNN:Hid (sZ Ax t1 cx 1=none->mx-t1=0/\cx-t1=0):=fun h=>by
      have hA:Ax=none:=by
       unfold sZ at h
       split at h
       ·exact h
       ·cases Ax with
        |none=>rfl
        |some x=>cases h
      have:=HNX.out hA
      omega
     have hm2:mx-t1+(at_+t1)=m:=by omega
     have hc2:mx-t1<=cx-t1:=by omega
     generalize sZ Ax t1 cx 1=A2 at *
     generalize hmm:mx-t1=m2 at *
     generalize hcc:cx-t1=c2 at *
     have zb3:=HB3.out.size
     clear hb3 hbad hok hp HLS HB DR hG HGG h0 hL hnr hmm hcc
     go_wp2_with fail
     refine DL.out.mono ?_
     rintro e w4 ⟨rfl,rfl⟩
     go_wp2_with fail
     refine DA.out.mono ?_
     rintro e w5 ⟨v5,rfl,ho5,hb5⟩
     have HLS5:=hid (HLS3.out.step hb5)
     have HB5:Hid (Below w.heap.size w w5):=HB3.out.trans (hb5.mono zb3)
     have HO5:Hid (w5.ownsRow w.heap.size 3 1 v5 L (cZ .i64 ids)):=lZ ho5 zb3
     obtain⟨A5,c5,rfl⟩:=bZ ho5
     have zb5:=HB5.out.size
     have HO2:Hid (w5.ownsRow w.heap.size 30 1 (.slice vo acc.length co) k vals):=by have h:=HLS5.out.l;rw[HL.out]at h ⊢;exact h
     clear ho5 hb5 DL DA HLS3 HB3
     go_wp2_with(at_builtin;refine kZ rfl (.tmp 30) (.tmp 33) 34 rfl w.heap.size 30 j0 _ 1 24 Tryz.underlying34 hj0 hy0 hy1 hy2 rfl (by decide) _ _ _ (by rfl) (HO2.out.alloc _) _ 1 1 [.slice A5 L c5] (by rfl) (Src.of_blk (Blk.made_at _ _ _ (by simp)) 1 1 1 rfl) (by intro u hu;simp at hu;rcases hu with rfl;rfl) (by unfold maxLen;omega) (by omega) (by simp;omega) ?_;intro v7 w7 hown7 hg7 hat7;obtain⟨A7,c7,rfl⟩:=bZ hown7)
     have hls7:=(HLS5.out.step (aZ (o:= .cells #[.slice A5 L c5] 30) (Below.refl w5.heap.size w5))).add (by rw[<-HLL.out];exact HO5.out.alloc _) hg7 (by rw[HL.out];exact hown7)
     have HLS7:=hid hls7
     have HB7:Hid (Below w.heap.size w w7):=(gZ zb5 HB5.out).grown hg7 (by simp;omega) (fun y hy=>(World.ownsRow.lt HO2.out y hy).1)
     clear hown7 hg7 hat7 hls7 HO2 HO5 HLS5 HB5
     go_roundw
     case measure=>go_light;simp[intOf];omega
     case rel=>go_light;exact⟨k+1,at_+t1,m2,c2,A2,acc++ [ids],vals++ [Value.slice A5 L c5],by omega,by first|rfl|go_num,rfl,hm2,hc2,HNN.out,HNR.out,by show _=_;rw[List.length_append,HL.out];rfl,HLS7.out,HB7.out,HG2.out⟩
   ·have he:=hbad ht
    subst he
    have gE:(te != 0)=true:=by simpa using ht
    have HF:Hid (R=([],te)):=by have h:=HGG.out;rw[if_pos ht]at h;exact h.symm
    clear hb3 hbad hok ht HGG HLS HB DR
    go_wp2_with fail
    go_ret2
    rw[HF.out]
    exact⟨HB3.out,_,[],rfl,LsAt.nil _ _⟩
  ·obtain rfl:k=n:=by omega
   have gk:decide ((k:Int)<(k:Int))=false:=by simp
   have hG:=HG.out
   rw[Nat.sub_self,lsR]at hG
   by_cases hend:at_<ls.length
   ·rw[if_pos hend]at hG
    have g0:decide ((0:Int)<(mx:Int))=true:=by have:=HM.out;simp;omega
    have g0':decide (0<mx)=true:=by have:=HM.out;simp;omega
    have HF:=hid hG.symm
    clear hG HG hend
    go_wp2_with fail
    go_ret2
    rw[HF.out]
    exact⟨HB.out,_,[],rfl,LsAt.nil _ _⟩
   ·rw[if_neg hend]at hG
    have g0:decide ((0:Int)<(mx:Int))=false:=by have:=HM.out;simp;omega
    have g0':decide (0<mx)=false:=by have:=HM.out;simp;omega
    have HF:=hid hG.symm
    clear hG HG hend
    go_wp2_with fail
    go_ret2
    rw[HF.out]
    exact⟨HB.out,_,vals,rfl,HLS.out⟩
end Go.Proofs.YtbgoibedicbkjaaGreatDoor.Idx
namespace Go.Proofs.YtbgoibedicbkjaaGreatDoor.Body
open Go.RowKit Mem Own Canon Nums Crc
def sbZ:List Nat->List Nat->List (List Nat)
 | [],_=> []
 |n :: S,ls=>ls.take n :: sbZ S (ls.drop n)
theorem okZ:∀ (S ls:List Nat),(sbZ S ls).length=S.length
 | [],_=>rfl
 |n :: S,ls=>by rw[sbZ,List.length_cons,List.length_cons,okZ S]
theorem uqZ:∀ (S:List Nat) (n:Nat) (ls:List Nat),sbZ (S++ [n]) ls=sbZ S ls++ [(ls.drop S.sum).take n]
 | [],n,ls=>by simp[sbZ]
 |m :: S,n,ls=>by
  rw[List.cons_append,sbZ,uqZ S n,sbZ,List.drop_drop,List.sum_cons]
  rfl
theorem vqZ{S:List Nat}{i n:Nat}(ls:List Nat)(h:S[i]? =some n):sbZ (S.take (i+1)) ls=sbZ (S.take i) ls++ [(ls.drop (S.take i).sum).take n]:=by
 rw[List.take_add_one,h]
 exact uqZ _ _ _
structure FrAt (w:World) (base:Nat) (vF:Value) (vals:List Value) (F:List (List Nat)):Prop where
 l:w.ownsRow base 22 1 vF F.length vals
 r:∀ (i:Nat) v b,vals[i]? =some v->F[i]? =some b->w.ownsRow base 5 1 v b.length (cZ .u8 b)
theorem FrAt.step{w w':World}{base:Nat}{vF:Value}{vals:List Value}{F:List (List Nat)}(h:FrAt w base vF vals F)(hb:Below w.heap.size w w'):FrAt w' base vF vals F:=
 ⟨eZ h.l fun y hy=>hb.block y (World.ownsRow.lt h.l y hy).2,fun i v b hv hi=>eZ (h.r i v b hv hi) fun y hy=>hb.block y (World.ownsRow.lt (h.r i v b hv hi) y hy).2⟩
theorem FrAt.nil(w:World)(base:Nat):FrAt w base (.slice none 0 0) [] []:=⟨World.ownsRow_nil _ _ _ _,fun i v b h=>by simp at h⟩
theorem FrAt.set{w:World}{base b:Nat}{vF:Value}{vals:List Value}{F:List (List Nat)}{t:TypeId}{cs:Array Value}(h:FrAt w base vF vals F)(hob:Blk w b t cs)(h1:22≠t)(h2:5≠t)(k:Nat)(u:Value):FrAt (w.setCell ⟨b,k,none⟩ u) base vF vals F:=
 ⟨vZ h.l (jZ h.l hob h1) _,fun i v ids hv hi=>vZ (h.r i v ids hv hi) (jZ (h.r i v ids hv hi) hob h2) _⟩
theorem FrAt.mono{w:World}{base base':Nat}{vF:Value}{vals:List Value}{F:List (List Nat)}(h:FrAt w base vF vals F)(hb:base'<=base):FrAt w base' vF vals F:=
 ⟨lZ h.l hb,fun i v b hv hi=>lZ (h.r i v b hv hi) hb⟩
theorem FrAt.add{w w5:World}{base:Nat}{vF v5 u:Value}{vals:List Value}{F:List (List Nat)}{b:List Nat}(h:FrAt w base vF vals F)(hu:w.ownsRow base 5 1 u b.length (cZ .u8 b))(hg:w.grownBy w5 vF.ownBlock)(hown:w5.ownsRow base 22 1 v5 (F.length+1) (vals++ [u])):FrAt w5 base v5 (vals++ [u]) (F++ [b]):=by
 have far:∀ {n:Nat} {v:Value} {xs:List Value},w.ownsRow base 5 1 v n xs->w5.ownsRow base 5 1 v n xs:=fun hv=>own_far hv h.l (by decide) hg
 have hlen:vals.length=F.length:=by have:=h.l.1;omega
 refine⟨by rw[List.length_append];exact hown,fun i v is hv hi=> ?_⟩
 by_cases hlt:i<F.length
 ·rw[List.getElem?_append_left (by omega)]at hv
  rw[List.getElem?_append_left hlt]at hi
  exact far (h.r i v is hv hi)
 ·rw[List.getElem?_append_right (by omega)]at hv
  rw[List.getElem?_append_right (by omega)]at hi
  have h0:i-F.length=0:=by
   have:=(List.getElem?_eq_some_iff.1 hi).1
   simp at this
   omega
  rw[hlen,h0]at hv
  rw[h0]at hi
  simp at hv hi
  subst hv hi
  exact far hu
theorem owZ:(Tryz.prog.info? 22).map (fun i=>(i.zero,i.size,i.bytes))=some (some (.slice none 0 0),1,24):=by kernel_rfl
structure SpI (w wr:World) (gb:Nat) (t:TypeId) (pre post:List Value) (vF:Value) (vals:List Value) (F:List (List Nat)):Prop where
 blk:Blk wr gb t (pre++vF :: post).toArray
 fr:FrAt wr w.heap.size vF vals F
 kept:Kept (fun x=>x<w.heap.size/\x≠gb) w wr
 lt:gb<w.heap.size
 t1:22≠t
 t2:5≠t
section
variable {w wr w1 w2 w3:World} {gb:Nat} {t:TypeId} {pre post:List Value} {vF v3 u:Value} {vals:List Value} {F:List (List Nat)} {b:List Nat}
theorem SpI.step(h:SpI w wr gb t pre post vF vals F)(hb:Below wr.heap.size wr w1):SpI w w1 gb t pre post vF vals F:=
 have hz:=h.kept.size
 ⟨h.blk.step hb,h.fr.step hb,h.kept.trans (Kept.of_below hb (fun x hx=>by have:=hx.1;omega)),h.lt,h.t1,h.t2⟩
theorem SpI.cell(h:SpI w wr gb t pre post vF vals F):wr.cell? ⟨gb,pre.length,none⟩=some vF:=by
 rw[h.blk.cell pre.length]
 simp
theorem SpI.add(h:SpI w wr gb t pre post vF vals F)(hu:wr.ownsRow w.heap.size 5 1 u b.length (cZ .u8 b))(hb:Below wr.heap.size wr w1)(hg:w1.grownBy w3 vF.ownBlock)(hown:w3.ownsRow w.heap.size 22 1 v3 (F.length+1) (vals++ [u])):
 SpI w (w3.setCell ⟨gb,pre.length,none⟩ v3) gb t pre post v3 (vals++ [u]) (F++ [b]):=by
 have h1:=h.step hb
 have b3:=h1.blk.grown hg (Ne.symm (jZ h1.fr.l h1.blk h.t1))
 have hu1:w1.ownsRow w.heap.size 5 1 u b.length (cZ .u8 b):=eZ hu (fun y hy=>hb.block y (World.ownsRow.lt hu y hy).2)
 have f3:=h1.fr.add hu1 hg hown
 have hz:=h1.kept.size
 refine⟨?_,f3.set b3 h.t1 h.t2 _ _,?_,h.lt,h.t1,h.t2⟩
 ·have hx:=b3.set pre.length v3
  rw[opZ,List.set_append_right _ _ (Nat.le_refl _),Nat.sub_self]at hx
  exact hx
 ·exact(h1.kept.grown hg (fun y hy=>by have:=hy.1;omega) (fun y hy hk=>by have:=(World.ownsRow.lt h1.fr.l y hy).1;have:=hk.1;omega)).set (fun hk=>hk.2 rfl) _
end
end Go.Proofs.YtbgoibedicbkjaaGreatDoor.Body
namespace Go.Proofs.YtbgoibedicbkjaaGreatDoor.Body
open Go.RowKit Mem Own Canon Nums Crc
theorem cut_none{A:Option Addr}{m c k:Nat}(hnil:A=none->m=0/\c=0):sZ A k c 1=none->m-k=0/\c-k=0:=fun h=>by
 have hA:A=none:=by
  unfold sZ at h
  split at h
  ·exact h
  ·cases A with
   |none=>rfl
   |some x=>cases h
 have:=hnil hA
 omega
def jnZ(w:World)(base gb p:Nat)(t:TypeId)(pre post:List Value)(S ls:List Nat)(e:Ending)(w':World):Prop:=
 ∃ (A2 A3:Option Addr) (c2 c3:Nat) (vF:Value) (vals:List Value),e= .returned (.tuple #[.slice A2 p c2, .slice A3 (ls.length-S.sum-p) c3])/\
  p<=c2/\ls.length-S.sum-p<=c3/\Row w base A2 p 1 (mZ .u8 ((ls.drop S.sum).take p))/\Row w base A3 (ls.length-S.sum-p) 1 (mZ .u8 (ls.drop (S.sum+p)))/\
  SpI w w' gb t pre post vF vals (sbZ S ls)
theorem peZb(w:World)(gb base bs p q:Nat)(t:TypeId)(x0 x4 x5 x6 x7:Value)(post:List Value)(As A:Option Addr)(ns cs n c:Nat)(S ls:List Nat)(hB:Blk w gb t (x0 :: .slice As ns cs :: .int .i64 (p:Nat) :: .int .i64 (q:Nat) :: x4 :: x5 :: x6 :: x7 :: .slice none 0 0 :: post).toArray)
 (ht0:3≠t)(ht1:22≠t)(ht2:5≠t)(hS:S.length=ns)(hns:ns<=100000)(hoS:w.ownsRow bs 3 1 (.slice As ns cs) ns (cZ .i64 S))(hn:ls.length=n)(hle:n<=100000)(hc:n<=c)(h8:∀x∈ls,x<=255)(hsum:S.sum+p<=n)
 (ha:Row w base A n 1 (mZ .u8 ls))(hbase:base<=gb)(hnil:A=none->n=0/\c=0):
 Calls Tryz.prog 62 #[.pointer (some ⟨gb,0,none⟩), .slice A n c] w (jnZ w base gb p t [x0, .slice As ns cs, .int .i64 (p:Nat), .int .i64 (q:Nat),x4,x5,x6,x7] post S ls):=by
 obtain⟨j0,hj0,hy0,hy1,hy2⟩:=info_parts owZ
 have hgb:=hB.lt
 have HSP0:Hid (SpI w w gb t [x0, .slice As ns cs, .int .i64 (p:Nat), .int .i64 (q:Nat),x4,x5,x6,x7] post (.slice none 0 0) [] []):=⟨hB,FrAt.nil _ _,Kept.refl _ _,hgb,ht1,ht2⟩
 have c1:=hB.cell 1
 simp only[List.getElem?_toArray,List.getElem?_cons_zero,List.getElem?_cons_succ]at c1
 have hcS:Hid (∀k x,S[k]? =some x->(S.take (k+1)).sum=(S.take k).sum+x/\(S.take (k+1)).sum+p<=n):=fun k x h=>by
  have h1:=upZ h
  have h2:=skZ S (k+1)
  exact⟨h1,by omega⟩
 have HS:=hid hS
 have HOS:=hid hoS
 have HN:=hid hn
 have H8:=hid h8
 have HBK:=hid hB
 have HA0:Hid (Row w base A n 1 (mZ .u8 (ls.drop 0))):=by show Row _ _ _ _ _ _;rw[List.drop_zero];exact ha
 have HN0:=hid hnil
 have HNG:=hid (jZ hoS hB ht0)
 clear hB hS hoS hn h8 ha hnil
 go_enter Tryz.func62,Tryz.ntmps62
 go_wp2_with fail
 go_loopw [1,14] (fun bv iv wr=>∃ (k mx cx off:Nat) (Ax:Option Addr) (vF:Value) (vals:List Value),k<=ns/\iv= .int .i64 k/\bv= .slice Ax mx cx/\mx+off=n/\mx<=cx/\Hid (off=(S.take k).sum)/\Hid (Row w base Ax mx 1 (mZ .u8 (ls.drop off)))/\Hid (Ax=none->mx=0/\cx=0)/\Hid (SpI w wr gb t [x0, .slice As ns cs, .int .i64 (p:Nat), .int .i64 (q:Nat),x4,x5,x6,x7] post vF vals (sbZ (S.take k) ls))) (fun _ iv _=>ns-(intOf iv).toNat)
 case atStart=>exact⟨0,n,c,0,A,_,[],by omega,rfl,rfl,by omega,hc,rfl,HA0.out,HN0.out,HSP0.out⟩
 case round=>
  obtain⟨k,mx,cx,off,Ax,vF,vals,hk,rfl,rfl,hmx,hcx,HOFF,HAX,HNX,HI⟩:=hrel
  have zr:=HI.out.kept.size
  clear HSP0 HA0 HN0
  by_cases hkn:k<ns
  ·have gk:decide ((k:Int)<(ns:Int))=true:=by simp;omega
   have gk':decide (k<ns)=true:=by simp;omega
   obtain⟨x,hx⟩:∃x,S[k]? =some x:=⟨_,List.getElem?_eq_getElem (by rw[HS.out];exact hkn)⟩
   obtain⟨hs1,hs2⟩:=hcS.out k x hx
   rw[<-HOFF.out]at hs1
   have hxm:x+p<=mx:=by omega
   have hoS:wr.ownsRow bs 3 1 (.slice As ns cs) ns (cZ .i64 S):=eZ HOS.out (fun y hy=>HI.out.kept.block y ⟨(World.ownsRow.lt HOS.out y hy).2,fun e=>HNG.out (e ▸ hy)⟩)
   obtain⟨gv,cv,hAv,hgv,_⟩:=hoS.form (by omega)
   injection hAv with q1 q2 q3
   subst q1 q3
   clear q2
   have ck:wr.cell? ⟨gv,k,none⟩=some (.int .i64 (x:Nat)):=by
    rw[hoS.cellAt k (by omega)]
    unfold cZ
    rw[List.getElem?_map,hx]
    rfl
   have x10:(0:Int)<=(k:Int):=by omega
   have x11:(k:Int)<(ns:Int):=by omega
   have hrk:Row wr base Ax mx 1 (mZ .u8 (ls.drop off)):=HAX.out.keep fun a ha=>World.cell?_of_block (a:=a) (HI.out.kept.block a.block ⟨by have:=HI.out.lt;omega,by omega⟩)
   have HLEN:Hid ((ls.drop off).length=mx):=by show _=_;rw[List.length_drop,HN.out];omega
   have HPC:Hid ((ls.drop off).take x=(ls.drop (S.take k).sum).take x):=by rw[HOFF.out];rfl
   have HCS:=hid (vqZ ls hx)
   obtain⟨pc,hpc⟩:∃pc,pc=(ls.drop off).take x:=⟨_,rfl⟩
   have hpl:pc.length=x:=by rw[hpc,List.length_take,HLEN.out];omega
   have DC:=hid (fun wx (hb:Below wr.heap.size wr wx)=>mgZ wx Ax x cx pc hpl (by omega) (fun h=>by have:=HNX.out h;omega) (((hpc ▸ hbZ hrk (by omega:x<=mx):Row wr base Ax x 1 (mZ .u8 pc)).mono (by have:=HI.out.lt;omega)).below hb |>.mono hb.size))
   have ks1:=fun wx=>fcZ (P:=Tryz.prog) (t:=22) (s:=1) Tryz.underlying22 (fun _=>by kernel_rfl) Ax mx cx .i64 (x:Int) x rfl (by omega) (fun a _=>rfl) wx
   have ks2:=fun wx=>vcZ (P:=Tryz.prog) (t:=22) (s:=1) Tryz.underlying22 (fun _=>by kernel_rfl) Ax mx cx .i64 (x:Int) x rfl (by omega) wx
   have HNR:Hid (Row w base (sZ Ax x cx 1) (mx-x) 1 (mZ .u8 (ls.drop (off+x)))):=by
    have h:=uZ HAX.out (by omega:x<=mx) hcx
    rw[List.drop_drop]at h
    exact h
   have HNN2:=hid (cut_none (k:=x) HNX.out)
   have hm2:mx-x+(off+x)=n:=by omega
   have hc2:mx-x<=cx-x:=by omega
   have HOFF2:Hid (off+x=(S.take (k+1)).sum):=hs1.symm
   have HPL:=hid hpl
   have c8:=HI.out.cell
   have f8:=HI.out.blk.frozen 8
   simp only[List.length_cons,List.length_nil,Nat.zero_add,Nat.reduceAdd]at c8
   obtain⟨fl,hfl⟩:∃fl,fl=(sbZ (S.take k) ls).length:=⟨_,rfl⟩
   have hflk:fl=k:=by rw[hfl,okZ,List.length_take,HS.out];omega
   subst hflk
   have hol:=HI.out.fr.l
   rw[<-hfl]at hol
   obtain⟨Af,cf,rfl⟩:=bZ hol
   have HOL:=hid hol
   have HFL:=hid hfl
   generalize sZ Ax x cx 1=A2 at *
   generalize hmm:mx-x=m2 at *
   generalize hcc:cx-x=c2 at *
   clear hoS hrk hpl hx hs1 hs2 hmm hcc hol hfl
   go_upto_region 4 with fail
   go_region_law(first|(go_simp;go_at_call 84;(with_reducible refine(DC.out _ (by(repeat(first|(with_reducible first|exact Below.refl _ _|assumption|refine Below.drew ?_|refine below_drewN ?_ _|refine aZ ?_|refine dZ (by assumption) ?_)|((with_reducible first|refine fZ ?_ ?_|refine gZ ?_ ?_|refine iZ (by assumption) ?_ ?_);(focus(first|(simp;done)|(simp;omega)|omega|(simp at *;omega)))))))).mono ?_);rintro e w4 ⟨v4,rfl,ho4,hb4⟩;obtain⟨A4,c4,rfl⟩:=bZ ho4;have hb44:Below wr.heap.size wr w4:=dZ hb4 (by(repeat(first|(with_reducible first|exact Below.refl _ _|assumption|refine Below.drew ?_|refine below_drewN ?_ _|refine aZ ?_|refine dZ (by assumption) ?_)|((with_reducible first|refine fZ ?_ ?_|refine gZ ?_ ?_|refine iZ (by assumption) ?_ ?_);(focus(first|(simp;done)|(simp;omega)|omega|(simp at *;omega)))))));have q8:=(HI.out.step hb44).cell;simp only[List.length_cons,List.length_nil,Nat.zero_add,Nat.reduceAdd]at q8;have HO4:Hid (w4.ownsRow w.heap.size 22 1 (.slice Af fl cf) fl vals):=eZ HOL.out (fun y hy=>hb44.block y (World.ownsRow.lt HOL.out y hy).2);have z44:=hb44.size;have q9:=((HI.out.step hb44).step (aZ (o:= .cells #[.slice A4 x c4] 22) (Below.refl w4.heap.size w4))).cell;simp only[List.length_cons,List.length_nil,Nat.zero_add,Nat.reduceAdd]at q9)|(refine qlZ rfl (.tmp 22) (.tmp 27) 31 rfl w.heap.size 22 j0 _ 1 24 Tryz.underlying31 hj0 hy0 hy1 hy2 rfl (by decide) (.slice Af fl cf) fl vals (by rfl) (by first|exact HO4.out.alloc _|exact(HO4.out.alloc _).drew) _ 1 1 [.slice A4 x c4] (by rfl) (Src.of_blk (Blk.made_at _ _ _ (by simp)) 1 1 1 rfl) (by intro u hu;simp at hu;rcases hu with rfl;rfl) (by unfold maxLen;omega) (by omega) (by simp;omega) ?_;intro A5 c5 w5 hown5 hg5;have b5:=((HI.out.step hb44).blk.alloc (.cells #[.slice A4 x c4] 22)).grown hg5 (Ne.symm (jZ HOL.out HI.out.blk ht1));have r8:=b5.cell 8;have s8:=b5.frozen 8;simp only[List.cons_append,List.nil_append,List.getElem?_toArray,List.getElem?_cons_zero,List.getElem?_cons_succ]at r8))
   all_goals
    have hi5:SpI w (w5.setCell ⟨gb,8,none⟩ (.slice A5 (fl+1) c5)) gb t [x0, .slice (some ⟨gv,0,none⟩) ns cs, .int .i64 (p:Nat), .int .i64 (q:Nat),x4,x5,x6,x7] post (.slice A5 (fl+1) c5) (vals++ [.slice A4 x c4]) (sbZ (S.take fl) ls++ [pc]):=(HI.out.step hb44).add (lZ (by rw[HPL.out];exact ho4) (by simpa using zr)) (aZ (o:= .cells #[.slice A4 x c4] 22) (Below.refl w4.heap.size w4)) hg5 (by rw[<-HFL.out];exact hown5)
    have HI5:Hid (SpI w (w5.setCell ⟨gb,8,none⟩ (.slice A5 (fl+1) c5)) gb t [x0, .slice (some ⟨gv,0,none⟩) ns cs, .int .i64 (p:Nat), .int .i64 (q:Nat),x4,x5,x6,x7] post (.slice A5 (fl+1) c5) (vals++ [.slice A4 x c4]) (sbZ (S.take (fl+1)) ls)):=by
     show SpI _ _ _ _ _ _ _ _ _
     rw[HCS.out,<-HPC.out,<-hpc]
     exact hi5
    clear hi5 hown5 hg5 b5 r8 s8 q8 q9 ho4 hb4 hb44 HO4 HI c8 f8 DC HOL
    generalize w5.setCell ⟨gb,8,none⟩ (.slice A5 (fl+1) c5)=w6 at *
    go_wp2_with fail
    go_roundw
    case measure=>go_light;simp[intOf];omega
    case rel=>go_light;exact⟨fl+1,m2,c2,off+x,A2,Value.slice A5 (fl+1) c5,vals++ [Value.slice A4 x c4],by omega,by first|rfl|go_num,rfl,hm2,hc2,HOFF2.out,HNR.out,HNN2.out,HI5.out⟩
  ·obtain rfl:k=ns:=by omega
   have gk:decide ((k:Int)<(k:Int))=false:=by simp
   have htk:S.take k=S:=List.take_of_length_le (by rw[HS.out];exact Nat.le_refl _)
   have hoff:=HOFF.out
   rw[htk]at hoff
   have hb2:=HI.out.blk.cell 2
   simp only[List.cons_append,List.nil_append,List.getElem?_toArray,List.getElem?_cons_zero,List.getElem?_cons_succ]at hb2
   have hpm:p<=mx:=by omega
   have ks1:=fun wx=>fcZ (P:=Tryz.prog) (t:=22) (s:=1) Tryz.underlying22 (fun _=>by kernel_rfl) Ax mx cx .i64 (p:Int) p rfl (by omega) (fun a _=>rfl) wx
   have ks2:=fun wx=>vcZ (P:=Tryz.prog) (t:=22) (s:=1) Tryz.underlying22 (fun _=>by kernel_rfl) Ax mx cx .i64 (p:Int) p rfl hpm wx
   have HR1:Hid (Row w base Ax p 1 (mZ .u8 ((ls.drop S.sum).take p))):=by rw[<-hoff];exact hbZ HAX.out hpm
   have HR2:Hid (Row w base (sZ Ax p cx 1) (mx-p) 1 (mZ .u8 (ls.drop (S.sum+p)))):=by
    have h:=uZ HAX.out hpm hcx
    rw[List.drop_drop,hoff]at h
    exact h
   have hm3:ls.length-S.sum-p=mx-p:=by rw[HN.out];omega
   have HM3:=hid hm3
   have HI2:Hid (SpI w wr gb t [x0, .slice As k cs, .int .i64 (p:Nat), .int .i64 (q:Nat),x4,x5,x6,x7] post vF vals (sbZ S ls)):=by
    have h:=HI.out
    rw[htk]at h
    exact h
   have hc4:p<=cx:=by omega
   have hc5:mx-p<=cx-p:=by omega
   generalize sZ Ax p cx 1=A3 at *
   generalize mx-p=m3 at *
   generalize cx-p=c3 at *
   clear HI htk hoff hm3 HOFF
   go_wp2_with fail
   go_quiet (fail)
   go_wp2_with fail
   go_ret2
   unfold jnZ
   rw[HM3.out]
   exact⟨Ax,A3,cx,c3,vF,vals,rfl,hc4,hc5,HR1.out,HR2.out,⟨HI2.out.blk,⟨eZ HI2.out.fr.l (fun y _=>rfl),fun i v b hv hi=>eZ (HI2.out.fr.r i v b hv hi) (fun y _=>rfl)⟩,HI2.out.kept.drewN _,HI2.out.lt,HI2.out.t1,HI2.out.t2⟩⟩
end Go.Proofs.YtbgoibedicbkjaaGreatDoor.Body
namespace Go.Proofs.YtbgoibedicbkjaaGreatDoor.Idx
open Go.RowKit Mem Own Canon Sift
open NumPut Recs Go.Proofs.YtbgoibedicbkjaaGreatDoor Crc Block
open Ef Nums
theorem qeZb{n size:Nat}{ls:List Nat}(h8:∀x∈ls,x<=255):∀ (f at_ x:Nat) (acc:List Nat),at_<=ls.length->(szR n size ls f at_ x acc).2.1<=ls.length
 |0,_,_,_,h=>h
 |f+1,at_,x,acc,h=>by
  unfold szR
  split
  ·exact h
  ·split
   ·exact kfZ h8 0 h
   ·exact qeZb h8 f _ _ _ (kfZ h8 0 h)
theorem reZb{size:Nat}{ls:List Nat}:∀ (ks:List Nat) (r at_:Nat) (acc:List Str),at_<=ls.length->(bkR size ls ks r at_ acc).2.1<=ls.length
 | [],_,_,_,h=>h
 |k :: ks,r,at_,acc,h=>by
  unfold bkR
  split
  ·exact Nat.zero_le _
  ·split
   ·exact Nat.zero_le _
   ·exact reZb ks _ _ _ (hhZ ls at_ 0 k h)
theorem nzZ{size:Nat}{ls:List Nat}:∀ (ks:List Nat) (r at_:Nat) (acc:List Str),(bkR size ls ks r at_ acc).1.length<=acc.length+r
 | [],_,_,_=>Nat.le_add_right _ _
 |k :: ks,r,at_,acc=>by
  unfold bkR
  split
  ·exact Nat.zero_le _
  ·split
   ·exact Nat.zero_le _
   ·rename_i h
    have h1:=nkZ (fbZ ls at_ 0 k) (min size r) true 0 acc (Classical.byContradiction h)
    have h2:=nzZ (size:=size) (ls:=ls) ks (r-size) (takeA ls at_ 0 k) (ncZ (fbZ ls at_ 0 k) (min size r) true 0 acc).1
    omega
theorem jmZ{size:Nat}{ls:List Nat}(h8:∀x∈ls,x<=255):(zdZ size ls).2.1<=ls.length/\(zdZ size ls).1.length<=1048576:=by
 have hv:tZ 1048576 ls 0 0<=1048576:=qbZ h8 0 0
 have ha:pZ 1048576 ls 0 0<=ls.length:=kfZ h8 0 (by omega)
 have hs:(chZ size ls).2.1<=ls.length:=by
  unfold chZ
  split
  ·exact ha
  ·exact qeZb h8 _ _ _ _ ha
 unfold zdZ
 split
 ·exact⟨Nat.zero_le _,Nat.zero_le _⟩
 ·have:=nzZ (size:=size) (ls:=ls) (chZ size ls).1 (tZ 1048576 ls 0 0) (chZ size ls).2.1 []
  exact⟨reZb _ _ _ _ hs,by simp only[List.length_nil]at this;omega⟩
def ixF(ts:List Str)(L:List (List Nat)×Int):(List Str×List (List Nat))×Int:=if L.2≠0 then(([],[]),L.2)else((ts,L.1),0)
def ixR(size bound:Nat)(ls:List Nat):(List Str×List (List Nat))×Int:=
 if(zdZ size ls).2.2≠0 then(([],[]),(zdZ size ls).2.2)else ixF (zdZ size ls).1 (lsR bound (ls.drop (zdZ size ls).2.1) (zdZ size ls).1.length 0 [])
def pjZ(w:World)(R:(List Str×List (List Nat))×Int)(e:Ending)(w':World):Prop:=
 ∃vT vL vals,e= .returned (.tuple #[.agg #[vT,vL], .int .i64 R.2])/\IxAt w' w.heap.size vT vL vals R.1.1 R.1.2/\Below w.heap.size w w'
theorem piZ(w:World)(base:Nat):IxAt w base (.slice none 0 0) (.slice none 0 0) [] [] []:=⟨World.ownsRow_nil _ _ _ _,World.ownsRow_nil _ _ _ _,fun i v ids h=>by simp at h⟩
theorem IxAt.set{w:World}{base b:Nat}{vT vL:Value}{vals:List Value}{ts:List Str}{ls:List (List Nat)}{cs:Array Value}(h:IxAt w base vT vL vals ts ls)(hob:Blk w b 36 cs)(k:Nat)(u:Value):IxAt (w.setCell ⟨b,k,none⟩ u) base vT vL vals ts ls:=
 ⟨vZ h.t (jZ h.t hob (by decide)) _,vZ h.l (jZ h.l hob (by decide)) _,fun i v ids hv hi=>vZ (h.r i v ids hv hi) (jZ (h.r i v ids hv hi) hob (by decide)) _⟩
theorem ntZ(w:World)(A:Option Addr)(m c size bound:Nat)(ls:List Nat)(hm:ls.length=m)(hle:m<=100000)(h8:∀x∈ls,x<=255)(hc:m<=c)(hnil:A=none->m=0/\c=0)(ha:Row w w.heap.size A m 1 (mZ .u8 ls))(hs1:1<=size)(hs2:size<=64)(hb:bound<=20000):
 Calls Tryz.prog 66 #[.int .i64 (size:Nat), .int .i64 (bound:Nat), .slice A m c] w (pjZ w (ixR size bound ls)):=by
 have HRO:Hid (∀wx,Below w.heap.size w wx->Row wx wx.heap.size A m 1 (mZ .u8 ls)):=fun wx h=>(ha.below h).mono h.size
 have D0:=hid (fun wx (h:Below w.heap.size w wx)=>vdZb wx A m c size ls hm hle h8 hnil (HRO.out wx h) hs1 hs2)
 have gneg:decide ((bound:Int)<0)=false:=by simp
 have gbig:decide ((20000:Int)<(bound:Int))=false:=by simp;omega
 have gbig':decide (20000<bound)=false:=by simp;omega
 obtain⟨R,hR⟩:∃R,R=ixR size bound ls:=⟨_,rfl⟩
 rw[<-hR]
 unfold ixR at hR
 obtain⟨hdl,hdn⟩:=jmZ (size:=size) h8
 generalize zdZ size ls=T at *
 obtain⟨ts,t1,te⟩:=T
 simp only at hR hdl hdn
 rw[hm]at hdl
 have hnr:=uZ (hm ▸ ha:Row w w.heap.size A ls.length 1 (mZ .u8 ls)) (by omega:t1<=ls.length) (by omega:ls.length<=c)
 rw[hm]at hnr
 have hnn:sZ A t1 c 1=none->m-t1=0/\c-t1=0:=fun h=>by
  have hA:A=none:=by
   unfold sZ at h
   split at h
   ·exact h
   ·cases A with
    |none=>rfl
    |some x=>cases h
  have:=hnil hA
  omega
 have DLS:=hid (fun wx (hbx:Below w.heap.size w wx)=>oeZb wx (sZ A t1 c 1) (m-t1) (c-t1) ts.length bound (ls.drop t1) (by rw[List.length_drop,hm]) (by omega) (fun x hx=>h8 x (List.mem_of_mem_drop hx)) (by omega) hnn ((hnr.below hbx).mono hbx.size) hb (by omega))
 have ks:=fun wx=>vcZ (P:=Tryz.prog) (t:=22) (s:=1) Tryz.underlying22 (fun _=>by kernel_rfl) A m c .i64 (t1:Int) t1 rfl hdl wx
 generalize lsR bound (ls.drop t1) ts.length 0 []=L at *
 generalize sZ A t1 c 1=A2 at *
 obtain⟨lv,le⟩:=L
 have HR:=hid hR
 unfold pjZ
 clear hR hnr hnn ha h8 hnil hm HRO
 go_enter Tryz.func66,Tryz.ntmps66
 go_wp2_with fail
 have hb1:Below w.heap.size w (w.alloc (.cells #[.slice none 0 0, .slice none 0 0] 36)):=aZ (Below.refl _ _)
 have hx1:Blk (w.alloc (.cells #[.slice none 0 0, .slice none 0 0] 36)) w.heap.size 36 #[.slice none 0 0, .slice none 0 0]:=Blk.made _ _ _
 have hz1:(w.alloc (.cells #[.slice none 0 0, .slice none 0 0] 36)).heap.size=w.heap.size+1:=by simp
 have D1:=hid (D0.out _ hb1)
 generalize w.alloc (.cells #[.slice none 0 0, .slice none 0 0] 36)=w1 at *
 have HB1:=hid hb1
 have HX1:=hid hx1
 clear hb1 hx1 D0
 refine D1.out.mono ?_
 rintro e w2 ⟨hb2,hbad,hok⟩
 have HB2:Hid (Below w.heap.size w w2):=HB1.out.trans (hb2.mono (by omega))
 have HX2:=hid (HX1.out.step hb2)
 have z2:=hb2.size
 have k0:=HX2.out.cell 0
 have k1:=HX2.out.cell 1
 have f0:=HX2.out.frozen 0
 have f1:=HX2.out.frozen 1
 simp only[List.getElem?_toArray,List.getElem?_cons_zero,List.getElem?_cons_succ]at k0 k1
 by_cases ht:te=0
 ·subst ht
  obtain⟨gd,sz,hs,vT,vH,rfl,hD⟩:=hok rfl
  have HD:=hid hD
  have hr:=HR.out
  rw[if_neg (show ¬((0:Int)≠0) from fun h=>h rfl)]at hr
  have HR2:=hid hr
  have DLN:=hid (fun wx (hb:Below w2.heap.size w2 wx)=>fiZb wx w1.heap.size gd sz ts hs vT vH (hD.keep (fun y _ hy=>hb.block y hy)))
  have DLS2:=hid (fun wx (hb:Below w2.heap.size w2 wx)=>DLS.out wx (HB2.out.trans (hb.mono (by omega))))
  clear hb2 hbad hok hD hr HR D1 HB1 HX1 DLS
  go_wp2_with fail
  go_region_held3 (fun _=>True) (trivial) (first|(go_at_call 116;(with_reducible refine(DLN.out _ (by(repeat(first|(with_reducible first|exact Below.refl _ _|assumption|refine Below.drew ?_|refine below_drewN ?_ _|refine aZ ?_|refine dZ (by assumption) ?_)|((with_reducible first|refine fZ ?_ ?_|refine gZ ?_ ?_|refine iZ (by assumption) ?_ ?_);(focus(first|(simp;done)|(simp;omega)|omega|(simp at *;omega)))))))).mono ?_);rintro e wA ⟨rfl,rfl⟩)|(go_at_call 115;(with_reducible refine(DLS2.out _ (by(repeat(first|(with_reducible first|exact Below.refl _ _|assumption|refine Below.drew ?_|refine below_drewN ?_ _|refine aZ ?_|refine dZ (by assumption) ?_)|((with_reducible first|refine fZ ?_ ?_|refine gZ ?_ ?_|refine iZ (by assumption) ?_ ?_);(focus(first|(simp;done)|(simp;omega)|omega|(simp at *;omega)))))))).mono ?_);rintro e wB ⟨hbB,vB,vals,rfl,hlsB⟩;have BB:Below w2.heap.size w2 wB:=(by have hq:=hbB;exact dZ hq (by(repeat(first|(with_reducible first|exact Below.refl _ _|assumption|refine Below.drew ?_|refine below_drewN ?_ _|refine aZ ?_|refine dZ (by assumption) ?_)|((with_reducible first|refine fZ ?_ ?_|refine gZ ?_ ?_|refine iZ (by assumption) ?_ ?_);(focus(first|(simp;done)|(simp;omega)|omega|(simp at *;omega))))))))))
  all_goals
   have HB5:Hid (Below w.heap.size w wB):=HB2.out.trans (BB.mono (by omega))
   have HX5:=hid (HX2.out.step BB)
   have zB:=BB.size
   have HLS:Hid (LsAt wB w2.heap.size vB vals lv):=hlsB
   have HD5:Hid (DAt wB w1.heap.size gd sz ts hs vT vH):=HD.out.keep (fun y _ hy=>BB.block y hy)
   obtain⟨Av,cv,rfl⟩:=bZ HLS.out.l
   have p0:=HX5.out.cell 0
   have p1:=HX5.out.cell 1
   have r0:=HX5.out.frozen 0
   have r1:=HX5.out.frozen 1
   simp only[List.getElem?_toArray,List.getElem?_cons_zero,List.getElem?_cons_succ]at p0 p1
   clear hbB hlsB BB DLN DLS2 HD HX2 HB2 k0 k1 f0 f1
   by_cases hle0:le=0
   ·subst hle0
    have HF:Hid (R=((ts,lv),0)):=by show _=_;rw[HR2.out];exact if_neg (fun h=>h rfl)
    have DA:=hid (giZb wB w1.heap.size gd sz ts hs vT vH HD5.out (by omega))
    go_wp2_with fail
    refine DA.out.mono ?_
    rintro e w6 ⟨vt,rfl,hot,hb6⟩
    obtain⟨At,ct,rfl⟩:=bZ hot
    have HX6:=hid (HX5.out.step hb6)
    have HIX:Hid (IxAt w6 w.heap.size (.slice At ts.length ct) (.slice Av lv.length cv) vals ts lv):=⟨lZ hot (by omega),lZ (HLS.out.step hb6).l (by omega),fun i v ids hv hi=>lZ ((HLS.out.step hb6).r i v ids hv hi) (by omega)⟩
    have HB6:Hid (Below w.heap.size w w6):=HB5.out.trans (hb6.mono (by omega))
    have q0:=HX6.out.cell 0
    have q1:=HX6.out.cell 1
    have s0:=HX6.out.frozen 0
    have s1:=HX6.out.frozen 1
    simp only[List.getElem?_toArray,List.getElem?_cons_zero,List.getElem?_cons_succ]at q0 q1
    clear hot hb6 DA HX5 HLS HD5 HB5 p0 p1 r0 r1
    go_wp2_with fail
    rw[HF.out]
    refine bodyPost_ret (v:= .tuple #[.agg #[.slice At ts.length ct, .slice Av lv.length cv], .int .i64 0]) ?_ rfl ⟨_,_,vals,rfl,?_,?_⟩
    ·have hx3:=(HX6.out.set 0 (.slice At ts.length ct)).set 1 (.slice Av lv.length cv)
     have e0:=hx3.cell 0
     have e1:=hx3.cell 1
     simp at e0 e1
     simp[results,Tryz.results66,go_sem,e0,e1]
    ·exact(HIX.out.set HX6.out 0 _).set (HX6.out.set 0 _) 1 _
    ·exact fZ (Nat.le_refl _) (fZ (Nat.le_refl _) HB6.out)
   ·have gE:(le != 0)=true:=by simpa using hle0
    have HF:Hid (R=(([],[]),le)):=by show _=_;rw[HR2.out];exact if_pos hle0
    clear hle0
    go_wp2_with fail
    rw[HF.out]
    refine bodyPost_ret (v:= .tuple #[.agg #[.slice none 0 0, .slice none 0 0], .int .i64 le]) ?_ rfl ⟨_,_,[],rfl,piZ _ _,?_⟩
    ·have hx3:=(HX5.out.set 0 (.slice none 0 0)).set 1 (.slice none 0 0)
     have e0:=hx3.cell 0
     have e1:=hx3.cell 1
     simp at e0 e1
     simp[results,Tryz.results66,go_sem,e0,e1]
    ·exact fZ (Nat.le_refl _) (fZ (Nat.le_refl _) HB5.out)
 ·have he:=hbad ht
  subst he
  have gE:(te != 0)=true:=by simpa using ht
  have HF:Hid (R=(([],[]),te)):=by have h:=HR.out;rw[if_pos ht]at h;exact h
  clear hb2 hbad hok ht HR D1 HB1 HX1 DLS
  go_wp2_with fail
  rw[HF.out]
  refine bodyPost_ret (v:= .tuple #[.agg #[.slice none 0 0, .slice none 0 0], .int .i64 te]) ?_ rfl ⟨_,_,[],rfl,piZ _ _,?_⟩
  ·have hx3:=(HX2.out.set 0 (.slice none 0 0)).set 1 (.slice none 0 0)
   have e0:=hx3.cell 0
   have e1:=hx3.cell 1
   simp at e0 e1
   simp[results,Tryz.results66,go_sem,e0,e1]
  ·exact fZ (Nat.le_refl _) (fZ (Nat.le_refl _) HB2.out)
end Go.Proofs.YtbgoibedicbkjaaGreatDoor.Idx
