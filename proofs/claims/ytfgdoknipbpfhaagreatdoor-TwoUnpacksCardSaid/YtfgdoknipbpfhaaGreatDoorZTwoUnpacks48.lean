/- All records of a bod -/
import Derived.Test.YtfgdoknipbpfhaaGreatDoorZTwoUnpacks46
import Derived.Test.YtfgdoknipbpfhaaGreatDoorZTwoUnpacks47
import Derived.Test.YtfgdoknipbpfhaaGreatDoorZTwoUnpacks43
namespace Go.Proofs.YtfgdoknipbpfhaaGreatDoor
open Go.Proofs.Tryz
open Go.Lib (hid)
set_option maxHeartbeats 4000000
set_option maxRecDepth 100000
variable{C L T:List Nat}{F:List (List Nat)}{k:Nat}{w w':World}{er:Int}
namespace Body
open Go.RowKit Mem Own Canon Nums Recs Opts
open Idx (Str IxAt eqX AQ BI mZ)
def Dp(C T L:List Nat)(F:List (List Nat)):Nat->Nat->List Rec->List Rec×Int
 |0,_,acc=>(acc,0)
 |m+1,k,acc=>if Dr C F k≠0 then([],Dr C F k)else Dp C T L F m (k+1) (acc++EH C T L F k)
def FN(l:List Rec):List Str×List (List Nat):=(AQ (l.map mZ),(AQ (l.map mZ)).map (BI (l.map mZ)))
def JX(X:List Str×List (List Nat))(R:List Rec×Int):Int:=if R.2≠0 then R.2 else if Dg R.1≠0 then 6 else if eqX X (FN R.1)=true then 0 else 15
def Fq(C T L:List Nat)(X:List Str×List (List Nat))(F:List (List Nat)):Int:=JX X (Dp C T L F F.length 0 [])
def FM(C T L:List Nat)(X:List Str×List (List Nat))(F:List (List Nat)):List Rec:=if Fq C T L X F=0 then(Dp C T L F F.length 0 []).1 else []
theorem MH(h:Dr C F k=0):(EH C T L F k).length=C.getD k 0:=by
 rw[show EH C T L F k=_ from Ab h,Jv];unfold Dr at h;split at h
 ·rename_i h1;exact absurd h h1
 ·split at h
  ·cases h
  ·split at h
   ·rename_i h1;exact absurd h h1
   ·split at h
    ·cases h
    ·rename_i h1;exact Fm h1
theorem Np(h:k<C.length):(C.take (k+1)).sum=(C.take k).sum+C.getD k 0:=by rw[<-List.take_append_getElem h,I6,Ar,AE h];simp
theorem Jt{l:List Rec}(h:Dg l=0):(∀r∈l,r.source.size<=50000/\r.text.size<=50000)/\(FN l).1.length<=2000000/\(FN l).2.length<=2000000/\(∀x∈(FN l).2,x.length<=2000000):=by
 have h1:=One.LV h
 have hw:CC l<=1048576/\l.length<=20000:=by
  unfold Dg at h;split at h
  ·cases h
  ·split at h
   ·cases h
   ·split at h
    ·cases h
    ·constructor<;>omega
 have a:=Sm (l.map mZ);have b:=Mo l;have c:(AQ (l.map mZ)).length<=2000000:=kR
 refine⟨fun r hr=> ?_,c,?_,fun x hx=> ?_⟩
 ·have h2:=h1 r hr;unfold Cz at h2;simp at h2;omega
 ·unfold FN;simp only;rw[Cg];exact c
 ·unfold FN at hx;simp only at hx;obtain⟨u,_,rfl⟩:=ET.1 hx;have:=Idx.LK (l.map mZ) u;rw[Cg]at this;omega
def Kr(C T L:List Nat)(X:List Str×List (List Nat))(F:List (List Nat))(w:World)(e:Ending)(w':World):Prop:=
 ∃v,e= .returned (.tuple #[v, .int .i64 (Fq C T L X F)])/\w'.ownsRow w 43 4 v (FM C T L X F).length (Bo (FM C T L X F))/\Below w w w'
theorem Jg{X:List Str×List (List Nat)}(hE:Fq C T L X F=er)(h:er≠0)(hb:Below w w w'):Kr C T L X F w (.returned (.tuple #[(),er])) w':=by subst hE;refine⟨_,rfl,?_,hb⟩;rw[show FM C T L X F= [] from Aa h];exact Aq _ _ _ _
theorem Tr{C T L:List Nat}{F:List (List Nat)}:∀ (m k:Nat) (i:List Rec),k+m<=C.length->i.length=(C.take k).sum->(Dp C T L F m k i).1.length<=C.sum
 |0,k,i,_,h=>by show i.length<=_;rw[h];exact Hu C k
 |m+1,k,i,hk,h=>by
  unfold Dp;split
  ·exact Ba _
  ·rename_i he;refine Tr m (k+1) _ kR ?_;rw[Aj,h,MH (Fm he),Np kR]
theorem Yb{X:List Str×List (List Nat)}(h1:C.length=F.length)(h2:C.sum<=20000):(FM C T L X F).length<=20000:=by
 unfold FM;split
 ·exact AY (Tr F.length 0 [] kR mY) h2
 ·exact Ba _
end Body
namespace Body
open Go.RowKit Mem Own Canon Nums Recs Opts
open Crc (TabAt)
def Kv(F:List (List Nat))(i:Int):Prop:=0<=i/\i<(F.length:Int)
instance (F:List (List Nat)) (i:Int):Decidable (Kv F i):=by unfold Kv;infer_instance
def Gz(C:List Nat)(F:List (List Nat))(i:Int):Int:=if Kv F i then Dr C F i.toNat else 13
def G9(C T L:List Nat)(F:List (List Nat))(i:Int):List Rec:=if Kv F i then EH C T L F i.toNat else []
end Body
namespace One
open Go.RowKit Mem Own Canon NumPut Nums Opts
open Recs Block
open Crc (TabAt)
theorem LG(l:List Rec):∀u∈Bo l,u.oneCell'=true:=by intro u hu;unfold Bo at hu;obtain⟨r,_,hr⟩:=List.mem_flatMap.1 hu;simp at hr;rcases hr with rfl|rfl|rfl|rfl<;>rfl
end One
namespace Body
open Go.RowKit Mem Own Canon Nums Recs Opts
open Crc (TabAt)
open Idx (Str IxAt eqX AQ BI mZ G1 K0 SE)
open Block (LL)
open Go.Proofs.YtfgdoknipbpfhaaGreatDoor.One (LG)
theorem TY(w:World)(base gb:Nat)(C S T L:List Nat)(X:List Str×List (List Nat))(F:List (List Nat))(K:List Bool)(ae:C.length=F.length)(hT:T.length=C.sum)(hL:L.length=C.sum)(hF:∀f∈F,f.length<=100000/\∀x∈f,x<=255)(hN:C.sum<=20000)(ay:F.length<=20000)(av:X.1.length<=2000000)(aS:X.2.length<=2000000)(aR:∀l∈X.2,l.length<=2000000)(ht:TabAt w)(aq:BodyAt w base gb C S T L X F K):
 Calls prog 19 #[.pointer (some ⟨gb,0,none⟩)] w (Kr C T L X F w):=by
 obtain⟨j0,a1,bb,aY,a6⟩:=info_parts Lf;have DF:=hid (fun wx (hb:Below w w wx) k (hk:k<F.length)=>YI wx base gb k C S T L X F K hk ae hT hL hF hN ay (ht.step hb) (aq.step hb));unfold J3 at DF;have aT:Hid (∀k,Dr C F k=0->(EH C T L F k).length=C.getD k 0):=fun k=>MH;have ar:Hid (∀k,k<C.length->(C.take (k+1)).sum=(C.take k).sum+C.getD k 0):=fun k=>Np;have aj:Hid (∀k,(C.take k).sum<=20000):=fun k=>AY (Body.Hu C k) hN;obtain⟨vc,vs,p,q,vt,vl,vT,vL,vF,va,vals,fv,h0,h1,h2,h3,h4,h5,h6,h7⟩:=aq;have am:=h6.l;have af:Hid (C.length=F.length):=ae;have HE:Hid (Fq C T L X F=JX X (Dp C T L F F.length 0 [])):=rfl;have HO:Hid (Fq C T L X F=0->FM C T L X F=(Dp C T L F F.length 0 []).1):=fun h=>Ab h;obtain⟨nf,az⟩:=iS F.length;rw[<-az]at am ay HE HO af DF;obtain⟨AF,dF,rfl⟩:=aZ am;have HS:Hid (∀wx,Below w w wx->wx.cell? ⟨gb,8,none⟩=some (.slice AF nf dF)/\wx.cell? ⟨gb,6,none⟩=some vT/\wx.cell? ⟨gb,7,none⟩=some vL):=fun wx hb=>⟨(h0.step hb).cell 8,(h0.step hb).cell 6,(h0.step hb).cell 7⟩;have DC:=hid (fun wx A n c (l:List Rec) (hl:l.length=n) (hn:n<=20000) hr=>Q7 wx A n c l hl kR hr);have DB:=hid (fun wx A n c (l:List Rec) (hl:l.length=n) (hn:n<=20000) (hk:Dg l=0) hr=>K0 wx A n c l hl hn (Jt hk).1 hr);unfold G1 at DB;have far:∀ {wx:World} {b s n:Nat} {e:TypeId} {v:Value} {xs:List Value},Below w w wx->w.ownsRow b e s v n xs->wx.ownsRow b e s v n xs:=fun hb ho=>dZ ho fun y hy=>hb.block y (Ae ho y hy).2;have DP:=hid (fun wx v1 v2 E p2 (l:List Rec) (hk:Dg l=0) (hb:Below w w wx) (h2:IxAt wx p2 v1 v2 E (AQ (l.map mZ)) ((AQ (l.map mZ)).map (BI (l.map mZ))))=>SE wx base p2 vT vL v1 v2 vals E X (FN l) ⟨far hb h5.t,far hb h5.l,fun i v ids hv hi=>far hb (h5.r i v ids hv hi)⟩ h2 av aS aR (Jt hk).2.2.1 (Jt hk).2.2.2);obtain⟨R,hR⟩:=iS (Dp C T L F nf 0 []);rw[<-hR]at HE HO;have HR:Hid (Dp C T L F nf 0 []=R):=hR.symm;have c8:=(HS.out w (Ag _ _)).1;obtain⟨RL,RE⟩:=R;simp only at HO;clear hR h0 h1 h2 h3 h4 h5 h6 h7 am az ae hT hL hF hN ht av aS aR far;go_enter func19,ntmps19;go_wp2_with fail;go_loopw [4,16] (fun v i wr=>∃ (k:Nat) (j:List Rec),i= .int .i64 k/\k<=nf/\Hid (j.length=(C.take k).sum)/\Hid (Dp C T L F (nf-k) k j=(RL,RE))/\Hid (wr.ownsRow w 43 4 v j.length (Bo j))/\Hid (Below w w wr)) (fun _ i _=>nf-(intOf i).toNat)
 case atStart=>exact⟨0,[],rfl,kR,mS,HR.out,Aq _ _ _ _,Ag _ _⟩
 case round=>
  obtain⟨k,j,rfl,hk,HA,HG,G,HB⟩:=hrel;obtain⟨w0,rfl⟩:=iS wr;clear HR c8;have Q:j.length<=20000:=by rw[HA.out];exact aj.out k
  by_cases ah:k<nf
  ·have gk:=iQ ((k:Int)<nf);have aV:=iQ (k<nf);obtain⟨m,hm⟩:∃m,nf-k=m+1:=⟨nf-k-1,kR⟩;have ax:nf-(k+1)=m:=kR;have hG:=HG.out;rw[hm,Dp]at hG;have E1:=hid (DF.out w0 HB.out k ah);have an:=hid (aT.out k);have ak:=hid (ar.out k (by rw[af.out];exact ah));generalize Dr C F k=fe at *;generalize EH C T L F k=fo at *;have a0:=hid ax;have be:=aj.out (k+1);clear hm ax HG;by_cases hb:fe=0
   ·subst hb;have aQ:=an.out i7;have a4:Hid (Dp C T L F m (k+1) (j++fo)=(RL,RE)):=(by rw[Aa mY]at hG;exact hG);have aU:Hid ((j++fo).length=(C.take (k+1)).sum):=(by show _=_;rw[Aj,ak.out,HA.out,aQ]);have bc:fo.length<=20000:=(by have h:=aU.out;rw[Aj]at h;omega);clear hG aQ an ak;go_wp2_with fail;refine E1.out.mono ?_;rintro e w1 ⟨v,rfl,Y,z⟩;obtain⟨A1,c1,rfl⟩:=aZ Y;obtain⟨A2,c2,rfl⟩:=aZ G.out;have a3:=hid Y;have J:Hid (Below w w w1):=HB.out.trans (z.mono HB.out.size);have aP:Hid (w1.ownsRow w 43 4 (.slice A2 j.length c2) j.length (Bo j)):=dZ G.out (fun x hx=>z.block x (Ae G.out x hx).2);have zz:=J.out.size;clear Y z E1 G HB;go_wp2_with(at_builtin;refine gZ rfl (.tmp 28) (.tmp 29) 24 rfl w 43 j0 _ 4 48 underlying24 a1 bb aY a6 rfl iX (.slice A2 j.length c2) j.length (Bo j) kU aP.out A1 fo.length c1 (Bo fo) kU (LL a3.out) (LG fo) nI kR kR ?_;intro v5 w5 ag a8 bd);have a5:Below w w w5:=J.out.grown a8 zz (fun y hy=>(Ae aP.out y hy).1);go_roundw
    case measure=>exact jw
    case rel=>go_light;refine⟨k+1,j++fo,i5,kR,aU.out,by rw[a0.out];exact a4.out,?_,a5⟩;rw[J4,Aj];exact ag
   ·have hR:([],fe)=(RL,RE):=(by rw[Ab hb]at hG;exact hG);simp only[Prod.mk.injEq]at hR;obtain⟨rfl,rfl⟩:=hR;have M:Hid (Fq C T L X F=fe):=(by show _=_;rw[HE.out];exact Ab hb);have g1:(fe != 0)=true:=(by simpa using hb);have a7:=hid hb;clear hG hb HE HO an ak;go_wp2_with fail;refine E1.out.mono ?_;rintro e w1 ⟨v,rfl,Y,z⟩;have J:Hid (Below w w w1):=HB.out.trans (z.mono HB.out.size);clear Y z E1;go_wp2_with fail;go_ret2;exact Jg M.out a7.out J.out
  ·obtain rfl:k=nf:=by omega
   have gk:=iR ((k:Int)<k);have aV:=iR (k<k);have hG:=HG.out;rw[Fj,Dp]at hG;simp only[Prod.mk.injEq]at hG;obtain⟨rfl,rfl⟩:=hG;obtain⟨A2,c2,rfl⟩:=aZ G.out;have ab:=J1 G.out;have E1:=hid (DC.out w0 A2 j.length c2 j rfl Q ab);have he:=HE.out;unfold JX at he;simp only at he;rw[Aa mY]at he;clear HG HE DF DC aT ar aj af HA ah ab;by_cases h1:Dg j=0
   ·rw[Aa (by simp[h1])]at he;rw[h1]at E1;have E2:=hid (fun wx hr=>DB.out wx A2 j.length c2 j rfl Q h1 hr);have E3:=hid (fun wx v1 v2 E p2 hb h=>DP.out wx v1 v2 E p2 j h1 hb h);have ai:Hid (∀wx,Below w0 w0 wx->Row wx wx A2 j.length 4 (Dt j)):=fun wx hb=>J1 (dZ G.out (fun x hx=>hb.block x (Ae G.out x hx).2));have Z:Hid (∀wx,Below w0 w0 wx->Below w w wx):=fun wx hb=>HB.out.trans (hb.mono HB.out.size);obtain⟨al,U⟩:=iS j.length;rw[<-U]at E1 E2 ai Q;have N:=G.out;rw[<-U]at N;have aa:=hid N;have a9:=hid U;have HE:=hid he;rw[<-U];clear he h1 DB DP G N U;go_wp2_with fail;refine E1.out.mono ?_;rintro e w1 ⟨rfl,z⟩;have J:=hid z;clear z E1;go_upto_region 15 with fail;go_cut [44] (fun s wx=>s= .bool (!eqX X (FN j))/\Hid (Below w0 w0 wx))
    case first=>
     have ba:Hid (∀wx,Below w0 w0 wx->wx.cell? ⟨gb,6,none⟩=some vT/\wx.cell? ⟨gb,7,none⟩=some vL):=fun wx hb=>(HS.out wx (Z.out wx hb)).2;have b1:=J.out;clear HS HE;go_region_held3 (fun wx=>wx.cell? ⟨gb,6,none⟩=some vT/\wx.cell? ⟨gb,7,none⟩=some vL) (exact ba.out _ nJ) (first|(go_at_call 52;(with_reducible refine(E2.out _ (ai.out _ nJ)).mono ?_);rintro e wB ⟨v1,v2,E,rfl,ac,aW⟩;have BB:Below w0 w0 wB:=eZ aW nJ)|(go_at_call 65;(with_reducible refine(E3.out _ _ _ _ _ (Z.out _ nJ) (by first|exact ac|exact ac.step nJ)).mono ?_);rintro e wG ⟨rfl,aX⟩;have BG:Below w0 w0 wG:=eZ aX nJ))
     all_goals
      go_wp2_with fail;go_meet
      case rel=>exact⟨rfl,hid BG⟩
    case rest=>
     obtain⟨rfl,au⟩:=hcut;have aw:=hid (Z.out _ au.out);have he:=HE.out;clear E2 E3 ai Z J HS HE;cases hx:eqX X (FN j)
     ·rw[Aa (by simp[hx])]at he;have M:=hid he;clear hx he;go_wp2_with fail;go_ret2;exact Jg M.out iX aw.out
     ·rw[Ab hx]at he;have M:=hid he;clear hx he;go_wp2_with fail;go_ret2;refine⟨.slice A2 al c2,by rw[M.out];rfl,?_,aw.out⟩;rw[HO.out M.out,<-a9.out];exact dZ aa.out (fun x hx=>au.out.block x (Ae aa.out x hx).2)
   ·rw[Ab h1]at he;have h6:=One.RG h1;rw[h6]at E1;have M:=hid he;clear he h1 DB DP G h6;go_wp2_with fail;refine E1.out.mono ?_;rintro e w1 ⟨rfl,z⟩;have J:Hid (Below w w w1):=HB.out.trans (z.mono HB.out.size);clear z E1;go_wp2_with fail;go_ret2;exact Jg M.out iX J.out
end Body
namespace Body
open Go.RowKit Mem Own Canon Nums Recs Opts
open Block (opE opO opA O2 Ho Mf JY KZ)
open Idx (Str IxAt)
def MA(C T L:List Nat)(F:List (List Nat))(i:Int)(w:World)(e:Ending)(w':World):Prop:=
 ∃v,e= .returned (.tuple #[v, .int .i64 (Gz C F i)])/\w'.ownsRow w 43 4 v (G9 C T L F i).length (Bo (G9 C T L F i))/\Below w w w'
theorem Jf{i:Int}(hE:Gz C F i=er)(hO:er≠0->G9 C T L F i= [])(h:er≠0)(hb:Below w w w'):MA C T L F i w (.returned (.tuple #[(),er])) w':=by subst hE;refine⟨_,rfl,?_,hb⟩;rw[hO h];exact Aq _ _ _ _
theorem V2(w:World)(base sz:Nat)(v:Value)(i:Int)(C T L:List Nat)(X:List Idx.Str×List (List Nat))(F:List (List Nat))(a6:sz<=w.heap.size)(aP:C.length=F.length)(hT:T.length=C.sum)(hL:L.length=C.sum)(hF:∀f∈F,f.length<=100000/\∀x∈f,x<=255)(hN:C.sum<=20000)(a8:F.length<=20000)(be:RBod w base sz v C T L X F):
 Calls prog 160 #[v,i] w (MA C T L F i w):=by
 obtain⟨vc,vf,vt,vl,vT,vL,vals,fv,rfl,h1,h2,h3,h4,h5,h6⟩:=be;have az:fv.length=F.length:=by have:=h2.1;omega
 obtain⟨nf,ac⟩:=iS F.length;obtain⟨kc,al⟩:=iS C.length;obtain⟨nt,au⟩:=iS T.length;obtain⟨nl,ar⟩:=iS L.length;rw[<-ac]at h2;rw[<-al]at h1;rw[<-au]at h4;rw[<-ar]at h5;obtain⟨Ac,dC,rfl⟩:=aZ h1;obtain⟨AF,dF,rfl⟩:=aZ h2;obtain⟨At,ct,rfl⟩:=aZ h4;obtain⟨Al,cl,rfl⟩:=aZ h5;obtain⟨AT,cT,rfl⟩:=aZ h6.t;obtain⟨AL,cL,rfl⟩:=aZ h6.l;generalize X.1.length=n1 at *;generalize X.2.length=n2 at *;have far:∀ {wx:World} {b s n:Nat} {e:TypeId} {v:Value} {xs:List Value},Below w w wx->w.ownsRow b e s v n xs->wx.ownsRow b e s v n xs:=fun hb ho=>dZ ho fun y hy=>hb.block y (Ae ho y hy).2;by_cases hi:Kv F i
 ·have ab:Gz C F i=Dr C F i.toNat:=Ab hi;have am:G9 C T L F i=EH C T L F i.toNat:=Ab hi;obtain⟨i0,i1⟩:=hi;obtain⟨k,rfl⟩:=JV i0;rw[show((k:Nat):Int).toNat=k from rfl]at ab am;have hk:k<F.length:=by omega
  obtain⟨f,hf⟩:∃f,F[k]? =some f:=⟨_,AE hk⟩;obtain⟨u,hu⟩:∃u,fv[k]? =some u:=⟨_,AE kR⟩;obtain⟨Af,n,cf,rfl,ay,aR,ag,af⟩:=h3 k u f hu hf;have a3:F.getD k []=f:=by rw[Ar,hf];rfl
  obtain⟨cn,aU⟩:∃cn,C[k]? =some cn:=⟨_,AE kR⟩;have aV:C.getD k 0=cn:=by rw[Ar,aU];rfl
  have bC:(C.take k).sum+cn<=C.sum:=by rw[<-aV];exact Tv k
  have aw:=hF f (BP hf);have E:=hid (show Gz C F (k:Int)=if opE f≠0 then opE f else if opA f<f.length then 2 else if(Eu (opO f)).2≠0 then(Eu (opO f)).2 else if(Eu (opO f)).1.length≠cn then 2 else 0 by rw[ab];unfold Dr;rw[a3,aV]);have G:Hid (Gz C F (k:Int)=0->G9 C T L F (k:Int)=CZ T L (C.take k).sum (Eu (opO f)).1):=fun h=>by rw[am];rw[ab]at h;unfold EH;rw[Ab h,a3]
  have Y:Hid (∀er:Int,Gz C F (k:Int)=er->er≠0->G9 C T L F (k:Int)= []):=fun er h h2=>by rw[am];rw[ab]at h;exact Aa (by rw[h];exact h2)
  obtain⟨gF,cX,bl,bF,_⟩:=h2.form kR;injection bl with q1 q2 q3;subst q1 q3;clear q2;obtain⟨gC,cX,bB,bD,_⟩:=h1.form kR;injection bB with q1 q2 q3;subst q1 q3;clear q2;have cF:=(h2.cellAt k kR).trans hu;have cC:w.cell? ⟨gC,k,none⟩=some (.int .i64 (cn:Nat)):=by rw[h1.cellAt k kR];unfold cZ;rw[B0,aU];rfl
  have ax:=aw.2;have bJ:=JY ax;have bp:=hid (KZ ax);have bI:Hid ((opO f).length<=100000):=by show _<=_;have:=aw.1;omega
  have D1:=hid (fun wx (hb:Below w w wx)=>O2 wx Af n cf f aR (by have:=aw.1;omega) ay ag (fun h0=>fun a ha=>(Mf ((af.mono a6)) h0 a ha).1) ax (((af.mono a6).below hb).mono hb.size));unfold Ho at D1;have HK:Hid (∀wx,Below w w wx->wx.cell? ⟨gF,k,none⟩=some (.slice Af n cf)/\wx.cell? ⟨gC,k,none⟩=some (.int .i64 (cn:Nat))):=fun wx hb=>⟨(hb.cell (p:=⟨gF,k,none⟩) (Ae h2 gF rfl).2).trans cF,(hb.cell (p:=⟨gC,k,none⟩) (Ae h1 gC rfl).2).trans cC⟩;have HC:Hid (∀wx j,Below w w wx->j<kc->∃x,C[j]? =some x/\wx.cell? ⟨gC,j,none⟩=some (.int .i64 (x:Nat))):=fun wx j hb hj=>by obtain⟨x,hx⟩:∃x,C[j]? =some x:=⟨_,AE kR⟩;refine⟨x,hx,(hb.cell (p:=⟨gC,j,none⟩) (Ae h1 gC rfl).2).trans ((h1.cellAt j kR).trans ?_)⟩;unfold cZ;rw[B0,hx];rfl
  have HT:Hid (∀wx i,Below w w wx->i<nt->∃g,At=some ⟨g,0,none⟩/\g<w.heap.size/\wx.cell? ⟨g,i,none⟩=some (.int .u64 (T.getD i 0:Nat))):=fun wx i hb hi=>by obtain⟨b,cX,hA,hg,_⟩:=h4.form kR;injection hA with q1 q2 q3;subst q1;have h:=h4.cellAt i kR;refine⟨b,rfl,(Ae h4 b rfl).2,(hb.cell (p:=⟨b,i,none⟩) (Ae h4 b rfl).2).trans (h.trans ?_)⟩;unfold cZ;rw[B0,Ar,AE kR];rfl
  have HL:Hid (∀wx i,Below w w wx->i<nl->∃g,Al=some ⟨g,0,none⟩/\g<w.heap.size/\wx.cell? ⟨g,i,none⟩=some (.int .u8 (L.getD i 0:Nat))):=fun wx i hb hi=>by obtain⟨b,cX,hA,hg,_⟩:=h5.form kR;injection hA with q1 q2 q3;subst q1;have h:=h5.cellAt i kR;refine⟨b,rfl,(Ae h5 b rfl).2,(hb.cell (p:=⟨b,i,none⟩) (Ae h5 b rfl).2).trans (h.trans ?_)⟩;unfold cZ;rw[B0,Ar,AE kR];rfl
  have bX:(k:Int)<(nf:Int):=kR
  have b1:(k:Int)<(kc:Int):=kR
  have bN:k<kc:=kR
  have b0:(0:Int)<=(k:Int):=kR
  have bM:k<=20000:=kR
  have g0:=iR ((k:Int)<0)
  have g1:=iR ((nf:Int)<=k)
  have bV:=iR (nf<=k)
  have Q:Hid ((C.take k).sum+cn<=nt/\(C.take k).sum+cn<=nl/\(C.take k).sum+cn<=20000):=by show _/\_;omega
  have J:Hid (∀j,(C.take j).sum<=20000):=fun j=>AY (Body.Hu C j) hN;have Z:Hid (∀j x,C[j]? =some x->(C.take (j+1)).sum=(C.take j).sum+x):=fun j x hx=>by obtain⟨hj,e⟩:=Ch.1 hx;rw[<-List.take_append_getElem hj,I6,e];simp
  have an:Hid (f.length=n):=aR;obtain⟨p1,p2⟩:=HK.out w (Ag _ _);have lF:=(Ae h2 gF rfl).2;have lC:=(Ae h1 gC rfl).2;obtain⟨a0,aW⟩:=iS ((C.take k).sum);have bh:=hid aW;rw[<-aW]at Q G;clear h1 h2 h3 h4 h5 h6 hu hf a3 aU aV bC aw ac al au ar ax bJ af cF cC hT hL hF hN bF bD az aP ay ag aR far ab am hk i0 i1 aW;go_enter func160,ntmps160;go_wp2_with fail;have U:Blk (w.alloc (.cells #[.slice (some ⟨gC,0,none⟩) kc dC, .slice (some ⟨gF,0,none⟩) nf dF, .slice At nt ct, .slice Al nl cl, .slice AT n1 cT, .slice AL n2 cL] 138)) w 138 #[.slice (some ⟨gC,0,none⟩) kc dC, .slice (some ⟨gF,0,none⟩) nf dF, .slice At nt ct, .slice Al nl cl, .slice AT n1 cT, .slice AL n2 cL]:=Blk.made _ _ _;have M:Below w w (w.alloc (.cells #[.slice (some ⟨gC,0,none⟩) kc dC, .slice (some ⟨gF,0,none⟩) nf dF, .slice At nt ct, .slice Al nl cl, .slice AT n1 cT, .slice AL n2 cL] 138)):=bZ (Ag _ _);generalize w.alloc (.cells #[.slice (some ⟨gC,0,none⟩) kc dC, .slice (some ⟨gF,0,none⟩) nf dF, .slice At nt ct, .slice Al nl cl, .slice AT n1 cT, .slice AL n2 cL] 138)=wb at *;have ak:=hid M;have DR:=hid (D1.out wb M);have HS:Hid (∀wx,Below wb wb wx->wx.cell? ⟨w,0,none⟩=some (.slice (some ⟨gC,0,none⟩) kc dC)/\wx.cell? ⟨w,1,none⟩=some (.slice (some ⟨gF,0,none⟩) nf dF)/\wx.cell? ⟨w,2,none⟩=some (.slice At nt ct)/\wx.cell? ⟨w,3,none⟩=some (.slice Al nl cl)/\Below w w wx):=fun wx hb=>⟨(U.step hb).cell 0,(U.step hb).cell 1,(U.step hb).cell 2,(U.step hb).cell 3,M.trans (hb.mono M.size)⟩;have bi:=U.lt;have bQ:=M.size;clear U p1 p2 lF lC M D1;refine DR.out.mono ?_;rintro e w1 ⟨v1,rfl,aa,N⟩;obtain⟨A1,c1,rfl⟩:=aZ aa;have B1:=hid N;obtain⟨s0,s1,s2,s3,sb⟩:=HS.out w1 N;obtain⟨p1,p2⟩:=HK.out w1 sb;have a9:=N.size;have SB:=hid sb;have bG:=hid (Y.out);clear sb;by_cases z:opE f=0
  ·have hE:=E.out;rw[Aa (by simp[z])]at hE;rw[z];by_cases aq:opA f<f.length
   ·rw[Ab aq]at hE;have HE:=hid hE;have ga:decide ((opA f:Int)<(n:Int))=true:=ng;have bq:decide (opA f<n)=true:=ng;generalize opA f=oa at *;clear E hE aa N DR z aq HT HL Q G HS HK HC J Z;go_wp2_with fail;go_ret2;exact Jf HE.out (Y.out _ HE.out) iX SB.out
   ·rw[Aa aq]at hE;have ga:decide ((opA f:Int)<(n:Int))=false:=ng;have bq:decide (opA f<n)=false:=ng;have D2:=hid (Xx w1 A1 _ c1 (opO f) rfl bI.out bp.out (Da aa).1 (Ef.own_row aa rfl));unfold La at D2;generalize opA f=oa at *;generalize hR:Eu (opO f)=R at *;generalize (opO f).length=lo at *;obtain⟨R,re⟩:=R;simp only at hE D2;have HE:=hid hE;clear E hE aa N DR z aq hR;go_wp2_with fail;refine D2.out.mono ?_;rintro e w2 ⟨v2,rfl,aj,aS⟩;obtain⟨m,hm⟩:=iS R.length;rw[<-hm]at aj;obtain⟨A2,c2,rfl⟩:=aZ aj;have B2:Hid (Below wb wb w2):=B1.out.trans (aS.mono a9);obtain⟨s0,s1,s2,s3,sb⟩:=HS.out w2 B2.out;obtain⟨p1,p2⟩:=HK.out w2 sb;have a4:=hid sb;have bt:Hid (w2.ownsRow w1 43 4 (.slice A2 m c2) m (Bo R)):=aj;have bn:=hid aS;have HM:=hid hm;clear aj aS D2 hm sb;by_cases ah:re=0
    ·subst ah;by_cases ba:m=cn
     ·subst ba;have gm:((m:Int) != (m:Int))=false:=mY;have a5:Hid (Gz C F (k:Int)=0):=jD;have bc:Hid (G9 C T L F (k:Int)=CZ T L a0 R):=G.out a5.out;obtain⟨l1,l2,l3⟩:=Q.out;clear HE G Y bG;go_wp2_with fail;go_loopw [10,11] (fun av iv wr=>∃j:Nat,j<=k/\av= .int .i64 ((C.take j).sum:Nat)/\iv= .int .i64 j/\Hid (wr=w2)) (fun _ iv _=>k-(intOf iv).toNat)
      case atStart=>exact⟨0,kR,mY,rfl,i8⟩
      case round=>
       obtain⟨j,hj,rfl,rfl,HW⟩:=hrel;have hw:=HW.out;subst hw;by_cases ae:j<k
       ·obtain⟨x,hx,cx⟩:=HC.out wr j a4.out kR;have a1:=Z.out j x hx;have a7:=J.out (j+1);have gk:=iQ ((j:Int)<k);have bd:=iQ (j<k);have y0:(0:Int)<=(j:Int):=kR;have y1:(j:Int)<(kc:Int):=kR;have bf:=hid a1;rw[a1]at a7;generalize (C.take j).sum=sj at *;have bR:IntKind.i64.wrap ((sj:Int)+(x:Int))=((sj+x:Nat):Int):=lD;have bg:IntKind.i64.wrap ((j:Int)+1)=((j+1:Nat):Int):=lD;clear hx a1 HT HL;go_wp2_with fail;go_roundw
        case measure=>exact jw
        case rel=>go_light;exact⟨j+1,kR,by rw[bf.out,Int.natCast_add],i5,i8⟩
       ·obtain rfl:j=k:=by omega
        have gk:=iR ((j:Int)<j);rw[<-bh.out];clear ae HC J Z;go_wp2_with fail;go_loopw [12] (fun iv wx=>∃i:Nat,i<=m/\iv= .int .i64 i/\Hid (wx.ownsRow w1 43 4 (.slice A2 m c2) m (Bo (De T L a0 R i)))/\Hid (Below w1 w1 wx)) (fun iv _=>m-(intOf iv).toNat)
        case atStart=>exact⟨0,kR,rfl,by rw[S5];exact bt.out,bn.out⟩
        case round=>
         obtain⟨i,hi,rfl,HO,HB⟩:=hrel;have bE:Hid (Below wb wb wr):=B1.out.trans (HB.out.mono a9);obtain⟨s0,s1,s2,s3,sb⟩:=HS.out wr bE.out;have ak:Hid (Below w w wr):=sb;by_cases ae:i<m
         ·obtain⟨gt,bK,bP,bk⟩:=HT.out wr (a0+i) ak.out kR;obtain⟨gl,bm,bS,bA⟩:=HL.out wr (a0+i) ak.out kR;subst bK bm;have ho:=HO.out;obtain⟨gr,cX,bj,bb,_⟩:=ho.form kR;injection bj with q1 q2 q3;subst q1 q3;clear q2;have gk:=iQ ((i:Int)<m);have bd:=iQ (i<m);have bY:(0:Int)<=(i:Int):=kR;have bT:(i:Int)<(m:Int):=kR;have a7:IntKind.i64.wrap ((a0:Int)+(i:Int))=((a0+i:Nat):Int):=lD;have bg:IntKind.i64.wrap ((i:Int)+1)=((i+1:Nat):Int):=lD;have bU:(0:Int)<=((a0+i:Nat):Int):=kR;have b3:((a0+i:Nat):Int)<(nt:Int):=kR;have bW:((a0+i:Nat):Int)<(nl:Int):=kR;have aT:i<(De T L a0 R i).length:=(by rw[Sl,<-HM.out];exact ae);have k0:wr.cell? ⟨gr,i*4,none⟩=some (.int .u64 ((De T L a0 R i).getD i Gf).time):=(ho.cellAt (i*4) kR).trans (Jz _ i 0 aT kR);have k1:wr.cell? ⟨gr,i*4+1,none⟩=some (.int .u8 ((De T L a0 R i).getD i Gf).level):=(ho.cellAt (i*4+1) kR).trans (Jz _ i 1 aT kR);have f0:=ho.frozenAt (i*4);have f1:=ho.frozenAt (i*4+1);generalize ((De T L a0 R i).getD i Gf).time=z0 at k0;generalize ((De T L a0 R i).getD i Gf).level=z1 at k1;obtain⟨tv,aY⟩:=iS (T.getD (a0+i) 0);obtain⟨lv,aQ⟩:=iS (L.getD (a0+i) 0);rw[<-aY]at bk;rw[<-aQ]at bA;have bu:=hid aY;have bH:=hid aQ;have bL:w.heap.size≠gr:=(by have:=bi;omega);have bO:gl≠gr:=kR;clear ho HT HL aY aQ aT sb;go_wp2_with fail;go_roundw
          case measure=>exact jw
          case rel=>go_light;refine⟨i+1,kR,jx,?_,((HB.out.setCell (p:=⟨gr,i*4,none⟩) bb _).setCell (p:=⟨gr,i*4+1,none⟩) bb _)⟩;rw[bu.out,bH.out,<-SQ (by rw[<-HM.out];exact ae)];exact(World.ownsRow.stored (World.ownsRow.stored HO.out (i*4) _).1 (i*4+1) _).1
         ·obtain rfl:i=m:=by omega
          have gk:=iR ((i:Int)<i);clear HT HL HS ae sb;go_wp2_with fail;go_ret2;have hz:De T L a0 R i=CZ T L a0 R:=(by rw[HM.out];exact Sz ..);refine⟨.slice A2 i c2,by rw[a5.out];rfl,?_,ak.out⟩;rw[bc.out,Jv,<-HM.out,<-hz];exact iZ HO.out kR
     ·have gm:((m:Int) != (cn:Int))=true:=l7;have ai:Hid (Gz C F (k:Int)=2):=jE;clear HE ba HT HL Q G HS HK HC J Z;go_wp2_with fail;go_ret2;exact Jf ai.out (Y.out _ ai.out) iX a4.out
    ·have gr:(re != 0)=true:=(by simpa using ah);have ai:Hid (Gz C F (k:Int)=re):=(by have h:=HE.out;rw[Ab ah]at h;exact h);have aX:=hid ah;clear HE ah HT HL Q G HS HK HC J Z;go_wp2_with fail;go_ret2;exact Jf ai.out (Y.out _ ai.out) aX.out a4.out
  ·have hE:=E.out;rw[Ab z]at hE;have HE:=hid hE;have aX:=hid z;have gE:(opE f != 0)=true:=(by simpa using z);generalize opE f=oe at *;generalize opA f=oa at *;clear E hE aa N DR z HT HL Q G HS HK HC J Z;go_wp2_with fail;go_ret2;exact Jf HE.out (Y.out _ HE.out) aX.out SB.out
 ·have hE:Gz C F i=13:=Aa hi;have hO:G9 C T L F i= []:=Aa hi;have HE:=hid hE;have HO:=hid hO;by_cases i0:i<0
  ·have g0:decide (i<0)=true:=(by simpa using i0);clear h1 h2 h3 h4 h5 h6 ac al au ar aP hT hL hF hN a8 hE hO hi i0 az far;go_enter func160,ntmps160;go_wp2_with fail;go_ret2;exact Jf HE.out (fun _=>HO.out) iX nJ
  ·have g0:decide (i<0)=false:=(by simpa using i0);have g1:decide ((nf:Int)<=i)=true:=(by rw[decide_eq_true_eq,ac];refine JW fun h=>hi ⟨kR,kR⟩);clear h1 h2 h3 h4 h5 h6 ac al au ar aP hT hL hF hN a8 hE hO hi i0 az far;go_enter func160,ntmps160;go_wp2_with fail;go_ret2;exact Jf HE.out (fun _=>HO.out) iX nJ
end Body
namespace Body
open Go.RowKit Mem Own Canon Nums Recs Opts
open Idx (Str IxAt eqX AQ BI mZ G1 Of Ot)
open Block (LL)
open Go.Proofs.YtfgdoknipbpfhaaGreatDoor.One (LG)
theorem ZQ(h:k<F.length):Gz C F (k:Int)=Dr C F k:=Ab ⟨kR,kR⟩
theorem Z8(h:k<F.length):G9 C T L F (k:Int)=EH C T L F k:=Ab ⟨kR,kR⟩
theorem TG(w:World)(base sz:Nat)(v:Value)(C T L:List Nat)(X:List Str×List (List Nat))(F:List (List Nat))(ay:sz<=w.heap.size)(af:C.length=F.length)(hT:T.length=C.sum)(hL:L.length=C.sum)(hF:∀f∈F,f.length<=100000/\∀x∈f,x<=255)(hN:C.sum<=20000)(aQ:F.length<=20000)(ax:X.1.length<=2000000)(aX:X.2.length<=2000000)(aV:∀l∈X.2,l.length<=2000000)(au:RBod w base sz v C T L X F):
 Calls prog 91 #[v] w (Kr C T L X F w):=by
 obtain⟨j0,a9,bi,a7,bd⟩:=info_parts Lf;have DF:=hid (fun wx (hb:Below w w wx) k (hk:k<F.length)=>(V2 wx base sz v k C T L X F (AY ay hb.size) af hT hL hF hN aQ (au.step hb ay)));unfold MA at DF;have DF:Hid (∀wx,Below w w wx->∀k,k<F.length->Calls prog 160 #[v, .int .i64 (k:Nat)] wx (J3 C T L F k wx)):=fun wx hb k hk=>by have h:=DF.out wx hb k hk;rw[ZQ hk,Z8 hk]at h;exact h
 unfold J3 at DF;have aY:Hid (∀k,Dr C F k=0->(EH C T L F k).length=C.getD k 0):=fun k=>MH;have av:Hid (∀k,k<C.length->(C.take (k+1)).sum=(C.take k).sum+C.getD k 0):=fun k=>Np;have ak:Hid (∀k,(C.take k).sum<=20000):=fun k=>AY (Body.Hu C k) hN;obtain⟨vc,vf,vt,vl,vT,vL,vals,fv,rfl,h1,h2,h3,h4,h5,h6⟩:=au;have ag:Hid (C.length=F.length):=af;have HE:Hid (Fq C T L X F=JX X (Dp C T L F F.length 0 [])):=rfl;have HO:Hid (Fq C T L X F=0->FM C T L X F=(Dp C T L F F.length 0 []).1):=fun h=>Ab h;obtain⟨nf,aR⟩:=iS F.length;rw[<-aR]at h2 aQ HE HO ag DF;obtain⟨AF,dF,rfl⟩:=aZ h2;obtain⟨AC,dC,rfl⟩:=aZ h1;obtain⟨At,dt,rfl⟩:=aZ h4;obtain⟨Al,dl,rfl⟩:=aZ h5;obtain⟨AT,cT,aT⟩:=aZ h6.t;obtain⟨AL,cL,aW⟩:=aZ h6.l;obtain⟨n1,a1⟩:=iS X.1.length;obtain⟨n2,ar⟩:=iS X.2.length;rw[<-a1]at aT;rw[<-ar]at aW;subst aT aW;generalize C.length=nc at *;generalize T.length=nt at *;generalize L.length=nl at *;have DC:=hid (fun wx A n c (l:List Rec) (hl:l.length=n) (hn:n<=20000) hr=>refcheck_any wx A n c l hl kR hr);have DB:=hid (fun wx A n c (l:List Rec) (hl:l.length=n) (hn:n<=20000) (hk:Dg l=0) hr=>Of wx A n c l hl hn (Jt hk).1 hr);unfold G1 at DB;have far:∀ {wx:World} {b s n:Nat} {e:TypeId} {v:Value} {xs:List Value},Below w w wx->w.ownsRow b e s v n xs->wx.ownsRow b e s v n xs:=fun hb ho=>dZ ho fun y hy=>hb.block y (Ae ho y hy).2;have DP:=hid (fun wx v1 v2 E p2 (l:List Rec) (hk:Dg l=0) (hb:Below w w wx) (h2:IxAt wx p2 v1 v2 E (AQ (l.map mZ)) ((AQ (l.map mZ)).map (BI (l.map mZ))))=>Ot wx base p2 (.slice AT n1 cT) (.slice AL n2 cL) v1 v2 vals E X (FN l) ⟨far hb h6.t,far hb h6.l,fun i v ids hv hi=>far hb (h6.r i v ids hv hi)⟩ h2 ax aX aV (Jt hk).2.2.1 (Jt hk).2.2.2);obtain⟨R,hR⟩:=iS (Dp C T L F nf 0 []);rw[<-hR]at HE HO;have HR:Hid (Dp C T L F nf 0 []=R):=hR.symm;obtain⟨RL,RE⟩:=R;simp only at HO;clear hR h1 h2 h3 h4 h5 h6 aR af hT hL hF hN ax aX aV far a1 ar;go_enter func91,ntmps91;go_wp2_with fail;have N:Blk (w.alloc (.cells #[.slice AC nc dC, .slice AF nf dF, .slice At nt dt, .slice Al nl dl, .slice AT n1 cT, .slice AL n2 cL] 138)) w 138 #[.slice AC nc dC, .slice AF nf dF, .slice At nt dt, .slice Al nl dl, .slice AT n1 cT, .slice AL n2 cL]:=Blk.made _ _ _;have U:Below w w (w.alloc (.cells #[.slice AC nc dC, .slice AF nf dF, .slice At nt dt, .slice Al nl dl, .slice AT n1 cT, .slice AL n2 cL] 138)):=bZ (Ag _ _);generalize w.alloc (.cells #[.slice AC nc dC, .slice AF nf dF, .slice At nt dt, .slice Al nl dl, .slice AT n1 cT, .slice AL n2 cL] 138)=wb at *;have bj:=hid U;have HS:Hid (∀wx,Below wb wb wx->wx.cell? ⟨w,0,none⟩=some (.slice AC nc dC)/\wx.cell? ⟨w,1,none⟩=some (.slice AF nf dF)/\wx.cell? ⟨w,2,none⟩=some (.slice At nt dt)/\wx.cell? ⟨w,3,none⟩=some (.slice Al nl dl)/\wx.cell? ⟨w,4,none⟩=some (.slice AT n1 cT)/\wx.cell? ⟨w,5,none⟩=some (.slice AL n2 cL)/\Below w w wx):=fun wx hb=>⟨(N.step hb).cell 0,(N.step hb).cell 1,(N.step hb).cell 2,(N.step hb).cell 3,(N.step hb).cell 4,(N.step hb).cell 5,U.trans (hb.mono U.size)⟩;have a5:=U.size;clear N U;go_loopw [4,5] (fun v i wr=>∃ (k:Nat) (j:List Rec),i= .int .i64 k/\k<=nf/\Hid (j.length=(C.take k).sum)/\Hid (Dp C T L F (nf-k) k j=(RL,RE))/\Hid (wr.ownsRow wb 43 4 v j.length (Bo j))/\Hid (Below wb wb wr)) (fun _ i _=>nf-(intOf i).toNat)
 case atStart=>exact⟨0,[],rfl,kR,mS,HR.out,Aq _ _ _ _,Ag _ _⟩
 case round=>
  obtain⟨k,j,rfl,hk,HA,HG,G,HB⟩:=hrel;obtain⟨w0,rfl⟩:=iS wr;clear HR;obtain⟨s0,s1,s2,s3,s4,s5,sb⟩:=HS.out w0 HB.out;have SB:=hid sb;clear sb;have Y:j.length<=20000:=by rw[HA.out];exact ak.out k
  by_cases ai:k<nf
  ·have gk:=iQ ((k:Int)<nf);have a3:=iQ (k<nf);obtain⟨m,hm⟩:∃m,nf-k=m+1:=⟨nf-k-1,kR⟩;have aP:nf-(k+1)=m:=kR;have hG:=HG.out;rw[hm,Dp]at hG;have E1:=hid (DF.out w0 SB.out k ai);have aq:=hid (aY.out k);have am:=hid (av.out k (by rw[ag.out];exact ai));generalize Dr C F k=fe at *;generalize EH C T L F k=fo at *;have a8:=hid aP;have bm:=ak.out (k+1);clear hm aP HG;by_cases hb:fe=0
   ·subst hb;have aU:=aq.out i7;have bb:Hid (Dp C T L F m (k+1) (j++fo)=(RL,RE)):=(by rw[Aa mY]at hG;exact hG);have a0:Hid ((j++fo).length=(C.take (k+1)).sum):=(by show _=_;rw[Aj,am.out,HA.out,aU]);have bk:fo.length<=20000:=(by have h:=a0.out;rw[Aj]at h;omega);clear hG aU aq am;go_wp2_with fail;refine E1.out.mono ?_;rintro e w1 ⟨v,rfl,aa,z⟩;obtain⟨A1,c1,rfl⟩:=aZ aa;obtain⟨A2,c2,rfl⟩:=aZ G.out;have ba:=hid aa;have J:Hid (Below wb wb w1):=HB.out.trans (z.mono HB.out.size);have aS:Hid (w1.ownsRow wb 43 4 (.slice A2 j.length c2) j.length (Bo j)):=dZ G.out (fun x hx=>z.block x (Ae G.out x hx).2);have zz:=J.out.size;clear aa z E1 G HB;go_wp2_with(at_builtin;refine gZ rfl (.tmp 24) (.tmp 25) 24 rfl wb 43 j0 _ 4 48 underlying24 a9 bi a7 bd rfl iX (.slice A2 j.length c2) j.length (Bo j) kU aS.out A1 fo.length c1 (Bo fo) kU (LL ba.out) (LG fo) nI kR kR ?_;intro v5 w5 ah bf bl);have bc:Below wb wb w5:=J.out.grown bf zz (fun y hy=>(Ae aS.out y hy).1);go_roundw
    case measure=>exact jw
    case rel=>go_light;refine⟨k+1,j++fo,i5,kR,a0.out,by rw[a8.out];exact bb.out,?_,bc⟩;rw[J4,Aj];exact ah
   ·have hR:([],fe)=(RL,RE):=(by rw[Ab hb]at hG;exact hG);simp only[Prod.mk.injEq]at hR;obtain⟨rfl,rfl⟩:=hR;have M:Hid (Fq C T L X F=fe):=(by show _=_;rw[HE.out];exact Ab hb);have g1:(fe != 0)=true:=(by simpa using hb);have be:=hid hb;clear hG hb HE HO aq am;go_wp2_with fail;refine E1.out.mono ?_;rintro e w1 ⟨v,rfl,aa,z⟩;have J:Hid (Below w w w1):=SB.out.trans (z.mono SB.out.size);clear aa z E1;go_wp2_with fail;go_ret2;exact Jg M.out be.out J.out
  ·obtain rfl:k=nf:=by omega
   have gk:=iR ((k:Int)<k);have a3:=iR (k<k);have hG:=HG.out;rw[Fj,Dp]at hG;simp only[Prod.mk.injEq]at hG;obtain⟨rfl,rfl⟩:=hG;obtain⟨A2,c2,rfl⟩:=aZ G.out;have ac:=J1 G.out;have E1:=hid (DC.out w0 A2 j.length c2 j rfl Y ac);have he:=HE.out;unfold JX at he;simp only at he;rw[Aa mY]at he;clear HG HE DF DC aY av ak ag HA ai ac;by_cases h1:Dg j=0
   ·rw[Aa (by simp[h1])]at he;rw[h1]at E1;have E2:=hid (fun wx hr=>DB.out wx A2 j.length c2 j rfl Y h1 hr);have E3:=hid (fun wx v1 v2 E p2 hb h=>DP.out wx v1 v2 E p2 j h1 hb h);have aj:Hid (∀wx,Below w0 w0 wx->Row wx wx A2 j.length 4 (Dt j)):=fun wx hb=>J1 (dZ G.out (fun x hx=>hb.block x (Ae G.out x hx).2));have an:Hid (∀wx,Below w0 w0 wx->Below w w wx):=fun wx hb=>SB.out.trans (hb.mono SB.out.size);obtain⟨al,Z⟩:=iS j.length;rw[<-Z]at E1 E2 aj Y;have Q:=G.out;rw[<-Z]at Q;have ab:=hid Q;have bg:=hid Z;have HE:=hid he;rw[<-Z];clear he h1 DB DP G Q Z;go_wp2_with fail;refine E1.out.mono ?_;rintro e w1 ⟨rfl,z⟩;have J:=hid z;clear z E1;go_upto_region 11 with fail;go_cut [35] (fun s wx=>s= .bool (!eqX X (FN j))/\Hid (Below w0 w0 wx))
    case first=>
     have bh:Hid (∀wx,Below w0 w0 wx->wx.cell? ⟨w,4,none⟩=some (.slice AT n1 cT)/\wx.cell? ⟨w,5,none⟩=some (.slice AL n2 cL)):=fun wx hb=>let h:=HS.out wx (HB.out.trans (hb.mono HB.out.size));⟨h.2.2.2.2.1,h.2.2.2.2.2.1⟩
     have b1:=J.out;clear HS HE;go_region_held3 (fun wx=>wx.cell? ⟨w,4,none⟩=some (.slice AT n1 cT)/\wx.cell? ⟨w,5,none⟩=some (.slice AL n2 cL)) (exact bh.out _ nJ) (first|(go_at_call 23;(with_reducible refine(E2.out _ (aj.out _ nJ)).mono ?_);rintro e wB ⟨v1,v2,E,rfl,ae,a4⟩;have BB:Below w0 w0 wB:=eZ a4 nJ)|(go_at_call 21;(with_reducible refine(E3.out _ _ _ _ _ (an.out _ nJ) (by first|exact ae|exact ae.step nJ)).mono ?_);rintro e wG ⟨rfl,a6⟩;have BG:Below w0 w0 wG:=eZ a6 nJ))
     all_goals
      go_wp2_with fail;go_meet
      case rel=>exact⟨rfl,hid BG⟩
    case rest=>
     obtain⟨rfl,aw⟩:=hcut;have az:=hid (an.out _ aw.out);have he:=HE.out;clear E2 E3 aj an J HS HE;cases hx:eqX X (FN j)
     ·rw[Aa (by simp[hx])]at he;have M:=hid he;clear hx he;go_wp2_with fail;go_ret2;exact Jg M.out iX az.out
     ·rw[Ab hx]at he;have M:=hid he;clear hx he;go_wp2_with fail;go_ret2;refine⟨.slice A2 al c2,by rw[M.out];rfl,?_,az.out⟩;rw[HO.out M.out,<-bg.out];exact iZ (dZ ab.out (fun x hx=>aw.out.block x (Ae ab.out x hx).2)) a5
   ·rw[Ab h1]at he;have h6:=One.RG h1;rw[h6]at E1;have M:=hid he;clear he h1 DB DP G h6;go_wp2_with fail;refine E1.out.mono ?_;rintro e w1 ⟨rfl,z⟩;have J:Hid (Below w w w1):=SB.out.trans (z.mono SB.out.size);clear z E1;go_wp2_with fail;go_ret2;exact Jg M.out iX J.out
end Body
end Go.Proofs.YtfgdoknipbpfhaaGreatDoor
