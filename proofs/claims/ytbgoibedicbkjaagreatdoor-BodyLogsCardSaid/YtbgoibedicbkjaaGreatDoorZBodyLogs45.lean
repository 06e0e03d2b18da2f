/- All records of a bod -/
import Derived.Test.YtbgoibedicbkjaaGreatDoorZBodyLogs43
import Derived.Test.YtbgoibedicbkjaaGreatDoorZBodyLogs44
import Derived.Test.YtbgoibedicbkjaaGreatDoorZBodyLogs41
import Derived.WideShapes
namespace Go.Proofs.YtbgoibedicbkjaaGreatDoor
open Go.Lib (hid)
set_option maxHeartbeats 4000000
set_option maxRecDepth 100000
namespace Body
open Go.RowKit Mem Own Canon Nums Recs Opts
open Idx (Str IxAt eqX AM Bo lZ)
def CU(C T L:List Nat)(F:List (List Nat)):Nat->Nat->List Rec->List Rec×Int
 |0,_,acc=>(acc,0)
 |m+1,k,acc=>if Cz C F k≠0 then([],Cz C F k)else CU C T L F m (k+1) (acc++CY C T L F k)
def Fk(l:List Rec):List Str×List (List Nat):=(AM (l.map lZ),(AM (l.map lZ)).map (Bo (l.map lZ)))
def JK(X:List Str×List (List Nat))(R:List Rec×Int):Int:=if R.2≠0 then R.2 else if Da R.1≠0 then 6 else if eqX X (Fk R.1)=true then 0 else 15
def Gk(C T L:List Nat)(X:List Str×List (List Nat))(F:List (List Nat)):Int:=JK X (CU C T L F F.length 0 [])
def GE(C T L:List Nat)(X:List Str×List (List Nat))(F:List (List Nat)):List Rec:=if Gk C T L X F=0 then(CU C T L F F.length 0 []).1 else []
theorem KT{C T L:List Nat}{F:List (List Nat)}{k:Nat}(h:Cz C F k=0):(CY C T L F k).length=C.getD k 0:=by
 rw[show CY C T L F k=_ from Ab h,IS];unfold Cz at h;split at h
 ·rename_i h1;exact absurd h h1
 ·split at h
  ·cases h
  ·split at h
   ·rename_i h1;exact absurd h h1
   ·split at h
    ·cases h
    ·rename_i h1;exact EO h1
theorem Mf{C:List Nat}{k:Nat}(h:k<C.length):(C.take (k+1)).sum=(C.take k).sum+C.getD k 0:=by rw[<-List.take_append_getElem h,Iy,Ar,AD h];simp
theorem IP{l:List Rec}(h:Da l=0):(∀r∈l,r.source.size<=50000/\r.text.size<=50000)/\(Fk l).1.length<=2000000/\(Fk l).2.length<=2000000/\(∀x∈(Fk l).2,x.length<=2000000):=by
 have h1:=One.Lw h
 have hw:Ck l<=1048576/\l.length<=20000:=by
  unfold Da at h;split at h
  ·cases h
  ·split at h
   ·cases h
   ·split at h
    ·cases h
    ·constructor<;>omega
 have a:=Qc (l.map lZ);have b:=MV l;have c:(AM (l.map lZ)).length<=2000000:=by omega
 refine⟨fun r hr=> ?_,c,?_,fun x hx=> ?_⟩
 ·have h2:=h1 r hr;unfold Ch at h2;simp at h2;omega
 ·unfold Fk;simp only;rw[BN];exact c
 ·unfold Fk at hx;simp only at hx;obtain⟨u,_,rfl⟩:=Ep.1 hx;have:=Idx.Lj (l.map lZ) u;rw[BN]at this;omega
def KR(C T L:List Nat)(X:List Str×List (List Nat))(F:List (List Nat))(w:World)(e:Ending)(w':World):Prop:=
 ∃v,e= .returned (.tuple #[v, .int .i64 (Gk C T L X F)])/\w'.ownsRow w.heap.size 59 4 v (GE C T L X F).length (Bc (GE C T L X F))/\Below w.heap.size w w'
theorem IF{C T L:List Nat}{X:List Str×List (List Nat)}{F:List (List Nat)}{w w':World}{er:Int}(hE:Gk C T L X F=er)(h:er≠0)(hb:Below w.heap.size w w'):KR C T L X F w (.returned (.tuple #[.slice none 0 0, .int .i64 er])) w':=by subst hE;refine⟨_,rfl,?_,hb⟩;rw[show GE C T L X F= [] from Aa h];exact Am _ _ _ _
theorem Qh{C T L:List Nat}{F:List (List Nat)}:∀ (m k:Nat) (i:List Rec),k+m<=C.length->i.length=(C.take k).sum->(CU C T L F m k i).1.length<=C.sum
 |0,k,i,_,h=>by show i.length<=_;rw[h];exact Hj C k
 |m+1,k,i,hk,h=>by
  unfold CU;split
  ·exact AY _
  ·rename_i he;refine Qh m (k+1) _ (by omega) ?_;rw[Ai,h,KT (EO he),Mf (by omega)]
theorem Yz{C T L:List Nat}{X:List Str×List (List Nat)}{F:List (List Nat)}(h1:C.length=F.length)(h2:C.sum<=20000):(GE C T L X F).length<=20000:=by
 unfold GE;split
 ·exact AV (Qh F.length 0 [] (by omega) (by simp)) h2
 ·exact AY _
end Body
namespace Body
open Go.RowKit Mem Own Canon Nums Recs Opts
open Crc (TabAt)
def Ik(F:List (List Nat))(i:Int):Prop:=0<=i/\i<(F.length:Int)
instance (F:List (List Nat)) (i:Int):Decidable (Ik F i):=by unfold Ik;infer_instance
def EI(C:List Nat)(F:List (List Nat))(i:Int):Int:=if Ik F i then Cz C F i.toNat else 13
def Eg(C T L:List Nat)(F:List (List Nat))(i:Int):List Rec:=if Ik F i then CY C T L F i.toNat else []
def askK(F:List (List Nat))(K:List Bool)(i:Int):List Bool:=if Ik F i then K.set i.toNat true else K
theorem BodyAt.ask{w:World}{base gb:Nat}{C S T L:List Nat}{X:List Idx.Str×List (List Nat)}{F:List (List Nat)}{K:List Bool}(h:BodyAt w base gb C S T L X F K)(k:Nat)(hk:k<K.length):
 ∃ga c cs,w.cell? ⟨gb,9,none⟩=some (.slice (some ⟨ga,0,none⟩) K.length c)/\base<=ga/\Blk w ga 4 cs/\(∃b,w.cell? ⟨ga,k,none⟩=some (.bool b))/\w.frozen? ⟨ga,k,none⟩=false/\BodyAt (w.setCell ⟨ga,k,none⟩ (.bool true)) base gb C S T L X F (K.set k true):=by
 obtain⟨vc,vs,p,q,vt,vl,vT,vL,vF,va,vals,fv,h0,h1,h2,h3,h4,h5,h6,h7⟩:=h;obtain⟨A,c,rfl⟩:=aZ h7;obtain⟨ga,cX,hA,y,_⟩:=h7.form (by omega);injection hA with q1 q2 q3;subst q1 q3;clear q2
 obtain⟨cs,j⟩:∃cs,Blk w ga 4 cs:=by
  rcases h7.2 with ⟨h',_⟩|⟨g,z,cur,h',_,hg,_⟩
  ·cases h'
  ·injection h' with h1 h2 h3;injection h1 with h1;injection h1 with h1;subst h1;exact⟨cur,hg⟩
 have far:∀ {n:Nat} {e:TypeId} {v:Value} {xs:List Value},w.ownsRow base e 1 v n xs->e≠4->(w.setCell ⟨ga,k,none⟩ (.bool true)).ownsRow base e 1 v n xs:=fun ho hne=>wZ ho (fZ ho j hne) _;have hc:w.cell? ⟨ga,k,none⟩=some (.bool (K[k]'hk)):=by rw[h7.cellAt k (by omega),Bw,AD hk];rfl
 refine⟨ga,c,cs,h0.cell 9,y,j,⟨_,hc⟩,h7.frozenAt k,vc,vs,p,q,vt,vl,vT,vL,vF,_,vals,fv,h0.far (fun e=>Blk.apart j h0 (by decide) e.symm) _,far h1 (by decide),far h2 (by decide),far h3 (by decide),far h4 (by decide),⟨far h5.t (by decide),far h5.l (by decide),fun i v ids hv hi=>far (h5.r i v ids hv hi) (by decide)⟩,h6.set j (by decide) (by decide) k _,?_⟩;have h:=(World.ownsRow.stored h7 k (.bool true)).1;rw[List.length_set,List.map_set];exact h
def KN(base gb:Nat)(C S T L:List Nat)(X:List Idx.Str×List (List Nat))(F:List (List Nat))(K:List Bool)(i:Int)(w:World)(e:Ending)(w':World):Prop:=
 ∃v wm,e= .returned (.tuple #[v, .int .i64 (EI C F i)])/\(wm=w∨∃ga cs k,base<=ga/\Blk w ga 4 cs/\(∃b,w.cell? ⟨ga,k,none⟩=some (.bool b))/\wm=w.setCell ⟨ga,k,none⟩ (.bool true))/\w'.ownsRow w.heap.size 59 4 v (Eg C T L F i).length (Bc (Eg C T L F i))/\Below w.heap.size wm w'/\BodyAt w' base gb C S T L X F (askK F K i)
theorem UZ(w:World)(base gb:Nat)(i:Int)(C S T L:List Nat)(X:List Idx.Str×List (List Nat))(F:List (List Nat))(K:List Bool)(hK:K.length=F.length)(M:C.length=F.length)(hT:T.length=C.sum)(hL:L.length=C.sum)(hF:∀f∈F,f.length<=100000/\∀x∈f,x<=255)(hN:C.sum<=20000)(N:F.length<=20000)(j:0<base)(ht:TabAt w)(y:BodyAt w base gb C S T L X F K):
 Calls Tryz.prog 20 #[.pointer (some ⟨gb,0,none⟩), .int .i64 i] w (KN base gb C S T L X F K i w):=by
 have Z:=y;obtain⟨vc,vs,p,q,vt,vl,vT,vL,vF,va,vals,fv,h0,h1,h2,h3,h4,h5,h6,h7⟩:=Z;have G:=h6.l;obtain⟨nf,J⟩:∃x,x=F.length:=⟨_,rfl⟩;rw[<-J]at G;obtain⟨AF,dF,rfl⟩:=aZ G;have c8:=h0.cell 8;simp only[List.getElem?_toArray,List.getElem?_cons_zero,List.getElem?_cons_succ]at c8;by_cases hi:Ik F i
 ·have hE:EI C F i=Cz C F i.toNat:=Ab hi;have hO:Eg C T L F i=CY C T L F i.toNat:=Ab hi;have hA:askK F K i=K.set i.toNat true:=Ab hi;unfold KN;rw[hE,hO,hA];obtain⟨i0,i1⟩:=hi;obtain⟨k,rfl⟩:=J5 i0;rw[show((k:Nat):Int).toNat=k from rfl];have hk:k<F.length:=by omega
  obtain⟨ga,c,cs,c9,Q,Y,⟨b,cb⟩,fz,z⟩:=y.ask k (by omega);have aa:TabAt (w.setCell ⟨ga,k,none⟩ (.bool true)):=ht.below (B:=base) ((Ag base w).setCell (p:=⟨ga,k,none⟩) Q _) j;have D:=hid (QA (w.setCell ⟨ga,k,none⟩ (.bool true)) base gb k C S T L X F (K.set k true) hk M hT hL hF hN N aa z);unfold IU at D;have af:=hid z;have ac:=hid Y;have ae:Hid (∃b,w.cell? ⟨ga,k,none⟩=some (.bool b)):=⟨b,cb⟩;have ab:=hid Q;have g0:decide ((k:Int)<0)=false:=by simp
  have g1:decide ((nf:Int)<=(k:Int))=false:=by simp;omega
  have ah:decide (nf<=k)=false:=by simp;omega
  have y1:(k:Int)<(K.length:Int):=by omega
  have y0:(0:Int)<=(k:Int):=by omega
  generalize ag:K.length=kl at *;generalize Cz C F k=E at *;generalize CY C T L F k=O at *;clear y z h0 h1 h2 h3 h4 h5 h6 h7 G J hK M hT hL hF hN N ht aa j hE hO hA Y Q ag hk i0 i1;go_enter Tryz.func20,Tryz.ntmps20;go_wp2_with fail;refine D.out.mono ?_;rintro e w2 ⟨v2,rfl,ho,hb⟩;have HO:Hid (w2.ownsRow w.heap.size 59 4 v2 O.length (Bc O)):=hid (by simpa using ho);have HB:Hid (Below w.heap.size (w.setCell ⟨ga,k,none⟩ (.bool true)) w2):=hid (by simpa using hb);clear ho hb D;go_wp2_with fail;go_ret2;exact⟨_,_,rfl, .inr ⟨ga,cs,k,ab.out,ac.out,ae.out,rfl⟩,HO.out,HB.out,af.out.step (by simpa using HB.out)⟩
 ·have hE:EI C F i=13:=Aa hi;have hO:Eg C T L F i= []:=Aa hi;have hA:askK F K i=K:=Aa hi;unfold KN;rw[hE,hO,hA];have U:=hid y;by_cases i0:i<0
  ·have g0:decide (i<0)=true:=(by simpa using i0);clear y h0 h1 h2 h3 h4 h5 h6 h7 G J hK M hT hL hF hN N ht j hE hO hA hi i0;go_enter Tryz.func20,Tryz.ntmps20;go_wp2_with fail;go_ret2;exact⟨_,w,rfl, .inl rfl,Am _ _ _ _,Ag _ _,U.out⟩
  ·have g0:decide (i<0)=false:=(by simpa using i0);have g1:decide ((nf:Int)<=i)=true:=(by rw[decide_eq_true_eq,J];refine Jq fun h=>hi ⟨by omega,by omega⟩);clear y h0 h1 h2 h3 h4 h5 h6 h7 G J hK M hT hL hF hN N ht j hE hO hA hi i0;go_enter Tryz.func20,Tryz.ntmps20;go_wp2_with fail;go_ret2;exact⟨_,w,rfl, .inl rfl,Am _ _ _ _,Ag _ _,U.out⟩
theorem Va{C T L:List Nat}{F:List (List Nat)}{i:Int}(h2:C.sum<=20000):(Eg C T L F i).length<=20000:=by
 unfold Eg;split
 ·by_cases h:Cz C F i.toNat=0
  ·rw[KT h];have:=MC (C:=C) i.toNat;omega
  ·rw[show CY C T L F i.toNat= [] from Aa h];exact AY _
 ·exact AY _
end Body
namespace One
open Go.RowKit Mem Own Canon NumPut Nums Opts
open Recs (Ih)
def hP(bs:List Nat):Nat:=EF bs (mZ 32768 bs 0 0) (oZ 32768 bs 0 0)
def hA2(bs:List Nat):Nat:=takeA bs (mZ 32768 bs 0 0) (oZ 32768 bs 0 0) 1
def hE2(bs:List Nat):Int:=Be bs (mZ 32768 bs 0 0) (oZ 32768 bs 0 0) 1
def hE3(bs:List Nat):Int:=if 1<hP bs then Dv (hE2 bs) 2 else hE2 bs
def hN(bs:List Nat):Nat:=xZ 20000 bs (hA2 bs) (hE3 bs)
end One
namespace One
open Go.RowKit Mem Own Canon NumPut Nums Opts
open Recs Block
open Crc (TabAt)
theorem KL(l:List Rec):∀u∈Bc l,u.oneCell'=true:=by intro u hu;unfold Bc at hu;obtain⟨r,_,hr⟩:=List.mem_flatMap.1 hu;simp at hr;rcases hr with rfl|rfl|rfl|rfl<;>rfl
end One
namespace Body
open Go.RowKit Mem Own Canon Nums Recs Opts
open Crc (TabAt)
open Idx (Str IxAt eqX AM Bo lZ GN Kd Qq)
open Block (KV)
open Go.Proofs.YtbgoibedicbkjaaGreatDoor.One (KL)
theorem UQ(w:World)(base gb:Nat)(C S T L:List Nat)(X:List Str×List (List Nat))(F:List (List Nat))(K:List Bool)(am:C.length=F.length)(hT:T.length=C.sum)(hL:L.length=C.sum)(hF:∀f∈F,f.length<=100000/\∀x∈f,x<=255)(hN:C.sum<=20000)(aF:F.length<=20000)(aA:X.1.length<=2000000)(ay:X.2.length<=2000000)(aD:∀l∈X.2,l.length<=2000000)(ht:TabAt w)(av:BodyAt w base gb C S T L X F K):
 Calls Tryz.prog 22 #[.pointer (some ⟨gb,0,none⟩)] w (KR C T L X F w):=by
 obtain⟨j0,aT,aS,aO,aG⟩:=info_parts KA;have DF:=hid (fun wx (hb:Below w.heap.size w wx) k (hk:k<F.length)=>QA wx base gb k C S T L X F K hk am hT hL hF hN aF (ht.step hb) (av.step hb));unfold IU at DF;have au:Hid (∀k,Cz C F k=0->(CY C T L F k).length=C.getD k 0):=fun k=>KT;have ar:Hid (∀k,k<C.length->(C.take (k+1)).sum=(C.take k).sum+C.getD k 0):=fun k=>Mf;have ah:Hid (∀k,(C.take k).sum<=20000):=fun k=>AV (Body.Hj C k) hN;obtain⟨vc,vs,p,q,vt,vl,vT,vL,vF,va,vals,fv,h0,h1,h2,h3,h4,h5,h6,h7⟩:=av;have ag:=h6.l;have ae:Hid (C.length=F.length):=am;have HE:Hid (Gk C T L X F=JK X (CU C T L F F.length 0 [])):=rfl;have HO:Hid (Gk C T L X F=0->GE C T L X F=(CU C T L F F.length 0 []).1):=fun h=>Ab h;obtain⟨nf,az⟩:∃x,x=F.length:=⟨_,rfl⟩;rw[<-az]at ag aF HE HO ae DF;obtain⟨AF,dF,rfl⟩:=aZ ag;have HS:Hid (∀wx,Below w.heap.size w wx->wx.cell? ⟨gb,8,none⟩=some (.slice AF nf dF)/\wx.cell? ⟨gb,6,none⟩=some vT/\wx.cell? ⟨gb,7,none⟩=some vL):=fun wx hb=>⟨(h0.step hb).cell 8,(h0.step hb).cell 6,(h0.step hb).cell 7⟩;have DC:=hid (fun wx A n c (l:List Rec) (hl:l.length=n) (hn:n<=20000) hr=>NO wx A n c l hl (by omega) hr);have DB:=hid (fun wx A n c (l:List Rec) (hl:l.length=n) (hn:n<=20000) (hk:Da l=0) hr=>Kd wx A n c l hl hn (IP hk).1 hr);unfold GN at DB;have far:∀ {wx:World} {b s n:Nat} {e:TypeId} {v:Value} {xs:List Value},Below w.heap.size w wx->w.ownsRow b e s v n xs->wx.ownsRow b e s v n xs:=fun hb ho=>dZ ho fun y hy=>hb.block y (Ae ho y hy).2;have DP:=hid (fun wx v1 v2 G p2 (l:List Rec) (hk:Da l=0) (hb:Below w.heap.size w wx) (h2:IxAt wx p2 v1 v2 G (AM (l.map lZ)) ((AM (l.map lZ)).map (Bo (l.map lZ))))=>Qq wx base p2 vT vL v1 v2 vals G X (Fk l) ⟨far hb h5.t,far hb h5.l,fun i v ids hv hi=>far hb (h5.r i v ids hv hi)⟩ h2 aA ay aD (IP hk).2.2.1 (IP hk).2.2.2);obtain⟨R,hR⟩:∃R,R=CU C T L F nf 0 []:=⟨_,rfl⟩;rw[<-hR]at HE HO;have HR:Hid (CU C T L F nf 0 []=R):=hR.symm;have c8:=(HS.out w (Ag _ _)).1;obtain⟨RL,RE⟩:=R;simp only at HO;clear hR h0 h1 h2 h3 h4 h5 h6 h7 ag az am hT hL hF hN ht aA ay aD far;go_enter Tryz.func22,Tryz.ntmps22;go_wp2_with fail;go_loopw [4,16] (fun v i wr=>∃ (k:Nat) (j:List Rec),i= .int .i64 k/\k<=nf/\Hid (j.length=(C.take k).sum)/\Hid (CU C T L F (nf-k) k j=(RL,RE))/\Hid (wr.ownsRow w.heap.size 59 4 v j.length (Bc j))/\Hid (Below w.heap.size w wr)) (fun _ i _=>nf-(intOf i).toNat)
 case atStart=>exact⟨0,[],rfl,by omega,by show _=_;simp,HR.out,Am _ _ _ _,Ag _ _⟩
 case round=>
  obtain⟨k,j,rfl,hk,HA,HG,E,HB⟩:=hrel;obtain⟨w0,rfl⟩:∃w0:World,w0=wr:=⟨_,rfl⟩;clear HR c8;have U:j.length<=20000:=by rw[HA.out];exact ah.out k
  by_cases af:k<nf
  ·have gk:decide ((k:Int)<(nf:Int))=true:=(by simp;omega);have aQ:decide (k<nf)=true:=(by simp;omega);obtain⟨m,hm⟩:∃m,nf-k=m+1:=⟨nf-k-1,by omega⟩;have aw:nf-(k+1)=m:=(by omega);have hG:=HG.out;rw[hm,CU]at hG;have E1:=hid (DF.out w0 HB.out k af);have an:=hid (au.out k);have aj:=hid (ar.out k (by rw[ae.out];exact af));generalize Cz C F k=fe at *;generalize CY C T L F k=fo at *;have aN:=hid aw;have aX:=ah.out (k+1);clear hm aw HG;by_cases hb:fe=0
   ·subst hb;have ax:=an.out (by first|rfl|trivial);have aU:Hid (CU C T L F m (k+1) (j++fo)=(RL,RE)):=(by rw[Aa (by simp)]at hG;exact hG);have aB:Hid ((j++fo).length=(C.take (k+1)).sum):=(by show _=_;rw[Ai,aj.out,HA.out,ax]);have aV:fo.length<=20000:=(by have h:=aB.out;rw[Ai]at h;omega);clear hG ax an aj;go_wp2_with fail;refine E1.out.mono ?_;rintro e w1 ⟨v,rfl,Y,z⟩;obtain⟨A1,c1,rfl⟩:=aZ Y;obtain⟨A2,c2,rfl⟩:=aZ E.out;have aM:=hid Y;have J:Hid (Below w.heap.size w w1):=HB.out.trans (z.mono HB.out.size);have aq:Hid (w1.ownsRow w.heap.size 59 4 (.slice A2 j.length c2) j.length (Bc j)):=dZ E.out (fun x hx=>z.block x (Ae E.out x hx).2);have zz:=J.out.size;clear Y z E1 E HB;go_wp2_with(at_builtin;refine gZ rfl (.tmp 28) (.tmp 29) 46 rfl w.heap.size 59 j0 _ 4 48 Tryz.underlying46 aT aS aO aG rfl (by decide) (.slice A2 j.length c2) j.length (Bc j) (by rfl) aq.out A1 fo.length c1 (Bc fo) (by rfl) (KV aM.out) (KL fo) (by unfold maxLen;omega) (by omega) (by omega) ?_;intro v5 w5 ak aR aW);have aL:Below w.heap.size w w5:=J.out.grown aR zz (fun y hy=>(Ae aq.out y hy).1);go_roundw
    case measure=>go_light;simp[intOf];omega
    case rel=>go_light;refine⟨k+1,j++fo,by first|rfl|go_num,by omega,aB.out,by rw[aN.out];exact aU.out,?_,aL⟩;rw[J0,Ai];exact ak
   ·have hR:([],fe)=(RL,RE):=(by rw[Ab hb]at hG;exact hG);simp only[Prod.mk.injEq]at hR;obtain⟨rfl,rfl⟩:=hR;have M:Hid (Gk C T L X F=fe):=(by show _=_;rw[HE.out];exact Ab hb);have g1:(fe != 0)=true:=(by simpa using hb);have aP:=hid hb;clear hG hb HE HO an aj;go_wp2_with fail;refine E1.out.mono ?_;rintro e w1 ⟨v,rfl,Y,z⟩;have J:Hid (Below w.heap.size w w1):=HB.out.trans (z.mono HB.out.size);clear Y z E1;go_wp2_with fail;go_ret2;exact IF M.out aP.out J.out
  ·obtain rfl:k=nf:=by omega
   have gk:decide ((k:Int)<(k:Int))=false:=(by simp);have aQ:decide (k<k)=false:=(by simp);have hG:=HG.out;rw[EL,CU]at hG;simp only[Prod.mk.injEq]at hG;obtain⟨rfl,rfl⟩:=hG;obtain⟨A2,c2,rfl⟩:=aZ E.out;have ab:=JZ E.out;have E1:=hid (DC.out w0 A2 j.length c2 j rfl U ab);have he:=HE.out;unfold JK at he;simp only at he;rw[Aa (by simp)]at he;clear HG HE DF DC au ar ah ae HA af ab;by_cases h1:Da j=0
   ·rw[Aa (by simp[h1])]at he;rw[h1]at E1;have E2:=hid (fun wx hr=>DB.out wx A2 j.length c2 j rfl U h1 hr);have E3:=hid (fun wx v1 v2 G p2 hb h=>DP.out wx v1 v2 G p2 j h1 hb h);have ai:Hid (∀wx,Below w0.heap.size w0 wx->Row wx wx.heap.size A2 j.length 4 (Db j)):=fun wx hb=>JZ (dZ E.out (fun x hx=>hb.block x (Ae E.out x hx).2));have Z:Hid (∀wx,Below w0.heap.size w0 wx->Below w.heap.size w wx):=fun wx hb=>HB.out.trans (hb.mono HB.out.size);obtain⟨al,N⟩:∃al,al=j.length:=⟨_,rfl⟩;rw[<-N]at E1 E2 ai U;have Q:=E.out;rw[<-N]at Q;have aa:=hid Q;have aK:=hid N;have HE:=hid he;rw[<-N];clear he h1 DB DP E Q N;go_wp2_with fail;refine E1.out.mono ?_;rintro e w1 ⟨rfl,z⟩;have J:=hid z;clear z E1;go_upto_region 15 with fail;go_cut [44] (fun s wx=>s= .bool (!eqX X (Fk j))/\Hid (Below w0.heap.size w0 wx))
    case first=>
     have aH:Hid (∀wx,Below w0.heap.size w0 wx->wx.cell? ⟨gb,6,none⟩=some vT/\wx.cell? ⟨gb,7,none⟩=some vL):=fun wx hb=>(HS.out wx (Z.out wx hb)).2;have b1:=J.out;clear HS HE;go_region_held3 (fun wx=>wx.cell? ⟨gb,6,none⟩=some vT/\wx.cell? ⟨gb,7,none⟩=some vL) (exact aH.out _ (by(repeat (with_reducible first|exact Ag _ _|assumption|refine Aq ?_ |refine below_drewN ?_ _|refine qZ ?_ |refine bZ ?_ |refine eZ (by assumption) ?_ |refine belA ?_ |refine rZ (by assumption) ?_)))) (first|(go_at_call 56;(with_reducible refine(E2.out _ (ai.out _ (by(repeat (with_reducible first|exact Ag _ _|assumption|refine Aq ?_ |refine below_drewN ?_ _|refine qZ ?_ |refine bZ ?_ |refine eZ (by assumption) ?_ |refine belA ?_ |refine rZ (by assumption) ?_))))).mono ?_);rintro e wB ⟨v1,v2,G,rfl,ac,aI⟩;have BB:Below w0.heap.size w0 wB:=eZ aI (by(repeat (with_reducible first|exact Ag _ _|assumption|refine Aq ?_ |refine below_drewN ?_ _|refine qZ ?_ |refine bZ ?_ |refine eZ (by assumption) ?_ |refine belA ?_ |refine rZ (by assumption) ?_))))|(go_at_call 73;(with_reducible refine(E3.out _ _ _ _ _ (Z.out _ (by(repeat (with_reducible first|exact Ag _ _|assumption|refine Aq ?_ |refine below_drewN ?_ _|refine qZ ?_ |refine bZ ?_ |refine eZ (by assumption) ?_ |refine belA ?_ |refine rZ (by assumption) ?_)))) (by first|exact ac|exact ac.step (by(repeat (with_reducible first|exact Ag _ _|assumption|refine Aq ?_ |refine below_drewN ?_ _|refine qZ ?_ |refine bZ ?_ |refine eZ (by assumption) ?_ |refine belA ?_ |refine rZ (by assumption) ?_))))).mono ?_);rintro e wG ⟨rfl,aJ⟩;have BG:Below w0.heap.size w0 wG:=eZ aJ (by(repeat (with_reducible first|exact Ag _ _|assumption|refine Aq ?_ |refine below_drewN ?_ _|refine qZ ?_ |refine bZ ?_ |refine eZ (by assumption) ?_ |refine belA ?_ |refine rZ (by assumption) ?_)))))
     all_goals
      go_wp2_with fail;go_meet
      case rel=>exact⟨rfl,hid BG⟩
    case rest=>
     obtain⟨rfl,aE⟩:=hcut;have aC:=hid (Z.out _ aE.out);have he:=HE.out;clear E2 E3 ai Z J HS HE;cases hx:eqX X (Fk j)
     ·rw[Aa (by simp[hx])]at he;have M:=hid he;clear hx he;go_wp2_with fail;go_ret2;exact IF M.out (by decide) aC.out
     ·rw[Ab hx]at he;have M:=hid he;clear hx he;go_wp2_with fail;go_ret2;refine⟨.slice A2 al c2,by rw[M.out];rfl,?_,aC.out⟩;rw[HO.out M.out,<-aK.out];exact dZ aa.out (fun x hx=>aE.out.block x (Ae aa.out x hx).2)
   ·rw[Ab h1]at he;have h6:=One.PM h1;rw[h6]at E1;have M:=hid he;clear he h1 DB DP E h6;go_wp2_with fail;refine E1.out.mono ?_;rintro e w1 ⟨rfl,z⟩;have J:Hid (Below w.heap.size w w1):=HB.out.trans (z.mono HB.out.size);clear z E1;go_wp2_with fail;go_ret2;exact IF M.out (by decide) J.out
end Body
namespace Body
open Go.RowKit Mem Own Canon Nums Crc Recs
open Opts
open Idx (Str IxAt)
def RBod(w':World)(base sz:Nat)(v:Value)(C T L:List Nat)(X:List Str×List (List Nat))(F:List (List Nat)):Prop:=
 ∃vc vf vt vl vT vL vals fv,v= .agg #[vc,vf,vt,vl,vT,vL]/\w'.ownsRow base 3 1 vc C.length (cZ .i64 C)/\w'.ownsRow base 22 1 vf F.length fv/\(∀ (i:Nat) u b,fv[i]? =some u->F[i]? =some b->G1 w' sz u b)/\
  w'.ownsRow base 57 1 vt T.length (cZ .u64 T)/\w'.ownsRow base 5 1 vl L.length (cZ .u8 L)/\IxAt w' base vT vL vals X.1 X.2
theorem RBod.step{w w':World}{base sz:Nat}{v:Value}{C T L:List Nat}{X:List Str×List (List Nat)}{F:List (List Nat)}(h:RBod w base sz v C T L X F)(hb:Below w.heap.size w w')(hs:sz<=w.heap.size):RBod w' base sz v C T L X F:=by obtain⟨vc,vf,vt,vl,vT,vL,vals,fv,rfl,j1,j2,j3,j4,j5,j6⟩:=h;have far:∀ {n:Nat} {e:TypeId} {v:Value} {xs:List Value},w.ownsRow base e 1 v n xs->w'.ownsRow base e 1 v n xs:=fun ho=>dZ ho fun y hy=>hb.block y (Ae ho y hy).2;exact⟨vc,vf,vt,vl,vT,vL,vals,fv,rfl,far j1,far j2,(fun i u b hv hi=>let ⟨A,n,c,e,h1,h2,h3,h4⟩:=j3 i u b hv hi;⟨A,n,c,e,h1,h2,h3,h4.keep fun a ha=>World.cell?_of_block (a:=a) (hb.block a.block (by omega))⟩),far j4,far j5,⟨far j6.t,far j6.l,fun i v ids hv hi=>far (j6.r i v ids hv hi)⟩⟩
theorem UG(w:World)(o:Opt)(A:Option Addr)(n c:Nat)(ls:List Nat)(hn:ls.length=n)(z:n<=100000)(hc:n<=c)(h8:∀x∈ls,x<=255)(j:A=none->n=0/\c=0)(ha:Row w w.heap.size A n 1 (iZ .u8 ls)):
 Calls Tryz.prog 21 #[o.val, .slice A n c] w (fun e w'=>∃A0 n0 c0 A1 n1 c1 A2 n2 c2 A3 n3 c3 A4 n4 c4 A5 n5 c5,e= .returned (.tuple #[.agg #[.slice A0 n0 c0, .slice A1 n1 c1, .slice A2 n2 c2, .slice A3 n3 c3, .slice A4 n4 c4, .slice A5 n5 c5], .int .i64 (CA o ls)])/\Below w.heap.size w w'/\(CA o ls=0->RBod w' w.heap.size w.heap.size (.agg #[.slice A0 n0 c0, .slice A1 n1 c1, .slice A2 n2 c2, .slice A3 n3 c3, .slice A4 n4 c4, .slice A5 n5 c5]) (Bt (AE ls)) (Bk (oN ls) (AI (Cb ls))).1 (Bk (oN ls) (AI (Cb ls))).2.1 (Idx.ixR o.bucket.toNat (oN ls) (AI (EU ls))).1 (BJ (Cd (AE ls)) (ls.take (CR ls))))):=by
 refine(Wk w o A n c ls hn z hc h8 j ha).mono ?_;rintro e w' ⟨hb,v,rfl,hz,hr⟩;by_cases h:CA o ls=0
 ·obtain⟨vc,vf,vt,vl,vT,vL,vals,fv,rfl,j1,j2,j3,j4,j5,j6⟩:=hr h;have y:=j6.t;have E:=j6.l;obtain⟨A0,c0,rfl⟩:=aZ j1;obtain⟨A1,c1,rfl⟩:=aZ j2;obtain⟨A2,c2,rfl⟩:=aZ j4;obtain⟨A3,c3,rfl⟩:=aZ j5;obtain⟨A4,c4,rfl⟩:=aZ y;obtain⟨A5,c5,rfl⟩:=aZ E;exact⟨_,_,_,_,_,_,_,_,_,_,_,_,_,_,_,_,_,_,rfl,hb,fun _=>⟨_,_,_,_,_,_,vals,fv,rfl,j1,j2,(fun i u b hv hi=>let ⟨A,n,c,e,h1,h2,h3,h4⟩:=j3 i u b hv hi;⟨A,n,c,e,h1,h2,h3,h4.below hb⟩),j4,j5,j6⟩⟩
 ·obtain rfl:=hz h;exact⟨none,0,0,none,0,0,none,0,0,none,0,0,none,0,0,none,0,0,rfl,hb,fun h2=>absurd h2 h⟩
end Body
namespace Body
open Go.RowKit Mem Own Canon Nums Recs Opts
open Block (opE opO opA Qk GX Lr Ju Lb)
open Idx (Str IxAt)
def KI(C T L:List Nat)(F:List (List Nat))(i:Int)(w:World)(e:Ending)(w':World):Prop:=
 ∃v,e= .returned (.tuple #[v, .int .i64 (EI C F i)])/\w'.ownsRow w.heap.size 59 4 v (Eg C T L F i).length (Bc (Eg C T L F i))/\Below w.heap.size w w'
theorem Jm{C T L:List Nat}{F:List (List Nat)}{i:Int}{w w':World}{er:Int}(hE:EI C F i=er)(hO:er≠0->Eg C T L F i= [])(h:er≠0)(hb:Below w.heap.size w w'):KI C T L F i w (.returned (.tuple #[.slice none 0 0, .int .i64 er])) w':=by subst hE;refine⟨_,rfl,?_,hb⟩;rw[hO h];exact Am _ _ _ _
theorem P7(w:World)(base sz:Nat)(v:Value)(i:Int)(C T L:List Nat)(X:List Idx.Str×List (List Nat))(F:List (List Nat))(aQ:sz<=w.heap.size)(aL:C.length=F.length)(hT:T.length=C.sum)(hL:L.length=C.sum)(hF:∀f∈F,f.length<=100000/\∀x∈f,x<=255)(hN:C.sum<=20000)(aU:F.length<=20000)(aY:RBod w base sz v C T L X F):
 Calls Tryz.prog 24 #[v, .int .i64 i] w (KI C T L F i w):=by
 obtain⟨vc,vf,vt,vl,vT,vL,vals,fv,rfl,h1,h2,h3,h4,h5,h6⟩:=aY;have aA:fv.length=F.length:=by have:=h2.1;omega
 obtain⟨nf,ah⟩:∃x,x=F.length:=⟨_,rfl⟩;obtain⟨kc,aj⟩:∃x,x=C.length:=⟨_,rfl⟩;obtain⟨nt,am⟩:∃x,x=T.length:=⟨_,rfl⟩;obtain⟨nl,ak⟩:∃x,x=L.length:=⟨_,rfl⟩;rw[<-ah]at h2;rw[<-aj]at h1;rw[<-am]at h4;rw[<-ak]at h5;obtain⟨Ac,dC,rfl⟩:=aZ h1;obtain⟨AF,dF,rfl⟩:=aZ h2;obtain⟨At,ct,rfl⟩:=aZ h4;obtain⟨Al,cl,rfl⟩:=aZ h5;obtain⟨AT,cT,rfl⟩:=aZ h6.t;obtain⟨AL,cL,rfl⟩:=aZ h6.l;generalize X.1.length=n1 at *;generalize X.2.length=n2 at *;have far:∀ {wx:World} {b s n:Nat} {e:TypeId} {v:Value} {xs:List Value},Below w.heap.size w wx->w.ownsRow b e s v n xs->wx.ownsRow b e s v n xs:=fun hb ho=>dZ ho fun y hy=>hb.block y (Ae ho y hy).2;by_cases hi:Ik F i
 ·have ab:EI C F i=Cz C F i.toNat:=Ab hi;have an:Eg C T L F i=CY C T L F i.toNat:=Ab hi;obtain⟨i0,i1⟩:=hi;obtain⟨k,rfl⟩:=J5 i0;rw[show((k:Nat):Int).toNat=k from rfl]at ab an;have hk:k<F.length:=by omega
  obtain⟨f,hf⟩:∃f,F[k]? =some f:=⟨_,AD hk⟩;obtain⟨u,hu⟩:∃u,fv[k]? =some u:=⟨_,AD (by omega)⟩;obtain⟨Af,n,cf,rfl,ay,aG,af,ag⟩:=h3 k u f hu hf;have aC:F.getD k []=f:=by rw[Ar,hf];rfl
  obtain⟨cn,az⟩:∃cn,C[k]? =some cn:=⟨_,AD (by omega)⟩;have aH:C.getD k 0=cn:=by rw[Ar,az];rfl
  have bf:(C.take k).sum+cn<=C.sum:=by rw[<-aH];exact MC k
  have ax:=hF f (BF hf);have E:=hid (show EI C F (k:Int)=if opE f≠0 then opE f else if opA f<f.length then 2 else if(Dz (opO f)).2≠0 then(Dz (opO f)).2 else if(Dz (opO f)).1.length≠cn then 2 else 0 by rw[ab];unfold Cz;rw[aC,aH]);have G:Hid (EI C F (k:Int)=0->Eg C T L F (k:Int)=CJ T L (C.take k).sum (Dz (opO f)).1):=fun h=>by rw[an];rw[ab]at h;unfold CY;rw[Ab h,aC]
  have U:Hid (∀er:Int,EI C F (k:Int)=er->er≠0->Eg C T L F (k:Int)= []):=fun er h h2=>by rw[an];rw[ab]at h;exact Aa (by rw[h];exact h2)
  obtain⟨gF,cX,aW,bg,_⟩:=h2.form (by omega);injection aW with q1 q2 q3;subst q1 q3;clear q2;obtain⟨gC,cX,bm,a8,_⟩:=h1.form (by omega);injection bm with q1 q2 q3;subst q1 q3;clear q2;have cF:=(h2.cellAt k (by omega)).trans hu;have cC:w.cell? ⟨gC,k,none⟩=some (.int .i64 (cn:Nat)):=by rw[h1.cellAt k (by omega)];unfold cZ;rw[Bw,az];rfl
  have ar:=ax.2;have a6:=Ju ar;have bj:=hid (Lb ar);have ba:Hid ((opO f).length<=100000):=by show _<=_;have:=ax.1;omega
  have D1:=hid (fun wx (hb:Below w.heap.size w wx)=>Qk wx Af n cf f aG (by have:=ax.1;omega) ay af (fun h0=>fun a ha=>(Lr ((ag.mono aQ)) h0 a ha).1) ar (((ag.mono aQ).below hb).mono hb.size));unfold GX at D1;have HK:Hid (∀wx,Below w.heap.size w wx->wx.cell? ⟨gF,k,none⟩=some (.slice Af n cf)/\wx.cell? ⟨gC,k,none⟩=some (.int .i64 (cn:Nat))):=fun wx hb=>⟨(hb.cell (p:=⟨gF,k,none⟩) (Ae h2 gF rfl).2).trans cF,(hb.cell (p:=⟨gC,k,none⟩) (Ae h1 gC rfl).2).trans cC⟩;have HC:Hid (∀wx j,Below w.heap.size w wx->j<kc->∃x,C[j]? =some x/\wx.cell? ⟨gC,j,none⟩=some (.int .i64 (x:Nat))):=fun wx j hb hj=>by obtain⟨x,hx⟩:∃x,C[j]? =some x:=⟨_,AD (by omega)⟩;refine⟨x,hx,(hb.cell (p:=⟨gC,j,none⟩) (Ae h1 gC rfl).2).trans ((h1.cellAt j (by omega)).trans ?_)⟩;unfold cZ;rw[Bw,hx];rfl
  have HT:Hid (∀wx i,Below w.heap.size w wx->i<nt->∃g,At=some ⟨g,0,none⟩/\g<w.heap.size/\wx.cell? ⟨g,i,none⟩=some (.int .u64 (T.getD i 0:Nat))):=fun wx i hb hi=>by obtain⟨b,cX,hA,hg,_⟩:=h4.form (by omega);injection hA with q1 q2 q3;subst q1;have h:=h4.cellAt i (by omega);refine⟨b,rfl,(Ae h4 b rfl).2,(hb.cell (p:=⟨b,i,none⟩) (Ae h4 b rfl).2).trans (h.trans ?_)⟩;unfold cZ;rw[Bw,Ar,AD (by omega)];rfl
  have HL:Hid (∀wx i,Below w.heap.size w wx->i<nl->∃g,Al=some ⟨g,0,none⟩/\g<w.heap.size/\wx.cell? ⟨g,i,none⟩=some (.int .u8 (L.getD i 0:Nat))):=fun wx i hb hi=>by obtain⟨b,cX,hA,hg,_⟩:=h5.form (by omega);injection hA with q1 q2 q3;subst q1;have h:=h5.cellAt i (by omega);refine⟨b,rfl,(Ae h5 b rfl).2,(hb.cell (p:=⟨b,i,none⟩) (Ae h5 b rfl).2).trans (h.trans ?_)⟩;unfold cZ;rw[Bw,Ar,AD (by omega)];rfl
  have bD:(k:Int)<(nf:Int):=by omega
  have bA:(k:Int)<(kc:Int):=by omega
  have bq:k<kc:=by omega
  have bJ:(0:Int)<=(k:Int):=by omega
  have bp:k<=20000:=by omega
  have g0:decide ((k:Int)<0)=false:=by simp
  have g1:decide ((nf:Int)<=(k:Int))=false:=by simp;omega
  have bK:decide (nf<=k)=false:=by simp;omega
  have Q:Hid ((C.take k).sum+cn<=nt/\(C.take k).sum+cn<=nl/\(C.take k).sum+cn<=20000):=by show _/\_;omega
  have N:Hid (∀j,(C.take j).sum<=20000):=fun j=>AV (Body.Hj C j) hN;have M:Hid (∀j x,C[j]? =some x->(C.take (j+1)).sum=(C.take j).sum+x):=fun j x hx=>by obtain⟨hj,e⟩:=BO.1 hx;rw[<-List.take_append_getElem hj,Iy,e];simp
  have au:Hid (f.length=n):=aG;obtain⟨p1,p2⟩:=HK.out w (Ag _ _);have lF:=(Ae h2 gF rfl).2;have lC:=(Ae h1 gC rfl).2;obtain⟨a0,aB⟩:∃a0,a0=(C.take k).sum:=⟨_,rfl⟩;have bb:=hid aB;rw[<-aB]at Q G;clear h1 h2 h3 h4 h5 h6 hu hf aC az aH bf ax ah aj am ak ar a6 ag cF cC hT hL hF hN bg a8 aA aL ay af aG far ab an hk i0 i1 aB;go_enter Tryz.func24,Tryz.ntmps24;go_wp2_with fail;have Z:Blk (w.alloc (.cells #[.slice (some ⟨gC,0,none⟩) kc dC, .slice (some ⟨gF,0,none⟩) nf dF, .slice At nt ct, .slice Al nl cl, .slice AT n1 cT, .slice AL n2 cL] 38)) w.heap.size 38 #[.slice (some ⟨gC,0,none⟩) kc dC, .slice (some ⟨gF,0,none⟩) nf dF, .slice At nt ct, .slice Al nl cl, .slice AT n1 cT, .slice AL n2 cL]:=Blk.made _ _ _;have J:Below w.heap.size w (w.alloc (.cells #[.slice (some ⟨gC,0,none⟩) kc dC, .slice (some ⟨gF,0,none⟩) nf dF, .slice At nt ct, .slice Al nl cl, .slice AT n1 cT, .slice AL n2 cL] 38)):=bZ (Ag _ _);generalize w.alloc (.cells #[.slice (some ⟨gC,0,none⟩) kc dC, .slice (some ⟨gF,0,none⟩) nf dF, .slice At nt ct, .slice Al nl cl, .slice AT n1 cT, .slice AL n2 cL] 38)=wb at *;have aq:=hid J;have DR:=hid (D1.out wb J);have HS:Hid (∀wx,Below wb.heap.size wb wx->wx.cell? ⟨w.heap.size,0,none⟩=some (.slice (some ⟨gC,0,none⟩) kc dC)/\wx.cell? ⟨w.heap.size,1,none⟩=some (.slice (some ⟨gF,0,none⟩) nf dF)/\wx.cell? ⟨w.heap.size,2,none⟩=some (.slice At nt ct)/\wx.cell? ⟨w.heap.size,3,none⟩=some (.slice Al nl cl)/\Below w.heap.size w wx):=fun wx hb=>⟨(Z.step hb).cell 0,(Z.step hb).cell 1,(Z.step hb).cell 2,(Z.step hb).cell 3,J.trans (hb.mono J.size)⟩;have a3:=Z.lt;have bB:=J.size;clear Z p1 p2 lF lC J D1;refine DR.out.mono ?_;rintro e w1 ⟨v1,rfl,Y,aa⟩;obtain⟨A1,c1,rfl⟩:=aZ Y;have B1:=hid aa;obtain⟨s0,s1,s2,s3,sb⟩:=HS.out w1 aa;obtain⟨p1,p2⟩:=HK.out w1 sb;have aS:=aa.size;have SB:=hid sb;have a1:=hid (U.out);clear sb;by_cases z:opE f=0
  ·have hE:=E.out;rw[Aa (by simp[z])]at hE;rw[z];by_cases al:opA f<f.length
   ·rw[Ab al]at hE;have HE:=hid hE;have ga:decide ((opA f:Int)<(n:Int))=true:=(by simp;have:=au.out;omega);have bi:decide (opA f<n)=true:=(by simp;have:=au.out;omega);generalize opA f=oa at *;clear E hE Y aa DR z al HT HL Q G HS HK HC N M;go_wp2_with fail;go_ret2;exact Jm HE.out (U.out _ HE.out) (by decide) SB.out
   ·rw[Aa al]at hE;have ga:decide ((opA f:Int)<(n:Int))=false:=(by simp;have:=au.out;omega);have bi:decide (opA f<n)=false:=(by simp;have:=au.out;omega);have D2:=hid (Tg w1 A1 _ c1 (opO f) rfl ba.out bj.out (CQ Y).1 (Ef.own_row Y rfl));unfold Kz at D2;generalize opA f=oa at *;generalize hR:Dz (opO f)=R at *;generalize (opO f).length=lo at *;obtain⟨R,re⟩:=R;simp only at hE D2;have HE:=hid hE;clear E hE Y aa DR z al hR;go_wp2_with fail;refine D2.out.mono ?_;rintro e w2 ⟨v2,rfl,aw,aF⟩;obtain⟨m,hm⟩:∃m,m=R.length:=⟨_,rfl⟩;rw[<-hm]at aw;obtain⟨A2,c2,rfl⟩:=aZ aw;have B2:Hid (Below wb.heap.size wb w2):=B1.out.trans (aF.mono aS);obtain⟨s0,s1,s2,s3,sb⟩:=HS.out w2 B2.out;obtain⟨p1,p2⟩:=HK.out w2 sb;have aI:=hid sb;have aV:Hid (w2.ownsRow w1.heap.size 59 4 (.slice A2 m c2) m (Bc R)):=aw;have bc:=hid aF;have HM:=hid hm;clear aw aF D2 hm sb;by_cases ai:re=0
    ·subst ai;by_cases aP:m=cn
     ·subst aP;have gm:((m:Int) != (m:Int))=false:=(by simp);have aN:Hid (EI C F (k:Int)=0):=(by have h:=HE.out;rw[Aa (by simp),Aa (by simp[HM.out])]at h;exact h);have aT:Hid (Eg C T L F (k:Int)=CJ T L a0 R):=G.out aN.out;obtain⟨l1,l2,l3⟩:=Q.out;clear HE G U a1;go_wp2_with fail;go_loopw [10,11] (fun av iv wr=>∃j:Nat,j<=k/\av= .int .i64 ((C.take j).sum:Nat)/\iv= .int .i64 j/\Hid (wr=w2)) (fun _ iv _=>k-(intOf iv).toNat)
      case atStart=>exact⟨0,by omega,by simp,rfl,by first|trivial|rfl⟩
      case round=>
       obtain⟨j,hj,rfl,rfl,HW⟩:=hrel;have hw:=HW.out;subst hw;by_cases ac:j<k
       ·obtain⟨x,hx,cx⟩:=HC.out wr j aI.out (by omega);have aE:=M.out j x hx;have aR:=N.out (j+1);have gk:decide ((j:Int)<(k:Int))=true:=(by simp;omega);have be:decide (j<k)=true:=(by simp;omega);have y0:(0:Int)<=(j:Int):=(by omega);have y1:(j:Int)<(kc:Int):=(by omega);have aX:=hid aE;rw[aE]at aR;generalize (C.take j).sum=sj at *;have bE:IntKind.i64.wrap ((sj:Int)+(x:Int))=((sj+x:Nat):Int):=(by rw[Ak _ (by omega)];omega);have a5:IntKind.i64.wrap ((j:Int)+1)=((j+1:Nat):Int):=(by rw[Ak _ (by omega)];omega);clear hx aE HT HL;go_wp2_with fail;go_roundw
        case measure=>go_light;simp[intOf];omega
        case rel=>go_light;exact⟨j+1,by omega,by rw[aX.out,Int.natCast_add],by first|rfl|go_num,by first|trivial|rfl⟩
       ·obtain rfl:j=k:=by omega
        have gk:decide ((j:Int)<(j:Int))=false:=(by simp);rw[<-bb.out];clear ac HC N M;go_wp2_with fail;go_loopw [12] (fun iv wx=>∃i:Nat,i<=m/\iv= .int .i64 i/\Hid (wx.ownsRow w1.heap.size 59 4 (.slice A2 m c2) m (Bc (CF T L a0 R i)))/\Hid (Below w1.heap.size w1 wx)) (fun iv _=>m-(intOf iv).toNat)
        case atStart=>exact⟨0,by omega,rfl,by rw[QW];exact aV.out,bc.out⟩
        case round=>
         obtain⟨i,hi,rfl,HO,HB⟩:=hrel;have bk:Hid (Below wb.heap.size wb wr):=B1.out.trans (HB.out.mono aS);obtain⟨s0,s1,s2,s3,sb⟩:=HS.out wr bk.out;have aq:Hid (Below w.heap.size w wr):=sb;by_cases ac:i<m
         ·obtain⟨gt,a9,bF,bh⟩:=HT.out wr (a0+i) aq.out (by omega);obtain⟨gl,bl,bL,a4⟩:=HL.out wr (a0+i) aq.out (by omega);subst a9 bl;have ho:=HO.out;obtain⟨gr,cX,a7,aO,_⟩:=ho.form (by omega);injection a7 with q1 q2 q3;subst q1 q3;clear q2;have gk:decide ((i:Int)<(m:Int))=true:=(by simp;omega);have be:decide (i<m)=true:=(by simp;omega);have bH:(0:Int)<=(i:Int):=(by omega);have bC:(i:Int)<(m:Int):=(by omega);have aR:IntKind.i64.wrap ((a0:Int)+(i:Int))=((a0+i:Nat):Int):=(by rw[Ak _ (by omega)];omega);have a5:IntKind.i64.wrap ((i:Int)+1)=((i+1:Nat):Int):=(by rw[Ak _ (by omega)];omega);have bM:(0:Int)<=((a0+i:Nat):Int):=(by omega);have bI:((a0+i:Nat):Int)<(nt:Int):=(by omega);have bG:((a0+i:Nat):Int)<(nl:Int):=(by omega);have aM:i<(CF T L a0 R i).length:=(by rw[Qm,<-HM.out];exact ac);have k0:wr.cell? ⟨gr,i*4,none⟩=some (.int .u64 ((CF T L a0 R i).getD i FC).time):=(ho.cellAt (i*4) (by omega)).trans (IR _ i 0 aM (by omega));have k1:wr.cell? ⟨gr,i*4+1,none⟩=some (.int .u8 ((CF T L a0 R i).getD i FC).level):=(ho.cellAt (i*4+1) (by omega)).trans (IR _ i 1 aM (by omega));have f0:=ho.frozenAt (i*4);have f1:=ho.frozenAt (i*4+1);generalize ((CF T L a0 R i).getD i FC).time=z0 at k0;generalize ((CF T L a0 R i).getD i FC).level=z1 at k1;obtain⟨tv,aD⟩:∃tv,tv=T.getD (a0+i) 0:=⟨_,rfl⟩;obtain⟨lv,aK⟩:∃lv,lv=L.getD (a0+i) 0:=⟨_,rfl⟩;rw[<-aD]at bh;rw[<-aK]at a4;have bd:=hid aD;have bn:=hid aK;have bu:w.heap.size≠gr:=(by have:=a3;omega);have bt:gl≠gr:=(by omega);clear ho HT HL aD aK aM sb;go_wp2_with fail;go_roundw
          case measure=>go_light;simp[intOf];omega
          case rel=>go_light;refine⟨i+1,by omega,by go_num,?_,((HB.out.setCell (p:=⟨gr,i*4,none⟩) aO _).setCell (p:=⟨gr,i*4+1,none⟩) aO _)⟩;rw[bd.out,bn.out,<-QL (by rw[<-HM.out];exact ac)];exact(World.ownsRow.stored (World.ownsRow.stored HO.out (i*4) _).1 (i*4+1) _).1
         ·obtain rfl:i=m:=by omega
          have gk:decide ((i:Int)<(i:Int))=false:=(by simp);clear HT HL HS ac sb;go_wp2_with fail;go_ret2;have hz:CF T L a0 R i=CJ T L a0 R:=(by rw[HM.out];exact Qy ..);refine⟨.slice A2 i c2,by rw[aN.out];rfl,?_,aq.out⟩;rw[aT.out,IS,<-HM.out,<-hz];exact jZ HO.out (by omega)
     ·have gm:((m:Int) != (cn:Int))=true:=(by rw[bne_iff_ne];omega);have ae:Hid (EI C F (k:Int)=2):=(by have h:=HE.out;rw[Aa (by simp),Ab (by have:=HM.out;omega)]at h;exact h);clear HE aP HT HL Q G HS HK HC N M;go_wp2_with fail;go_ret2;exact Jm ae.out (U.out _ ae.out) (by decide) aI.out
    ·have gr:(re != 0)=true:=(by simpa using ai);have ae:Hid (EI C F (k:Int)=re):=(by have h:=HE.out;rw[Ab ai]at h;exact h);have aJ:=hid ai;clear HE ai HT HL Q G HS HK HC N M;go_wp2_with fail;go_ret2;exact Jm ae.out (U.out _ ae.out) aJ.out aI.out
  ·have hE:=E.out;rw[Ab z]at hE;have HE:=hid hE;have aJ:=hid z;have gE:(opE f != 0)=true:=(by simpa using z);generalize opE f=oe at *;generalize opA f=oa at *;clear E hE Y aa DR z HT HL Q G HS HK HC N M;go_wp2_with fail;go_ret2;exact Jm HE.out (U.out _ HE.out) aJ.out SB.out
 ·have hE:EI C F i=13:=Aa hi;have hO:Eg C T L F i= []:=Aa hi;have HE:=hid hE;have HO:=hid hO;by_cases i0:i<0
  ·have g0:decide (i<0)=true:=(by simpa using i0);clear h1 h2 h3 h4 h5 h6 ah aj am ak aL hT hL hF hN aU hE hO hi i0 aA far;go_enter Tryz.func24,Tryz.ntmps24;go_wp2_with fail;go_ret2;exact Jm HE.out (fun _=>HO.out) (by decide) (by(repeat (with_reducible first|exact Ag _ _|assumption|refine Aq ?_ |refine below_drewN ?_ _|refine qZ ?_ |refine bZ ?_ |refine eZ (by assumption) ?_ |refine belA ?_ |refine rZ (by assumption) ?_)))
  ·have g0:decide (i<0)=false:=(by simpa using i0);have g1:decide ((nf:Int)<=i)=true:=(by rw[decide_eq_true_eq,ah];refine Jq fun h=>hi ⟨by omega,by omega⟩);clear h1 h2 h3 h4 h5 h6 ah aj am ak aL hT hL hF hN aU hE hO hi i0 aA far;go_enter Tryz.func24,Tryz.ntmps24;go_wp2_with fail;go_ret2;exact Jm HE.out (fun _=>HO.out) (by decide) (by(repeat (with_reducible first|exact Ag _ _|assumption|refine Aq ?_ |refine below_drewN ?_ _|refine qZ ?_ |refine bZ ?_ |refine eZ (by assumption) ?_ |refine belA ?_ |refine rZ (by assumption) ?_)))
end Body
namespace Body
open Go.RowKit Mem Own Canon Nums Recs Opts
open Idx (Str IxAt eqX AM Bo lZ GN Qt QD)
open Block (KV)
open Go.Proofs.YtbgoibedicbkjaaGreatDoor.One (KL)
theorem Tv{C:List Nat}{F:List (List Nat)}{k:Nat}(h:k<F.length):EI C F (k:Int)=Cz C F k:=Ab ⟨by omega,by omega⟩
theorem TJ{C T L:List Nat}{F:List (List Nat)}{k:Nat}(h:k<F.length):Eg C T L F (k:Int)=CY C T L F k:=Ab ⟨by omega,by omega⟩
theorem Uy(w:World)(base sz:Nat)(v:Value)(C T L:List Nat)(X:List Str×List (List Nat))(F:List (List Nat))(aA:sz<=w.heap.size)(am:C.length=F.length)(hT:T.length=C.sum)(hL:L.length=C.sum)(hF:∀f∈F,f.length<=100000/\∀x∈f,x<=255)(hN:C.sum<=20000)(aC:F.length<=20000)(aE:X.1.length<=2000000)(aB:X.2.length<=2000000)(aH:∀l∈X.2,l.length<=2000000)(aw:RBod w base sz v C T L X F):
 Calls Tryz.prog 23 #[v] w (KR C T L X F w):=by
 obtain⟨j0,a1,a0,aV,aM⟩:=info_parts KA;have DF:=hid (fun wx (hb:Below w.heap.size w wx) k (hk:k<F.length)=>(P7 wx base sz v k C T L X F (AV aA hb.size) am hT hL hF hN aC (aw.step hb aA)));unfold KI at DF;have DF:Hid (∀wx,Below w.heap.size w wx->∀k,k<F.length->Calls Tryz.prog 24 #[v, .int .i64 (k:Nat)] wx (IU C T L F k wx)):=fun wx hb k hk=>by have h:=DF.out wx hb k hk;rw[Tv hk,TJ hk]at h;exact h
 unfold IU at DF;have av:Hid (∀k,Cz C F k=0->(CY C T L F k).length=C.getD k 0):=fun k=>KT;have au:Hid (∀k,k<C.length->(C.take (k+1)).sum=(C.take k).sum+C.getD k 0):=fun k=>Mf;have ah:Hid (∀k,(C.take k).sum<=20000):=fun k=>AV (Body.Hj C k) hN;obtain⟨vc,vf,vt,vl,vT,vL,vals,fv,rfl,h1,h2,h3,h4,h5,h6⟩:=aw;have af:Hid (C.length=F.length):=am;have HE:Hid (Gk C T L X F=JK X (CU C T L F F.length 0 [])):=rfl;have HO:Hid (Gk C T L X F=0->GE C T L X F=(CU C T L F F.length 0 []).1):=fun h=>Ab h;obtain⟨nf,aD⟩:∃x,x=F.length:=⟨_,rfl⟩;rw[<-aD]at h2 aC HE HO af DF;obtain⟨AF,dF,rfl⟩:=aZ h2;obtain⟨AC,dC,rfl⟩:=aZ h1;obtain⟨At,dt,rfl⟩:=aZ h4;obtain⟨Al,dl,rfl⟩:=aZ h5;obtain⟨AT,cT,az⟩:=aZ h6.t;obtain⟨AL,cL,aJ⟩:=aZ h6.l;obtain⟨n1,aL⟩:∃x,x=X.1.length:=⟨_,rfl⟩;obtain⟨n2,aI⟩:∃x,x=X.2.length:=⟨_,rfl⟩;rw[<-aL]at az;rw[<-aI]at aJ;subst az aJ;generalize C.length=nc at *;generalize T.length=nt at *;generalize L.length=nl at *;have DC:=hid (fun wx A n c (l:List Rec) (hl:l.length=n) (hn:n<=20000) hr=>refcheck_any wx A n c l hl (by omega) hr);have DB:=hid (fun wx A n c (l:List Rec) (hl:l.length=n) (hn:n<=20000) (hk:Da l=0) hr=>Qt wx A n c l hl hn (IP hk).1 hr);unfold GN at DB;have far:∀ {wx:World} {b s n:Nat} {e:TypeId} {v:Value} {xs:List Value},Below w.heap.size w wx->w.ownsRow b e s v n xs->wx.ownsRow b e s v n xs:=fun hb ho=>dZ ho fun y hy=>hb.block y (Ae ho y hy).2;have DP:=hid (fun wx v1 v2 G p2 (l:List Rec) (hk:Da l=0) (hb:Below w.heap.size w wx) (h2:IxAt wx p2 v1 v2 G (AM (l.map lZ)) ((AM (l.map lZ)).map (Bo (l.map lZ))))=>QD wx base p2 (.slice AT n1 cT) (.slice AL n2 cL) v1 v2 vals G X (Fk l) ⟨far hb h6.t,far hb h6.l,fun i v ids hv hi=>far hb (h6.r i v ids hv hi)⟩ h2 aE aB aH (IP hk).2.2.1 (IP hk).2.2.2);obtain⟨R,hR⟩:∃R,R=CU C T L F nf 0 []:=⟨_,rfl⟩;rw[<-hR]at HE HO;have HR:Hid (CU C T L F nf 0 []=R):=hR.symm;obtain⟨RL,RE⟩:=R;simp only at HO;clear hR h1 h2 h3 h4 h5 h6 aD am hT hL hF hN aE aB aH far aL aI;go_enter Tryz.func23,Tryz.ntmps23;go_wp2_with fail;have N:Blk (w.alloc (.cells #[.slice AC nc dC, .slice AF nf dF, .slice At nt dt, .slice Al nl dl, .slice AT n1 cT, .slice AL n2 cL] 38)) w.heap.size 38 #[.slice AC nc dC, .slice AF nf dF, .slice At nt dt, .slice Al nl dl, .slice AT n1 cT, .slice AL n2 cL]:=Blk.made _ _ _;have Q:Below w.heap.size w (w.alloc (.cells #[.slice AC nc dC, .slice AF nf dF, .slice At nt dt, .slice Al nl dl, .slice AT n1 cT, .slice AL n2 cL] 38)):=bZ (Ag _ _);generalize w.alloc (.cells #[.slice AC nc dC, .slice AF nf dF, .slice At nt dt, .slice Al nl dl, .slice AT n1 cT, .slice AL n2 cL] 38)=wb at *;have a5:=hid Q;have HS:Hid (∀wx,Below wb.heap.size wb wx->wx.cell? ⟨w.heap.size,0,none⟩=some (.slice AC nc dC)/\wx.cell? ⟨w.heap.size,1,none⟩=some (.slice AF nf dF)/\wx.cell? ⟨w.heap.size,2,none⟩=some (.slice At nt dt)/\wx.cell? ⟨w.heap.size,3,none⟩=some (.slice Al nl dl)/\wx.cell? ⟨w.heap.size,4,none⟩=some (.slice AT n1 cT)/\wx.cell? ⟨w.heap.size,5,none⟩=some (.slice AL n2 cL)/\Below w.heap.size w wx):=fun wx hb=>⟨(N.step hb).cell 0,(N.step hb).cell 1,(N.step hb).cell 2,(N.step hb).cell 3,(N.step hb).cell 4,(N.step hb).cell 5,Q.trans (hb.mono Q.size)⟩;have aN:=Q.size;clear N Q;go_loopw [4,5] (fun v i wr=>∃ (k:Nat) (j:List Rec),i= .int .i64 k/\k<=nf/\Hid (j.length=(C.take k).sum)/\Hid (CU C T L F (nf-k) k j=(RL,RE))/\Hid (wr.ownsRow wb.heap.size 59 4 v j.length (Bc j))/\Hid (Below wb.heap.size wb wr)) (fun _ i _=>nf-(intOf i).toNat)
 case atStart=>exact⟨0,[],rfl,by omega,by show _=_;simp,HR.out,Am _ _ _ _,Ag _ _⟩
 case round=>
  obtain⟨k,j,rfl,hk,HA,HG,E,HB⟩:=hrel;obtain⟨w0,rfl⟩:∃w0:World,w0=wr:=⟨_,rfl⟩;clear HR;obtain⟨s0,s1,s2,s3,s4,s5,sb⟩:=HS.out w0 HB.out;have SB:=hid sb;clear sb;have Z:j.length<=20000:=by rw[HA.out];exact ah.out k
  by_cases ag:k<nf
  ·have gk:decide ((k:Int)<(nf:Int))=true:=(by simp;omega);have aX:decide (k<nf)=true:=(by simp;omega);obtain⟨m,hm⟩:∃m,nf-k=m+1:=⟨nf-k-1,by omega⟩;have ax:nf-(k+1)=m:=(by omega);have hG:=HG.out;rw[hm,CU]at hG;have E1:=hid (DF.out w0 SB.out k ag);have aq:=hid (av.out k);have aj:=hid (au.out k (by rw[af.out];exact ag));generalize Cz C F k=fe at *;generalize CY C T L F k=fo at *;have aU:=hid ax;have a7:=ah.out (k+1);clear hm ax HG;by_cases hb:fe=0
   ·subst hb;have ay:=aq.out (by first|rfl|trivial);have a3:Hid (CU C T L F m (k+1) (j++fo)=(RL,RE)):=(by rw[Aa (by simp)]at hG;exact hG);have aF:Hid ((j++fo).length=(C.take (k+1)).sum):=(by show _=_;rw[Ai,aj.out,HA.out,ay]);have a4:fo.length<=20000:=(by have h:=aF.out;rw[Ai]at h;omega);clear hG ay aq aj;go_wp2_with fail;refine E1.out.mono ?_;rintro e w1 ⟨v,rfl,aa,z⟩;obtain⟨A1,c1,rfl⟩:=aZ aa;obtain⟨A2,c2,rfl⟩:=aZ E.out;have aT:=hid aa;have J:Hid (Below wb.heap.size wb w1):=HB.out.trans (z.mono HB.out.size);have ar:Hid (w1.ownsRow wb.heap.size 59 4 (.slice A2 j.length c2) j.length (Bc j)):=dZ E.out (fun x hx=>z.block x (Ae E.out x hx).2);have zz:=J.out.size;clear aa z E1 E HB;go_wp2_with(at_builtin;refine gZ rfl (.tmp 24) (.tmp 25) 46 rfl wb.heap.size 59 j0 _ 4 48 Tryz.underlying46 a1 a0 aV aM rfl (by decide) (.slice A2 j.length c2) j.length (Bc j) (by rfl) ar.out A1 fo.length c1 (Bc fo) (by rfl) (KV aT.out) (KL fo) (by unfold maxLen;omega) (by omega) (by omega) ?_;intro v5 w5 ak aY a6);have aS:Below wb.heap.size wb w5:=J.out.grown aY zz (fun y hy=>(Ae ar.out y hy).1);go_roundw
    case measure=>go_light;simp[intOf];omega
    case rel=>go_light;refine⟨k+1,j++fo,by first|rfl|go_num,by omega,aF.out,by rw[aU.out];exact a3.out,?_,aS⟩;rw[J0,Ai];exact ak
   ·have hR:([],fe)=(RL,RE):=(by rw[Ab hb]at hG;exact hG);simp only[Prod.mk.injEq]at hR;obtain⟨rfl,rfl⟩:=hR;have M:Hid (Gk C T L X F=fe):=(by show _=_;rw[HE.out];exact Ab hb);have g1:(fe != 0)=true:=(by simpa using hb);have aW:=hid hb;clear hG hb HE HO aq aj;go_wp2_with fail;refine E1.out.mono ?_;rintro e w1 ⟨v,rfl,aa,z⟩;have J:Hid (Below w.heap.size w w1):=SB.out.trans (z.mono SB.out.size);clear aa z E1;go_wp2_with fail;go_ret2;exact IF M.out aW.out J.out
  ·obtain rfl:k=nf:=by omega
   have gk:decide ((k:Int)<(k:Int))=false:=(by simp);have aX:decide (k<k)=false:=(by simp);have hG:=HG.out;rw[EL,CU]at hG;simp only[Prod.mk.injEq]at hG;obtain⟨rfl,rfl⟩:=hG;obtain⟨A2,c2,rfl⟩:=aZ E.out;have ac:=JZ E.out;have E1:=hid (DC.out w0 A2 j.length c2 j rfl Z ac);have he:=HE.out;unfold JK at he;simp only at he;rw[Aa (by simp)]at he;clear HG HE DF DC av au ah af HA ag ac;by_cases h1:Da j=0
   ·rw[Aa (by simp[h1])]at he;rw[h1]at E1;have E2:=hid (fun wx hr=>DB.out wx A2 j.length c2 j rfl Z h1 hr);have E3:=hid (fun wx v1 v2 G p2 hb h=>DP.out wx v1 v2 G p2 j h1 hb h);have ai:Hid (∀wx,Below w0.heap.size w0 wx->Row wx wx.heap.size A2 j.length 4 (Db j)):=fun wx hb=>JZ (dZ E.out (fun x hx=>hb.block x (Ae E.out x hx).2));have an:Hid (∀wx,Below w0.heap.size w0 wx->Below w.heap.size w wx):=fun wx hb=>SB.out.trans (hb.mono SB.out.size);obtain⟨al,U⟩:∃al,al=j.length:=⟨_,rfl⟩;rw[<-U]at E1 E2 ai Z;have Y:=E.out;rw[<-U]at Y;have ab:=hid Y;have aR:=hid U;have HE:=hid he;rw[<-U];clear he h1 DB DP E Y U;go_wp2_with fail;refine E1.out.mono ?_;rintro e w1 ⟨rfl,z⟩;have J:=hid z;clear z E1;go_upto_region 11 with fail;go_cut [35] (fun s wx=>s= .bool (!eqX X (Fk j))/\Hid (Below w0.heap.size w0 wx))
    case first=>
     have aO:Hid (∀wx,Below w0.heap.size w0 wx->wx.cell? ⟨w.heap.size,4,none⟩=some (.slice AT n1 cT)/\wx.cell? ⟨w.heap.size,5,none⟩=some (.slice AL n2 cL)):=fun wx hb=>let h:=HS.out wx (HB.out.trans (hb.mono HB.out.size));⟨h.2.2.2.2.1,h.2.2.2.2.2.1⟩
     have b1:=J.out;clear HS HE;go_region_held3 (fun wx=>wx.cell? ⟨w.heap.size,4,none⟩=some (.slice AT n1 cT)/\wx.cell? ⟨w.heap.size,5,none⟩=some (.slice AL n2 cL)) (exact aO.out _ (by(repeat (with_reducible first|exact Ag _ _|assumption|refine Aq ?_ |refine below_drewN ?_ _|refine qZ ?_ |refine bZ ?_ |refine eZ (by assumption) ?_ |refine belA ?_ |refine rZ (by assumption) ?_)))) (first|(go_at_call 75;(with_reducible refine(E2.out _ (ai.out _ (by(repeat (with_reducible first|exact Ag _ _|assumption|refine Aq ?_ |refine below_drewN ?_ _|refine qZ ?_ |refine bZ ?_ |refine eZ (by assumption) ?_ |refine belA ?_ |refine rZ (by assumption) ?_))))).mono ?_);rintro e wB ⟨v1,v2,G,rfl,ae,aP⟩;have BB:Below w0.heap.size w0 wB:=eZ aP (by(repeat (with_reducible first|exact Ag _ _|assumption|refine Aq ?_ |refine below_drewN ?_ _|refine qZ ?_ |refine bZ ?_ |refine eZ (by assumption) ?_ |refine belA ?_ |refine rZ (by assumption) ?_))))|(go_at_call 13;(with_reducible refine(E3.out _ _ _ _ _ (an.out _ (by(repeat (with_reducible first|exact Ag _ _|assumption|refine Aq ?_ |refine below_drewN ?_ _|refine qZ ?_ |refine bZ ?_ |refine eZ (by assumption) ?_ |refine belA ?_ |refine rZ (by assumption) ?_)))) (by first|exact ae|exact ae.step (by(repeat (with_reducible first|exact Ag _ _|assumption|refine Aq ?_ |refine below_drewN ?_ _|refine qZ ?_ |refine bZ ?_ |refine eZ (by assumption) ?_ |refine belA ?_ |refine rZ (by assumption) ?_))))).mono ?_);rintro e wG ⟨rfl,aQ⟩;have BG:Below w0.heap.size w0 wG:=eZ aQ (by(repeat (with_reducible first|exact Ag _ _|assumption|refine Aq ?_ |refine below_drewN ?_ _|refine qZ ?_ |refine bZ ?_ |refine eZ (by assumption) ?_ |refine belA ?_ |refine rZ (by assumption) ?_)))))
     all_goals
      go_wp2_with fail;go_meet
      case rel=>exact⟨rfl,hid BG⟩
    case rest=>
     obtain⟨rfl,aK⟩:=hcut;have aG:=hid (an.out _ aK.out);have he:=HE.out;clear E2 E3 ai an J HS HE;cases hx:eqX X (Fk j)
     ·rw[Aa (by simp[hx])]at he;have M:=hid he;clear hx he;go_wp2_with fail;go_ret2;exact IF M.out (by decide) aG.out
     ·rw[Ab hx]at he;have M:=hid he;clear hx he;go_wp2_with fail;go_ret2;refine⟨.slice A2 al c2,by rw[M.out];rfl,?_,aG.out⟩;rw[HO.out M.out,<-aR.out];exact jZ (dZ ab.out (fun x hx=>aK.out.block x (Ae ab.out x hx).2)) aN
   ·rw[Ab h1]at he;have h6:=One.PM h1;rw[h6]at E1;have M:=hid he;clear he h1 DB DP E h6;go_wp2_with fail;refine E1.out.mono ?_;rintro e w1 ⟨rfl,z⟩;have J:Hid (Below w.heap.size w w1):=SB.out.trans (z.mono SB.out.size);clear z E1;go_wp2_with fail;go_ret2;exact IF M.out (by decide) J.out
end Body
end Go.Proofs.YtbgoibedicbkjaaGreatDoor
