/- The walk of a body's -/
import Derived.Test.YtfgdoknipbpfhaaGreatDoorZBodyIndex47
namespace Go.Proofs.YtfgdoknipbpfhaaGreatDoor
open Go.Proofs.Tryz
open Go.Lib (hid)
namespace Body
open Go.RowKit Mem Own Canon Nums Recs Opts
open Crc (TabAt)
open Idx (Str IxAt eqX AW BP jZ IA Np UP)
open Block (Tn)
open Go.Proofs.YtfgdoknipbpfhaaGreatDoor.One (SV)
set_option maxHeartbeats 4000000 in
set_option maxRecDepth 100000 in
theorem jM(w:World)(base gb:Nat)(C S T L:List Nat)(X:List Str×List (List Nat))(F:List (List Nat))(K:List Bool)(aj:C.length=F.length)(hT:T.length=C.sum)(hL:L.length=C.sum)(hF:∀f∈F,f.length<=100000/\∀x∈f,x<=255)(hN:C.sum<=20000)(a0:F.length<=20000)(ay:X.1.length<=2000000)(av:X.2.length<=2000000)(az:∀l∈X.2,l.length<=2000000)(ht:TabAt w)(a5:BodyAt w base gb C S T L X F K):
 Calls prog 19 #[.pointer (some ⟨gb,0,none⟩)] w (OJ C T L X F w):=by
 obtain⟨j0,bp,bf,bm,bn⟩:=info_parts Vd;have DF:=hid (fun wx (hb:Below w w wx) k (hk:k<F.length)=>iG wx base gb k C S T L X F K hk aj hT hL hF hN a0 (ht.step hb) (a5.step hb));unfold OV at DF;have a9:Hid (∀k,Fv C F k=0->(GD C T L F k).length=C.getD k 0):=fun k=>WW;have a1:Hid (∀k,k<C.length->(C.take (k+1)).sum=(C.take k).sum+C.getD k 0):=fun k=>Pb;have ak:Hid (∀k,(C.take k).sum<=20000):=fun k=>Bm (Body.K0 C k) hN;obtain⟨vc,vs,p,q,vt,vl,vT,vL,vF,va,vals,fv,h0,h1,h2,h3,h4,h5,h6,h7⟩:=a5;have ai:=h6.l;have ag:Hid (C.length=F.length):=aj;have HE:Hid (Hy C T L X F=Mi X (Ga C T L F F.length 0 [])):=rfl;have HO:Hid (Hy C T L X F=0->Ju C T L X F=(Ga C T L F F.length 0 []).1):=fun h=>Ag h;obtain⟨nf,a6⟩:=jc F.length;rw[<-a6]at ai a0 HE HO ag DF;obtain⟨AF,dF,rfl⟩:=aZ ai;have HS:Hid (∀wx,Below w w wx->wx.cell? ⟨gb,8,none⟩=some (.slice AF nf dF)/\wx.cell? ⟨gb,6,none⟩=some vT/\wx.cell? ⟨gb,7,none⟩=some vL):=fun wx hb=>⟨(h0.step hb).cell 8,(h0.step hb).cell 6,(h0.step hb).cell 7⟩;have DC:=hid (fun wx A n c (l:List Rec) (hl:l.length=n) (hn:n<=20000) hr=>Sl wx A n c l hl nB hr);have DB:=hid (fun wx A n c (l:List Rec) (hl:l.length=n) (hn:n<=20000) (hk:DQ l=0) hr=>Np wx A n c l hl hn (PC hk).1 hr);unfold IA at DB;have far:∀ {wx:World} {b s n:Nat} {e:TypeId} {v:Value} {xs:List Value},Below w w wx->w.ownsRow b e s v n xs->wx.ownsRow b e s v n xs:=fun hb ho=>eZ ho fun y hy=>hb.block y (Ai ho y hy).2;have DP:=hid (fun wx v1 v2 J p2 (l:List Rec) (hk:DQ l=0) (hb:Below w w wx) (h2:IxAt wx p2 v1 v2 J (AW (l.map jZ)) ((AW (l.map jZ)).map (BP (l.map jZ))))=>UP wx base p2 vT vL v1 v2 vals J X (nZ l) ⟨far hb h5.t,far hb h5.l,fun i v ids hv hi=>far hb (h5.r i v ids hv hi)⟩ h2 ay av az (PC hk).2.2.1 (PC hk).2.2.2);obtain⟨R,hR⟩:=jc (Ga C T L F nf 0 []);rw[<-hR]at HE HO;have HR:Hid (Ga C T L F nf 0 []=R):=hR.symm;have c8:=(HS.out w (Ak _ _)).1;obtain⟨RL,RE⟩:=R;simp only at HO;clear hR h0 h1 h2 h3 h4 h5 h6 h7 ai a6 aj hT hL hF hN ht ay av az far;go_enter func19,ntmps19;go_wp2_with fail;go_loopw [4,16] (fun v i wr=>∃ (k:Nat) (j:List Rec),i= .int .i64 k/\k<=nf/\Hid (j.length=(C.take k).sum)/\Hid (Ga C T L F (nf-k) k j=(RL,RE))/\Hid (wr.ownsRow w 43 4 v j.length (BX j))/\Hid (Below w w wr)) (fun _ i _=>nf-(intOf i).toNat)
 case atStart=>exact⟨0,[],rfl,nB,by show _=_;simp,HR.out,AE _ _ _ _,Ak _ _⟩
 case round=>
  obtain⟨k,j,rfl,hk,HA,HG,G,HB⟩:=hrel;obtain⟨w0,rfl⟩:=jc wr;clear HR c8;have Y:j.length<=20000:=by rw[HA.out];exact ak.out k
  by_cases am:k<nf
  ·have gk:=ja ((k:Int)<nf);have bl:=ja (k<nf);obtain⟨m,hm⟩:∃m,nf-k=m+1:=⟨nf-k-1,nB⟩;have au:nf-(k+1)=m:=nB;have hG:=HG.out;rw[hm,Ga]at hG;have E1:=hid (DF.out w0 HB.out k am);have an:=hid (a9.out k);have aq:=hid (a1.out k (by rw[ag.out];exact am));generalize Fv C F k=fe at *;generalize GD C T L F k=fo at *;have bh:=hid au;have bu:=ak.out (k+1);clear hm au HG;by_cases hb:fe=0
   ·subst hb;have ar:=an.out jm;have bg:Hid (Ga C T L F m (k+1) (j++fo)=(RL,RE)):=(by rw[Ae pR]at hG;exact hG);have a3:Hid ((j++fo).length=(C.take (k+1)).sum):=(by show _=_;rw[Aj,aq.out,HA.out,ar]);have bq:fo.length<=20000:=(by have h:=a3.out;rw[Aj]at h;omega);clear hG ar an aq;go_wp2_with fail;refine E1.out.mono ?_;rintro e w1 ⟨v,rfl,Q,E⟩;obtain⟨A1,c1,rfl⟩:=aZ Q;obtain⟨A2,c2,rfl⟩:=aZ G.out;have bk:=hid Q;have M:Hid (Below w w w1):=HB.out.trans (E.mono HB.out.size);have aw:Hid (w1.ownsRow w 43 4 (.slice A2 j.length c2) j.length (BX j)):=eZ G.out (fun x hx=>E.block x (Ai G.out x hx).2);have zz:=M.out.size;clear Q E E1 G HB;go_wp2_with(at_builtin;refine fZ rfl (.tmp 28) (.tmp 29) 24 rfl w 43 j0 _ 4 48 underlying24 bp bf bm bn rfl ji (.slice A2 j.length c2) j.length (BX j) nC aw.out A1 fo.length c1 (BX fo) nC (Tn bk.out) (SV fo) qn nB nB ?_;intro v5 w5 ah bd bt);have bb:Below w w w5:=M.out.grown bd zz (fun y hy=>(Ai aw.out y hy).1);go_roundw
    case measure=>exact ld
    case rel=>go_light;refine⟨k+1,j++fo,jk,nB,a3.out,by rw[bh.out];exact bg.out,?_,bb⟩;rw[M3,Aj];exact ah
   ·have hR:([],fe)=(RL,RE):=(by rw[Ag hb]at hG;exact hG);simp only[Prod.mk.injEq]at hR;obtain⟨rfl,rfl⟩:=hR;have N:Hid (Hy C T L X F=fe):=(by show _=_;rw[HE.out];exact Ag hb);have g1:(fe != 0)=true:=(by simpa using hb);have bj:=hid hb;clear hG hb HE HO an aq;go_wp2_with fail;refine E1.out.mono ?_;rintro e w1 ⟨v,rfl,Q,E⟩;have M:Hid (Below w w w1):=HB.out.trans (E.mono HB.out.size);clear Q E E1;go_wp2_with fail;go_ret2;exact OC N.out bj.out M.out
  ·obtain rfl:k=nf:=by omega
   have gk:=jb ((k:Int)<k);have bl:=jb (k<k);have hG:=HG.out;rw[Gl,Ga]at hG;simp only[Prod.mk.injEq]at hG;obtain⟨rfl,rfl⟩:=hG;obtain⟨A2,c2,rfl⟩:=aZ G.out;have ab:=N4 G.out;have E1:=hid (DC.out w0 A2 j.length c2 j rfl Y ab);have he:=HE.out;unfold Mi at he;simp only at he;rw[Ae pR]at he;clear HG HE DF DC a9 a1 ak ag HA am ab;by_cases h1:DQ j=0
   ·rw[Ae (by simp[h1])]at he;rw[h1]at E1;have E2:=hid (fun wx hr=>DB.out wx A2 j.length c2 j rfl Y h1 hr);have E3:=hid (fun wx v1 v2 J p2 hb h=>DP.out wx v1 v2 J p2 j h1 hb h);have af:Hid (∀wx,Below w0 w0 wx->Row wx wx A2 j.length 4 (Cp j)):=fun wx hb=>N4 (eZ G.out (fun x hx=>hb.block x (Ai G.out x hx).2));have aa:Hid (∀wx,Below w0 w0 wx->Below w w wx):=fun wx hb=>HB.out.trans (hb.mono HB.out.size);obtain⟨al,Z⟩:=jc j.length;rw[<-Z]at E1 E2 af Y;have U:=G.out;rw[<-Z]at U;have ac:=hid U;have be:=hid Z;have HE:=hid he;rw[<-Z];clear he h1 DB DP G U Z;go_wp2_with fail;refine E1.out.mono ?_;rintro e w1 ⟨rfl,E⟩;have M:=hid E;clear E E1;go_upto_region 15 with fail;go_cut [44] (fun s wx=>s= .bool (!eqX X (nZ j))/\Hid (Below w0 w0 wx))
    case first=>
     have bc:Hid (∀wx,Below w0 w0 wx->wx.cell? ⟨gb,6,none⟩=some vT/\wx.cell? ⟨gb,7,none⟩=some vL):=fun wx hb=>(HS.out wx (aa.out wx hb)).2;have b1:=M.out;clear HS HE;go_region_held3 (fun wx=>wx.cell? ⟨gb,6,none⟩=some vT/\wx.cell? ⟨gb,7,none⟩=some vL) (exact bc.out _ qo) (first|(go_at_call 52;(with_reducible refine(E2.out _ (af.out _ qo)).mono ?_);rintro e wB ⟨v1,v2,J,rfl,ae,ba⟩;have BB:Below w0 w0 wB:=dZ ba qo)|(go_at_call 65;(with_reducible refine(E3.out _ _ _ _ _ (aa.out _ qo) (by first|exact ae|exact ae.step qo)).mono ?_);rintro e wG ⟨rfl,bi⟩;have BG:Below w0 w0 wG:=dZ bi qo))
     all_goals
      go_wp2_with fail;go_meet
      case rel=>exact⟨rfl,hid BG⟩
    case rest=>
     obtain⟨rfl,ax⟩:=hcut;have a4:=hid (aa.out _ ax.out);have he:=HE.out;clear E2 E3 af aa M HS HE;cases hx:eqX X (nZ j)
     ·rw[Ae (by simp[hx])]at he;have N:=hid he;clear hx he;go_wp2_with fail;go_ret2;exact OC N.out ji a4.out
     ·rw[Ag hx]at he;have N:=hid he;clear hx he;go_wp2_with fail;go_ret2;refine⟨.slice A2 al c2,by rw[N.out];rfl,?_,a4.out⟩;rw[HO.out N.out,<-be.out];exact eZ ac.out (fun x hx=>ax.out.block x (Ai ac.out x hx).2)
   ·rw[Ag h1]at he;have h6:=One.Zu h1;rw[h6]at E1;have N:=hid he;clear he h1 DB DP G h6;go_wp2_with fail;refine E1.out.mono ?_;rintro e w1 ⟨rfl,E⟩;have M:Hid (Below w w w1):=HB.out.trans (E.mono HB.out.size);clear E E1;go_wp2_with fail;go_ret2;exact OC N.out ji M.out
end Body
end Go.Proofs.YtfgdoknipbpfhaaGreatDoor
