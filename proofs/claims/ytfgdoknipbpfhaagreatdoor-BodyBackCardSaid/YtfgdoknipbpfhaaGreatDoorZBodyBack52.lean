/- The law BodyLogs. (B -/
import Derived.Test.YtfgdoknipbpfhaaGreatDoorZBodyBack50
import Derived.Test.YtfgdoknipbpfhaaGreatDoorZBodyBack45
namespace Go.Proofs.YtfgdoknipbpfhaaGreatDoor
open Go.Proofs.Tryz
open Go.Lib (hid)
section
namespace Body
open Go.RowKit Mem Go.Proofs.YtfgdoknipbpfhaaGreatDoor.Own Canon Nums Recs Opts
open Crc (TabAt)
open Idx (Str IxAt eqX AQ BK kZ IE PY QT)
open Block (Va)
open Go.Proofs.YtfgdoknipbpfhaaGreatDoor.One (UM)
set_option maxHeartbeats 4000000 in
set_option maxRecDepth 100000 in
theorem cU(w:World)(base gb:Nat)(C S T L:List Nat)(X:List Str×List (List Nat))(F:List (List Nat))(K:List Bool)(ag:C.length=F.length)(hT:T.length=C.sum)(hL:L.length=C.sum)(hF:∀f∈F,f.length<=100000/\∀x∈f,x<=255)(hN:C.sum<=20000)(a5:F.length<=20000)(a6:X.1.length<=2000000)(a3:X.2.length<=2000000)(aq:∀l∈X.2,l.length<=2000000)(ht:TabAt w)(au:BodyAt w base gb C S T L X F K):
 Calls prog 19 #[.pointer (some ⟨gb,0,none⟩)] w (Pq C T L X F w):=by
 obtain⟨j0,bl,bk,bb,bm⟩:=info_parts UC;have DF:=hid (fun wx (hb:Below w w wx) k (hk:k<F.length)=>W9 wx base gb k C S T L X F K hk ag hT hL hF hN a5 (ht.step hb) (au.step hb));unfold P0 at DF;have ar:Hid (∀k,Fc C F k=0->(Gz C T L F k).length=C.getD k 0):=fun k=>nV;have a4:Hid (∀k,k<C.length->(C.take (k+1)).sum=(C.take k).sum+C.getD k 0):=fun k=>O9;have aj:Hid (∀k,(C.take k).sum<=20000):=fun k=>AN (Body.Lg C k) hN;obtain⟨vc,vs,p,q,vt,vl,vT,vL,vF,va,vals,fv,h0,h1,h2,h3,h4,h5,h6,h7⟩:=au;have am:=h6.l;have ai:Hid (C.length=F.length):=ag;have HE:Hid (Hm C T L X F=MJ X (FW C T L F F.length 0 [])):=rfl;have HO:Hid (Hm C T L X F=0->Jw C T L X F=(FW C T L F F.length 0 []).1):=fun h=>Ab h;obtain⟨nf,ay⟩:=ii F.length;rw[<-ay]at am a5 HE HO ai DF;obtain⟨AF,dF,rfl⟩:=bZ am;have HS:Hid (∀wx,Below w w wx->wx.cell? ⟨gb,8,none⟩=some (.slice AF nf dF)/\wx.cell? ⟨gb,6,none⟩=some vT/\wx.cell? ⟨gb,7,none⟩=some vL):=fun wx hb=>⟨(h0.step hb).cell 8,(h0.step hb).cell 6,(h0.step hb).cell 7⟩;have DC:=hid (fun wx A n c (l:List Rec) (hl:l.length=n) (hn:n<=20000) hr=>Py wx A n c l hl nj hr);have DB:=hid (fun wx A n c (l:List Rec) (hl:l.length=n) (hn:n<=20000) (hk:CJ l=0) hr=>PY wx A n c l hl hn (OK hk).1 hr);unfold IE at DB;have far:∀ {wx:World} {b s n:Nat} {e:TypeId} {v:Value} {xs:List Value},Below w w wx->w.ownsRow b e s v n xs->wx.ownsRow b e s v n xs:=fun hb ho=>eZ ho fun y hy=>hb.block y (Aj ho y hy).2;have DP:=hid (fun wx v1 v2 E p2 (l:List Rec) (hk:CJ l=0) (hb:Below w w wx) (h2:IxAt wx p2 v1 v2 E (AQ (l.map kZ)) ((AQ (l.map kZ)).map (BK (l.map kZ))))=>QT wx base p2 vT vL v1 v2 vals E X (Cw l) ⟨far hb h5.t,far hb h5.l,fun i v ids hv hi=>far hb (h5.r i v ids hv hi)⟩ h2 a6 a3 aq (OK hk).2.2.1 (OK hk).2.2.2);obtain⟨R,hR⟩:=ii (FW C T L F nf 0 []);rw[<-hR]at HE HO;have HR:Hid (FW C T L F nf 0 []=R):=hR.symm;have c8:=(HS.out w (Ae _ _)).1;obtain⟨RL,RE⟩:=R;simp only at HO;clear hR h0 h1 h2 h3 h4 h5 h6 h7 am ay ag hT hL hF hN ht a6 a3 aq far;go_enter func19,ntmps19;go_wp2_with fail;go_loopw [4,16] (fun v i wr=>∃ (k:Nat) (j:List Rec),i= .int .i64 k/\k<=nf/\Hid (j.length=(C.take k).sum)/\Hid (FW C T L F (nf-k) k j=(RL,RE))/\Hid (wr.ownsRow w 43 4 v j.length (BZ j))/\Hid (Below w w wr)) (fun _ i _=>nf-(intOf i).toNat)
 case atStart=>exact⟨0,[],rfl,nj,qN,HR.out,AE _ _ _ _,Ae _ _⟩
 case round=>
  obtain⟨k,j,rfl,hk,HA,HG,G,HB⟩:=hrel;obtain⟨w0,rfl⟩:=ii wr;clear HR c8;have N:j.length<=20000:=by rw[HA.out];exact aj.out k
  by_cases ak:k<nf
  ·have gk:=ic ((k:Int)<nf);have ba:=ic (k<nf);obtain⟨m,hm⟩:∃m,nf-k=m+1:=⟨nf-k-1,nj⟩;have a0:nf-(k+1)=m:=nj;have hG:=HG.out;rw[hm,FW]at hG;have E1:=hid (DF.out w0 HB.out k ak);have ah:=hid (ar.out k);have an:=hid (a4.out k (by rw[ai.out];exact ak));generalize Fc C F k=fe at *;generalize Gz C T L F k=fo at *;have bj:=hid a0;have bt:=aj.out (k+1);clear hm a0 HG;by_cases hb:fe=0
   ·subst hb;have av:=ah.out iz;have a9:Hid (FW C T L F m (k+1) (j++fo)=(RL,RE)):=(by rw[Aa qT]at hG;exact hG);have az:Hid ((j++fo).length=(C.take (k+1)).sum):=(by show _=_;rw[Ag,an.out,HA.out,av]);have bq:fo.length<=20000:=(by have h:=az.out;rw[Ag]at h;omega);clear hG av ah an;go_wp2_with fail;refine E1.out.mono ?_;rintro e w1 ⟨v,rfl,Q,z⟩;obtain⟨A1,c1,rfl⟩:=bZ Q;obtain⟨A2,c2,rfl⟩:=bZ G.out;have bh:=hid Q;have J:Hid (Below w w w1):=HB.out.trans (z.mono HB.out.size);have aw:Hid (w1.ownsRow w 43 4 (.slice A2 j.length c2) j.length (BZ j)):=eZ G.out (fun x hx=>z.block x (Aj G.out x hx).2);have zz:=J.out.size;clear Q z E1 G HB;go_wp2_with(at_builtin;refine iZ rfl (.tmp 28) (.tmp 29) 24 rfl w 43 j0 _ 4 48 underlying24 bl bk bb bm rfl ip (.slice A2 j.length c2) j.length (BZ j) nm aw.out A1 fo.length c1 (BZ fo) nm (Va bh.out) (UM fo) rE nj nj ?_;intro v5 w5 af bd bp);have bn:Below w w w5:=J.out.grown bd zz (fun y hy=>(Aj aw.out y hy).1);go_roundw
    case measure=>exact jq
    case rel=>go_light;refine⟨k+1,j++fo,iw,nj,az.out,by rw[bj.out];exact a9.out,?_,bn⟩;rw[Mt,Ag];exact af
   ·have hR:([],fe)=(RL,RE):=(by rw[Ab hb]at hG;exact hG);simp only[Prod.mk.injEq]at hR;obtain⟨rfl,rfl⟩:=hR;have M:Hid (Hm C T L X F=fe):=(by show _=_;rw[HE.out];exact Ab hb);have g1:(fe != 0)=true:=(by simpa using hb);have bg:=hid hb;clear hG hb HE HO ah an;go_wp2_with fail;refine E1.out.mono ?_;rintro e w1 ⟨v,rfl,Q,z⟩;have J:Hid (Below w w w1):=HB.out.trans (z.mono HB.out.size);clear Q z E1;go_wp2_with fail;go_ret2;exact Ph M.out bg.out J.out
  ·obtain rfl:k=nf:=by omega
   have gk:=ig ((k:Int)<k);have ba:=ig (k<k);have hG:=HG.out;rw[Gf,FW]at hG;simp only[Prod.mk.injEq]at hG;obtain⟨rfl,rfl⟩:=hG;obtain⟨A2,c2,rfl⟩:=bZ G.out;have ac:=Oz G.out;have E1:=hid (DC.out w0 A2 j.length c2 j rfl N ac);have he:=HE.out;unfold MJ at he;simp only at he;rw[Aa qT]at he;clear HG HE DF DC ar a4 aj ai HA ak ac;by_cases h1:CJ j=0
   ·rw[Aa (by simp[h1])]at he;rw[h1]at E1;have E2:=hid (fun wx hr=>DB.out wx A2 j.length c2 j rfl N h1 hr);have E3:=hid (fun wx v1 v2 E p2 hb h=>DP.out wx v1 v2 E p2 j h1 hb h);have ae:Hid (∀wx,Below w0 w0 wx->Row wx wx A2 j.length 4 (By j)):=fun wx hb=>Oz (eZ G.out (fun x hx=>hb.block x (Aj G.out x hx).2));have Z:Hid (∀wx,Below w0 w0 wx->Below w w wx):=fun wx hb=>HB.out.trans (hb.mono HB.out.size);obtain⟨al,Y⟩:=ii j.length;rw[<-Y]at E1 E2 ae N;have U:=G.out;rw[<-Y]at U;have aa:=hid U;have be:=hid Y;have HE:=hid he;rw[<-Y];clear he h1 DB DP G U Y;go_wp2_with fail;refine E1.out.mono ?_;rintro e w1 ⟨rfl,z⟩;have J:=hid z;clear z E1;go_upto_region 15 with fail;go_cut [44] (fun s wx=>s= .bool (!eqX X (Cw j))/\Hid (Below w0 w0 wx))
    case first=>
     have bi:Hid (∀wx,Below w0 w0 wx->wx.cell? ⟨gb,6,none⟩=some vT/\wx.cell? ⟨gb,7,none⟩=some vL):=fun wx hb=>(HS.out wx (Z.out wx hb)).2;have b1:=J.out;clear HS HE;go_region_held3 (fun wx=>wx.cell? ⟨gb,6,none⟩=some vT/\wx.cell? ⟨gb,7,none⟩=some vL) (exact bi.out _ rF) (first|(go_at_call 52;(with_reducible refine(E2.out _ (ae.out _ rF)).mono ?_);rintro e wB ⟨v1,v2,E,rfl,ab,bf⟩;have BB:Below w0 w0 wB:=dZ bf rF)|(go_at_call 65;(with_reducible refine(E3.out _ _ _ _ _ (Z.out _ rF) (by first|exact ab|exact ab.step rF)).mono ?_);rintro e wG ⟨rfl,bc⟩;have BG:Below w0 w0 wG:=dZ bc rF))
     all_goals
      go_wp2_with fail;go_meet
      case rel=>exact⟨rfl,hid BG⟩
    case rest=>
     obtain⟨rfl,ax⟩:=hcut;have a1:=hid (Z.out _ ax.out);have he:=HE.out;clear E2 E3 ae Z J HS HE;cases hx:eqX X (Cw j)
     ·rw[Aa rp]at he;have M:=hid he;clear hx he;go_wp2_with fail;go_ret2;exact Ph M.out ip a1.out
     ·rw[Ab hx]at he;have M:=hid he;clear hx he;go_wp2_with fail;go_ret2;refine⟨.slice A2 al c2,by rw[M.out];rfl,?_,a1.out⟩;rw[HO.out M.out,<-be.out];exact eZ aa.out (fun x hx=>ax.out.block x (Aj aa.out x hx).2)
   ·rw[Ab h1]at he;have h6:=One.Vn h1;rw[h6]at E1;have M:=hid he;clear he h1 DB DP G h6;go_wp2_with fail;refine E1.out.mono ?_;rintro e w1 ⟨rfl,z⟩;have J:Hid (Below w w w1):=HB.out.trans (z.mono HB.out.size);clear z E1;go_wp2_with fail;go_ret2;exact Ph M.out ip J.out
end Body
end
variable{base c n:Nat}{A:Option Addr}
namespace Body
open Go.RowKit Mem Go.Proofs.YtfgdoknipbpfhaaGreatDoor.Own Canon Nums Recs Opts
open Crc (TabAt Bk CM)
open Idx (Str IxAt)
theorem gI{w:World}{l:List Rec}(h:w.ownsRow base 43 4 (.slice A n c) n (BZ l))(hn:l.length=n):Row w w A n 4 (By l):=by subst hn;exact Oz h
end Body
namespace Body
open Go.RowKit Mem Go.Proofs.YtfgdoknipbpfhaaGreatDoor.Own Canon Nums Recs Opts
open Crc (TabAt)
open Block (nZ)
open Idx (Str IxAt IE AQ kZ UH OC OT Kc)
theorem bM{wx:World}{ls:List Nat}(ho:wx.ownsRow base 5 1 (.slice A n c) n (cZ .u8 ls))(hn:ls.length=n):n<=c/\(A=none->n=0/\c=0)/\Row wx wx A n 1 (jZ .u8 ls):=by subst hn;exact⟨(EA ho).2,fun e=>by subst e;exact Jt ho rfl,Z2 ho rfl⟩
set_option maxHeartbeats 4000000 in
set_option maxRecDepth 100000 in
theorem fI(w:World)(o:Opt)(A:Option Addr)(n c:Nat)(l:List Rec)(hn:l.length=n)(hN:n<=9223372036854775807)(hc:n<=c)(M:∀r∈l,Ci r)(ht:TabAt w)(ha:Row w w A n 4 (By l)):
 Calls prog 4 #[o.val, .slice A n c] w fun e w'=>e= .returned (.bool true)/\Below w w w':=by
 have D0:=hid (fun wx (hx:Below w w wx)=>nR wx (ht.step hx));have D2:=hid (fun wx (hx:Below w w wx)=>jX wx A n c l 60 4000 nj hn hN ((ha.below hx).mono hx.size));have D3:=hid (fun wx (hx:Below w w wx) (hcd:CJ l=0->Cd o l n)=>nA wx o A n c l hn hN hc M hcd (ht.step hx) ((ha.below hx).mono hx.size))
 have a0:Hid ((n:Int)<=60/\Bm l<=4000->(CJ l=0->Cd o l n)/\n<=60/\(CI o≠0->FG o l=9/\Hj o l= [])/\(CI o=0->FG o l=0/\Hj o l=Cy o l/\(Cy o l).length<=99000/\Small o l)):=fun h=>by
  have hk:CJ l=0:=Wz nj h.2;have hb:(wZ false l).length<=16000:=cI hn M hk h.1 h.2;have hT:(AQ (l.map kZ)).length<=20000:=by have a:=Nq (l.map kZ);have b:=K8 l;omega
  refine⟨fun _=>⟨nj,hb,hT,fun ho=>(Small.of ho nj h.2 M).x⟩,nj,fun ho=> ?_,fun ho=> ?_⟩
  ·have e:FG o l=9:=(by unfold FG;rw[Ab ho,OA ho]);exact⟨e,by unfold Hj;rw[Aa (by rw[e];decide)]⟩
  ·have e:FG o l=0:=(by unfold FG;rw[Aa (by simpa using ho),Aa (by simpa using hk)]);have hs:=Small.of ho nj h.2 M;exact⟨e,by unfold Hj;rw[Ab e],hs.m,hs⟩
 have H9:Hid (CI o≠0->CI o=9):=fun h=>OA h;have D4:Hid (∀wx A2 c2 L,L=(Cy o l).length->Below w w wx->wx.ownsRow w 5 1 (.slice A2 L c2) L (cZ .u8 (Cy o l))->Small o l->Calls prog 13 #[o.val, .slice A2 L c2] wx (OI o l wx)):=fun wx A2 c2 L hl hb ho hs=>by obtain⟨r1,r2,r3⟩:=bM ho hl.symm;exact mK wx o A2 L c2 l hs hl.symm r1 r2 (ht.step hb) r3
 have D5:=hid (fun wx=>oM wx o)
 have D6:Hid (∀wx b gb,Below w w wx->Small o l->BodyAt wx b gb (Cb o l) ((FR o l).map List.length) (Bh l) (Bv l) (Cw l) (FR o l) (List.replicate (FR o l).length false)->
  (Calls prog 18 #[.pointer (some ⟨gb,0,none⟩)] wx fun e w'=>e= .returned (.int .i64 (n:Nat))/\w'=wx)/\
  (Calls prog 19 #[.pointer (some ⟨gb,0,none⟩)] wx fun e w'=>∃v,e= .returned (.tuple #[v,ij])/\w'.ownsRow wx 43 4 v n (BZ l)/\Below wx wx w')/\
  (Calls prog 22 #[.pointer (some ⟨gb,0,none⟩)] wx (Kc wx (Cw l).1 (Cw l).2))):=fun wx b gb hb hs hB=>by
  obtain⟨a1,a2,a3,a4,a5,a6⟩:=hs.all;obtain⟨x1,x2,x3⟩:=hs.ix;have ah:=Lk o l;have Q:=cU wx b gb _ _ _ _ _ _ _ a1 a2 a3 a4 a5 a6 nj nj (fun y hy=>by have:=x3 y hy;omega) (ht.step hb) hB;obtain⟨lE,lO⟩:=jO o.plain ah M hs.ck hs.b;unfold Pq at Q;have bm:Hm (Cb o l) (Bh l) (Bv l) (Cw l) (FR o l)=0:=lE;have bh:Jw (Cb o l) (Bh l) (Bv l) (Cw l) (FR o l)=l:=lO;rw[bm,bh,hn]at Q;obtain⟨vc,vs,p,q,vt,vl,vT,vL,vF,va,vals,fv,h0,h1,h2,h3,h4,h5,h6,h7⟩:=hB;obtain⟨Ac,cc,rfl⟩:=bZ h1;have ac:=P7 wx gb (Cb o l).length cc Ac (Cb o l) (h0.cell 0) rfl nj nj (dX h1 rfl |> fun r=>own_ints h1 rfl);rw[ah,hn]at ac;exact⟨ac,Q,OC wx gb b vT vL vals _ _ (h0.cell 6) (h0.cell 7) h5 nj nj (fun y hy=>by have:=x3 y hy;omega) h0.lt⟩
 have DS:Hid (∀ (wx:World) b Ay cy,Below w w wx->wx.ownsRow b 43 4 (.slice Ay n cy) n (BZ l)->Calls prog 20 #[.slice Ay n cy, .slice A n c] wx fun e w'=>e= .returned (.bool true)/\Below wx wx w'):=fun wx b Ay cy hx ho=>by
  have:=aA wx Ay A n n cy c l l hn hn hN hN (gI ho hn) ((ha.below hx).mono hx.size)
  rwa [show JG l l=true by simp[JG]]at this
 have DB:=hid (fun wx (hx:Below w w wx) (h60:n<=60) (hs:Small o l)=>UH wx A n c l hn nj (fun r hr=>by obtain⟨a,b⟩:=Ia (One.JA hs.ck r hr);omega) ((ha.below hx).mono hx.size));have DX:Hid (∀ (wx:World) p1 p2 vT vL z J vals i,Small o l->IxAt wx p1 vT vL vals (Cw l).1 (Cw l).2->IxAt wx p2 z J i (Cw l).1 (Cw l).2->Calls prog 21 #[.agg #[vT,vL], .agg #[z,J]] wx fun e w'=>e= .returned (.bool true)/\Below wx wx w'):=fun wx p1 p2 vT vL z J vals i hs h1 h2=>by obtain⟨x1,x2,x3⟩:=hs.ix;exact OT wx p1 p2 vT vL z J vals i _ _ h1 h2 nj nj (fun y hy=>by have:=x3 y hy;omega)
 have eX:IE (l.map kZ)=fun (w:World) (e:Ending) (w':World)=>∃vT vL vals,e= .returned (.agg #[vT,vL])/\IxAt w' w vT vL vals (Cw l).1 (Cw l).2/\Below w w w':=rfl;rw[eX]at DB;unfold Lv at D3;unfold TB at D2;unfold OI at D4;unfold Kc at D6;generalize FG o l=E at *;generalize Hj o l=R at *;generalize Cy o l=F at *;generalize Small o l=SM at *;generalize (Cw l)=XX at *;generalize Cb o l=CC at *;generalize FR o l=FF at *;generalize CI o=oE at *;generalize CJ l=ck at *;generalize Cd o l n=cd at *;obtain⟨S,pl,bu,da,pa,ch⟩:=o;unfold Opt.val at D3 D4 D5 ⊢;simp only at D3 D4 D5 ⊢;have HN:=hid hn;clear hn M ht ha eX;go_enter func4,ntmps4;go_wp2_with fail;have au:Blk (w.alloc (.cells #[S,pl,bu,da,pa,ch] 23)) w 23 #[S,pl,bu,da,pa,ch]:=Blk.made _ _ _;have Z:Below w w (w.alloc (.cells #[S,pl,bu,da,pa,ch] 23)):=aZ (Ae _ _);generalize w.alloc (.cells #[S,pl,bu,da,pa,ch] 23)=wa at *;have j:Hid (∀wx,Below wa wa wx->Below w w wx):=fun wx h=>Z.trans (h.mono Z.size);have an:=hid au;have bl:=hid Z;clear au Z;refine(D0.out wa bl.out).mono ?_;rintro e w1 ⟨rfl,be⟩;have B1:Hid (Below wa wa w1):=be;have E2:=hid (D2.out w1 (j.out _ B1.out));clear be D0 D2;go_wp2_with fail;refine E2.out.mono ?_;rintro e w5 ⟨gr,rfl,am,bg⟩;have B5:Hid (Below wa wa w5):=dZ bg B1.out;clear bg E2 B1;cases gr with
 |true=>clear am;go_wp2_with fail;go_ret;exact⟨rfl,j.out _ B5.out⟩
 |false=>
  obtain⟨s1,a9,s2,s3⟩:=a0.out (am rfl);have E5:=hid (D3.out w5 (j.out _ B5.out) s1);have q5:=an.out.step B5.out;obtain⟨k0,k1,k2,k3,k4,k5⟩:=q5.six;clear am D3 a0 s1 q5;by_cases ho:oE=0
  ·obtain⟨rfl,rfl,bc,bd⟩:=s3 ho;have bp:=hid bc;have HS:=hid bd;have bn:=hid a9;clear s2 s3 D5 ho bc bd a9;obtain⟨L,hL⟩:=ii R.length;have HL:=hid hL;rw[<-hL]at E5;clear hL;go_wp2_with fail;refine E5.out.mono ?_;rintro e w6 ⟨v6,rfl,G,N⟩;obtain⟨A6,c6,rfl⟩:=bZ G;have B6:Hid (Below wa wa w6):=dZ N B5.out;have E6:=hid (D4.out w6 A6 c6 L HL.out (j.out _ B6.out) (lZ G (j.out _ B5.out).size) HS.out);have q6:=an.out.step B6.out;clear k0 k1 k2 k3 k4 k5;obtain⟨k0,k1,k2,k3,k4,k5⟩:=q6.six;clear G N E5 B5 D4 q6;go_wp2_with fail;refine E6.out.mono ?_;rintro e w7 ⟨gb,rfl,ar,ax⟩;have B7:Hid (Below wa wa w7):=dZ ax B6.out;have HB:=hid ar;obtain⟨ay,aw,_⟩:=D6.out w7 _ gb (j.out _ B7.out) HS.out ar;have EL:=hid ay;have EG:=hid aw;have gn:((n:Int)==(n:Int))=true:=qT;have bq:((n:Int) != (n:Int))=false:=qT;clear ar ax ay aw E6 B6 k0 k1 k2 k3 k4 k5;go_wp2_with fail;refine EL.out.mono ?_;rintro e w8 ⟨rfl,rfl⟩;clear EL;go_wp2_with fail;refine EG.out.mono ?_;rintro e w9 ⟨v9,rfl,aq,ak⟩;obtain⟨A9,c9,rfl⟩:=bZ aq;have B9:Hid (Below wa wa w9):=dZ ak B7.out;have bb:=hid (HB.out.step ak);have ES:=hid (DS.out w9 _ A9 c9 (j.out _ B9.out) aq);clear aq ak EG HB B7 DS;go_wp2_with fail;refine ES.out.mono ?_;rintro e av ⟨rfl,Y⟩;have al:Hid (Below wa wa av):=dZ Y B9.out;have af:=bb.out.step Y;obtain⟨_,_,ae⟩:=D6.out av _ gb (j.out _ al.out) HS.out af;have EI:=hid ae;clear Y ae af ES bb B9 D6;go_wp2_with fail;refine EI.out.mono ?_;rintro e ba ⟨vT,vL,vals,rfl,ab,ag⟩;have aj:Hid (Below wa wa ba):=dZ ag al.out;have HX:=hid ab;have EB:=hid (DB.out ba (j.out _ aj.out) bn.out HS.out);clear ab ag EI al DB;go_wp2_with fail;refine EB.out.mono ?_;rintro e bf ⟨z,J,i,rfl,aa,U⟩;have bj:Hid (Below wa wa bf):=dZ U aj.out;have EX:=hid (DX.out bf _ _ vT vL z J vals i HS.out (HX.out.step U) aa);clear aa U EB aj HX DX;go_wp2_with fail;refine EX.out.mono ?_;rintro e bi ⟨rfl,ai⟩;have bk:Hid (Below wa wa bi):=dZ ai bj.out;clear ai EX;go_wp2_with fail;go_ret;exact⟨rfl,j.out _ bk.out⟩
  ·obtain⟨rfl,rfl⟩:=s2 ho;clear s2 s3 D4 DS D6 DB DX;go_wp2_with fail;refine E5.out.mono ?_;rintro e w6 ⟨v6,rfl,G,N⟩;obtain⟨A6,c6,rfl⟩:=bZ G;have B6:Hid (Below wa wa w6):=dZ N B5.out;have q6:=an.out.step B6.out;clear k0 k1 k2 k3 k4 k5;obtain⟨k0,k1,k2,k3,k4,k5⟩:=q6.six;have h9:=H9.out ho;rw[h9]at D5;clear G N E5 B5 q6 ho h9;go_wp2_with fail;refine(D5.out _).mono ?_;rintro e w8 ⟨rfl,az⟩;have B8:Hid (Below wa wa w8):=dZ az B6.out;clear az D5;go_wp2_with fail;go_ret;exact⟨rfl,j.out _ B8.out⟩
end Body
end Go.Proofs.YtfgdoknipbpfhaaGreatDoor
