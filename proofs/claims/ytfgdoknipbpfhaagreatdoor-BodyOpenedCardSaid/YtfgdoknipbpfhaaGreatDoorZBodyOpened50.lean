/- The law BodyBack. Th -/
import Derived.Test.YtfgdoknipbpfhaaGreatDoorZBodyOpened48
import Derived.Test.YtfgdoknipbpfhaaGreatDoorZBodyOpened43
namespace Go.Proofs.YtfgdoknipbpfhaaGreatDoor
open Go.Proofs.Tryz
open Go.Lib (hid)
section
namespace Body
open Go.RowKit Mem Go.Proofs.YtfgdoknipbpfhaaGreatDoor.Own Canon Nums Recs Opts
open Crc (TabAt)
open Idx (Str IxAt eqX AY Cf lZ J6 PK RU)
open Block (QP)
open Go.Proofs.YtfgdoknipbpfhaaGreatDoor.One (Qp)
set_option maxHeartbeats 4000000 in
set_option maxRecDepth 100000 in
theorem YC(w:World)(base gb:Nat)(C S T L:List Nat)(X:List Str×List (List Nat))(F:List (List Nat))(K:List Bool)(ai:C.length=F.length)(hT:T.length=C.sum)(hL:L.length=C.sum)(hF:∀f∈F,f.length<=100000/\∀x∈f,x<=255)(hN:C.sum<=20000)(a4:F.length<=20000)(aq:X.1.length<=2000000)(ax:X.2.length<=2000000)(av:∀l∈X.2,l.length<=2000000)(ht:TabAt w)(ay:BodyAt w base gb C S T L X F K):
 Calls prog 19 #[.pointer (some ⟨gb,0,none⟩)] w (O9 C T L X F w):=by
 obtain⟨j0,bj,bn,bb,bc⟩:=info_parts Va;have DF:=hid (fun wx (hb:Below w w wx) k (hk:k<F.length)=>RC wx base gb k C S T L X F K hk ai hT hL hF hN a4 (ht.step hb) (ay.step hb));unfold LN at DF;have au:Hid (∀k,Eh C F k=0->(FL C T L F k).length=C.getD k 0):=fun k=>fN;have a5:Hid (∀k,k<C.length->(C.take (k+1)).sum=(C.take k).sum+C.getD k 0):=fun k=>NY;have ak:Hid (∀k,(C.take k).sum<=20000):=fun k=>AN (Body.Lv C k) hN;obtain⟨vc,vs,p,q,vt,vl,vT,vL,vF,va,vals,fv,h0,h1,h2,h3,h4,h5,h6,h7⟩:=ay;have aj:=h6.l;have ah:Hid (C.length=F.length):=ai;have HE:Hid (G3 C T L X F=MH X (FM C T L F F.length 0 [])):=rfl;have HO:Hid (G3 C T L X F=0->Jw C T L X F=(FM C T L F F.length 0 []).1):=fun h=>Ae h;obtain⟨nf,az⟩:=ii F.length;rw[<-az]at aj a4 HE HO ah DF;obtain⟨AF,dF,rfl⟩:=bZ aj;have HS:Hid (∀wx,Below w w wx->wx.cell? ⟨gb,8,none⟩=some (.slice AF nf dF)/\wx.cell? ⟨gb,6,none⟩=some vT/\wx.cell? ⟨gb,7,none⟩=some vL):=fun wx hb=>⟨(h0.step hb).cell 8,(h0.step hb).cell 6,(h0.step hb).cell 7⟩;have DC:=hid (fun wx A n c (l:List Rec) (hl:l.length=n) (hn:n<=20000) hr=>OK wx A n c l hl mz hr);have DB:=hid (fun wx A n c (l:List Rec) (hl:l.length=n) (hn:n<=20000) (hk:CH l=0) hr=>PK wx A n c l hl hn (OJ hk).1 hr);unfold J6 at DB;have far:∀ {wx:World} {b s n:Nat} {e:TypeId} {v:Value} {xs:List Value},Below w w wx->w.ownsRow b e s v n xs->wx.ownsRow b e s v n xs:=fun hb ho=>eZ ho fun y hy=>hb.block y (Am ho y hy).2;have DP:=hid (fun wx v1 v2 G p2 (l:List Rec) (hk:CH l=0) (hb:Below w w wx) (h2:IxAt wx p2 v1 v2 G (AY (l.map lZ)) ((AY (l.map lZ)).map (Cf (l.map lZ))))=>RU wx base p2 vT vL v1 v2 vals G X (Db l) ⟨far hb h5.t,far hb h5.l,fun i v ids hv hi=>far hb (h5.r i v ids hv hi)⟩ h2 aq ax av (OJ hk).2.2.1 (OJ hk).2.2.2);obtain⟨R,hR⟩:=ii (FM C T L F nf 0 []);rw[<-hR]at HE HO;have HR:Hid (FM C T L F nf 0 []=R):=hR.symm;have c8:=(HS.out w (Ag _ _)).1;obtain⟨RL,RE⟩:=R;simp only at HO;clear hR h0 h1 h2 h3 h4 h5 h6 h7 aj az ai hT hL hF hN ht aq ax av far;go_enter func19,ntmps19;go_wp2_with fail;go_loopw [4,16] (fun v i wr=>∃ (k:Nat) (j:List Rec),i= .int .i64 k/\k<=nf/\Hid (j.length=(C.take k).sum)/\Hid (FM C T L F (nf-k) k j=(RL,RE))/\Hid (wr.ownsRow w 43 4 v j.length (Ci j))/\Hid (Below w w wr)) (fun _ i _=>nf-(intOf i).toNat)
 case atStart=>exact⟨0,[],rfl,mz,pC,HR.out,AK _ _ _ _,Ag _ _⟩
 case round=>
  obtain⟨k,j,rfl,hk,HA,HG,E,HB⟩:=hrel;obtain⟨w0,rfl⟩:=ii wr;clear HR c8;have N:j.length<=20000:=by rw[HA.out];exact ak.out k
  by_cases ag:k<nf
  ·have gk:=ic ((k:Int)<nf);have bl:=ic (k<nf);obtain⟨m,hm⟩:∃m,nf-k=m+1:=⟨nf-k-1,mz⟩;have a3:nf-(k+1)=m:=mz;have hG:=HG.out;rw[hm,FM]at hG;have E1:=hid (DF.out w0 HB.out k ag);have af:=hid (au.out k);have an:=hid (a5.out k (by rw[ah.out];exact ag));generalize Eh C F k=fe at *;generalize FL C T L F k=fo at *;have ba:=hid a3;have bt:=ak.out (k+1);clear hm a3 HG;by_cases hb:fe=0
   ·subst hb;have a1:=af.out iy;have be:Hid (FM C T L F m (k+1) (j++fo)=(RL,RE)):=(by rw[Ab pI]at hG;exact hG);have aw:Hid ((j++fo).length=(C.take (k+1)).sum):=(by show _=_;rw[Aj,an.out,HA.out,a1]);have bq:fo.length<=20000:=(by have h:=aw.out;rw[Aj]at h;omega);clear hG a1 af an;go_wp2_with fail;refine E1.out.mono ?_;rintro e w1 ⟨v,rfl,Y,z⟩;obtain⟨A1,c1,rfl⟩:=bZ Y;obtain⟨A2,c2,rfl⟩:=bZ E.out;have bi:=hid Y;have J:Hid (Below w w w1):=HB.out.trans (z.mono HB.out.size);have a0:Hid (w1.ownsRow w 43 4 (.slice A2 j.length c2) j.length (Ci j)):=eZ E.out (fun x hx=>z.block x (Am E.out x hx).2);have zz:=J.out.size;clear Y z E1 E HB;go_wp2_with(at_builtin;refine iZ rfl (.tmp 28) (.tmp 29) 24 rfl w 43 j0 _ 4 48 underlying24 bj bn bb bc rfl ip (.slice A2 j.length c2) j.length (Ci j) nc a0.out A1 fo.length c1 (Ci fo) nc (QP bi.out) (Qp fo) qg mz mz ?_;intro v5 w5 ae bd bp);have bh:Below w w w5:=J.out.grown bd zz (fun y hy=>(Am a0.out y hy).1);go_roundw
    case measure=>exact jo
    case rel=>go_light;refine⟨k+1,j++fo,iu,mz,aw.out,by rw[ba.out];exact be.out,?_,bh⟩;rw[LO,Aj];exact ae
   ·have hR:([],fe)=(RL,RE):=(by rw[Ae hb]at hG;exact hG);simp only[Prod.mk.injEq]at hR;obtain⟨rfl,rfl⟩:=hR;have M:Hid (G3 C T L X F=fe):=(by show _=_;rw[HE.out];exact Ae hb);have g1:(fe != 0)=true:=(by simpa using hb);have bm:=hid hb;clear hG hb HE HO af an;go_wp2_with fail;refine E1.out.mono ?_;rintro e w1 ⟨v,rfl,Y,z⟩;have J:Hid (Below w w w1):=HB.out.trans (z.mono HB.out.size);clear Y z E1;go_wp2_with fail;go_ret2;exact O5 M.out bm.out J.out
  ·obtain rfl:k=nf:=by omega
   have gk:=ig ((k:Int)<k);have bl:=ig (k<k);have hG:=HG.out;rw[Gn,FM]at hG;simp only[Prod.mk.injEq]at hG;obtain⟨rfl,rfl⟩:=hG;obtain⟨A2,c2,rfl⟩:=bZ E.out;have ac:=UY E.out;have E1:=hid (DC.out w0 A2 j.length c2 j rfl N ac);have he:=HE.out;unfold MH at he;simp only at he;rw[Ab pI]at he;clear HG HE DF DC au a5 ak ah HA ag ac;by_cases h1:CH j=0
   ·rw[Ab (by simp[h1])]at he;rw[h1]at E1;have E2:=hid (fun wx hr=>DB.out wx A2 j.length c2 j rfl N h1 hr);have E3:=hid (fun wx v1 v2 G p2 hb h=>DP.out wx v1 v2 G p2 j h1 hb h);have am:Hid (∀wx,Below w0 w0 wx->Row wx wx A2 j.length 4 (BS j)):=fun wx hb=>UY (eZ E.out (fun x hx=>hb.block x (Am E.out x hx).2));have Z:Hid (∀wx,Below w0 w0 wx->Below w w wx):=fun wx hb=>HB.out.trans (hb.mono HB.out.size);obtain⟨al,Q⟩:=ii j.length;rw[<-Q]at E1 E2 am N;have U:=E.out;rw[<-Q]at U;have aa:=hid U;have bk:=hid Q;have HE:=hid he;rw[<-Q];clear he h1 DB DP E U Q;go_wp2_with fail;refine E1.out.mono ?_;rintro e w1 ⟨rfl,z⟩;have J:=hid z;clear z E1;go_upto_region 15 with fail;go_cut [44] (fun s wx=>s= .bool (!eqX X (Db j))/\Hid (Below w0 w0 wx))
    case first=>
     have a9:Hid (∀wx,Below w0 w0 wx->wx.cell? ⟨gb,6,none⟩=some vT/\wx.cell? ⟨gb,7,none⟩=some vL):=fun wx hb=>(HS.out wx (Z.out wx hb)).2;have b1:=J.out;clear HS HE;go_region_held3 (fun wx=>wx.cell? ⟨gb,6,none⟩=some vT/\wx.cell? ⟨gb,7,none⟩=some vL) (exact a9.out _ qh) (first|(go_at_call 52;(with_reducible refine(E2.out _ (am.out _ qh)).mono ?_);rintro e wB ⟨v1,v2,G,rfl,ab,bf⟩;have BB:Below w0 w0 wB:=dZ bf qh)|(go_at_call 65;(with_reducible refine(E3.out _ _ _ _ _ (Z.out _ qh) (by first|exact ab|exact ab.step qh)).mono ?_);rintro e wG ⟨rfl,bg⟩;have BG:Below w0 w0 wG:=dZ bg qh))
     all_goals
      go_wp2_with fail;go_meet
      case rel=>exact⟨rfl,hid BG⟩
    case rest=>
     obtain⟨rfl,a6⟩:=hcut;have ar:=hid (Z.out _ a6.out);have he:=HE.out;clear E2 E3 am Z J HS HE;cases hx:eqX X (Db j)
     ·rw[Ab pW]at he;have M:=hid he;clear hx he;go_wp2_with fail;go_ret2;exact O5 M.out ip ar.out
     ·rw[Ae hx]at he;have M:=hid he;clear hx he;go_wp2_with fail;go_ret2;refine⟨.slice A2 al c2,by rw[M.out];rfl,?_,ar.out⟩;rw[HO.out M.out,<-bk.out];exact eZ aa.out (fun x hx=>a6.out.block x (Am aa.out x hx).2)
   ·rw[Ae h1]at he;have h6:=One.VF h1;rw[h6]at E1;have M:=hid he;clear he h1 DB DP E h6;go_wp2_with fail;refine E1.out.mono ?_;rintro e w1 ⟨rfl,z⟩;have J:Hid (Below w w w1):=HB.out.trans (z.mono HB.out.size);clear z E1;go_wp2_with fail;go_ret2;exact O5 M.out ip J.out
end Body
end
variable{ls:List Nat}
namespace Body
open Go.RowKit Mem Go.Proofs.YtfgdoknipbpfhaaGreatDoor.Own Canon Nums Recs Opts
open Crc (TabAt)
open Block (nZ)
open Idx (Str IxAt J6 AY lZ)
theorem Yk{wx:World}{A:Option Addr}{n c base:Nat}(ho:wx.ownsRow base 5 1 (.slice A n c) n (cZ .u8 ls))(hn:ls.length=n):n<=c/\(A=none->n=0/\c=0)/\Row wx wx A n 1 (jZ .u8 ls):=by subst hn;exact⟨(Ex ho).2,fun e=>by subst e;exact Jl ho rfl,WW ho rfl⟩
end Body
namespace Body
open Go.RowKit Mem Go.Proofs.YtfgdoknipbpfhaaGreatDoor.Own Canon Nums Recs Opts
open Crc (TabAt)
open Idx (Str IxAt AY lZ)
open Huff (MK)
def marks(N:Nat)(ls:List Nat):List Bool:=ls.foldl (fun K x=>if x % 40<N then K.set (x % 40) true else K) (List.replicate N false)
theorem ME(N:Nat)(ls:List Nat):(marks N ls).length=N:=by
 have h:∀ (ls:List Nat) (K:List Bool),(ls.foldl (fun K x=>if x % 40<N then K.set (x % 40) true else K) K).length=K.length:=fun ls=>by
  induction ls with
  |nil=>intro K;rfl
  |cons x t ih=>intro K;rw[List.foldl_cons,ih];split<;>simp
 unfold marks;rw[h,Dr]
theorem Z2{N k x:Nat}(h:ls[k]? =some x):marks N (ls.take (k+1))=if x % 40<N then(marks N (ls.take k)).set (x % 40) true else marks N (ls.take k):=by unfold marks;rw[Cm,h,Option.toList_some,List.foldl_append];rfl
theorem ZI:(prog.info? 4).map (fun i=>(i.zero,i.size,i.bytes))=some (some (.bool false),1,1):=mr
set_option maxHeartbeats 4000000 in
set_option maxRecDepth 100000 in
theorem jO(w:World)(o:Opt)(A:Option Addr)(n c:Nat)(l:List Rec)(Ak:Option Addr)(m ck:Nat)(ls:List Nat)(hm:ls.length=m)(d4:m<=9223372036854775807)(h8:∀x∈ls,x<=255)(ci:Row w w Ak m 1 (jZ .u8 ls))(hn:l.length=n)(hN:n<=9223372036854775807)(hc:n<=c)(ag:∀r∈l,BY r)(ht:TabAt w)(ha:Row w w A n 4 (BS l)):
 Calls prog 7 #[o.val, .slice A n c, .slice Ak m ck] w fun e w'=>e= .returned (.bool true)/\Below w w w':=by
 obtain⟨j0,dp,dx,ds,dy⟩:=info_parts ZI;obtain⟨i0,dn,dk,dC,dv⟩:=info_parts Ef.Px;have D0:=hid (fun wx (hx:Below w w wx)=>gM wx (ht.step hx));have D2:=hid (fun wx (hx:Below w w wx)=>YK wx A n c l 30 3000 mz hn hN ((ha.below hx).mono hx.size));have D3:=hid (fun wx (hx:Below w w wx) (hcd:CH l=0->Cd o l n)=>cD wx o A n c l hn hN hc ag hcd (ht.step hx) ((ha.below hx).mono hx.size))
 have b1:Hid ((n:Int)<=30/\Bp l<=3000->(CH l=0->Cd o l n)/\n<=60/\(C8 o≠0->Fv o l=9/\G2 o l= [])/\(C8 o=0->Fv o l=0/\G2 o l=Cw o l/\(Cw o l).length<=99000/\Small o l)):=fun h=>by
  have hk:CH l=0:=Sz mz mz;have hb:(wZ false l).length<=16000:=mH hn ag hk mz mz;have hT:(AY (l.map lZ)).length<=20000:=by have a:=MD (l.map lZ);have b:=Li l;omega
  refine⟨fun _=>⟨mz,hb,hT,fun ho=>(Small.of ho mz mz ag).x⟩,mz,fun ho=> ?_,fun ho=> ?_⟩
  ·have e:Fv o l=9:=(by unfold Fv;rw[Ae ho,Rn ho]);exact⟨e,by unfold G2;rw[Ab (by rw[e];decide)]⟩
  ·have e:Fv o l=0:=(by unfold Fv;rw[Ab (by simpa using ho),Ab (by simpa using hk)]);have hs:=Small.of ho mz mz ag;exact⟨e,by unfold G2;rw[Ae e],hs.m,hs⟩
 have D4:Hid (∀wx A2 c2 L,L=(Cw o l).length->Below w w wx->wx.ownsRow w 5 1 (.slice A2 L c2) L (cZ .u8 (Cw o l))->Small o l->Calls prog 13 #[o.val, .slice A2 L c2] wx (OE o l wx)):=fun wx A2 c2 L hl hb ho hs=>by obtain⟨r1,r2,r3⟩:=Yk ho hl.symm;exact bI wx o A2 L c2 l hs hl.symm r1 r2 (ht.step hb) r3
 have D6:Hid (∀wx B b gb,Below w w wx->Small o l->BodyIn B wx b gb (yZ o l) ((FR o l).map List.length) (Bb l) (xZ l) (Db l) (FR o l) (List.replicate (FR o l).length false)->
  (Calls prog 19 #[.pointer (some ⟨gb,0,none⟩)] wx fun e w'=>∃v,e= .returned (.tuple #[v,ij])/\Below wx wx w')/\
  (Calls prog 15 #[.pointer (some ⟨gb,0,none⟩)] wx fun e w'=>∃v,e= .returned v/\w'.ownsRow wx 3 1 v (yZ o l).length (cZ .i64 (yZ o l))/\Below wx wx w')):=fun wx B b gb hb hs hI=>by
  have hB:=hI.at_;obtain⟨a1,a2,a3,a4,a5,a6⟩:=hs.all;obtain⟨x1,x2,x3⟩:=hs.ix;have ax:=YC wx b gb _ _ _ _ _ _ _ a1 a2 a3 a4 a5 a6 mz mz (fun y hy=>by have:=x3 y hy;omega) (ht.step hb) hB;obtain⟨lE,lO⟩:=aD o.plain (JR o l) ag hs.ck hs.b;unfold O9 at ax;have dw:G3 (yZ o l) (Bb l) (xZ l) (Db l) (FR o l)=0:=lE;rw[dw]at ax;obtain⟨vc,vs,p,q,vt,vl,vT,vL,vF,va,vals,fv,h0,h1,h2,h3,h4,h5,h6,h7⟩:=hB;obtain⟨Ac,cc,rfl⟩:=bZ h1;exact⟨ax.mono fun e w' ⟨v,h1,_,h3⟩=>⟨v,h1,h3⟩,kM wx gb b (yZ o l).length cc Ac (cZ .i64 (yZ o l)) (h0.cell 0) mz h1 (Cq _ _)⟩
 have D7:Hid (∀wx B b gb K (k:Nat),Below w w wx->w.heap.size<=b->Small o l->K.length=(yZ o l).length->BodyIn B wx b gb (yZ o l) ((FR o l).map List.length) (Bb l) (xZ l) (Db l) (FR o l) K->
  Calls prog 16 #[.pointer (some ⟨gb,0,none⟩), .int .i64 (k:Nat)] wx fun e w'=>∃v,(k<(yZ o l).length->e= .returned (.tuple #[v,ij])/\∃ga c,wx.cell? ⟨gb,9,none⟩=some (.slice (some ⟨ga,0,none⟩) K.length c)/\Below wx (wx.setCell ⟨ga,k,none⟩ (.bool true)) w')/\(¬k<(yZ o l).length->e= .returned (.tuple #[v, .int .i64 13])/\Below wx wx w')):=fun wx B b gb K k hb hwb hs hK hI=>by
  obtain⟨a1,a2,a3,a4,a5,a6⟩:=hs.all;refine(kJ wx b gb (k:Int) _ _ _ _ _ _ K (hK.trans a1) a1 a2 a3 a4 a5 a6 (Et ht.lt hwb) (ht.step hb) hI.at_).mono ?_;rintro e w' ⟨v,rfl,h1,h2⟩;refine⟨v,fun hk=> ?_,fun hk=> ?_⟩
  ·have hi:Hz (FR o l) (k:Int):=⟨mz,mz⟩;have e1:ftcE (yZ o l) (FR o l) (k:Int)=0:=(by unfold ftcE;rw[Ae hi];exact(VJ o.plain (JR o l) ag (One.Js hs.ck) hs.b hk).1);rw[e1];exact⟨rfl,h1 hi⟩
  ·have hi:¬Hz (FR o l) (k:Int):=fun h=>by have h2:=h.2;omega
   have e1:ftcE (yZ o l) (FR o l) (k:Int)=13:=Ab hi;rw[e1];exact⟨rfl,h2 hi⟩
 have D8:Hid (∀wx B b gb K,Small o l->K.length=(yZ o l).length->BodyIn B wx b gb (yZ o l) ((FR o l).map List.length) (Bb l) (xZ l) (Db l) (FR o l) K->
  Calls prog 36 #[.pointer (some ⟨gb,0,none⟩)] wx fun e w'=>∃v,e= .returned v/\w'.ownsRow wx 3 1 v (Cu K (yZ o l).length).length (cZ .i64 (Cu K (yZ o l).length))/\Below wx wx w'):=fun wx B b gb K hs hK hI=>by
  obtain⟨a1,a2,a3,a4,a5,a6⟩:=hs.all;obtain⟨vc,vs,p,q,vt,vl,vT,vL,vF,va,vals,fv,h0,h1,h2,h3,h4,h5,h6,h7⟩:=hI.at_;obtain⟨Aa,ca,rfl⟩:=bZ h7;rw[<-hK];exact bJ wx gb b K.length ca Aa K (h0.cell 9) mz rfl h7
 have dz:=hid (fun wx (hx:Below w w wx)=>(ci.below hx).mono hx.size);have cz:Hid (n<=60->(yZ o l).length<=60):=fun h=>by have:=Lx o l;omega
 have co:Hid (Small o l->(FR o l).length=(yZ o l).length):=fun h=>h.all.1.symm;have H8:=hid h8;have HM:=hid hm;unfold KE at D3;unfold SC at D2;unfold OE at D4;generalize Fv o l=E at *;generalize G2 o l=R at *;generalize Cw o l=F at *;generalize Small o l=SM at *;generalize (Db l)=XX at *;generalize yZ o l=CC at *;generalize FR o l=FF at *;generalize C8 o=oE at *;generalize CH l=ef at *;generalize Cd o l n=cd at *;obtain⟨S,pl,bu,da,pa,ch⟩:=o;unfold Opt.val at D3 D4 ⊢;simp only at D3 D4 ⊢;have gm:decide ((60:Int)<(m:Int))=decide (60<m):=decide_eq_decide.2 mz;clear hn ag ht ha ci h8 hm;go_enter func7,ntmps7;go_wp2_with fail;have cx:Blk (w.alloc (.cells #[S,pl,bu,da,pa,ch] 23)) w 23 #[S,pl,bu,da,pa,ch]:=Blk.made _ _ _;have ae:Below w w (w.alloc (.cells #[S,pl,bu,da,pa,ch] 23)):=aZ (Ag _ _);generalize w.alloc (.cells #[S,pl,bu,da,pa,ch] 23)=wa at *;have G:Hid (∀wx,Below wa wa wx->Below w w wx):=fun wx h=>ae.trans (h.mono ae.size);have cF:=hid cx;have dm:=hid ae;clear cx ae;refine(D0.out wa dm.out).mono ?_;rintro e w1 ⟨rfl,c3⟩;have B1:Hid (Below wa wa w1):=c3;have E2:=hid (D2.out w1 (G.out _ B1.out));clear c3 D0 D2;go_wp2_with fail;refine E2.out.mono ?_;rintro e w5 ⟨gr,rfl,a9,c7⟩;have B5:Hid (Below wa wa w5):=dZ c7 B1.out;clear c7 E2 B1;cases gr with
 |true=>clear a9;go_wp2_with fail;go_ret;exact⟨rfl,G.out _ B5.out⟩
 |false=>
  by_cases bh:60<m
  ·rw[Be bh]at gm;clear a9 b1;go_wp2_with fail;go_ret;exact⟨rfl,G.out _ B5.out⟩
  rw[Bi bh]at gm;obtain⟨s1,ct,s2,s3⟩:=b1.out (a9 rfl);have E5:=hid (D3.out w5 (G.out _ B5.out) s1);have q5:=cF.out.step B5.out;obtain⟨k0,k1,k2,k3,k4,k5⟩:=q5.six;clear a9 D3 b1 s1 q5;by_cases ho:oE=0
  ·obtain⟨rfl,rfl,cT,bq⟩:=s3 ho;have ek:=hid cT;have HS:=hid bq;have dq:=cz.out ct;have bp:=co.out bq;clear s2 s3 ho cT bq ct cz co;obtain⟨L,hL⟩:=ii R.length;have HL:=hid hL;rw[<-hL]at E5;clear hL;go_wp2_with fail;refine E5.out.mono ?_;rintro e w6 ⟨v6,rfl,az,an⟩;obtain⟨A6,c6,rfl⟩:=bZ az;have B6:Hid (Below wa wa w6):=dZ an B5.out;have E6:=hid (D4.out w6 A6 c6 L HL.out (G.out _ B6.out) (kZ az (G.out _ B5.out).size) HS.out);have q6:=cF.out.step B6.out;clear k0 k1 k2 k3 k4 k5;obtain⟨k0,k1,k2,k3,k4,k5⟩:=q6.six;clear az an E5 B5 D4 q6;go_wp2_with fail;refine E6.out.mono ?_;rintro e w7 ⟨gb,rfl,cr,cH⟩;have B7:Hid (Below wa wa w7):=dZ cH B6.out;have ba:BodyIn w7 w7 w6 gb CC (FF.map List.length) (Bb l) (xZ l) XX FF (List.replicate FF.length false):=⟨w7,rfl,cr,Ag _ _⟩;obtain⟨b6,ar⟩:=ii w6.heap.size;obtain⟨BB,bC⟩:=ii w7.heap.size;have cB:Hid (w.heap.size<=b6):=(by show _<=_;rw[ar];exact(G.out _ B6.out).size);have bx:Hid (BB<=w7.heap.size):=(by show _<=_;rw[bC];exact Aq _);rw[<-ar,<-bC]at ba;obtain⟨b8,_⟩:=D6.out w7 BB b6 gb (G.out _ B7.out) HS.out ba;have EG:=hid b8;have cm:=hid ba;clear cr cH b8 E6 B6 k0 k1 k2 k3 k4 k5 ba ar bC;go_wp2_with fail;refine EG.out.mono ?_;rintro e w8 ⟨v8,rfl,bc⟩;have B8:Hid (Below wa wa w8):=dZ bc B7.out;have bn:=cm.out.step (bc.mono bx.out);have bS:Hid (BB<=w8.heap.size):=AN bx.out bc.size;obtain⟨_,dd⟩:=D6.out w8 BB b6 gb (G.out _ B8.out) HS.out bn;have EK:=hid dd;have cw:=hid bn;clear bc EG cm bn dd B7 D6;go_wp2_with fail;refine EK.out.mono ?_;rintro e w9 ⟨v9,rfl,cP,bb⟩;obtain⟨A9,c9,rfl⟩:=bZ cP;have B9:Hid (Below wa wa w9):=dZ bb B8.out;have c8:=hid (cw.out.step (bb.mono bS.out));have cj:Hid (BB<=w9.heap.size):=AN bS.out bb.size;obtain⟨N,b3⟩:=ii CC.length;have ee:=hid b3;rw[<-b3]at dq bp D7 D8 ⊢;have df:=hid bp;clear cP bb EK cw B8 bS bx b3 bp;obtain⟨b9,ah⟩:=ii w9.heap.size;have dt:Hid (b9<=w9.heap.size):=(by show _<=_;rw[ah];exact Aq _);have U:Hid (BB<=b9):=(by show _<=_;rw[ah];exact cj.out);have cf:Hid (w.heap.size<=b9):=(by show _<=_;rw[ah];exact(G.out _ B9.out).size);clear ah cj;go_wp2_with fail;go_loopw [12,13] (fun av iv wr=>∃i:Nat,i<=N/\iv= .int .i64 i/\Hid (wr.ownsRow b9 4 1 av i ((List.replicate i false).map Value.bool))/\Hid (Below b9 w9 wr)) (fun _ iv _=>N-(intOf iv).toNat)
   case atStart=>exact⟨0,mz,rfl,AK _ _ _ _,Ag _ _⟩
   case round=>
    obtain⟨i,hi,rfl,HV,HB⟩:=hrel;obtain⟨va,vc,rfl⟩:=bZ HV.out;obtain⟨aj,rfl⟩:=ii wr;have hz:b9<=aj.heap.size:=AN dt.out HB.out.size;by_cases ei:i<N
    ·have gi:=ic ((i:Int)<N);have ec:=ic (i<N);go_wp2_with(at_builtin;refine iZ rfl (.tmp 55) (.tmp 56) 76 rfl b9 4 j0 _ 1 1 underlying76 dp dx ds dy rfl ip _ _ _ nc (HV.out.alloc _) _ 1 1 [.bool false] nc (Src.of_blk (Blk.made_at _ _ _ pI) 1 1 1 rfl) mj qg mz pQ ?_;intro eb M Z bg b5;obtain⟨dj,d0,rfl⟩:=bZ Z);have cu:Hid (Below b9 w9 M):=(mZ hz HB.out).grown bg pQ (fun y hy=>(Am HV.out y hy).1);have cq:Hid (M.ownsRow b9 4 1 (.slice dj (i+1) d0) (i+1) ((List.replicate (i+1) false).map Value.bool)):=(by show World.ownsRow _ _ _ _ _ _ _;rw[List.replicate_succ',EN];exact Z);clear Z bg b5;go_roundw
     case measure=>exact jo
     case rel=>go_light;exact⟨i+1,mz,iu,cq.out,cu.out⟩
    ·obtain rfl:i=N:=by omega
     have gi:=ig ((i:Int)<i);have be:Hid (BodyIn BB aj b6 gb CC (FF.map List.length) (Bb l) (xZ l) XX FF (marks i [])):=(by have h:=c8.out.step (HB.out.mono U.out);rw[df.out]at h;exact h);have bi:Hid (Below w w aj):=(G.out _ B9.out).trans (HB.out.mono cf.out);have bj:Hid (aj.ownsRow b9 4 1 (.slice va i vc) i ((marks i []).map Value.bool)):=HV.out;have bl:=hid hz;clear HV HB hz c8 B9;go_wp2_with fail;go_loopw [14] (fun iv wr=>∃j:Nat,j<=m/\iv= .int .i64 j/\Hid (BodyIn BB wr b6 gb CC (FF.map List.length) (Bb l) (xZ l) XX FF (marks i (ls.take j)))/\Hid (wr.ownsRow b9 4 1 (.slice va i vc) i ((marks i (ls.take j)).map Value.bool))/\Hid (Below w w wr)/\Hid (b9<=wr.heap.size)) (fun iv _=>m-(intOf iv).toNat)
     case atStart=>exact⟨0,mz,rfl,be.out,bj.out,bi.out,bl.out⟩
     case round=>
      obtain⟨j,hj,rfl,HI,HV,HB,HZ⟩:=hrel;obtain⟨M,rfl⟩:=ii wr;clear be bj bi bl;by_cases de:j<m
      ·have gj:=ic ((j:Int)<m);have el:=ic (j<m);obtain⟨bk,fk,rfl,du,cE⟩:=(dz.out M HB.out) mz;have c0:=cE j 0 de mz;simp only[Nat.mul_one,Nat.add_zero]at c0;obtain⟨x,hx⟩:∃x,ls[j]? =some x:=⟨_,AD (by rw[HM.out];exact de)⟩;have cL:jZ .u8 ls j 0= .int .u8 (x:Nat):=(by unfold jZ;rw[Ar,hx];rfl);rw[cL]at c0;have ej:=H8.out x (Bg hx);obtain⟨k,hk⟩:=ii (x % 40);have d8:((x:Int)).tmod 40=(k:Int):=(by rw[hk];rfl);have d9:k<40:=(by rw[hk];exact Nat.mod_lt _ mz);have ak:Hid (marks i (ls.take (j+1))=if k<i then(marks i (ls.take j)).set k true else marks i (ls.take j)):=(by show _=_;rw[Z2 hx,hk]);have cl:=hid (D7.out M BB b6 gb (marks i (ls.take j)) k HB.out cB.out HS.out (ME _ _) HI.out);have x0:(0:Int)<=(j:Int):=mz;have x1:(j:Int)<(m:Int):=mz;clear cE du cL hx hk;go_wp2_with fail;refine cl.out.mono ?_;rintro e J ⟨em,h1,h2⟩;clear c0 cl;by_cases aa:k<i
       ·obtain⟨rfl,gg,cg,b7,z⟩:=h1 aa;obtain⟨f1,f2,f3⟩:=HI.out.fetch (k:=k) (by rw[ME];exact aa) b7 (AN U.out HZ.out) z;have ac:J.ownsRow b9 4 1 (.slice va i vc) i ((marks i (ls.take j)).map Value.bool):=eZ HV.out fun y hy=>(z.block y (Am HV.out y hy).2).trans (AV _ _ _ y (by show y≠gg;have:=(Am HV.out y hy).1;have:=U.out;omega));obtain⟨gv,cv,b0,bt,_⟩:=ac.form mz;injection b0 with q1 q2 q3;subst q1 q3;obtain⟨bo,c1⟩:∃bo,(marks i (ls.take j))[k]? =some bo:=⟨_,AD (by rw[ME];exact aa)⟩;have ea:J.cell? ⟨gv,k,none⟩=some (.bool bo):=(by rw[ac.cellAt k mz,BE,c1];rfl);have d3:=ac.frozenAt k;have ay:Hid (BodyIn BB (J.setCell ⟨gv,k,none⟩ (.bool true)) b6 gb CC (FF.map List.length) (Bb l) (xZ l) XX FF (marks i (ls.take (j+1)))):=(by show BodyIn _ _ _ _ _ _ _ _ _ _ _;rw[ak.out,Ae aa];exact f3.step ((Ag BB J).setCell (p:=⟨gv,k,none⟩) (by show BB<=gv;have:=U.out;omega) _));have au:Hid ((J.setCell ⟨gv,k,none⟩ (.bool true)).ownsRow b9 4 1 (.slice (some ⟨gv,0,none⟩) i vc) i ((marks i (ls.take (j+1))).map Value.bool)):=(by show World.ownsRow _ _ _ _ _ _ _;rw[ak.out,Ae aa,List.map_set];exact(World.ownsRow.stored ac k (.bool true)).1);have ae:Below w w J:=(HB.out.trans ((Ag w M).setCell (p:=⟨gg,k,none⟩) (by show _<=gg;have:=cB.out;omega) _)).trans (z.mono (by have:=HB.out.size;simpa using this));have ab:Hid (Below w w (J.setCell ⟨gv,k,none⟩ (.bool true))):=ae.setCell (p:=⟨gv,k,none⟩) (by show _<=gv;have:=cf.out;omega) _;have am:Hid (b9<=(J.setCell ⟨gv,k,none⟩ (.bool true)).heap.size):=(by show _<=_;have:=HZ.out;have:=z.size;simp at this ⊢;omega);have gk:=ic ((k:Int)<i);have di:=ic (k<i);have y0:(0:Int)<=(k:Int):=mz;have y1:(k:Int)<(i:Int):=mz;clear h1 h2 b7 z f1 f2 f3 ac bt q2 c1 ae HI HV HB HZ ak;go_wp2_with fail;go_roundw
        case measure=>exact jo
        case rel=>exact jf
       ·obtain⟨rfl,z⟩:=h2 aa;have ay:Hid (BodyIn BB J b6 gb CC (FF.map List.length) (Bb l) (xZ l) XX FF (marks i (ls.take (j+1)))):=(by show BodyIn _ _ _ _ _ _ _ _ _ _ _;rw[ak.out,Ab aa];exact HI.out.step (z.mono (AN U.out HZ.out)));have au:Hid (J.ownsRow b9 4 1 (.slice va i vc) i ((marks i (ls.take (j+1))).map Value.bool)):=(by show World.ownsRow _ _ _ _ _ _ _;rw[ak.out,Ab aa];exact eZ HV.out fun y hy=>z.block y (Am HV.out y hy).2);have ab:Hid (Below w w J):=HB.out.trans (z.mono HB.out.size);have am:Hid (b9<=J.heap.size):=AN HZ.out z.size;have gk:=ig ((k:Int)<i);have di:=ig (k<i);clear h1 h2 z HI HV HB HZ ak;go_wp2_with fail;go_roundw
        case measure=>exact jo
        case rel=>exact jf
      ·obtain rfl:j=m:=by omega
       have gj:=ig ((j:Int)<j);have hl:(marks i (ls.take j)).length=i:=ME _ _;have cA:=hid hl;generalize marks i (ls.take j)=K at *;obtain⟨Q,ai⟩:=ii M.heap.size;have cp:=hid ai;have ce:Hid (BB<=Q):=(by show _<=_;rw[ai];exact AN U.out HZ.out);have c4:Hid (w.heap.size<=Q):=(by show _<=_;rw[ai];exact HB.out.size);clear ai hl D7;go_wp2_with fail;go_loopw [18,19] (fun ov iv wr=>∃ (q s:Nat),q<=i/\s<=q/\iv= .int .i64 q/\Hid ((Cu K q).length=s)/\Hid (wr.ownsRow Q 3 1 ov s (cZ .i64 (Cu K q)))/\Hid (Below Q M wr)) (fun _ iv _=>i-(intOf iv).toNat)
       case atStart=>exact⟨0,0,mz,mz,rfl,rfl,AK _ _ _ _,Ag _ _⟩
       case round=>
        obtain⟨q,s,hq,hs,rfl,HQ,HO,af⟩:=hrel;obtain⟨oa,oc,rfl⟩:=bZ HO.out;have zr:Q<=wr.heap.size:=(by have:=af.out.size;have:=cp.out;omega);by_cases dg:q<i
        ·have gq:=ic ((q:Int)<i);have eh:=ic (q<i);have bN:wr.ownsRow b9 4 1 (.slice va i vc) i (K.map Value.bool):=eZ HV.out fun y hy=>af.out.block y (by have:=(Am HV.out y hy).2;have:=cp.out;omega);obtain⟨gv,cv,b0,bt,_⟩:=bN.form mz;injection b0 with q1 q2 q3;subst q1 q3;obtain⟨b,hb⟩:∃b,K[q]? =some b:=⟨_,AD (by rw[cA.out];exact dg)⟩;have ck:wr.cell? ⟨gv,q,none⟩=some (.bool b):=(by rw[bN.cellAt q mz,BE,hb];rfl);have cG:K.getD q false=b:=(by rw[Ar,hb];rfl);have a0:Hid (Cu K (q+1)=Cu K q++(if b=true then [q]else [])):=(by show _=_;rw[Um,cG]);have x0:(0:Int)<=(q:Int):=mz;have x1:(q:Int)<(i:Int):=mz;clear q2 hb cG bN bt;cases b with
         |true=>
          have al:Hid (Cu K (q+1)=Cu K q++ [q]):=a0.out;clear a0;go_wp2_with(at_builtin;refine iZ rfl (.tmp 97) (.tmp 99) 37 rfl Q 3 i0 _ 1 8 underlying37 dn dk dC dv rfl ip _ _ _ nc (HO.out.alloc _) _ 1 1 [.int .i64 (q:Nat)] nc (Src.of_blk (Blk.made_at _ _ _ pI) 1 1 1 rfl) mj qg mz pQ ?_;intro v5 cC Y bf b4;obtain⟨dr,dl,rfl⟩:=bZ Y);have ab:Hid (Below Q M cC):=(mZ zr af.out).grown bf pQ (fun y hy=>(Am HO.out y hy).1);have cS:Hid (cC.ownsRow Q 3 1 (.slice dr (s+1) dl) (s+1) (cZ .i64 (Cu K (q+1)))):=(by show World.ownsRow _ _ _ _ _ _ _;rw[al.out,show cZ .i64 (Cu K q++ [q])=cZ .i64 (Cu K q)++ [.int .i64 (q:Nat)] by simp[cZ]];exact Y);have cy:Hid ((Cu K (q+1)).length=s+1):=(by show _=_;rw[al.out,Aj,HQ.out];rfl);clear Y bf b4 al;go_roundw
          case measure=>exact jo
          case rel=>go_light;exact⟨q+1,s+1,mz,mz,iu,cy.out,cS.out,ab.out⟩
         |false=>
          have al:Hid (Cu K (q+1)=Cu K q):=(by show _=_;rw[a0.out];simp);clear a0;go_wp2_with fail;go_roundw
          case measure=>exact jo
          case rel=>go_light;exact⟨q+1,s,mz,mz,iu,by show _=_;rw[al.out];exact HQ.out,by show World.ownsRow _ _ _ _ _ _ _;rw[al.out];exact HO.out,af.out⟩
        ·obtain rfl:q=i:=by omega
         have gq:=ig ((q:Int)<q);have bm:=hid (D8.out wr BB b6 gb K HS.out cA.out (HI.out.step (af.out.mono ce.out)));rw[HQ.out]at bm;have cX:Hid (Below w w wr):=HB.out.trans (af.out.mono c4.out);clear af HB HI HV D8;go_wp2_with fail;refine bm.out.mono ?_;rintro e bd ⟨eg,rfl,aw,aq⟩;obtain⟨dh,dF,rfl⟩:=bZ aw;have r1:=Sm aw HQ.out;have r2:=Sm (eZ HO.out fun y hy=>aq.block y (Am HO.out y hy).2) HQ.out;have dc:=hid (MK bd dh oa s dF oc bd bd ((Cu K q).map Int.ofNat) (by rw[Bc];exact HQ.out) mz r1 r2);have c5:Hid (Below w w bd):=cX.out.trans (aq.mono cX.out.size);clear r1 r2 aw aq bm HO;go_wp2_with fail;refine dc.out.mono ?_;rintro e ed ⟨rfl,qq,rfl⟩;clear dc;go_wp2_with fail;go_ret;exact⟨rfl,below_drewN c5.out _⟩
  ·obtain⟨rfl,rfl⟩:=s2 ho;have g9:((9:Int) != 0)=true:=rfl;clear s2 s3 D4 D6 D7 D8;go_wp2_with fail;refine E5.out.mono ?_;rintro e w6 ⟨v6,rfl,az,an⟩;have B6:Hid (Below wa wa w6):=dZ an B5.out;clear az an E5 B5;go_wp2_with fail;go_ret;exact⟨rfl,G.out _ B6.out⟩
end Body
end Go.Proofs.YtfgdoknipbpfhaaGreatDoor
