/- The walk of ef.row:  -/
import Derived.Test.YtfgdoknipbpfhaaGreatDoorZTwoUnpacks22
namespace Go.Proofs.YtfgdoknipbpfhaaGreatDoor
open Go.Lib (hid)
variable{t:TypeId}{w w':World}{W base g:Nat}{hs ls:List Nat}{vH vL:Value}
namespace Ef
open Go.RowKit Mem Own Canon Huff NumPut
theorem Prt.keep(h:Prt t w base g W hs ls vH vL)(hk:∀y,base<=y->y<w.heap.size->w'.heap[y]? =w.heap[y]?):Prt t w' base g W hs ls vH vL:=
 ⟨(hk g h.gb h.blk.lt).trans h.blk,dZ h.oh (fun y hy=>hk y (Ae h.oh y hy).1 (Ae h.oh y hy).2),dZ h.ol (fun y hy=>hk y (Ae h.ol y hy).1 (Ae h.ol y hy).2),h.gb⟩
theorem Prt.mono{i:Nat}(h:Prt t w base g W hs ls vH vL)(hb:i<=base):Prt t w i g W hs ls vH vL:=
 ⟨h.blk,iZ h.oh hb,iZ h.ol hb,AY hb h.gb⟩
def ListAt(w:World)(base:Nat)(p:Value)(ids:List Nat):Prop:=
 ∃g W vH vL,p= .pointer (some ⟨g,0,none⟩)/\W<=14/\ids.length<=20000/\(∀x∈ids,x<=20000)/\Prt 323 w base g W (ids.map (·/ 2 ^ W)) (ids.map (·% 2 ^ W)) vH vL
def LF(w:World)(R:List Nat×Nat×Int)(e:Ending)(w':World):Prop:=
 aO w w'/\(R.2.2≠0->e= .returned (.tuple #[.pointer none,iT,R.2.2]))/\(R.2.2=0->∃p,e= .returned (.tuple #[p, .int .i64 (R.2.1:Nat),iT])/\ListAt w' w p R.1)
theorem IT{R:List Nat×Nat×Int}{er:Int}(hR:R=([],0,er))(he:er≠0)(hb:aO w w'):LF w R (.returned (.tuple #[.pointer none,iT,er])) w':=nF
theorem Rz{bound n:Nat}(hb:bound<=20000):efW bound n<=14:=by
 unfold efW;by_cases h0:bound / n=0
 ·rw[h0];decide
 ·have h2:bound / n<=20000:=AY (Hh _ _) hb;have h3:=Mb h0;by_cases h:Nat.log2 (bound / n)<=14
  ·exact h
  ·exfalso;have:2 ^ 15<=2 ^ Nat.log2 (bound / n):=BQ kR kR;omega
theorem WG{z at_:Nat}(hz:z % 8=0)(h:at_<=z):(z-at_) % 8=Fe at_:=by unfold Fe;omega
theorem Rp(a b:Nat)(ha:a<2 ^ 40)(hb:b<2 ^ 40):bits .or .i64 (a:Int) (b:Int)=((a |||b:Nat):Int):=
 (bits_nat .i64 40 iX (fun n h0 h1=>Am _ kR) a b ha hb).2
def I4(acc:List Nat):Int:=if acc= []then-1 else((acc.getLast?.getD 0:Nat):Int)
theorem Q1{i:List Nat}{id:Nat}:(id:Int)<=I4 i↔(i≠ []/\id<=i.getLast?.getD 0):=by
 unfold I4;by_cases h:i= []
 ·rw[Ab h];constructor
  ·intro h2;omega
  ·intro h2;exact absurd h h2.1
 ·rw[Aa h];constructor
  ·intro h2;exact⟨h,kR⟩
  ·intro h2;omega
theorem UA(h:List Nat)(id:Nat):I4 (h++ [id])=(id:Int):=by unfold I4;rw[Aa mY];simp
set_option maxHeartbeats 4000000 in
set_option maxRecDepth 100000 in
theorem Wq(w:World)(A:Option Addr)(m c bound n:Nat)(ls:List Nat)(hm:ls.length=m)(bF:m<=100000)(h8:∀x∈ls,x<=255)(aQ:A=none->m=0/\c=0)(ha:Row w w A m 1 (jZ .u8 ls))(h1:1<=n)(h2:n<=bound)(hb:bound<=20000):
 Calls Tryz.prog 246 #[.int .i64 (bound:Nat), .int .i64 (n:Nat), .slice A m c] w (LF w (Ga bound n (Bg ls))):=by
 have D0:=hid (P8 w A m c ls hm bF h8 aQ ha);have DW:=hid (fun wx=>Xa wx bound n h1 h2 kR);have hW:=Rz (n:=n) hb;have bC:(Bg ls).length=8*m:=by rw[Dy,hm]
 have b0:Hid (n*efW bound n<=280000):=AY (GT (by omega:n<=20000) hW) iX;obtain⟨R,hR⟩:=iS (Ga bound n (Bg ls));rw[<-hR];unfold Ga at hR;generalize efW bound n=W at *;generalize Bg ls=bs at *;have HR:=hid hR;have HZ:=hid bC;clear hm h8 aQ ha hR bC;go_enter Tryz.func246,Tryz.ntmps246;go_wp2_with fail;refine D0.out.mono ?_;rintro e w1 ⟨gr,rfl,aU,a0,bc⟩;have b4:=aU.lt;have a7:=hid aU;have aw:=hid bc;clear aU bc D0;go_wp2_with fail;refine(DW.out _).mono ?_;rintro e M ⟨rfl,rfl⟩;go_wp2_with fail;have aT:Prt 323 (M.alloc (.cells #[.int .i64 (W:Nat),(),()] 323)) M M W (([]:List Nat).map (·/ 2 ^ W)) (([]:List Nat).map (·% 2 ^ W)) (.slice none 0 0) (.slice none 0 0):=⟨Blk.made _ _ _,Aq _ _ _ _,Aq _ _ _ _,Ai _⟩;have bl:Rd (M.alloc (.cells #[.int .i64 (W:Nat),(),()] 323)) w gr bs 0:=a7.out.keep (fun b _ ay=>Ca M _ b kR) a0;have ay:aO w (M.alloc (.cells #[.int .i64 (W:Nat),(),()] 323)):=lZ aw.out.size aw.out;generalize a8:M.alloc (.cells #[.int .i64 (W:Nat),(),()] 323)=w2 at *;have z2:w2.heap.size=M.heap.size+1:=by rw[<-a8];simp
 clear a8;have zw:=aw.out.size;generalize M.heap.size=gl at *;have c0:=aT.blk.iO 0;have bf:=hid aT;have bj:=hid ay;have DL:=hid (YG w2 w gr bs n W kR hW a0 bl);unfold ND at DL;clear aT bl ay a7 aw DW;go_wp2_with fail;refine DL.out.mono ?_;rintro e w3 ⟨al,L⟩;have z3:=al.size;have a4:Hid (aO w w3):=bj.out.trans (al.below (fun b h=>⟨kR,kR⟩));by_cases ai:bs.length<n*W
 ·rw[Ab ai]at L;subst L;have N:Hid (R=([],0,1)):=by have h:=HR.out;rw[Ab ai]at h;exact h
  clear ai HR al;go_wp2_with fail
  go_ret3
  exact IT N.out iX a4.out
 ·rw[Aa ai]at L;obtain⟨v,rfl,ac,bm⟩:=L;obtain⟨va,vc,rfl⟩:=aZ ac;have hr:=HR.out;rw[Aa ai]at hr;have bi:Prt 323 w3 gl gl W (([]:List Nat).map (·/ 2 ^ W)) (([]:List Nat).map (·% 2 ^ W)) (.slice none 0 0) (.slice none 0 0):=bf.out.keep (fun y hy hy2=>al.block y ⟨hy2,kR⟩);obtain⟨T,hT⟩:=iS (rowN bound W bs (Cc W bs n) (n*W) 0 []);rw[<-hT]at hr;have bP:Hid (∀x∈Cc W bs n,x<2 ^ W):=Qe W bs n;have aR:Hid ((Cc W bs n).length=n):=Mv W bs n;have bt:Hid (rowN bound W bs ((Cc W bs n).drop 0) (n*W) 0 []=T):=hT.symm;have aS:Hid (n*W<=bs.length):=by show _<=_;omega
  generalize Cc W bs n=lw at *;generalize n*W=N0 at *;have bh:=hid hr;have a5:Hid (∀a er,T=([],a,er)->er≠0->R=([],0,er)):=fun a er h he=>by rw[hr,h];exact Ab he
  have b3:bs.length<=800000:=km
  have bu:=hid ac;have bd:=hid bm;have ba:=hid bi;have bX:Hid (∀y,(Value.slice va n vc).ownBlock=some y->w2.heap.size<=y):=fun y hy=>(Ae ac y hy).1;clear ai hr hT ac bm bi HR bf bj DL al c0;go_wp2_with fail;go_loopw [13,14,47] (fun hv wv iv wr=>∃ (k J at_:Nat) (i:List Nat) (vH vL:Value),k<=n/\J<=20000/\at_<=bs.length/\hv= .int .i64 J/\iv= .int .i64 k/\wv= .int .i64 (I4 i)/\Hid (i.length=k)/\Hid (∀x∈i,x<=20000)/\Hid (rowN bound W bs (lw.drop k) at_ J i=T)/\Hid (wr.ownsRow w2 25 1 (.slice va n vc) n (cZ .u16 lw))/\Hid (Rd wr w gr bs at_)/\Hid (Prt 323 wr gl gl W (i.map (·/ 2 ^ W)) (i.map (·% 2 ^ W)) vH vL)/\Hid (∀y,(Value.slice va n vc).ownBlock=some y->vL.ownBlock≠some y)/\Hid (aO w wr)) (fun _ _ iv _=>n-(intOf iv).toNat)
  case atStart=>exact⟨0,0,N0,[], .slice none 0 0, .slice none 0 0,kR,kR,aS.out,rfl,rfl,rfl,rfl,fun x hx=>by simp at hx,bt.out,bu.out,bd.out,ba.out,(by first|trivial|(intro y _ h;cases h)),a4.out⟩
  case round=>
   obtain⟨k,J,at_,i,vH,vL,hk,bD,bB,rfl,rfl,rfl,HI,aY,HT,HO,am,HP,HV,HB⟩:=hrel;have zr:=HB.out.size;have bW:=HP.out.blk.lt;clear bt aS bu bd ba a4;by_cases b7:k<n
   ·have g1:=iQ ((k:Int)<n);have b5:=iQ (k<n);obtain⟨x,hx⟩:∃x,lw[k]? =some x:=⟨_,AE (by have:=aR.out;omega)⟩;have av:lw.drop k=x :: lw.drop (k+1):=(by obtain⟨hl,e⟩:=Ch.1 hx;rw[CU hl,e]);have az:=bP.out x (BP hx);have bK:2 ^ W<=16384:=jS;have bq:1<=2 ^ W:=Nat.one_le_two_pow;obtain⟨gv,cv,bN,b1,_⟩:=HO.out.form kR;injection bN with e1 e2 e3;subst e1 e3;have cx:wr.cell? ⟨gv,k,none⟩=some (.int .u16 (x:Nat)):=(by rw[HO.out.cellAt k kR];unfold cZ;rw[B0,hx];rfl);have x0:(0:Int)<=(k:Int):=kR;have x1:(k:Int)<(n:Int):=kR;have hT:=HT.out;rw[av,rowN]at hT;have DU:=hid (XT wr w gr bs at_ am.out);have bR:=Pz bs at_;have bL:=MT bB;generalize unV bs at_=d at *;generalize unE bs at_=ue at *;generalize unA bs at_=ua at *;obtain⟨j,bp⟩:=iS (J+d);have s1:IntKind.i64.wrap ((J:Int)+(d:Int))=(j:Int):=lD;rw[<-bp]at hT;obtain⟨hw,ak⟩:=iS (j*2 ^ W);have bS:hw<=13434880000:=(by rw[ak];exact AY (GT (show j<=820000 by omega) bK) iX);have bU:j<=hw:=(by rw[ak];exact Nat.le_mul_of_pos_right _ kR);have E1:Hid (IntKind.i64.wrap ((j:Int)*2 ^ W)=(hw:Int)):=(by show _=_;rw[show(j:Int)*2 ^ W=(hw:Int) by rw[ak];simp,Am _ kR]);have E2:Hid (bits .or .i64 (hw:Int) (x:Int)=((hw+x:Nat):Int)):=(by show _=_;rw[Rp hw x kR kR,ak,Rr j x W az]);rw[<-ak]at hT;obtain⟨id,bg⟩:=iS (hw+x);rw[<-bg]at hT E2;have b8:IntKind.i64.wrap (x:Int)=(x:Int):=Am _ kR;have bH:j<=id:=kR;have aj:=hid hT;clear hT hx av az bp ak bg HT bq;go_wp2_with fail;refine DU.out.mono ?_;rintro e w4 ⟨rfl,a9,au⟩;have z4:=au.size;have Z:=hid a9;have E:Hid (Prt 323 w4 gl gl W (i.map (·/ 2 ^ W)) (i.map (·% 2 ^ W)) vH vL):=HP.out.keep (fun y hy _=>au.block y kR);have ae:Hid (w4.ownsRow w2 25 1 (.slice (some ⟨gv,0,none⟩) n vc) n (cZ .u16 lw)):=dZ HO.out (fun y hy=>au.block y jV);have G:Hid (aO w w4):=HB.out.trans (au.below (fun b h=>by omega));have c0:=E.out.blk.iO 0;clear a9 au HP HO HB am DU cx;by_cases ag:ue=0
    ·subst ag;have hT:=aj.out;rw[Aa (show ¬((0:Int)≠0) from fun h=>h rfl)]at hT;by_cases hB:i≠ []/\id<=i.getLast?.getD 0
     ·have gB:decide ((id:Int)<=I4 i)=true:=Aw (Q1.2 hB);have N:Hid (R=([],0,2)):=(by rw[Ab hB]at hT;exact a5.out _ _ hT.symm iX);have e1:=E1.out;have e2:=E2.out;clear hB hT aj;go_wp2_with fail
      go_ret3
      exact IT N.out iX G.out
     ·have gB:decide ((id:Int)<=I4 i)=false:=Az (fun h=>hB (Q1.1 h));rw[Aa hB]at hT;by_cases hC:bound<=id
      ·have gC:=iQ ((bound:Int)<=id);have bM:=iQ (bound<=id);have N:Hid (R=([],0,8)):=(by rw[Ab hC]at hT;exact a5.out _ _ hT.symm iX);have e1:=E1.out;have e2:=E2.out;clear hB hT aj hC;go_wp2_with fail
       go_ret3
       exact IT N.out iX G.out
      ·have gC:=iR ((bound:Int)<=id);have bM:=iR (bound<=id);rw[Aa hC]at hT;have bT:id<=20000:=kR;have DA:=hid (Vx 323 iX iX w4 gl gl W _ _ vH vL id kR hW (by rw[Cg,HI.out];omega) (by rw[Cg,HI.out];omega) E.out);have bE:=hid hT;have bQ:=E.out.blk.lt;have e1:=E1.out;have e2:=E2.out;clear hB hT aj hC;go_wp2_with fail;refine DA.out.mono ?_;rintro e w5 ⟨rfl,be,a3,bn,aX,af,a6⟩;have Y:Hid (Prt 323 w5 gl gl W ((i++ [id]).map (·/ 2 ^ W)) ((i++ [id]).map (·% 2 ^ W)) be a3):=(by rw[Is,Is];exact bn);have ar:Hid (Rd w5 w gr bs ua):=Z.out.keep (fun b _ ay=>aX.block b kR) a0
       have bO:Hid (w5.ownsRow w2 25 1 (.slice (some ⟨gv,0,none⟩) n vc) n (cZ .u16 lw)):=dZ ae.out (fun y hy=>af.block y ⟨(Ae ae.out y hy).2,by have:=(Ae ae.out y hy).1;omega,fun e=>by
        rcases Fh E.out.oh ae.out iX with e3|e3
        ·rw[e3]at e;cases e
        ·exact e3 (by rw[e,hy]),HV.out y hy⟩)
       have bI:Hid (∀y,(Value.slice (some ⟨gv,0,none⟩) n vc).ownBlock=some y->a3.ownBlock≠some y):=fun y hy h=>HV.out y hy (a6 y (Ae ae.out y hy).2 h);have Q:Hid (aO w w5):=G.out.trans (aX.mono kR);clear bn aX af a6 E Z ae G HV DA c0 e1 e2;go_wp2_with fail;go_roundw
       case measure=>exact jw
       case rel=>go_light;exact⟨k+1,j,ua,i++ [id],be,a3,kR,kR,bL,i5,i5,by rw[UA],mN,by intro y hy;rcases BN.1 hy with h|h;exact aY.out y h;(rw[Dw]at h;omega),bE.out,bO.out,ar.out,Y.out,bI.out,Q.out⟩
    ·have gE:(ue != 0)=true:=(by simpa using ag);have N:Hid (R=([],0,ue)):=(by have h:=aj.out;rw[Ab ag]at h;exact a5.out _ _ h.symm ag);have bJ:=hid ag;clear ag aj;go_wp2_with fail
     go_ret3
     exact IT N.out bJ.out G.out
   ·obtain rfl:k=n:=by omega
    have g1:=iR ((k:Int)<k);have hT:=HT.out;rw[Cw (by rw[aR.out];exact Ai _),rowN]at hT;have hr:=bh.out;rw[<-hT]at hr;rw[Aa (show ¬((0:Int)≠0) from fun h=>h rfl)]at hr;have aP:=WG (z:=bs.length) (at_:=at_) (by rw[HZ.out];omega) bB;simp only at hr;have DL:=hid (left_any wr w gr bs at_ am.out);have bb:=hid hr;obtain⟨r,ax⟩:=iS (Fe at_);obtain⟨l,hl⟩:=iS (bs.length-at_);rw[<-hl]at DL aP;have sr:(l:Int) % 8=(r:Int):=kR;have b6:r<=7:=(by rw[ax];unfold Fe;omega);have an:at_+r<=bs.length:=(by have h:=HZ.out;have h3:=Nat.mod_le l 8;omega);rw[<-ax]at hr;have ah:=hid hr;have ab:at_+r=at_+Fe at_:=(by rw[ax]);clear hT hr HT bh hl aP ax bb;go_wp2_with fail;refine DL.out.mono ?_;rintro e w4 ⟨rfl,q,hq⟩;have Z:Hid (Rd w4 w gr bs at_):=(by rw[hq];exact am.out.drewN q);have E:Hid (Prt 323 w4 gl gl W (i.map (·/ 2 ^ W)) (i.map (·% 2 ^ W)) vH vL):=(by rw[hq];exact HP.out.keep (fun y _ _=>rfl));have G:Hid (aO w w4):=(by rw[hq];exact below_drewN HB.out q);clear hq am HP HB DL;by_cases bk:r=0
    ·subst bk;have aW:Hid (R=(i,(at_+7) / 8,0)):=(by have h:=ah.out;rw[Aa (by rw[yZ];exact fun h=>h rfl)]at h;exact h);obtain⟨a2,ha⟩:=iS (at_+0);rw[<-ha]at ab;have ar:Hid (Rd w4 w gr bs a2):=(by rw[ha];exact Z.out);have Y:=E;have Q:=G;obtain⟨w5,rfl⟩:=iS w4;clear ah ha Z E G;have U:=hid (left_any w5 w gr bs a2 ar.out);obtain⟨l2,aq⟩:=iS (bs.length-a2);rw[<-aq]at U;obtain⟨t,ht⟩:=iS (l2 / 8);have st:(l2:Int) / 8=(t:Int):=kR;have bG:IntKind.i64.wrap (t:Int)=(t:Int):=Am _ km;have so:IntKind.i64.wrap ((m:Int)-(t:Int))=(((at_+7) / 8:Nat):Int):=lA;generalize (at_+7) / 8=o at *;clear aq ht ab;go_wp2_with fail;refine U.out.mono ?_;rintro e w6 ⟨rfl,q6,aa⟩;have a1:Hid (Prt 323 w6 gl gl W (i.map (·/ 2 ^ W)) (i.map (·% 2 ^ W)) vH vL):=(by rw[aa];exact Y.out.keep (fun y _ _=>rfl));have aV:Hid (aO w w6):=(by rw[aa];exact below_drewN Q.out q6);clear aa Y Q U;go_wp2_with fail
     go_ret3
     rw[aW.out];exact⟨aV.out,fun h=>absurd rfl h,fun _=>⟨_,rfl,gl,W,vH,vL,rfl,hW,by rw[HI.out];omega,aY.out,a1.out.mono zw⟩⟩
    ·have bY:=iQ ((0:Int)<r);have bV:=iQ (0<r);have DG:=JB w4 w gr bs at_ r kR Z.out;unfold Gu Gr Gq at DG;rw[Ab an,Ab an,Ab an]at DG;obtain⟨a2,ha⟩:=iS (at_+r);rw[<-ha]at ab DG;generalize yZ bs at_ r=y at *;have DG:=hid DG;clear ha bk;go_wp2_with fail;refine DG.out.mono ?_;rintro e w5 ⟨rfl,bA,af⟩;have ar:=hid bA;have Y:Hid (Prt 323 w5 gl gl W (i.map (·/ 2 ^ W)) (i.map (·% 2 ^ W)) vH vL):=E.out.keep (fun y hy _=>af.block y kR);have Q:Hid (aO w w5):=G.out.trans (af.below (fun b h=>by omega));clear bA af Z E G DG;by_cases hy:y=0
     ·subst hy;have aW:Hid (R=(i,(at_+7) / 8,0)):=(by have h:=ah.out;rw[Aa (fun h=>h rfl)]at h;exact h);clear ah;have U:=hid (left_any w5 w gr bs a2 ar.out);obtain⟨l2,aq⟩:=iS (bs.length-a2);rw[<-aq]at U;obtain⟨t,ht⟩:=iS (l2 / 8);have st:(l2:Int) / 8=(t:Int):=kR;have bG:IntKind.i64.wrap (t:Int)=(t:Int):=Am _ km;have so:IntKind.i64.wrap ((m:Int)-(t:Int))=(((at_+7) / 8:Nat):Int):=lA;generalize (at_+7) / 8=o at *;clear aq ht ab;go_wp2_with fail;refine U.out.mono ?_;rintro e w6 ⟨rfl,q6,aa⟩;have a1:Hid (Prt 323 w6 gl gl W (i.map (·/ 2 ^ W)) (i.map (·% 2 ^ W)) vH vL):=(by rw[aa];exact Y.out.keep (fun y _ _=>rfl));have aV:Hid (aO w w6):=(by rw[aa];exact below_drewN Q.out q6);clear aa Y Q U;go_wp2_with fail
      go_ret3
      rw[aW.out];exact⟨aV.out,fun h=>absurd rfl h,fun _=>⟨_,rfl,gl,W,vH,vL,rfl,hW,by rw[HI.out];omega,aY.out,a1.out.mono zw⟩⟩
     ·have gy:((y:Int) != 0)=true:=l7;have N:Hid (R=([],0,2)):=(by have h:=ah.out;rw[Ab hy]at h;exact h);clear ah hy ab;go_wp2_with fail
      go_ret3
      exact IT N.out iX Q.out
end Ef
end Go.Proofs.YtfgdoknipbpfhaaGreatDoor
