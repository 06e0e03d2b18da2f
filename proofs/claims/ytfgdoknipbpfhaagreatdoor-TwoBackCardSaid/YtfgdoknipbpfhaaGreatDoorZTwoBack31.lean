/- The walks of post.li -/
import Derived.Test.YtfgdoknipbpfhaaGreatDoorZTwoBack28
namespace Go.Proofs.YtfgdoknipbpfhaaGreatDoor
open Go.Lib (hid)
open Go.Proofs.Tryz
set_option maxHeartbeats 4000000
set_option maxRecDepth 100000
section
variable{t:TypeId}{w w':World}{W base g:Nat}{hs ls:List Nat}{vH vL:Value}
open Go.RowKit
theorem Prt.keep(h:Prt t w base g W hs ls vH vL)(hk:∀y,base<=y->y<w.heap.size->w'.heap[y]? =w.heap[y]?):Prt t w' base g W hs ls vH vL:=
 ⟨(hk g h.gb h.blk.lt).trans h.blk,eZ h.oh (fun y hy=>hk y (Aj h.oh y hy).1 (Aj h.oh y hy).2),eZ h.ol (fun y hy=>hk y (Aj h.ol y hy).1 (Aj h.ol y hy).2),h.gb⟩
theorem Prt.mono{i:Nat}(h:Prt t w base g W hs ls vH vL)(hb:i<=base):Prt t w i g W hs ls vH vL:=
 ⟨h.blk,kZ h.oh hb,kZ h.ol hb,AN hb h.gb⟩
def ListAt(w:World)(base:Nat)(p:Value)(ids:List Nat):Prop:=
 ∃g W vH vL,p= .pointer (some ⟨g,0,none⟩)/\W<=14/\ids.length<=20000/\(∀x∈ids,x<=20000)/\Prt 323 w base g W (ids.map (·/ 2 ^ W)) (ids.map (·% 2 ^ W)) vH vL
def NI(w:World)(R:List Nat×Nat×Int)(e:Ending)(w':World):Prop:=
 Below w w w'/\(R.2.2≠0->e= .returned (.tuple #[.pointer none,ij,R.2.2]))/\(R.2.2=0->∃p,e= .returned (.tuple #[p, .int .i64 (R.2.1:Nat),ij])/\ListAt w' w p R.1)
theorem JN{R:List Nat×Nat×Int}{er:Int}(hR:R=([],0,er))(he:er≠0)(hb:Below w w w'):NI w R (.returned (.tuple #[.pointer none,ij,er])) w':=sO
theorem fR{bound n:Nat}(hb:bound<=20000):efW bound n<=14:=by
 unfold efW;by_cases h0:bound / n=0
 ·rw[h0];decide
 ·have h2:bound / n<=20000:=AN (Ix _ _) hb;have h3:=Lv h0;by_cases h:Nat.log2 (bound / n)<=14
  ·exact h
  ·exfalso;have:2 ^ 15<=2 ^ Nat.log2 (bound / n):=Cm nj nj;omega
theorem aX{z at_:Nat}(hz:z % 8=0)(h:at_<=z):(z-at_) % 8=Ir at_:=by unfold Ir;omega
theorem V1(a b:Nat)(ha:a<2 ^ 40)(hb:b<2 ^ 40):bits .or .i64 (a:Int) (b:Int)=((a |||b:Nat):Int):=
 (bits_nat .i64 40 ip (fun n h0 h1=>Ar _ nj) a b ha hb).2
def J0(acc:List Nat):Int:=if acc= []then-1 else((acc.getLast?.getD 0:Nat):Int)
theorem U6{i:List Nat}{id:Nat}:(id:Int)<=J0 i↔(i≠ []/\id<=i.getLast?.getD 0):=by
 unfold J0;by_cases h:i= []
 ·rw[Ab h];constructor
  ·intro h2;omega
  ·intro h2;exact absurd h h2.1
 ·rw[Aa h];constructor
  ·intro h2;exact⟨h,nj⟩
  ·intro h2;omega
theorem bM(h:List Nat)(id:Nat):J0 (h++ [id])=(id:Int):=by unfold J0;rw[Aa rX];simp
theorem a0u{p:Prop}(h:p:=by
  have Z:=hid (Ad8 w5 w gr bs a2 ar.out);obtain⟨l2,am⟩:=ii (bs.length-a2);rw[<-am]at Z;obtain⟨t,ht⟩:=ii (l2 / 8);have st:(l2:Int) / 8=(t:Int):=nj;have st2:IntKind.i64.wrap (t:Int)=(t:Int):=Ar _ mf;have so:IntKind.i64.wrap ((m:Int)-(t:Int))=(((at_+7) / 8:Nat):Int):=ph;generalize (at_+7) / 8=o at *;clear am ht aa;go_wp2_with fail;refine Z.out.mono ?_;rintro e w6 ⟨rfl,q6,U⟩;have a7:Hid (Prt 323 w6 gl gl W (i.map (·/ 2 ^ W)) (i.map (·% 2 ^ W)) vH vL):=(by rw[U];exact ab.out.keep (fun y _ _=>rfl));have a8:Hid (Below w w w6):=(by rw[U];exact below_drewN Q.out q6);clear U ab Q Z;go_wp2_with fail
  go_ret3
  rw[bf.out];exact⟨a8.out,fun h=>absurd rfl h,fun _=>⟨_,rfl,gl,W,vH,vL,rfl,hW,by rw[HI.out];omega,a5.out,a7.out.mono zw⟩⟩):p:=h
set_option maxHeartbeats 4000000 in
set_option maxRecDepth 100000 in
theorem aA(w:World)(A:Option Addr)(m c bound n:Nat)(ls:List Nat)(hm:ls.length=m)(ci:m<=100000)(h8:∀x∈ls,x<=255)(a4:A=none->m=0/\c=0)(ha:Row w w A m 1 (jZ .u8 ls))(h1:1<=n)(h2:n<=bound)(hb:bound<=20000):
 Calls Tryz.prog 246 #[.int .i64 (bound:Nat), .int .i64 (n:Nat), .slice A m c] w (NI w (GP bound n (BH ls))):=by
 have D0:=hid (Tt w A m c ls hm ci h8 a4 ha);have DW:=hid (fun wx=>Uv wx bound n h1 h2 nj);have hW:=fR (n:=n) hb;have b8:(BH ls).length=8*m:=by rw[Fi,hm]
 have cE:Hid (n*efW bound n<=280000):=AN (Iw (by omega:n<=20000) hW) ip;obtain⟨R,hR⟩:=ii (GP bound n (BH ls));rw[<-hR];unfold GP at hR;generalize efW bound n=W at *;generalize BH ls=bs at *;have HR:=hid hR;have HZ:=hid b8;clear hm h8 a4 ha hR b8;go_enter Tryz.func246,Tryz.ntmps246;go_wp2_with fail;refine D0.out.mono ?_;rintro e w1 ⟨gr,rfl,bb,bc,bt⟩;have cA:=bb.lt;have bn:=hid bb;have ay:=hid bt;clear bb bt D0;go_wp2_with fail;refine(DW.out _).mono ?_;rintro e M ⟨rfl,rfl⟩;go_wp2_with fail;have ba:Prt 323 (M.alloc (.cells #[.int .i64 (W:Nat),(),()] 323)) M M W (([]:List Nat).map (·/ 2 ^ W)) (([]:List Nat).map (·% 2 ^ W)) (.slice none 0 0) (.slice none 0 0):=⟨Blk.made _ _ _,AI _ _ _ _,AI _ _ _ _,Ak _⟩;have b4:Rd (M.alloc (.cells #[.int .i64 (W:Nat),(),()] 323)) w gr bs 0:=bn.out.keep (fun b _ ax=>EA M _ b nj) bc;have ax:Below w w (M.alloc (.cells #[.int .i64 (W:Nat),(),()] 323)):=pZ ay.out.size ay.out;generalize bp:M.alloc (.cells #[.int .i64 (W:Nat),(),()] 323)=w2 at *;have z2:w2.heap.size=M.heap.size+1:=by rw[<-bp];simp
 clear bp;have zw:=ay.out.size;generalize M.heap.size=gl at *;have c0:=ba.blk.ia 0;have b5:=hid ba;have bh:=hid ax;have DL:=hid (fY w2 w gr bs n W nj hW bc b4);unfold Pt at DL;clear ba b4 ax bn ay DW;go_wp2_with fail;refine DL.out.mono ?_;rintro e w3 ⟨aq,L⟩;have z3:=aq.size;have be:Hid (Below w w w3):=bh.out.trans (aq.below (fun b h=>⟨nj,nj⟩));by_cases ah:bs.length<n*W
 ·rw[Ab ah]at L;subst L;have N:Hid (R=([],0,1)):=by have h:=HR.out;rw[Ab ah]at h;exact h
  clear ah HR aq;go_wp2_with fail
  go_ret3
  exact JN N.out ip be.out
 ·rw[Aa ah]at L;obtain⟨v,rfl,ac,bi⟩:=L;obtain⟨va,vc,rfl⟩:=bZ ac;have hr:=HR.out;rw[Aa ah]at hr;have b7:Prt 323 w3 gl gl W (([]:List Nat).map (·/ 2 ^ W)) (([]:List Nat).map (·% 2 ^ W)) (.slice none 0 0) (.slice none 0 0):=b5.out.keep (fun y hy hy2=>aq.block y ⟨hy2,nj⟩);obtain⟨T,hT⟩:=ii (Ae2 bound W bs (EK W bs n) (n*W) 0 []);rw[<-hT]at hr;have cc:Hid (∀x∈EK W bs n,x<2 ^ W):=iW W bs n;have a3:Hid ((EK W bs n).length=n):=Pj W bs n;have bm:Hid (Ae2 bound W bs ((EK W bs n).drop 0) (n*W) 0 []=T):=hT.symm;have a0:Hid (n*W<=bs.length):=by show _<=_;omega
  generalize EK W bs n=lw at *;generalize n*W=N0 at *;have b6:=hid hr;have bd:Hid (∀a er,T=([],a,er)->er≠0->R=([],0,er)):=fun a er h he=>by rw[hr,h];exact Ab he
  have cL:bs.length<=800000:=mf
  have bx:=hid ac;have bq:=hid bi;have bS:=hid b7;have cC:Hid (∀y,(Value.slice va n vc).ownBlock=some y->w2.heap.size<=y):=fun y hy=>(Aj ac y hy).1;clear ah hr hT ac bi b7 HR b5 bh DL aq c0;go_wp2_with fail;go_loopw [13,14,47] (fun hv wv iv wr=>∃ (k J at_:Nat) (i:List Nat) (vH vL:Value),k<=n/\J<=20000/\at_<=bs.length/\hv= .int .i64 J/\iv= .int .i64 k/\wv= .int .i64 (J0 i)/\Hid (i.length=k)/\Hid (∀x∈i,x<=20000)/\Hid (Ae2 bound W bs (lw.drop k) at_ J i=T)/\Hid (wr.ownsRow w2 25 1 (.slice va n vc) n (dZ .u16 lw))/\Hid (Rd wr w gr bs at_)/\Hid (Prt 323 wr gl gl W (i.map (·/ 2 ^ W)) (i.map (·% 2 ^ W)) vH vL)/\Hid (∀y,(Value.slice va n vc).ownBlock=some y->vL.ownBlock≠some y)/\Hid (Below w w wr)) (fun _ _ iv _=>n-(intOf iv).toNat)
  case atStart=>exact⟨0,0,N0,[], .slice none 0 0, .slice none 0 0,nj,nj,a0.out,rfl,rfl,rfl,rfl,fun x hx=>r9,bm.out,bx.out,bq.out,bS.out,(by first|trivial|(intro y _ h;cases h)),be.out⟩
  case round=>
   obtain⟨k,J,at_,i,vH,vL,hk,cj,bg,rfl,rfl,rfl,HI,a5,HT,HO,al,HP,HV,HB⟩:=hrel;have zr:=HB.out.size;have cq:=HP.out.blk.lt;clear bm a0 bx bq bS be;by_cases cz:k<n
   ·have g1:=ic ((k:Int)<n);have cM:=ic (k<n);obtain⟨x,hx⟩:∃x,lw[k]? =some x:=⟨_,Az (by have:=a3.out;omega)⟩;have an:lw.drop k=x :: lw.drop (k+1):=(by obtain⟨hl,e⟩:=CQ.1 hx;rw[Dl hl,e]);have a1:=cc.out x (Bp hx);have cf:2 ^ W<=16384:=kz;have bj:1<=2 ^ W:=Nat.one_le_two_pow;obtain⟨gv,cv,b9,cB,_⟩:=HO.out.form nj;injection b9 with e1 e2 e3;subst e1 e3;have cx:wr.cell? ⟨gv,k,none⟩=some (.int .u16 (x:Nat)):=(by rw[HO.out.cellAt k nj];unfold dZ;rw[Co,hx];rfl);have x0:(0:Int)<=(k:Int):=nj;have x1:(k:Int)<(n:Int):=nj;have hT:=HT.out;rw[an,Ae2]at hT;have DU:=hid (eY wr w gr bs at_ al.out);have ct:=lA bs at_;have cd:=Tb bg;generalize unV bs at_=d at *;generalize unE bs at_=ue at *;generalize unA bs at_=ua at *;obtain⟨j,b1⟩:=ii (J+d);have s1:IntKind.i64.wrap ((J:Int)+(d:Int))=(j:Int):=pj;rw[<-b1]at hT;obtain⟨hw,ag⟩:=ii (j*2 ^ W);have cp:hw<=13434880000:=(by rw[ag];exact AN (Iw (show j<=820000 by omega) cf) ip);have cr:j<=hw:=(by rw[ag];exact Nat.le_mul_of_pos_right _ nj);have E1:Hid (IntKind.i64.wrap ((j:Int)*2 ^ W)=(hw:Int)):=(by show _=_;rw[show(j:Int)*2 ^ W=(hw:Int) by rw[ag];simp,Ar _ nj]);have E2:Hid (bits .or .i64 (hw:Int) (x:Int)=((hw+x:Nat):Int)):=(by show _=_;rw[V1 hw x nj nj,ag,Uc j x W a1]);rw[<-ag]at hT;obtain⟨id,b0⟩:=ii (hw+x);rw[<-b0]at hT E2;have cF:IntKind.i64.wrap (x:Int)=(x:Int):=Ar _ nj;have cg:j<=id:=nj;have ai:=hid hT;clear hT hx an a1 b1 ag b0 HT bj;go_wp2_with fail;refine DU.out.mono ?_;rintro e w4 ⟨rfl,bu,av⟩;have z4:=av.size;have Y:=hid bu;have G:Hid (Prt 323 w4 gl gl W (i.map (·/ 2 ^ W)) (i.map (·% 2 ^ W)) vH vL):=HP.out.keep (fun y hy _=>av.block y nj);have ae:Hid (w4.ownsRow w2 25 1 (.slice (some ⟨gv,0,none⟩) n vc) n (dZ .u16 lw)):=eZ HO.out (fun y hy=>av.block y (by have:=(Aj HO.out y hy).1;omega));have E:Hid (Below w w w4):=HB.out.trans (av.below (fun b h=>by omega));have c0:=G.out.blk.ia 0;clear bu av HP HO HB al DU cx;by_cases aj:ue=0
    ·subst aj;have hT:=ai.out;rw[Aa (show ¬((0:Int)≠0) from fun h=>h rfl)]at hT;by_cases hB:i≠ []/\id<=i.getLast?.getD 0
     ·have gB:decide ((id:Int)<=J0 i)=true:=Bd (U6.2 hB);have N:Hid (R=([],0,2)):=(by rw[Ab hB]at hT;exact bd.out _ _ hT.symm ip);have e1:=E1.out;have e2:=E2.out;clear hB hT ai;go_wp2_with fail
      go_ret3
      exact JN N.out ip E.out
     ·have gB:decide ((id:Int)<=J0 i)=false:=Be (fun h=>hB (U6.1 h));rw[Aa hB]at hT;by_cases hC:bound<=id
      ·have gC:=ic ((bound:Int)<=id);have cm:=ic (bound<=id);have N:Hid (R=([],0,8)):=(by rw[Ab hC]at hT;exact bd.out _ _ hT.symm ip);have e1:=E1.out;have e2:=E2.out;clear hB hT ai hC;go_wp2_with fail
       go_ret3
       exact JN N.out ip E.out
      ·have gC:=ig ((bound:Int)<=id);have cm:=ig (bound<=id);rw[Aa hC]at hT;have cy:id<=20000:=nj;have DA:=hid (T7 323 ip ip w4 gl gl W _ _ vH vL id nj hW (by rw[Bu,HI.out];omega) (by rw[Bu,HI.out];omega) G.out);have ca:=hid hT;have cu:=G.out.blk.lt;have e1:=E1.out;have e2:=E2.out;clear hB hT ai hC;go_wp2_with fail;refine DA.out.mono ?_;rintro e w5 ⟨rfl,bl,a9,b3,a6,ak,bO⟩;have ab:Hid (Prt 323 w5 gl gl W ((i++ [id]).map (·/ 2 ^ W)) ((i++ [id]).map (·% 2 ^ W)) bl a9):=(by rw[FA,FA];exact b3);have ar:Hid (Rd w5 w gr bs ua):=Y.out.keep (fun b _ ax=>a6.block b nj) bc
       have co:Hid (w5.ownsRow w2 25 1 (.slice (some ⟨gv,0,none⟩) n vc) n (dZ .u16 lw)):=eZ ae.out (fun y hy=>ak.block y ⟨(Aj ae.out y hy).2,by have:=(Aj ae.out y hy).1;omega,fun e=>by
        rcases FE G.out.oh ae.out ip with e3|e3
        ·rw[e3]at e;cases e
        ·exact e3 (by rw[e,hy]),HV.out y hy⟩)
       have cl:Hid (∀y,(Value.slice (some ⟨gv,0,none⟩) n vc).ownBlock=some y->a9.ownBlock≠some y):=fun y hy h=>HV.out y hy (bO y (Aj ae.out y hy).2 h);have Q:Hid (Below w w w5):=E.out.trans (a6.mono nj);clear b3 a6 ak bO G Y ae E HV DA c0 e1 e2;go_wp2_with fail;go_roundw
       case measure=>exact jq
       case rel=>go_light;exact⟨k+1,j,ua,i++ [id],bl,a9,nj,nj,cd,iw,iw,by rw[bM],by show _=_;rw[Ag,HI.out];rfl,by intro y hy;rcases BJ.1 hy with h|h;exact a5.out y h;(rw[Eo]at h;omega),ca.out,co.out,ar.out,ab.out,cl.out,Q.out⟩
    ·have gE:(ue != 0)=true:=(by simpa using aj);have N:Hid (R=([],0,ue)):=(by have h:=ai.out;rw[Ab aj]at h;exact bd.out _ _ h.symm aj);have ce:=hid aj;clear aj ai;go_wp2_with fail
     go_ret3
     exact JN N.out ce.out E.out
   ·obtain rfl:k=n:=by omega
    have g1:=ig ((k:Int)<k);have hT:=HT.out;rw[El (by rw[a3.out];exact Ak _),Ae2]at hT;have hr:=b6.out;rw[<-hT]at hr;rw[Aa (show ¬((0:Int)≠0) from fun h=>h rfl)]at hr;have az:=aX (z:=bs.length) (at_:=at_) (by rw[HZ.out];omega) bg;simp only at hr;have DL:=hid (Ad8 wr w gr bs at_ al.out);have bk:=hid hr;obtain⟨r,aw⟩:=ii (Ir at_);obtain⟨l,hl⟩:=ii (bs.length-at_);rw[<-hl]at DL az;have sr:(l:Int) % 8=(r:Int):=nj;have cG:r<=7:=(by rw[aw];unfold Ir;omega);have au:at_+r<=bs.length:=(by have h:=HZ.out;have h3:=Nat.mod_le l 8;omega);rw[<-aw]at hr;have af:=hid hr;have aa:at_+r=at_+Ir at_:=(by rw[aw]);clear hT hr HT b6 hl az aw bk;go_wp2_with fail;refine DL.out.mono ?_;rintro e w4 ⟨rfl,q,hq⟩;have Y:Hid (Rd w4 w gr bs at_):=(by rw[hq];exact al.out.drewN q);have G:Hid (Prt 323 w4 gl gl W (i.map (·/ 2 ^ W)) (i.map (·% 2 ^ W)) vH vL):=(by rw[hq];exact HP.out.keep (fun y _ _=>rfl));have E:Hid (Below w w w4):=(by rw[hq];exact below_drewN HB.out q);clear hq al HP HB DL;by_cases bC:r=0
    ·subst bC;have bf:Hid (R=(i,(at_+7) / 8,0)):=(by have h:=af.out;rw[Aa (by rw[AK];exact fun h=>h rfl)]at h;exact h);obtain⟨a2,ha⟩:=ii (at_+0);rw[<-ha]at aa;have ar:Hid (Rd w4 w gr bs a2):=(by rw[ha];exact Y.out);have ab:=G;have Q:=E;obtain⟨w5,rfl⟩:=ii w4;clear af ha Y G E;exact a0u
    ·have cH:=ic ((0:Int)<r);have cw:=ic (0<r);have DG:=Kz w4 w gr bs at_ r nj Y.out;unfold Jp Jn Jl at DG;rw[Ab au,Ab au,Ab au]at DG;obtain⟨a2,ha⟩:=ii (at_+r);rw[<-ha]at aa DG;generalize AK bs at_ r=y at *;have DG:=hid DG;clear ha bC;go_wp2_with fail;refine DG.out.mono ?_;rintro e w5 ⟨rfl,bN,ak⟩;have ar:=hid bN;have ab:Hid (Prt 323 w5 gl gl W (i.map (·/ 2 ^ W)) (i.map (·% 2 ^ W)) vH vL):=G.out.keep (fun y hy _=>ak.block y nj);have Q:Hid (Below w w w5):=E.out.trans (ak.below (fun b h=>by omega));clear bN ak Y G E DG;by_cases hy:y=0
     ·subst hy;have bf:Hid (R=(i,(at_+7) / 8,0)):=(by have h:=af.out;rw[Aa (fun h=>h rfl)]at h;exact h);clear af;exact a0u
     ·have gy:((y:Int) != 0)=true:=qr;have N:Hid (R=([],0,2)):=(by have h:=af.out;rw[Ab hy]at h;exact h);clear af hy aa;go_wp2_with fail
      go_ret3
      exact JN N.out ip Q.out
end
section
variable{bound:Nat}
open Go.RowKit
theorem Ad6(w:World)(base g W i id:Nat)(h:List Nat)(vH vL:Value)(hW:W<=14)(Q:h.length<=20000)(E:∀x∈h,x<=20000)(hP:Prt 323 w base g W (h.map (·/ 2 ^ W)) (h.map (·% 2 ^ W)) vH vL)(hi:h[i]? =some id):
 Calls prog 247 #[.pointer (some ⟨g,0,none⟩), .int .i64 (i:Nat)] w fun e w'=>e= .returned (.int .i64 (id:Nat))/\∃q,w'=w.drewN q:=by
 have Y:i<h.length:=(CQ.1 hi).1;have U:=E id (Bp hi);have N:2 ^ W<=16384:=kz
 have M:1<=2 ^ W:=Nat.one_le_two_pow;have c0:=hP.blk.ia 0;have c1:=hP.blk.ia 1;have c2:=hP.blk.ia 2;have oh:=hP.oh;have ol:=hP.ol;rw[Bu]at oh ol;obtain⟨gh,ch,rfl,_,_⟩:=oh.form nj;obtain⟨gl,cl,rfl,_,_⟩:=ol.form nj;obtain⟨j,J⟩:=ii (id / 2 ^ W);obtain⟨lo,y⟩:=ii (id % 2 ^ W);have d1:w.cell? ⟨gh,i,none⟩=some (.int .i64 (j:Nat)):=by rw[oh.cellAt i nj];unfold dZ;rw[Co,Co,hi,J];rfl
 have d2:w.cell? ⟨gl,i,none⟩=some (.int .u16 (lo:Nat)):=by rw[ol.cellAt i nj];unfold dZ;rw[Co,Co,hi,y];rfl
 have G:lo<2 ^ W:=by rw[y];exact Nat.mod_lt _ nj
 have z:j*2 ^ W+lo=id:=by rw[J,y,Nat.mul_comm];exact Nat.div_add_mod _ _
 obtain⟨hw,L⟩:=ii (j*2 ^ W);have e1:IntKind.i64.wrap ((j:Int)*2 ^ W)=(hw:Int):=by rw[show(j:Int)*2 ^ W=(hw:Int) by rw[L];simp,Ar _ nj]
 have e2:bits .or .i64 (hw:Int) (lo:Int)=(id:Int):=by rw[V1 hw lo nj nj,L,Uc j lo W G,z]
 have Z:IntKind.i64.wrap (lo:Int)=(lo:Int):=Ar _ nj;have x0:(0:Int)<=(i:Int):=nj
 have x1:(i:Int)<(h.length:Int):=nj
 generalize h.length=n at *;clear hP oh ol hi E J y z L G N M;go_enter func247,ntmps247;exact a1u
theorem Ai0(w:World)(base:Nat)(p:Value)(i:List Nat)(h:ListAt w base p i):
 Calls prog 198 #[p] w fun e w'=>e= .returned (.int .i64 (i.length:Nat))/\w'=w:=by
 obtain⟨g,W,vH,vL,rfl,_,_,_,hP⟩:=h;have c1:=hP.blk.ia 1;have oh:=hP.oh;rw[Bu]at oh;obtain⟨A,c,rfl⟩:=bZ oh;generalize i.length=n at *;clear hP oh;go_enter func198,ntmps198;go_wp2_with fail;go_ret;exact⟨rfl,rfl⟩
theorem gI:(prog.info? 3).map (fun i=>(i.zero,i.size,i.bytes))=some (some (.int .i64 0),1,8):=my
theorem qE(w:World)(base:Nat)(p:Value)(j:List Nat)(h:ListAt w base p j):
 Calls prog 199 #[p] w fun e w'=>∃v,e= .returned v/\w'.ownsRow w 3 1 v j.length (dZ .i64 j)/\Below w w w':=by
 obtain⟨j0,ab,aa,Z,L⟩:=info_parts gI;have DL:=hid (Ai0 w base p j h);obtain⟨g,W,vH,vL,rfl,hW,G,E,hP⟩:=h;have DN:=hid (fun wx i id (hb:Below w w wx) hi=>Ad6 wx base g W i id j vH vL hW G E (hP.keep (fun y _ L=>hb.block y L)) hi);obtain⟨n,hn⟩:=ii j.length;rw[<-hn]at DL G ⊢;have HN:=hid hn;clear E hP hn;go_enter func199,ntmps199;go_wp2_with fail;refine DL.out.mono ?_;rintro e w1 ⟨rfl,rfl⟩;go_wp2_with fail;go_loopw [3,7] (fun v iv wr=>∃k:Nat,k<=n/\iv= .int .i64 k/\Hid (wr.ownsRow w1 3 1 v k (dZ .i64 (j.take k)))/\Hid (Below w1 w1 wr)) (fun _ iv _=>n-(intOf iv).toNat)
 case atStart=>exact⟨0,nj,rfl,AI _ _ _ _,Ae _ _⟩
 case round=>
  obtain⟨k,hk,rfl,HO,HB⟩:=hrel;obtain⟨va,vc,rfl⟩:=bZ HO.out;have zr:=HB.out.size;by_cases ae:k<n
  ·have g1:=ic ((k:Int)<n);have af:=ic (k<n);obtain⟨id,J⟩:∃id,j[k]? =some id:=⟨_,Az ly⟩;have HT:Hid (j.take (k+1)=j.take k++ [id]):=(by show _=_;rw[Cw,J];rfl);have D:=hid (DN.out wr k id HB.out J);clear J DL;go_wp2_with fail;refine D.out.mono ?_;rintro e w2 ⟨rfl,q,hq⟩;have N:Hid (w2.ownsRow w1 3 1 (.slice va k vc) k (dZ .i64 (j.take k))):=(by rw[hq];exact eZ HO.out (fun y _=>rfl));have M:Hid (Below w1 w1 w2):=(by rw[hq];exact below_drewN HB.out q);have z2:=M.out.size;clear hq HO HB D;go_wp2_with(at_builtin;refine iZ rfl (.tmp 10) (.tmp 16) 37 rfl w1 3 j0 _ 1 8 underlying37 ab aa Z L rfl ip _ _ _ nm (N.out.alloc _) _ 1 1 [.int .i64 (id:Nat)] nm (Src.of_blk (Blk.made_at _ _ _ rX) 1 1 1 rfl) mp sS nj sj ?_;intro v5 w5 z Q U;obtain⟨A5,c5,rfl⟩:=bZ z);have Y:Hid (Below w1 w1 w5):=(pZ z2 M.out).grown Q sj (fun y hy=>(Aj N.out y hy).1);have ac:Hid (w5.ownsRow w1 3 1 (.slice A5 (k+1) c5) (k+1) (dZ .i64 (j.take (k+1)))):=(by show World.ownsRow _ _ _ _ _ _ _;rw[HT.out,show dZ .i64 (j.take k++ [id])=dZ .i64 (j.take k)++ [.int .i64 (id:Nat)] by simp[dZ]];exact z);clear z Q U HT;go_roundw
   case measure=>exact jq
   case rel=>go_light;exact⟨k+1,nj,iw,ac.out,Y.out⟩
  ·obtain rfl:k=n:=by omega
   have g1:=ig ((k:Int)<k);have HT:Hid (j.take k=j):=Cf py;rw[HT.out]at HO;go_wp2_with fail;go_ret;exact⟨_,rfl,HO.out,HB.out⟩
def efG(a:Nat)(R:List Nat×Nat×Int):List Nat×Nat×Int:=if R.2.2≠0 then([],0,R.2.2)else(R.1,a+R.2.1,0)
def efR(bound:Nat)(bs:List Nat):List Nat×Nat×Int:=
 if wZ bound bs 0 0≠0 then([],0,wZ bound bs 0 0)else if AV bound bs 0 0=0 then([],uZ bound bs 0 0,0)
 else efG (uZ bound bs 0 0) (GP bound (AV bound bs 0 0) (BH (bs.drop (uZ bound bs 0 0))))
theorem Sc{n z:Nat}{bs:List Bool}(hz:bs.length=8*z):(GP bound n bs).2.1<=z:=by
 unfold GP;split
 ·exact Bf _
 ·rename_i h;have:=Uo (bound:=bound) (W:=efW bound n) (bs:=bs) (EK (efW bound n) bs n) (n*efW bound n) 0 [] nj;split
  ·exact Bf _
  ·split
   ·exact Bf _
   ·simp only;omega
theorem bV{bs:List Nat}(h8:∀x∈bs,x<=255):(efR bound bs).2.1<=bs.length:=by
 have ha:uZ bound bs 0 0<=bs.length:=Ag7 h8 0 nj;unfold efR;split
 ·exact Bf _
 ·split
  ·exact ha
  ·have h:=Sc (bound:=bound) (n:=AV bound bs 0 0) (z:=bs.length-uZ bound bs 0 0) (bs:=BH (bs.drop (uZ bound bs 0 0))) (by rw[Fi,AQ]);unfold efG;split
   ·exact Bf _
   ·simp only;omega
theorem ListAt.mono{w:World}{base i:Nat}{p:Value}{j:List Nat}(h:ListAt w base p j)(hb:i<=base):ListAt w i p j:=by obtain⟨g,W,vH,vL,h1,h2,h3,h4,h5⟩:=h;exact⟨g,W,vH,vL,h1,h2,h3,h4,h5.mono hb⟩
theorem a2e{p:Prop}(h:p:=by
  unfold AR at h;split at h
  ·exact h
  ·cases A with
   |none=>rfl
   |some x=>cases h):p:=h
set_option maxHeartbeats 1000000 in
theorem fE(w:World)(A:Option Addr)(m c bound:Nat)(bs:List Nat)(hm:bs.length=m)(ar:m<=100000)(h8:∀x∈bs,x<=255)(hc:m<=c)(G:A=none->m=0/\c=0)(ha:Row w w A m 1 (jZ .u8 bs))(hb:bound<=20000):
 Calls prog 197 #[.int .i64 (bound:Nat), .slice A m c] w (NI w (efR bound bs)):=by
 have D0:=hid (Ab7 w A m c bs hm ar G ha);have ah:bs.length<=100000:=nj
 have D1:=hid (fun wx g B d h=>GO wx g w bs B d 0 0 bound ah h8 nj h);have av:=ig ((bound:Int)<0)
 have ax:=ig ((20000:Int)<bound)
 have am:=ig (20000<bound)
 obtain⟨R,hR⟩:=ii (efR bound bs);rw[<-hR];have aj:AV bound bs 0 0<=bound:=zY h8 0 0;have al:uZ bound bs 0 0<=bs.length:=Ag7 h8 0 nj;unfold efR at hR;generalize wZ bound bs 0 0=ie at *;generalize AV bound bs 0 0=n at *;generalize uZ bound bs 0 0=a at *;have ai:Row w w (AR A a c 1) (m-a) 1 (jZ .u8 (bs.drop a)):=by have h:=ET (hm ▸ ha:Row w w A bs.length 1 (jZ .u8 bs)) al (by omega:bs.length<=c);rw[hm]at h;exact h
 have E:AR A a c 1=none->m-a=0/\c-a=0:=fun h=>by
  have hA:A=none:=by
   exact a2e
  have:=G hA;omega
 have DR:=hid (fun wx (hbx:Below w w wx) (h1:1<=n)=>aA wx (AR A a c 1) (m-a) (c-a) bound n (bs.drop a) (by rw[AQ,hm]) nj (fun x hx=>h8 x (Bz hx)) E ((ai.below hbx).mono hbx.size) h1 aj hb);have ks:=fun wx=>Gr (P:=prog) (t:=28) (s:=1) underlying28 (fun _=>by kernel_rfl) A m c .i64 (a:Int) a rfl nj wx;have HR:=hid hR;generalize AR A a c 1=A2 at *;have N:Hid ((GP bound n (BH (bs.drop a))).2.1<=m-a):=Sc (by rw[Fi,AQ,hm]);generalize GP bound n (BH (bs.drop a))=T at *;have a0:a<=m:=nj
 clear hm h8 G ha hR ai E aj al;go_enter func197,ntmps197;go_wp2_with fail;refine D0.out.mono ?_;rintro e w1 ⟨g,B,d,rfl,ae,aa⟩;have DI:=hid (D1.out w1 g B d ae);have ak:=hid aa;have aw:=ae.lo;have az:=aa.size;clear ae aa D0 D1;go_wp2_with fail;refine DI.out.mono ?_;rintro e w2 ⟨rfl,Q,ag⟩;have j:Hid (Below w w w2):=ak.out.trans (ag.below fun b h=>⟨nj,nj⟩);have DE:=hid (Dn w2 g w bs B d a ie Q);have DA:=hid (fun wx (hb:Below w2 w2 wx)=>Ig wx g w bs B d a ie (Q.step hb));clear Q ag ak DI;go_wp2_with fail;refine DE.out.mono ?_;rintro e w3 ⟨rfl,rfl⟩;by_cases i:ie=0
 ·have gE:(ie != 0)=false:=by rw[i];rfl
  by_cases Y:n=0
  ·subst Y;have y:Hid (R=([],a,0)):=(by have h:=HR.out;rw[Aa sE,Ab rfl]at h;exact h);have au:=hid (DA.out (w3.alloc (.cells #[ij,(),()] 323)) (aZ (Ae _ _)));clear HR i DR DA DE;go_wp2_with fail;refine au.out.mono ?_;rintro e w4 ⟨rfl,rfl⟩;go_wp2_with fail
   go_ret3
   rw[y.out];exact⟨pZ j.out.size j.out,fun h=>absurd rfl h,fun _=>⟨_,rfl,w3.heap.size,0, .slice none 0 0, .slice none 0 0,rfl,nj,rX,(fun x hx=>by simp at hx),⟨Blk.made _ _ _,AI _ _ _ _,AI _ _ _ _,j.out.size⟩⟩⟩
  ·have gn:((n:Int)==0)=false:=pp;have ay:(n==0)=false:=pp;have y:Hid (R=efG a T):=(by have h:=HR.out;rw[Aa sE,Aa Y]at h;exact h);have ac:=hid (DA.out w3 (Ae _ _));have Z:=hid (fun wx hbx=>DR.out wx hbx nj);clear HR i Y DR DE;go_wp2_with fail;refine ac.out.mono ?_;rintro e w4 ⟨rfl,rfl⟩;go_wp2_with fail;refine(Z.out _ j.out).mono ?_;rintro e w5 ⟨J,z,M⟩;have af:Hid (Below w w w5):=j.out.trans (J.mono j.out.size);by_cases hT:T.2.2=0
   ·obtain⟨p,rfl,hL⟩:=M hT;have HL:=hid hL;have L:Hid (R=(T.1,a+T.2.1,0)):=(by show _=_;rw[y.out];unfold efG;exact Aa (by simp[hT]));have an:=hid (DA.out w5 J);have zz:=j.out.size;have aq:=N.out;obtain⟨t1,ab⟩:=ii T.2.1;rw[<-ab]at L aq;have s1:IntKind.i64.wrap ((a:Int)+(t1:Int))=((a+t1:Nat):Int):=pj;rw[<-ab];clear J z M hL y hT DA ac Z N ab;go_wp2_with fail;refine an.out.mono ?_;rintro e w6 ⟨rfl,rfl⟩;go_wp2_with fail
    go_ret3
    rw[L.out];exact⟨af.out,fun h=>absurd rfl h,fun _=>⟨_,rfl,HL.out.mono zz⟩⟩
   ·have he:=z hT;subst he;have gT:(T.2.2 != 0)=true:=(by simpa using hT);have L:Hid (R=([],0,T.2.2)):=(by show _=_;rw[y.out];unfold efG;exact Ab hT);have U:=hid hT;clear J z M y hT DA ac Z N;generalize T.2.2=te at *;go_wp2_with fail
    go_ret3
    exact JN L.out U.out af.out
 ·have gE:(ie != 0)=true:=by simpa using i
  have y:Hid (R=([],0,ie)):=by have h:=HR.out;rw[Ab i]at h;exact h
  have U:=hid i;clear i HR DR DA DE;go_wp2_with fail
  go_ret3
  exact JN y.out U.out j.out
end
variable{w w' w5:World}{b base:Nat}{u v5 vF vL:Value}{vals:List Value}{F j:List (List Nat)}
open Go.RowKit
theorem pG(w:World)(base gd size:Nat)(ts hs:List Str)(vT vH:Value)(h:DAt w base gd size ts hs vT vH):
 Calls prog 120 #[.pointer (some ⟨gd,0,none⟩)] w fun e w'=>e= .returned (.int .i64 (ts.length:Nat))/\w'=w:=by
 have c0:=h.blk.ia 0;have ot:=h.ot;obtain⟨n,hn⟩:=ii ts.length;rw[<-hn]at ot ⊢;obtain⟨A,c,rfl⟩:=bZ ot;clear h ot hn;go_enter func120,ntmps120;go_wp2_with fail;go_ret;exact⟨rfl,rfl⟩
theorem oJ(w:World)(base gd size:Nat)(ts hs:List Str)(vT vH:Value)(h:DAt w base gd size ts hs vT vH)(hl:ts.length<=3000000):
 Calls prog 121 #[.pointer (some ⟨gd,0,none⟩)] w fun e w'=>∃v,e= .returned v/\w'.ownsRow w 9 1 v ts.length (Br ts)/\Below w w w':=by
 have c0:=h.blk.ia 0;have ot:=h.ot;obtain⟨n,hn⟩:=ii ts.length;rw[<-hn]at ot hl ⊢;obtain⟨A,c,rfl⟩:=bZ ot;have D:=hid (iG w base A n c (Br ts) hl ot (XP ts));clear h ot hn;go_enter func121,ntmps121;go_wp2_with fail;refine D.out.mono ?_;rintro e w1 ⟨v,rfl,ho,hb⟩;have HO:=hid ho;have HB:=hid hb;obtain⟨A1,c1,rfl⟩:=bZ ho;clear ho hb D;go_wp2_with fail;go_ret;exact⟨_,rfl,HO.out,HB.out⟩
def lsR(bound:Nat)(ls:List Nat):Nat->Nat->List (List Nat)->List (List Nat)×Int
 |0,at_,acc=>if at_<ls.length then([],2)else(acc,0)
 |k+1,at_,acc=>if(efR bound (ls.drop at_)).2.2≠0 then([],(efR bound (ls.drop at_)).2.2)else if(efR bound (ls.drop at_)).1.length=0 then([],2)else lsR bound ls k (at_+(efR bound (ls.drop at_)).2.1) (acc++ [(efR bound (ls.drop at_)).1])
structure LsAt (w:World) (base:Nat) (vL:Value) (vals:List Value) (acc:List (List Nat)):Prop where
 l:w.ownsRow base 37 1 vL acc.length vals
 r:∀ (i:Nat) v ids,vals[i]? =some v->acc[i]? =some ids->w.ownsRow base 3 1 v ids.length (dZ .i64 ids)
theorem LsAt.step(h:LsAt w base vL vals j)(hb:Below w w w'):LsAt w' base vL vals j:=
 ⟨eZ h.l fun y hy=>hb.block y (Aj h.l y hy).2,fun i v ids hv hi=>eZ (h.r i v ids hv hi) fun y hy=>hb.block y (Aj (h.r i v ids hv hi) y hy).2⟩
theorem LsAt.nil(w:World)(base:Nat):LsAt w base (.slice none 0 0) [] []:=⟨AI _ _ _ _,fun i v ids h=>rY⟩
theorem LsAt.add{z:List Nat}(h:LsAt w base vL vals j)(hu:w.ownsRow base 3 1 u z.length (dZ .i64 z))(hg:w.grownBy w5 vL.ownBlock)(E:w5.ownsRow base 37 1 v5 (j.length+1) (vals++ [u])):LsAt w5 base v5 (vals++ [u]) (j++ [z]):=by
 have far:∀ {n:Nat} {v:Value} {xs:List Value},w.ownsRow base 3 1 v n xs->w5.ownsRow base 3 1 v n xs:=fun hv=>eZ hv fun y hy=>hg.block y (Aj hv y hy).2 fun e2=>by
  rcases FE h.l hv ip with e3|e3
  ·rw[e3]at e2;cases e2
  ·exact e3 (by rw[<-e2,hy])
 have G:vals.length=j.length:=by have:=h.l.1;omega
 refine⟨by rw[Ag];exact E,fun i v is hv hi=> ?_⟩;by_cases J:i<j.length
 ·rw[Ic nj]at hv;rw[Ic J]at hi;exact far (h.r i v is hv hi)
 ·rw[JC nj]at hv;rw[JC nj]at hi;have h0:i-j.length=0:=by have:=(CQ.1 hi).1;simp at this;omega
  rw[G,h0]at hv;rw[h0]at hi;simp at hv hi;subst hv hi;exact far hu
theorem nM:(prog.info? 37).map (fun i=>(i.zero,i.size,i.bytes))=some (some (.slice none 0 0),1,24):=my
def dW(w:World)(R:List (List Nat)×Int)(e:Ending)(w':World):Prop:=
 Below w w w'/\∃v vals,e= .returned (.tuple #[v,R.2])/\LsAt w' w v vals R.1
theorem cU(w:World)(A:Option Addr)(m c n bound:Nat)(ls:List Nat)(hm:ls.length=m)(bj:m<=100000)(h8:∀x∈ls,x<=255)(hc:m<=c)(ae:A=none->m=0/\c=0)(ha:Row w w A m 1 (jZ .u8 ls))(hb:bound<=20000)(hn:n<=1100000):
 Calls prog 119 #[.int .i64 (n:Nat), .int .i64 (bound:Nat), .slice A m c] w (dW w (lsR bound ls n 0 [])):=by
 obtain⟨j0,bf,ba,a9,a6⟩:=info_parts nM;obtain⟨R,hR⟩:=ii (lsR bound ls n 0 []);rw[<-hR];have ay:Hid (lsR bound ls (n-0) 0 []=R):=hR.symm;have H8:=hid h8;have HM:=hid hm;have av:Hid (Row w w A m 1 (jZ .u8 (ls.drop 0))):=by show Row _ _ _ _ _ _;rw[I7];exact ha
 have au:=hid ae;clear hm h8 ae ha hR;go_enter func119,ntmps119;go_wp2_with fail;go_loopw [2,8,13] (fun bv ov iv wr=>∃ (k at_ mx cx:Nat) (Ax:Option Addr) (G:List (List Nat)) (vals:List Value),k<=n/\iv= .int .i64 k/\bv= .slice Ax mx cx/\mx+at_=m/\mx<=cx/\Hid (Ax=none->mx=0/\cx=0)/\Hid (Row w w Ax mx 1 (jZ .u8 (ls.drop at_)))/\Hid (G.length=k)/\Hid (LsAt wr w ov vals G)/\Hid (Below w w wr)/\Hid (lsR bound ls (n-k) at_ G=R)) (fun _ _ iv _=>n-(intOf iv).toNat)
 case atStart=>exact⟨0,0,m,c,A,[],[],nj,rfl,rfl,nj,hc,au.out,av.out,rfl,LsAt.nil _ _,Ae _ _,ay.out⟩
 case round=>
  obtain⟨k,at_,mx,cx,Ax,G,vals,hk,rfl,rfl,bh,ax,ar,aq,HL,E,HB,HG⟩:=hrel;obtain⟨vo,co,rfl⟩:=bZ E.out.l;have zr:=HB.out.size;clear ay av au;by_cases bg:k<n
  ·have gk:=ic ((k:Int)<n);have bi:=ic (k<n);have hG:=HG.out;rw[show n-k=(n-(k+1))+1 by omega,lsR]at hG;have ai:∀x∈ls.drop at_,x<=255:=fun x hx=>H8.out x (Bz hx);have J:(ls.drop at_).length=mx:=(by rw[AQ,HM.out];omega);have DR:=fE wr Ax mx cx bound (ls.drop at_) J nj ai ax ar.out ((aq.out.below HB.out).mono zr) hb;have aa:=bV (bound:=bound) ai;rw[J]at aa;generalize efR bound (ls.drop at_)=T at *;obtain⟨N,t1,te⟩:=T;simp only at hG aa;unfold NI at DR;simp only at DR;have M:=hid hG;have DR:=hid DR;clear hG HG ai J;go_wp2_with fail;refine DR.out.mono ?_;rintro e w3 ⟨Y,j,Z⟩;have U:Hid (Below w w w3):=HB.out.trans (Y.mono zr);by_cases ht:te=0
   ·subst ht;obtain⟨p,rfl,hp⟩:=Z rfl;have ac:=hid (E.out.step Y);have DL:=hid (Ai0 w3 wr p N hp);have DA:=hid (qE w3 wr p N hp);have hG:=M.out;rw[Aa (show ¬((0:Int)≠0) from fun h=>h rfl)]at hG;obtain⟨L,hL⟩:=ii N.length;rw[<-hL]at DL DA hG;by_cases h0:L=0
    ·have gz:((L:Int)==0)=true:=(by rw[h0];rfl);have HF:Hid (R=([],2)):=(by rw[Ab h0]at hG;exact hG.symm);clear Y j Z hp E HB DR hG M h0 hL DA;go_wp2_with fail;refine DL.out.mono ?_;rintro e w4 ⟨rfl,rfl⟩;go_wp2_with fail;go_ret2;rw[HF.out];exact⟨U.out,_,[],rfl,LsAt.nil _ _⟩
    ·have gz:((L:Int)==0)=false:=pp;rw[Aa h0]at hG;have a3:=hid hG;have a1:=hid hL;have ks:=fun wx=>Gr (P:=prog) (t:=28) (s:=1) underlying28 (fun _=>by kernel_rfl) Ax mx cx .i64 (t1:Int) t1 rfl aa wx;have aj:=ET aq.out aa ax;rw[List.drop_drop]at aj;have a8:Hid (Row w w (AR Ax t1 cx 1) (mx-t1) 1 (jZ .u8 (ls.drop (at_+t1)))):=aj
     have bb:Hid (AR Ax t1 cx 1=none->mx-t1=0/\cx-t1=0):=fun h=>by
      have hA:Ax=none:=by
       unfold AR at h;split at h
       ·exact h
       ·cases Ax with
        |none=>rfl
        |some x=>cases h
      have:=ar.out hA;omega
     have bd:mx-t1+(at_+t1)=m:=nj;have a5:mx-t1<=cx-t1:=nj;generalize AR Ax t1 cx 1=A2 at *;generalize a0:mx-t1=m2 at *;generalize bc:cx-t1=c2 at *;have aw:=U.out.size;clear Y j Z hp E HB DR hG M h0 hL aj a0 bc;go_wp2_with fail;refine DL.out.mono ?_;rintro e w4 ⟨rfl,rfl⟩;go_wp2_with fail;refine DA.out.mono ?_;rintro e w5 ⟨v5,rfl,ak,ah⟩;have Q:=hid (ac.out.step ah);have af:Hid (Below w w w5):=U.out.trans (ah.mono aw);have az:Hid (w5.ownsRow w 3 1 v5 L (dZ .i64 N)):=kZ ak aw;obtain⟨A5,c5,rfl⟩:=bZ ak;have a7:=af.out.size;have ag:Hid (w5.ownsRow w 37 1 (.slice vo G.length co) k vals):=(by have h:=Q.out.l;rw[HL.out]at h ⊢;exact h);clear ak ah DL DA ac U;go_wp2_with(at_builtin;refine iZ rfl (.tmp 30) (.tmp 33) 51 rfl w 37 j0 _ 1 24 underlying51 bf ba a9 a6 rfl ip _ _ _ nm (ag.out.alloc _) _ 1 1 [.slice A5 L c5] nm (Src.of_blk (Blk.made_at _ _ _ rX) 1 1 1 rfl) mp sS nj sj ?_;intro v7 w7 i al am;obtain⟨A7,c7,rfl⟩:=bZ i);have ab:=(Q.out.step (aZ (o:= .cells #[.slice A5 L c5] 37) (Ae w5 w5))).add (by rw[<-a1.out];exact az.out.alloc _) al (by rw[HL.out];exact i);have an:=hid ab;have be:Hid (Below w w w7):=(pZ a7 af.out).grown al sj (fun y hy=>(Aj ag.out y hy).1);clear i al am ab ag az Q af;go_roundw
     case measure=>exact jq
     case rel=>go_light;exact⟨k+1,at_+t1,m2,c2,A2,G++ [N],vals++ [Value.slice A5 L c5],nj,iw,rfl,bd,a5,bb.out,a8.out,rO,an.out,be.out,a3.out⟩
   ·have he:=j ht;subst he;have gE:(te != 0)=true:=(by simpa using ht);have HF:Hid (R=([],te)):=(by have h:=M.out;rw[Ab ht]at h;exact h.symm);clear Y j Z ht M E HB DR;go_wp2_with fail;go_ret2;rw[HF.out];exact⟨U.out,_,[],rfl,LsAt.nil _ _⟩
  ·obtain rfl:k=n:=by omega
   have gk:=ig ((k:Int)<k);have hG:=HG.out;rw[G0,lsR]at hG;by_cases z:at_<ls.length
   ·rw[Ab z]at hG;have g0:decide ((0:Int)<(mx:Int))=true:=lx;have a4:decide (0<mx)=true:=lx;have HF:=hid hG.symm;clear hG HG z;go_wp2_with fail;go_ret2;rw[HF.out];exact⟨HB.out,_,[],rfl,LsAt.nil _ _⟩
   ·rw[Aa z]at hG;have g0:decide ((0:Int)<(mx:Int))=false:=lx;have a4:decide (0<mx)=false:=lx;have HF:=hid hG.symm;clear hG HG z;go_wp2_with fail;go_ret2;rw[HF.out];exact⟨HB.out,_,vals,rfl,E.out⟩
def CA:List Nat->List Nat->List (List Nat)
 | [],_=> []
 |n :: S,ls=>ls.take n :: CA S (ls.drop n)
theorem K0:∀ (S ls:List Nat),(CA S ls).length=S.length
 | [],_=>rfl
 |n :: S,ls=>by rw[CA,AD,AD,K0 S]
theorem WZ:∀ (S:List Nat) (n:Nat) (ls:List Nat),CA (S++ [n]) ls=CA S ls++ [(ls.drop S.sum).take n]
 | [],n,ls=>by simp[CA]
 |m :: S,n,ls=>by rw[Ez,CA,WZ S n,CA,List.drop_drop,GC];rfl
theorem YB{S:List Nat}{i n:Nat}(ls:List Nat)(h:S[i]? =some n):CA (S.take (i+1)) ls=CA (S.take i) ls++ [(ls.drop (S.take i).sum).take n]:=by rw[Cw,h];exact WZ _ _ _
structure FrAt (w:World) (base:Nat) (vF:Value) (vals:List Value) (F:List (List Nat)):Prop where
 l:w.ownsRow base 28 1 vF F.length vals
 r:∀ (i:Nat) v b,vals[i]? =some v->F[i]? =some b->w.ownsRow base 5 1 v b.length (dZ .u8 b)
theorem FrAt.step(h:FrAt w base vF vals F)(hb:Below w w w'):FrAt w' base vF vals F:=
 ⟨eZ h.l fun y hy=>hb.block y (Aj h.l y hy).2,fun i v b hv hi=>eZ (h.r i v b hv hi) fun y hy=>hb.block y (Aj (h.r i v b hv hi) y hy).2⟩
theorem FrAt.nil(w:World)(base:Nat):FrAt w base (.slice none 0 0) [] []:=⟨AI _ _ _ _,fun i v b h=>rY⟩
theorem FrAt.set{t:TypeId}{cs:Array Value}(h:FrAt w base vF vals F)(j:Blk w b t cs)(h1:28≠t)(h2:5≠t)(k:Nat)(u:Value):FrAt (w.setCell ⟨b,k,none⟩ u) base vF vals F:=
 ⟨BK h.l (gZ h.l j h1) _,fun i v ids hv hi=>BK (h.r i v ids hv hi) (gZ (h.r i v ids hv hi) j h2) _⟩
theorem FrAt.mono{j:Nat}(h:FrAt w base vF vals F)(hb:j<=base):FrAt w j vF vals F:=
 ⟨kZ h.l hb,fun i v b hv hi=>kZ (h.r i v b hv hi) hb⟩
theorem FrAt.add{b:List Nat}(h:FrAt w base vF vals F)(hu:w.ownsRow base 5 1 u b.length (dZ .u8 b))(hg:w.grownBy w5 vF.ownBlock)(j:w5.ownsRow base 28 1 v5 (F.length+1) (vals++ [u])):FrAt w5 base v5 (vals++ [u]) (F++ [b]):=by
 have far:∀ {n:Nat} {v:Value} {xs:List Value},w.ownsRow base 5 1 v n xs->w5.ownsRow base 5 1 v n xs:=fun hv=>Ag8 hv h.l ip hg;have y:vals.length=F.length:=by have:=h.l.1;omega
 refine⟨by rw[Ag];exact j,fun i v is hv hi=> ?_⟩;by_cases z:i<F.length
 ·rw[Ic nj]at hv;rw[Ic z]at hi;exact far (h.r i v is hv hi)
 ·rw[JC nj]at hv;rw[JC nj]at hi;have h0:i-F.length=0:=by have:=(CQ.1 hi).1;simp at this;omega
  rw[y,h0]at hv;rw[h0]at hi;simp at hv hi;subst hv hi;exact far hu
theorem mT:(prog.info? 28).map (fun i=>(i.zero,i.size,i.bytes))=some (some (.slice none 0 0),1,24):=my
structure SpI (w wr:World) (gb:Nat) (t:TypeId) (pre post:List Value) (vF:Value) (vals:List Value) (F:List (List Nat)):Prop where
 blk:Blk wr gb t (pre++vF :: post).toArray
 fr:FrAt wr w vF vals F
 kept:Kept (fun x=>x<w.heap.size/\x≠gb) w wr
 lt:gb<w.heap.size
 t1:28≠t
 t2:5≠t
section
variable {w wr w1 w2 w3:World} {gb:Nat} {t:TypeId} {pre post:List Value} {vF v3 u:Value} {vals:List Value} {F:List (List Nat)} {b:List Nat}
theorem SpI.step(h:SpI w wr gb t pre post vF vals F)(hb:Below wr wr w1):SpI w w1 gb t pre post vF vals F:=
 have hz:=h.kept.size
 ⟨h.blk.step hb,h.fr.step hb,h.kept.trans (Kept.of_below hb (fun x hx=>by have:=hx.1;omega)),h.lt,h.t1,h.t2⟩
theorem SpI.cell(h:SpI w wr gb t pre post vF vals F):wr.cell? ⟨gb,pre.length,none⟩=some vF:=by rw[h.blk.cell pre.length];simp
theorem SpI.add(h:SpI w wr gb t pre post vF vals F)(hu:wr.ownsRow w 5 1 u b.length (dZ .u8 b))(hb:Below wr wr w1)(hg:w1.grownBy w3 vF.ownBlock)(i:w3.ownsRow w 28 1 v3 (F.length+1) (vals++ [u])):
 SpI w (w3.setCell ⟨gb,pre.length,none⟩ v3) gb t pre post v3 (vals++ [u]) (F++ [b]):=by
 have h1:=h.step hb;have b3:=h1.blk.grown hg (Ba (gZ h1.fr.l h1.blk h.t1));have j:w1.ownsRow w 5 1 u b.length (dZ .u8 b):=eZ hu (fun y hy=>hb.block y (Aj hu y hy).2);have f3:=h1.fr.add j hg i;have hz:=h1.kept.size;refine⟨?_,f3.set b3 h.t1 h.t2 _ _,?_,h.lt,h.t1,h.t2⟩
 ·have hx:=b3.set pre.length v3;rw[Oi,List.set_append_right _ _ (Ak _),G0]at hx;exact hx
 ·exact(h1.kept.grown hg (fun y hy=>by have:=hy.1;omega) (fun y hy hk=>by have:=(Aj h1.fr.l y hy).1;have:=hk.1;omega)).set (fun hk=>hk.2 rfl) _
end
theorem l6{A:Option Addr}{m c k:Nat}(i:A=none->m=0/\c=0):AR A k c 1=none->m-k=0/\c-k=0:=fun h=>by
 have hA:A=none:=by
  exact a2e
 have:=i hA;omega
def ON(w:World)(base gb p:Nat)(t:TypeId)(pre post:List Value)(S ls:List Nat)(e:Ending)(w':World):Prop:=
 ∃ (A2 A3:Option Addr) (c2 c3:Nat) (vF:Value) (vals:List Value),e= .returned (.tuple #[.slice A2 p c2, .slice A3 (ls.length-S.sum-p) c3])/\
  p<=c2/\ls.length-S.sum-p<=c3/\Row w base A2 p 1 (jZ .u8 ((ls.drop S.sum).take p))/\Row w base A3 (ls.length-S.sum-p) 1 (jZ .u8 (ls.drop (S.sum+p)))/\
  SpI w w' gb t pre post vF vals (CA S ls)
theorem bI(w:World)(gb base bs p q:Nat)(t:TypeId)(x0 x4 x5 x6 x7:Value)(post:List Value)(As A:Option Addr)(ns cs n c:Nat)(S ls:List Nat)(hB:Blk w gb t (x0 :: .slice As ns cs :: .int .i64 (p:Nat) :: .int .i64 (q:Nat) :: x4 :: x5 :: x6 :: x7 :: .slice none 0 0 :: post).toArray)
 (bC:3≠t)(ar:28≠t)(b0:5≠t)(hS:S.length=ns)(b3:ns<=100000)(G:w.ownsRow bs 3 1 (.slice As ns cs) ns (dZ .i64 S))(hn:ls.length=n)(ce:n<=100000)(hc:n<=c)(h8:∀x∈ls,x<=255)(b1:S.sum+p<=n)
 (ha:Row w base A n 1 (jZ .u8 ls))(bc:base<=gb)(aa:A=none->n=0/\c=0):
 Calls prog 58 #[.pointer (some ⟨gb,0,none⟩), .slice A n c] w (ON w base gb p t [x0, .slice As ns cs, .int .i64 (p:Nat), .int .i64 (q:Nat),x4,x5,x6,x7] post S ls):=by
 obtain⟨j0,bS,bp,bm,bi⟩:=info_parts mT;have bd:=hB.lt;have Z:Hid (SpI w w gb t [x0, .slice As ns cs, .int .i64 (p:Nat), .int .i64 (q:Nat),x4,x5,x6,x7] post (.slice none 0 0) [] []):=⟨hB,FrAt.nil _ _,Kept.refl _ _,bd,ar,b0⟩;have c1:=hB.ia 1;have bf:Hid (∀k x,S[k]? =some x->(S.take (k+1)).sum=(S.take k).sum+x/\(S.take (k+1)).sum+p<=n):=fun k x h=>by have h1:=Wi h;have h2:=LY S (k+1);exact⟨h1,nj⟩
 have HS:=hid hS;have al:=hid G;have HN:=hid hn;have H8:=hid h8;have cd:=hid hB;have au:Hid (Row w base A n 1 (jZ .u8 (ls.drop 0))):=by show Row _ _ _ _ _ _;rw[I7];exact ha
 have aq:=hid aa;have bN:=hid (gZ G hB bC);clear hB hS G hn h8 ha aa;go_enter func58,ntmps58;go_wp2_with fail;go_loopw [1,14] (fun bv iv wr=>∃ (k mx cx j:Nat) (Ax:Option Addr) (vF:Value) (vals:List Value),k<=ns/\iv= .int .i64 k/\bv= .slice Ax mx cx/\mx+j=n/\mx<=cx/\Hid (j=(S.take k).sum)/\Hid (Row w base Ax mx 1 (jZ .u8 (ls.drop j)))/\Hid (Ax=none->mx=0/\cx=0)/\Hid (SpI w wr gb t [x0, .slice As ns cs, .int .i64 (p:Nat), .int .i64 (q:Nat),x4,x5,x6,x7] post vF vals (CA (S.take k) ls))) (fun _ iv _=>ns-(intOf iv).toNat)
 case atStart=>exact⟨0,n,c,0,A,_,[],nj,rfl,rfl,nj,hc,rfl,au.out,aq.out,Z.out⟩
 case round=>
  obtain⟨k,mx,cx,j,Ax,vF,vals,hk,rfl,rfl,ca,ax,J,N,am,HI⟩:=hrel;have zr:=HI.out.kept.size;clear Z au aq;by_cases a4:k<ns
  ·have gk:=ic ((k:Int)<ns);have cc:=ic (k<ns);obtain⟨x,hx⟩:∃x,S[k]? =some x:=⟨_,Az (by rw[HS.out];exact a4)⟩;obtain⟨ah,bh⟩:=bf.out k x hx;rw[<-J.out]at ah;have b6:x+p<=mx:=nj;have G:wr.ownsRow bs 3 1 (.slice As ns cs) ns (dZ .i64 S):=eZ al.out (fun y hy=>HI.out.kept.block y ⟨(Aj al.out y hy).2,fun e=>bN.out (e ▸ hy)⟩);obtain⟨gv,cv,a5,b7,_⟩:=G.form nj;injection a5 with q1 q2 q3;subst q1 q3;clear q2;have ck:wr.cell? ⟨gv,k,none⟩=some (.int .i64 (x:Nat)):=(by rw[G.cellAt k nj];unfold dZ;rw[Co,hx];rfl);have b9:(0:Int)<=(k:Int):=nj;have b8:(k:Int)<(ns:Int):=nj;have an:Row wr base Ax mx 1 (jZ .u8 (ls.drop j)):=N.out.keep fun a ha=>World.cell?_of_block (a:=a) (HI.out.kept.block a.block ⟨by have:=HI.out.lt;omega,nj⟩);have a0:Hid ((ls.drop j).length=mx):=(by show _=_;rw[AQ,HN.out];omega);have bO:Hid ((ls.drop j).take x=(ls.drop (S.take k).sum).take x):=(by rw[J.out];rfl);have bl:=hid (YB ls hx);obtain⟨pc,ak⟩:=ii ((ls.drop j).take x);have ae:pc.length=x:=(by rw[ak,AY,a0.out];omega);have DC:=hid (fun wx (hb:Below wr wr wx)=>IS wx Ax x cx pc ae nj (fun h=>by have:=am.out h;omega) (((ak ▸ Fj an (by omega:x<=mx):Row wr base Ax x 1 (jZ .u8 pc)).mono (by have:=HI.out.lt;omega)).below hb |>.mono hb.size));have bq:=fun wx=>EG (P:=prog) (t:=28) (s:=1) underlying28 (fun _=>by kernel_rfl) Ax mx cx .i64 (x:Int) x rfl nj (fun a _=>rfl) wx;have ba:=fun wx=>Gr (P:=prog) (t:=28) (s:=1) underlying28 (fun _=>by kernel_rfl) Ax mx cx .i64 (x:Int) x rfl nj wx;have bk:Hid (Row w base (AR Ax x cx 1) (mx-x) 1 (jZ .u8 (ls.drop (j+x)))):=(by have h:=ET N.out (by omega:x<=mx) ax;rw[List.drop_drop]at h;exact h);have aw:=hid (l6 (k:=x) am.out);have bx:mx-x+(j+x)=n:=nj;have bb:mx-x<=cx-x:=nj;have ac:Hid (j+x=(S.take (k+1)).sum):=ah.symm;have a8:=hid ae;have c8:=HI.out.cell;have f8:=HI.out.blk.frozen 8;simp only[List.length_cons,List.length_nil,Nat.zero_add,Nat.reduceAdd]at c8;obtain⟨fl,U⟩:=ii ((CA (S.take k) ls).length);have ay:fl=k:=(by rw[U,K0,AY,HS.out];omega);subst ay;have Y:=HI.out.fr.l;rw[<-U]at Y;obtain⟨Af,cf,rfl⟩:=bZ Y;have Q:=hid Y;have a9:=hid U;generalize AR Ax x cx 1=A2 at *;generalize a3:mx-x=m2 at *;generalize bt:cx-x=c2 at *;clear G an ae hx ah bh a3 bt Y U;go_upto_region 4 with fail;go_region_law(first|(go_simp;go_at_call 100;(with_reducible refine(DC.out _ sT).mono ?_);rintro e w4 ⟨v4,rfl,ag,av⟩;obtain⟨A4,c4,rfl⟩:=bZ ag;have z:Below wr wr w4:=cZ av sT;have q8:=(HI.out.step z).cell;simp only[List.length_cons,List.length_nil,Nat.zero_add,Nat.reduceAdd]at q8;have ab:Hid (w4.ownsRow w 28 1 (.slice Af fl cf) fl vals):=eZ Q.out (fun y hy=>z.block y (Aj Q.out y hy).2);have b4:=z.size;have q9:=((HI.out.step z).step (aZ (o:= .cells #[.slice A4 x c4] 28) (Ae w4 w4))).cell;simp only[List.length_cons,List.length_nil,Nat.zero_add,Nat.reduceAdd]at q9)|(refine Nv rfl (.tmp 22) (.tmp 27) 59 rfl w 28 j0 _ 1 24 underlying59 bS bp bm bi rfl ip (.slice Af fl cf) fl vals nm (by first|exact ab.out.alloc _|exact(ab.out.alloc _).drew) _ 1 1 [.slice A4 x c4] nm (Src.of_blk (Blk.made_at _ _ _ rX) 1 1 1 rfl) mp sS nj sj ?_;intro A5 c5 w5 M aj;have b5:=((HI.out.step z).blk.alloc (.cells #[.slice A4 x c4] 28)).grown aj (Ba (gZ Q.out HI.out.blk ar));have r8:=b5.cell 8;have s8:=b5.frozen 8;simp only[List.cons_append,List.nil_append,List.getElem?_toArray,List.getElem?_cons_zero,List.getElem?_cons_succ]at r8))
   all_goals
    have az:SpI w (w5.setCell ⟨gb,8,none⟩ (.slice A5 (fl+1) c5)) gb t [x0, .slice (some ⟨gv,0,none⟩) ns cs, .int .i64 (p:Nat), .int .i64 (q:Nat),x4,x5,x6,x7] post (.slice A5 (fl+1) c5) (vals++ [.slice A4 x c4]) (CA (S.take fl) ls++ [pc]):=(HI.out.step z).add (kZ (by rw[a8.out];exact ag) (by simpa using zr)) (aZ (o:= .cells #[.slice A4 x c4] 28) (Ae w4 w4)) aj (by rw[<-a9.out];exact M);have bu:Hid (SpI w (w5.setCell ⟨gb,8,none⟩ (.slice A5 (fl+1) c5)) gb t [x0, .slice (some ⟨gv,0,none⟩) ns cs, .int .i64 (p:Nat), .int .i64 (q:Nat),x4,x5,x6,x7] post (.slice A5 (fl+1) c5) (vals++ [.slice A4 x c4]) (CA (S.take (fl+1)) ls)):=(by show SpI _ _ _ _ _ _ _ _ _;rw[bl.out,<-bO.out,<-ak];exact az);clear az M aj b5 r8 s8 q8 q9 ag av z ab HI c8 f8 DC Q;generalize w5.setCell ⟨gb,8,none⟩ (.slice A5 (fl+1) c5)=w6 at *;go_wp2_with fail;go_roundw
    case measure=>exact jq
    case rel=>go_light;exact⟨fl+1,m2,c2,j+x,A2,Value.slice A5 (fl+1) c5,vals++ [Value.slice A4 x c4],nj,iw,rfl,bx,bb,ac.out,bk.out,aw.out,bu.out⟩
  ·obtain rfl:k=ns:=by omega
   have gk:=ig ((k:Int)<k);have af:S.take k=S:=Cf (by rw[HS.out];exact Ak _);have L:=J.out;rw[af]at L;have a7:=HI.out.blk.cell 2;simp only[List.cons_append,List.nil_append,List.getElem?_toArray,List.getElem?_cons_zero,List.getElem?_cons_succ]at a7;have ai:p<=mx:=nj;have bq:=fun wx=>EG (P:=prog) (t:=28) (s:=1) underlying28 (fun _=>by kernel_rfl) Ax mx cx .i64 (p:Int) p rfl nj (fun a _=>rfl) wx;have ba:=fun wx=>Gr (P:=prog) (t:=28) (s:=1) underlying28 (fun _=>by kernel_rfl) Ax mx cx .i64 (p:Int) p rfl ai wx;have bg:Hid (Row w base Ax p 1 (jZ .u8 ((ls.drop S.sum).take p))):=(by rw[<-L];exact Fj N.out ai);have a6:Hid (Row w base (AR Ax p cx 1) (mx-p) 1 (jZ .u8 (ls.drop (S.sum+p)))):=(by have h:=ET N.out ai ax;rw[List.drop_drop,L]at h;exact h);have a1:ls.length-S.sum-p=mx-p:=pz;have bn:=hid a1;have E:Hid (SpI w wr gb t [x0, .slice As k cs, .int .i64 (p:Nat), .int .i64 (q:Nat),x4,x5,x6,x7] post vF vals (CA S ls)):=(by have h:=HI.out;rw[af]at h;exact h);have be:p<=cx:=nj;have bj:mx-p<=cx-p:=nj;generalize AR Ax p cx 1=A3 at *;generalize mx-p=m3 at *;generalize cx-p=c3 at *;clear HI af L a1 J;go_wp2_with fail;go_quiet (fail);go_wp2_with fail;go_ret2;unfold ON;rw[bn.out];exact⟨Ax,A3,cx,c3,vF,vals,rfl,be,bj,bg.out,a6.out,⟨E.out.blk,⟨eZ E.out.fr.l (fun y _=>rfl),fun i v b hv hi=>eZ (E.out.fr.r i v b hv hi) (fun y _=>rfl)⟩,E.out.kept.drewN _,E.out.lt,E.out.t1,E.out.t2⟩⟩
theorem Tr{n size:Nat}{ls:List Nat}(h8:∀x∈ls,x<=255):∀ (f at_ x:Nat) (i:List Nat),at_<=ls.length->(szR n size ls f at_ x i).2.1<=ls.length
 |0,_,_,_,h=>h
 |f+1,at_,x,i,h=>by
  unfold szR;split
  ·exact h
  ·split
   ·exact Ag7 h8 0 h
   ·exact Tr h8 f _ _ _ (Ag7 h8 0 h)
theorem SY{size:Nat}{ls:List Nat}:∀ (ks:List Nat) (r at_:Nat) (i:List Str),at_<=ls.length->(bkR size ls ks r at_ i).2.1<=ls.length
 | [],_,_,_,h=>h
 |k :: ks,r,at_,i,h=>by
  unfold bkR;split
  ·exact Bf _
  ·split
   ·exact Bf _
   ·exact SY ks _ _ _ (Il ls at_ 0 k h)
theorem RX{size:Nat}{ls:List Nat}:∀ (ks:List Nat) (r at_:Nat) (i:List Str),(bkR size ls ks r at_ i).1.length<=i.length+r
 | [],_,_,_=>Nat.le_add_right _ _
 |k :: ks,r,at_,i=>by
  unfold bkR;split
  ·exact Bf _
  ·split
   ·exact Bf _
   ·rename_i h;have h1:=Mo (Bj ls at_ 0 k) (min size r) true 0 i (G1 h);have h2:=RX (size:=size) (ls:=ls) ks (r-size) (takeA ls at_ 0 k) (Dp (Bj ls at_ 0 k) (min size r) true 0 i).1;omega
theorem Pm{size:Nat}{ls:List Nat}(h8:∀x∈ls,x<=255):(FH size ls).2.1<=ls.length/\(FH size ls).1.length<=1048576:=by
 have hv:AV 1048576 ls 0 0<=1048576:=zY h8 0 0;have ha:uZ 1048576 ls 0 0<=ls.length:=Ag7 h8 0 nj
 have hs:(Hc size ls).2.1<=ls.length:=by
  unfold Hc;split
  ·exact ha
  ·exact Tr h8 _ _ _ _ ha
 unfold FH;split
 ·exact⟨Bf _,Bf _⟩
 ·have:=RX (size:=size) (ls:=ls) (Hc size ls).1 (AV 1048576 ls 0 0) (Hc size ls).2.1 [];exact⟨SY _ _ _ _ hs,by simp only[List.length_nil]at this;omega⟩
def ixF(ts:List Str)(L:List (List Nat)×Int):(List Str×List (List Nat))×Int:=if L.2≠0 then(([],[]),L.2)else((ts,L.1),0)
def Ah5(size bound:Nat)(ls:List Nat):(List Str×List (List Nat))×Int:=
 if(FH size ls).2.2≠0 then(([],[]),(FH size ls).2.2)else ixF (FH size ls).1 (lsR bound (ls.drop (FH size ls).2.1) (FH size ls).1.length 0 [])
def OK(w:World)(R:(List Str×List (List Nat))×Int)(e:Ending)(w':World):Prop:=
 ∃vT vL vals,e= .returned (.tuple #[.agg #[vT,vL],R.2])/\IxAt w' w vT vL vals R.1.1 R.1.2/\Below w w w'
theorem UC(w:World)(base:Nat):IxAt w base (.slice none 0 0) (.slice none 0 0) [] [] []:=⟨AI _ _ _ _,AI _ _ _ _,fun i v ids h=>rY⟩
theorem IxAt.set{vT:Value}{ts:List Str}{ls:List (List Nat)}{cs:Array Value}(h:IxAt w base vT vL vals ts ls)(j:Blk w b 53 cs)(k:Nat)(u:Value):IxAt (w.setCell ⟨b,k,none⟩ u) base vT vL vals ts ls:=
 ⟨BK h.t (gZ h.t j ip) _,BK h.l (gZ h.l j ip) _,fun i v ids hv hi=>BK (h.r i v ids hv hi) (gZ (h.r i v ids hv hi) j ip) _⟩
theorem a2k{p:Prop}(h:p:=by have e0:=j.cell 0;have e1:=j.cell 1;simp at e0 e1;simp[results,results61,go_sem,e0,e1]):p:=h
theorem RN(w:World)(A:Option Addr)(m c size bound:Nat)(ls:List Nat)(hm:ls.length=m)(a3:m<=100000)(h8:∀x∈ls,x<=255)(hc:m<=c)(U:A=none->m=0/\c=0)(ha:Row w w A m 1 (jZ .u8 ls))(a1:1<=size)(az:size<=64)(hb:bound<=20000):
 Calls prog 61 #[.int .i64 (size:Nat), .int .i64 (bound:Nat), .slice A m c] w (OK w (Ah5 size bound ls)):=by
 have av:Hid (∀wx,Below w w wx->Row wx wx A m 1 (jZ .u8 ls)):=fun wx h=>(ha.below h).mono h.size;have D0:=hid (fun wx (h:Below w w wx)=>XU wx A m c size ls hm a3 h8 U (av.out wx h) a1 az);have a5:=ig ((bound:Int)<0)
 have a6:=ig ((20000:Int)<bound)
 have ax:=ig (20000<bound)
 obtain⟨R,hR⟩:=ii (Ah5 size bound ls);rw[<-hR];unfold Ah5 at hR;obtain⟨af,a4⟩:=Pm (size:=size) h8;generalize FH size ls=T at *;obtain⟨ts,t1,te⟩:=T;simp only at hR af a4;rw[hm]at af;have ag:=ET (hm ▸ ha:Row w w A ls.length 1 (jZ .u8 ls)) (by omega:t1<=ls.length) (by omega:ls.length<=c);rw[hm]at ag
 have aq:AR A t1 c 1=none->m-t1=0/\c-t1=0:=fun h=>by
  have hA:A=none:=by
   exact a2e
  have:=U hA;omega
 have ah:=hid (fun wx (hbx:Below w w wx)=>cU wx (AR A t1 c 1) (m-t1) (c-t1) ts.length bound (ls.drop t1) (by rw[AQ,hm]) nj (fun x hx=>h8 x (Bz hx)) nj aq ((ag.below hbx).mono hbx.size) hb nj);have ks:=fun wx=>Gr (P:=prog) (t:=28) (s:=1) underlying28 (fun _=>by kernel_rfl) A m c .i64 (t1:Int) t1 rfl af wx;generalize lsR bound (ls.drop t1) ts.length 0 []=L at *;generalize AR A t1 c 1=A2 at *;obtain⟨lv,le⟩:=L;have HR:=hid hR;unfold OK;clear hR ag aq ha h8 U hm av;go_enter func61,ntmps61;go_wp2_with fail;have ai:Below w w (w.alloc (.cells #[(),()] 53)):=aZ (Ae _ _);have aw:Blk (w.alloc (.cells #[(),()] 53)) w 53 #[(),()]:=Blk.made _ _ _;have a7:(w.alloc (.cells #[(),()] 53)).heap.size=w.heap.size+1:=rX
 have D1:=hid (D0.out _ ai);generalize w.alloc (.cells #[(),()] 53)=w1 at *;have al:=hid ai;have ak:=hid aw;clear ai aw D0;refine D1.out.mono ?_;rintro e w2 ⟨N,M,ae⟩;have Y:Hid (Below w w w2):=al.out.trans (N.mono nj);have G:=hid (ak.out.step N);have z2:=N.size;have k0:=G.out.ia 0;have k1:=G.out.ia 1;have f0:=G.out.frozen 0;have f1:=G.out.frozen 1;by_cases ht:te=0
 ·subst ht;obtain⟨gd,sz,hs,vT,vH,rfl,hD⟩:=ae rfl;have HD:=hid hD;have hr:=HR.out;rw[Aa (show ¬((0:Int)≠0) from fun h=>h rfl)]at hr;have am:=hid hr;have au:=hid (fun wx (hb:Below w2 w2 wx)=>pG wx w1 gd sz ts hs vT vH (hD.keep (fun y _ hy=>hb.block y hy)));have aa:=hid (fun wx (hb:Below w2 w2 wx)=>ah.out wx (Y.out.trans (hb.mono nj)));clear N M ae hD hr HR D1 al ak ah;go_wp2_with fail;go_region_held3 (fun _=>True) (trivial) (first|(go_at_call 120;(with_reducible refine(au.out _ sT).mono ?_);rintro e wA ⟨rfl,rfl⟩)|(go_at_call 119;(with_reducible refine(aa.out _ sT).mono ?_);rintro e wB ⟨ar,vB,vals,rfl,ab⟩;have BB:Below w2 w2 wB:=(by have hq:=ar;exact cZ hq sT)))
  all_goals
   have ac:Hid (Below w w wB):=Y.out.trans (BB.mono nj);have z:=hid (G.out.step BB);have zB:=BB.size;have Z:Hid (LsAt wB w2 vB vals lv):=ab;have an:Hid (DAt wB w1 gd sz ts hs vT vH):=HD.out.keep (fun y _ hy=>BB.block y hy);obtain⟨Av,cv,rfl⟩:=bZ Z.out.l;have p0:=z.out.ia 0;have p1:=z.out.ia 1;have r0:=z.out.frozen 0;have r1:=z.out.frozen 1;clear ar ab BB au aa HD G Y k0 k1 f0 f1;by_cases J:le=0
   ·subst J;have HF:Hid (R=((ts,lv),0)):=(by show _=_;rw[am.out];exact Aa (fun h=>h rfl));have DA:=hid (oJ wB w1 gd sz ts hs vT vH an.out nj);go_wp2_with fail;refine DA.out.mono ?_;rintro e w6 ⟨vt,rfl,aj,Q⟩;obtain⟨At,ct,rfl⟩:=bZ aj;have E:=hid (z.out.step Q);have ay:Hid (IxAt w6 w (.slice At ts.length ct) (.slice Av lv.length cv) vals ts lv):=⟨kZ aj nj,kZ (Z.out.step Q).l nj,fun i v ids hv hi=>kZ ((Z.out.step Q).r i v ids hv hi) nj⟩;have a0:Hid (Below w w w6):=ac.out.trans (Q.mono nj);have q0:=E.out.ia 0;have q1:=E.out.ia 1;have s0:=E.out.frozen 0;have s1:=E.out.frozen 1;clear aj Q DA z Z an ac p0 p1 r0 r1;go_wp2_with fail;rw[HF.out];refine Bx (v:= .tuple #[.agg #[.slice At ts.length ct, .slice Av lv.length cv],ij]) ?_ rfl ⟨_,_,vals,rfl,?_,?_⟩
    ·have j:=(E.out.set 0 (.slice At ts.length ct)).set 1 (.slice Av lv.length cv);exact a2k
    ·exact(ay.out.set E.out 0 _).set (E.out.set 0 _) 1 _
    ·exact BS (Ak _) (BS (Ak _) a0.out)
   ·have gE:(le != 0)=true:=(by simpa using J);have HF:Hid (R=(([],[]),le)):=(by show _=_;rw[am.out];exact Ab J);clear J;go_wp2_with fail;rw[HF.out];refine Bx (v:= .tuple #[.agg #[(),()],le]) ?_ rfl ⟨_,_,[],rfl,UC _ _,?_⟩
    ·have j:=(z.out.set 0 (.slice none 0 0)).set 1 (.slice none 0 0);exact a2k
    ·exact BS (Ak _) (BS (Ak _) ac.out)
 ·have he:=M ht;subst he;have gE:(te != 0)=true:=by simpa using ht
  have HF:Hid (R=(([],[]),te)):=by have h:=HR.out;rw[Ab ht]at h;exact h
  clear N M ae ht HR D1 al ak ah;go_wp2_with fail;rw[HF.out];refine Bx (v:= .tuple #[.agg #[(),()],te]) ?_ rfl ⟨_,_,[],rfl,UC _ _,?_⟩
  ·have j:=(G.out.set 0 (.slice none 0 0)).set 1 (.slice none 0 0);exact a2k
  ·exact BS (Ak _) (BS (Ak _) Y.out)
end Go.Proofs.YtfgdoknipbpfhaaGreatDoor
