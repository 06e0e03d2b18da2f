/- The walk of ef.row:  -/
import Derived.Test.YtbgoibedicbkjaaGreatDoorZBodyLogs22
namespace Go.Proofs.YtbgoibedicbkjaaGreatDoor
open Go.Lib (hid)
namespace Ef
open Go.RowKit Mem Own Canon Huff NumPut
theorem Prt.keep{t:TypeId}{w w':World}{base g W:Nat}{hs ls:List Nat}{vH vL:Value}(h:Prt t w base g W hs ls vH vL)(hk:∀y,base<=y->y<w.heap.size->w'.heap[y]? =w.heap[y]?):Prt t w' base g W hs ls vH vL:=
 ⟨(hk g h.gb h.blk.lt).trans h.blk,dZ h.oh (fun y hy=>hk y (Ae h.oh y hy).1 (Ae h.oh y hy).2),dZ h.ol (fun y hy=>hk y (Ae h.ol y hy).1 (Ae h.ol y hy).2),h.gb⟩
theorem Prt.mono{t:TypeId}{w:World}{base i g W:Nat}{hs ls:List Nat}{vH vL:Value}(h:Prt t w base g W hs ls vH vL)(hb:i<=base):Prt t w i g W hs ls vH vL:=
 ⟨h.blk,jZ h.oh hb,jZ h.ol hb,AV hb h.gb⟩
def ListAt(w:World)(base:Nat)(p:Value)(ids:List Nat):Prop:=
 ∃g W vH vL,p= .pointer (some ⟨g,0,none⟩)/\W<=14/\ids.length<=20000/\(∀x∈ids,x<=20000)/\Prt 286 w base g W (ids.map (·/ 2 ^ W)) (ids.map (·% 2 ^ W)) vH vL
def Lg(w:World)(R:List Nat×Nat×Int)(e:Ending)(w':World):Prop:=
 Below w.heap.size w w'/\(R.2.2≠0->e= .returned (.tuple #[.pointer none, .int .i64 0, .int .i64 R.2.2]))/\(R.2.2=0->∃p,e= .returned (.tuple #[p, .int .i64 (R.2.1:Nat), .int .i64 0])/\ListAt w' w.heap.size p R.1)
theorem Ii{w w':World}{R:List Nat×Nat×Int}{er:Int}(hR:R=([],0,er))(he:er≠0)(hb:Below w.heap.size w w'):Lg w R (.returned (.tuple #[.pointer none, .int .i64 0, .int .i64 er])) w':=by subst hR;exact⟨hb,fun _=>rfl,fun h=>absurd h he⟩
theorem Q1{bound n:Nat}(hb:bound<=20000):efW bound n<=14:=by
 unfold efW;by_cases h0:bound / n=0
 ·rw[h0];decide
 ·have h2:bound / n<=20000:=AV (GQ _ _) hb;have h3:=Kq h0;by_cases h:Nat.log2 (bound / n)<=14
  ·exact h
  ·exfalso;have:2 ^ 15<=2 ^ Nat.log2 (bound / n):=Bu (by omega) (by omega);omega
theorem XZ{z at_:Nat}(hz:z % 8=0)(h:at_<=z):(z-at_) % 8=EK at_:=by unfold EK;omega
theorem QP(a b:Nat)(ha:a<2 ^ 40)(hb:b<2 ^ 40):bits .or .i64 (a:Int) (b:Int)=((a |||b:Nat):Int):=
 (bits_nat .i64 40 (by decide) (fun n h0 h1=>Ak _ (by omega)) a b ha hb).2
def Iw(acc:List Nat):Int:=if acc= []then-1 else((acc.getLast?.getD 0:Nat):Int)
theorem O0{i:List Nat}{id:Nat}:(id:Int)<=Iw i↔(i≠ []/\id<=i.getLast?.getD 0):=by
 unfold Iw;by_cases h:i= []
 ·rw[Ab h];constructor
  ·intro h2;omega
  ·intro h2;exact absurd h h2.1
 ·rw[Aa h];constructor
  ·intro h2;exact⟨h,by omega⟩
  ·intro h2;omega
theorem Tc(h:List Nat)(id:Nat):Iw (h++ [id])=(id:Int):=by unfold Iw;rw[Aa (by simp)];simp
set_option maxHeartbeats 4000000 in
set_option maxRecDepth 100000 in
theorem XM(w:World)(A:Option Addr)(m c bound n:Nat)(ls:List Nat)(hm:ls.length=m)(bq:m<=100000)(h8:∀x∈ls,x<=255)(aA:A=none->m=0/\c=0)(ha:Row w w.heap.size A m 1 (iZ .u8 ls))(h1:1<=n)(h2:n<=bound)(hb:bound<=20000):
 Calls Tryz.prog 208 #[.int .i64 (bound:Nat), .int .i64 (n:Nat), .slice A m c] w (Lg w (Fx bound n (AZ ls))):=by
 have D0:=hid (O6 w A m c ls hm bq h8 aA ha);have DW:=hid (fun wx=>V3 wx bound n h1 h2 (by omega));have hW:=Q1 (n:=n) hb;have aY:(AZ ls).length=8*m:=by rw[CX,hm]
 have bO:Hid (n*efW bound n<=280000):=AV (Gq (by omega:n<=20000) hW) (by decide);obtain⟨R,hR⟩:∃R,R=Fx bound n (AZ ls):=⟨_,rfl⟩;rw[<-hR];unfold Fx at hR;generalize efW bound n=W at *;generalize AZ ls=bs at *;have HR:=hid hR;have HZ:=hid aY;clear hm h8 aA ha hR aY;go_enter Tryz.func208,Tryz.ntmps208;go_wp2_with fail;refine D0.out.mono ?_;rintro e w1 ⟨gr,rfl,aN,aG,bb⟩;have bN:=aN.lt;have bc:=hid aN;have aw:=hid bb;clear aN bb D0;go_wp2_with fail;refine(DW.out _).mono ?_;rintro e L ⟨rfl,rfl⟩;go_wp2_with fail;have aK:Prt 286 (L.alloc (.cells #[.int .i64 (W:Nat), .slice none 0 0, .slice none 0 0] 286)) L.heap.size L.heap.size W (([]:List Nat).map (·/ 2 ^ W)) (([]:List Nat).map (·% 2 ^ W)) (.slice none 0 0) (.slice none 0 0):=⟨Blk.made _ _ _,Am _ _ _ _,Am _ _ _ _,Aj _⟩;have ba:Rd (L.alloc (.cells #[.int .i64 (W:Nat), .slice none 0 0, .slice none 0 0] 286)) w.heap.size gr bs 0:=bc.out.keep (fun b _ ax=>BI L _ b (by omega)) aG;have ax:Below w.heap.size w (L.alloc (.cells #[.int .i64 (W:Nat), .slice none 0 0, .slice none 0 0] 286)):=kZ aw.out.size aw.out;generalize aP:L.alloc (.cells #[.int .i64 (W:Nat), .slice none 0 0, .slice none 0 0] 286)=w2 at *;have z2:w2.heap.size=L.heap.size+1:=by rw[<-aP];simp
 clear aP;have zw:=aw.out.size;generalize L.heap.size=gl at *;have c0:=aK.blk.cell 0;simp only[List.getElem?_toArray,List.getElem?_cons_zero]at c0;have aU:=hid aK;have a3:=hid ax;have DL:=hid (SN w2 w.heap.size gr bs n W (by omega) hW aG ba);unfold LX at DL;clear aK ba ax bc aw DW;go_wp2_with fail;refine DL.out.mono ?_;rintro e w3 ⟨aq,M⟩;have z3:=aq.size;have aF:Hid (Below w.heap.size w w3):=a3.out.trans (aq.below (fun b h=>⟨by omega,by omega⟩));by_cases ae:bs.length<n*W
 ·rw[Ab ae]at M;subst M;have N:Hid (R=([],0,1)):=by have h:=HR.out;rw[Ab ae]at h;exact h
  clear ae HR aq;go_wp2_with fail
  go_ret3
  exact Ii N.out (by decide) aF.out
 ·rw[Aa ae]at M;obtain⟨v,rfl,ac,aT⟩:=M;obtain⟨va,vc,rfl⟩:=aZ ac;have hr:=HR.out;rw[Aa ae]at hr;have a0:Prt 286 w3 gl gl W (([]:List Nat).map (·/ 2 ^ W)) (([]:List Nat).map (·% 2 ^ W)) (.slice none 0 0) (.slice none 0 0):=aU.out.keep (fun y hy hy2=>aq.block y ⟨hy2,by omega⟩);obtain⟨T,hT⟩:∃T,T=rowN bound W bs (BK W bs n) (n*W) 0 []:=⟨_,rfl⟩;rw[<-hT]at hr;have bu:Hid (∀x∈BK W bs n,x<2 ^ W):=NU W bs n;have aD:Hid ((BK W bs n).length=n):=MY W bs n;have aQ:Hid (rowN bound W bs ((BK W bs n).drop 0) (n*W) 0 []=T):=hT.symm;have aB:Hid (n*W<=bs.length):=by show _<=_;omega
  generalize BK W bs n=lw at *;generalize n*W=N0 at *;have aV:=hid hr;have aM:Hid (∀a er,T=([],a,er)->er≠0->R=([],0,er)):=fun a er h he=>by rw[hr,h];exact Ab he
  have bJ:bs.length<=800000:=by have:=HZ.out;omega
  have a1:=hid ac;have a8:=hid aT;have bd:=hid a0;have bR:Hid (∀y,(Value.slice va n vc).ownBlock=some y->w2.heap.size<=y):=fun y hy=>(Ae ac y hy).1;clear ae hr hT ac aT a0 HR aU a3 DL aq c0;go_wp2_with fail;go_loopw [13,14,47] (fun hv wv iv wr=>∃ (k J at_:Nat) (i:List Nat) (vH vL:Value),k<=n/\J<=20000/\at_<=bs.length/\hv= .int .i64 J/\iv= .int .i64 k/\wv= .int .i64 (Iw i)/\Hid (i.length=k)/\Hid (∀x∈i,x<=20000)/\Hid (rowN bound W bs (lw.drop k) at_ J i=T)/\Hid (wr.ownsRow w2.heap.size 47 1 (.slice va n vc) n (cZ .u16 lw))/\Hid (Rd wr w.heap.size gr bs at_)/\Hid (Prt 286 wr gl gl W (i.map (·/ 2 ^ W)) (i.map (·% 2 ^ W)) vH vL)/\Hid (∀y,(Value.slice va n vc).ownBlock=some y->vL.ownBlock≠some y)/\Hid (Below w.heap.size w wr)) (fun _ _ iv _=>n-(intOf iv).toNat)
  case atStart=>exact⟨0,0,N0,[], .slice none 0 0, .slice none 0 0,by omega,by omega,aB.out,rfl,rfl,rfl,rfl,fun x hx=>by simp at hx,aQ.out,a1.out,a8.out,bd.out,(by first|trivial|(intro y _ h;cases h)),aF.out⟩
  case round=>
   obtain⟨k,J,at_,i,vH,vL,hk,bj,bf,rfl,rfl,rfl,HI,aI,HT,HO,am,HP,HV,HB⟩:=hrel;have zr:=HB.out.size;have bH:=HP.out.blk.lt;clear aQ aB a1 a8 bd aF;by_cases bM:k<n
   ·have g1:decide ((k:Int)<(n:Int))=true:=(by simp;omega);have bP:decide (k<n)=true:=(by simp;omega);obtain⟨x,hx⟩:∃x,lw[k]? =some x:=⟨_,AD (by have:=aD.out;omega)⟩;have an:lw.drop k=x :: lw.drop (k+1):=(by obtain⟨hl,e⟩:=BO.1 hx;rw[CC hl,e]);have aC:=bu.out x (BF hx);have bt:2 ^ W<=16384:=(by have:2 ^ W<=2 ^ 14:=Bu (by omega) hW;omega);have a7:1<=2 ^ W:=Nat.one_le_two_pow;obtain⟨gv,cv,bA,bI,_⟩:=HO.out.form (by omega);injection bA with e1 e2 e3;subst e1 e3;have cx:wr.cell? ⟨gv,k,none⟩=some (.int .u16 (x:Nat)):=(by rw[HO.out.cellAt k (by omega)];unfold cZ;rw[Bw,hx];rfl);have x0:(0:Int)<=(k:Int):=(by omega);have x1:(k:Int)<(n:Int):=(by omega);have hT:=HT.out;rw[an,rowN]at hT;have DU:=hid (YM wr w.heap.size gr bs at_ am.out);have bD:=Oz bs at_;have bm:=LU bf;generalize unV bs at_=d at *;generalize unE bs at_=ue at *;generalize unA bs at_=ua at *;obtain⟨j,aS⟩:∃j,j=J+d:=⟨_,rfl⟩;have s1:IntKind.i64.wrap ((J:Int)+(d:Int))=(j:Int):=(by rw[Ak _ (by omega)];omega);rw[<-aS]at hT;obtain⟨hw,aj⟩:∃hw,hw=j*2 ^ W:=⟨_,rfl⟩;have bB:hw<=13434880000:=(by rw[aj];exact AV (Gq (show j<=820000 by omega) bt) (by decide));have bF:j<=hw:=(by rw[aj];exact Nat.le_mul_of_pos_right _ (by omega));have E1:Hid (IntKind.i64.wrap ((j:Int)*2 ^ W)=(hw:Int)):=(by show _=_;rw[show(j:Int)*2 ^ W=(hw:Int) by rw[aj];simp,Ak _ (by omega)]);have E2:Hid (bits .or .i64 (hw:Int) (x:Int)=((hw+x:Nat):Int)):=(by show _=_;rw[QP hw x (by omega) (by omega),aj,Px j x W aC]);rw[<-aj]at hT;obtain⟨id,a9⟩:∃id,id=hw+x:=⟨_,rfl⟩;rw[<-a9]at hT E2;have bQ:IntKind.i64.wrap (x:Int)=(x:Int):=Ak _ (by omega);have bl:j<=id:=(by omega);have ag:=hid hT;clear hT hx an aC aS aj a9 HT a7;go_wp2_with fail;refine DU.out.mono ?_;rintro e w4 ⟨rfl,aX,al⟩;have z4:=al.size;have Y:=hid aX;have E:Hid (Prt 286 w4 gl gl W (i.map (·/ 2 ^ W)) (i.map (·% 2 ^ W)) vH vL):=HP.out.keep (fun y hy _=>al.block y (by omega));have ak:Hid (w4.ownsRow w2.heap.size 47 1 (.slice (some ⟨gv,0,none⟩) n vc) n (cZ .u16 lw)):=dZ HO.out (fun y hy=>al.block y (by have:=(Ae HO.out y hy).1;omega));have G:Hid (Below w.heap.size w w4):=HB.out.trans (al.below (fun b h=>by omega));have c0:=E.out.blk.cell 0;simp only[List.getElem?_toArray,List.getElem?_cons_zero]at c0;clear aX al HP HO HB am DU cx;by_cases ah:ue=0
    ·subst ah;have hT:=ag.out;rw[Aa (show ¬((0:Int)≠0) from fun h=>h rfl)]at hT;by_cases hB:i≠ []/\id<=i.getLast?.getD 0
     ·have gB:decide ((id:Int)<=Iw i)=true:=Aw (O0.2 hB);have N:Hid (R=([],0,2)):=(by rw[Ab hB]at hT;exact aM.out _ _ hT.symm (by decide));have e1:=E1.out;have e2:=E2.out;clear hB hT ag;go_wp2_with fail
      go_ret3
      exact Ii N.out (by decide) G.out
     ·have gB:decide ((id:Int)<=Iw i)=false:=Az (fun h=>hB (O0.1 h));rw[Aa hB]at hT;by_cases hC:bound<=id
      ·have gC:decide ((bound:Int)<=(id:Int))=true:=(by simp;omega);have bg:decide (bound<=id)=true:=(by simp;omega);have N:Hid (R=([],0,8)):=(by rw[Ab hC]at hT;exact aM.out _ _ hT.symm (by decide));have e1:=E1.out;have e2:=E2.out;clear hB hT ag hC;go_wp2_with fail
       go_ret3
       exact Ii N.out (by decide) G.out
      ·have gC:decide ((bound:Int)<=(id:Int))=false:=(by simp;omega);have bg:decide (bound<=id)=false:=(by simp;omega);rw[Aa hC]at hT;have bE:id<=20000:=(by omega);have DA:=hid (T6 286 (by decide) (by decide) w4 gl gl W _ _ vH vL id (by omega) hW (by rw[BN,HI.out];omega) (by rw[BN,HI.out];omega) E.out);have bk:=hid hT;have bC:=E.out.blk.lt;have e1:=E1.out;have e2:=E2.out;clear hB hT ag hC;go_wp2_with fail;refine DA.out.mono ?_;rintro e w5 ⟨rfl,be,aO,a6,aL,ai,aR⟩;have ab:Hid (Prt 286 w5 gl gl W ((i++ [id]).map (·/ 2 ^ W)) ((i++ [id]).map (·% 2 ^ W)) be aO):=(by rw[Hp,Hp];exact a6);have av:Hid (Rd w5 w.heap.size gr bs ua):=Y.out.keep (fun b _ ax=>aL.block b (by omega)) aG
       have bi:Hid (w5.ownsRow w2.heap.size 47 1 (.slice (some ⟨gv,0,none⟩) n vc) n (cZ .u16 lw)):=dZ ak.out (fun y hy=>ai.block y ⟨(Ae ak.out y hy).2,by have:=(Ae ak.out y hy).1;omega,fun e=>by
        rcases EJ E.out.oh ak.out (by decide)with e3|e3
        ·rw[e3]at e;cases e
        ·exact e3 (by rw[e,hy]),HV.out y hy⟩)
       have bn:Hid (∀y,(Value.slice (some ⟨gv,0,none⟩) n vc).ownBlock=some y->aO.ownBlock≠some y):=fun y hy h=>HV.out y hy (aR y (Ae ak.out y hy).2 h);have Q:Hid (Below w.heap.size w w5):=G.out.trans (aL.mono (by omega));clear a6 aL ai aR E Y ak G HV DA c0 e1 e2;go_wp2_with fail;go_roundw
       case measure=>go_light;simp[intOf];omega
       case rel=>go_light;exact⟨k+1,j,ua,i++ [id],be,aO,by omega,by omega,bm,by first|rfl|go_num,by first|rfl|go_num,by rw[Tc],by show _=_;rw[Ai,HI.out];rfl,by intro y hy;rcases BH.1 hy with h|h;exact aI.out y h;(rw[Df]at h;omega),bk.out,bi.out,av.out,ab.out,bn.out,Q.out⟩
    ·have gE:(ue != 0)=true:=(by simpa using ah);have N:Hid (R=([],0,ue)):=(by have h:=ag.out;rw[Ab ah]at h;exact aM.out _ _ h.symm ah);have bp:=hid ah;clear ah ag;go_wp2_with fail
     go_ret3
     exact Ii N.out bp.out G.out
   ·obtain rfl:k=n:=by omega
    have g1:decide ((k:Int)<(k:Int))=false:=(by simp);have hT:=HT.out;rw[Ce (by rw[aD.out];exact Aj _),rowN]at hT;have hr:=aV.out;rw[<-hT]at hr;rw[Aa (show ¬((0:Int)≠0) from fun h=>h rfl)]at hr;have az:=XZ (z:=bs.length) (at_:=at_) (by rw[HZ.out];omega) bf;simp only at hr;have DL:=hid (left_any wr w.heap.size gr bs at_ am.out);have aW:=hid hr;obtain⟨r,ay⟩:∃r,r=EK at_:=⟨_,rfl⟩;obtain⟨l,hl⟩:∃l,l=bs.length-at_:=⟨_,rfl⟩;rw[<-hl]at DL az;have sr:(l:Int) % 8=(r:Int):=(by omega);have bL:r<=7:=(by rw[ay];unfold EK;omega);have au:at_+r<=bs.length:=(by have h:=HZ.out;have h3:=Nat.mod_le l 8;omega);rw[<-ay]at hr;have af:=hid hr;have aa:at_+r=at_+EK at_:=(by rw[ay]);clear hT hr HT aV hl az ay aW;go_wp2_with fail;refine DL.out.mono ?_;rintro e w4 ⟨rfl,q,hq⟩;have Y:Hid (Rd w4 w.heap.size gr bs at_):=(by rw[hq];exact am.out.drewN q);have E:Hid (Prt 286 w4 gl gl W (i.map (·/ 2 ^ W)) (i.map (·% 2 ^ W)) vH vL):=(by rw[hq];exact HP.out.keep (fun y _ _=>rfl));have G:Hid (Below w.heap.size w w4):=(by rw[hq];exact below_drewN HB.out q);clear hq am HP HB DL;by_cases a4:r=0
    ·subst a4;have aJ:Hid (R=(i,(at_+7) / 8,0)):=(by have h:=af.out;rw[Aa (by rw[sZ];exact fun h=>h rfl)]at h;exact h);obtain⟨a2,ha⟩:∃a2,a2=at_+0:=⟨_,rfl⟩;rw[<-ha]at aa;have av:Hid (Rd w4 w.heap.size gr bs a2):=(by rw[ha];exact Y.out);have ab:=E;have Q:=G;obtain⟨w5,rfl⟩:∃w5:World,w5=w4:=⟨_,rfl⟩;clear af ha Y E G;have U:=hid (left_any w5 w.heap.size gr bs a2 av.out);obtain⟨l2,ar⟩:∃l2,l2=bs.length-a2:=⟨_,rfl⟩;rw[<-ar]at U;obtain⟨t,ht⟩:∃t,t=l2 / 8:=⟨_,rfl⟩;have st:(l2:Int) / 8=(t:Int):=(by omega);have bh:IntKind.i64.wrap (t:Int)=(t:Int):=Ak _ (by have:=HZ.out;omega);have so:IntKind.i64.wrap ((m:Int)-(t:Int))=(((at_+7) / 8:Nat):Int):=(by rw[Ak _ (by have:=HZ.out;omega)];have:=HZ.out;unfold EK at aa;omega);generalize (at_+7) / 8=o at *;clear ar ht aa;go_wp2_with fail;refine U.out.mono ?_;rintro e w6 ⟨rfl,q6,Z⟩;have aE:Hid (Prt 286 w6 gl gl W (i.map (·/ 2 ^ W)) (i.map (·% 2 ^ W)) vH vL):=(by rw[Z];exact ab.out.keep (fun y _ _=>rfl));have aH:Hid (Below w.heap.size w w6):=(by rw[Z];exact below_drewN Q.out q6);clear Z ab Q U;go_wp2_with fail
     go_ret3
     rw[aJ.out];exact⟨aH.out,fun h=>absurd rfl h,fun _=>⟨_,rfl,gl,W,vH,vL,rfl,hW,by rw[HI.out];omega,aI.out,aE.out.mono zw⟩⟩
    ·have bK:decide ((0:Int)<(r:Int))=true:=(by simp;omega);have bG:decide (0<r)=true:=(by simp;omega);have DG:=IW w4 w.heap.size gr bs at_ r (by omega) Y.out;unfold FK FJ FH at DG;rw[Ab au,Ab au,Ab au]at DG;obtain⟨a2,ha⟩:∃a2,a2=at_+r:=⟨_,rfl⟩;rw[<-ha]at aa DG;generalize sZ bs at_ r=y at *;have DG:=hid DG;clear ha a4;go_wp2_with fail;refine DG.out.mono ?_;rintro e w5 ⟨rfl,a5,ai⟩;have av:=hid a5;have ab:Hid (Prt 286 w5 gl gl W (i.map (·/ 2 ^ W)) (i.map (·% 2 ^ W)) vH vL):=E.out.keep (fun y hy _=>ai.block y (by omega));have Q:Hid (Below w.heap.size w w5):=G.out.trans (ai.below (fun b h=>by omega));clear a5 ai Y E G DG;by_cases hy:y=0
     ·subst hy;have aJ:Hid (R=(i,(at_+7) / 8,0)):=(by have h:=af.out;rw[Aa (fun h=>h rfl)]at h;exact h);clear af;have U:=hid (left_any w5 w.heap.size gr bs a2 av.out);obtain⟨l2,ar⟩:∃l2,l2=bs.length-a2:=⟨_,rfl⟩;rw[<-ar]at U;obtain⟨t,ht⟩:∃t,t=l2 / 8:=⟨_,rfl⟩;have st:(l2:Int) / 8=(t:Int):=(by omega);have bh:IntKind.i64.wrap (t:Int)=(t:Int):=Ak _ (by have:=HZ.out;omega);have so:IntKind.i64.wrap ((m:Int)-(t:Int))=(((at_+7) / 8:Nat):Int):=(by rw[Ak _ (by have:=HZ.out;omega)];have:=HZ.out;unfold EK at aa;omega);generalize (at_+7) / 8=o at *;clear ar ht aa;go_wp2_with fail;refine U.out.mono ?_;rintro e w6 ⟨rfl,q6,Z⟩;have aE:Hid (Prt 286 w6 gl gl W (i.map (·/ 2 ^ W)) (i.map (·% 2 ^ W)) vH vL):=(by rw[Z];exact ab.out.keep (fun y _ _=>rfl));have aH:Hid (Below w.heap.size w w6):=(by rw[Z];exact below_drewN Q.out q6);clear Z ab Q U;go_wp2_with fail
      go_ret3
      rw[aJ.out];exact⟨aH.out,fun h=>absurd rfl h,fun _=>⟨_,rfl,gl,W,vH,vL,rfl,hW,by rw[HI.out];omega,aI.out,aE.out.mono zw⟩⟩
     ·have gy:((y:Int) != 0)=true:=(by rw[bne_iff_ne];omega);have N:Hid (R=([],0,2)):=(by have h:=af.out;rw[Ab hy]at h;exact h);clear af hy aa;go_wp2_with fail
      go_ret3
      exact Ii N.out (by decide) Q.out
end Ef
end Go.Proofs.YtbgoibedicbkjaaGreatDoor
