/- The walk of ef.row:  -/
import Derived.Test.YtfgdoknipbpfhaaGreatDoorZBodyBlocks26
namespace Go.Proofs.YtfgdoknipbpfhaaGreatDoor
open Go.Lib (hid)
variable{t:TypeId}{w w':World}{W base g:Nat}{hs ls:List Nat}{vH vL:Value}
namespace Ef
open Go.RowKit Mem Own Canon Huff NumPut
theorem Prt.keep(h:Prt t w base g W hs ls vH vL)(hk:∀y,base<=y->y<w.heap.size->w'.heap[y]? =w.heap[y]?):Prt t w' base g W hs ls vH vL:=
 ⟨(hk g h.gb h.blk.lt).trans h.blk,eZ h.oh (fun y hy=>hk y (Aj h.oh y hy).1 (Aj h.oh y hy).2),eZ h.ol (fun y hy=>hk y (Aj h.ol y hy).1 (Aj h.ol y hy).2),h.gb⟩
theorem Prt.mono{i:Nat}(h:Prt t w base g W hs ls vH vL)(hb:i<=base):Prt t w i g W hs ls vH vL:=
 ⟨h.blk,kZ h.oh hb,kZ h.ol hb,AK hb h.gb⟩
def ListAt(w:World)(base:Nat)(p:Value)(ids:List Nat):Prop:=
 ∃g W vH vL,p= .pointer (some ⟨g,0,none⟩)/\W<=14/\ids.length<=20000/\(∀x∈ids,x<=20000)/\Prt 323 w base g W (ids.map (·/ 2 ^ W)) (ids.map (·% 2 ^ W)) vH vL
def ML(w:World)(R:List Nat×Nat×Int)(e:Ending)(w':World):Prop:=
 Below w w w'/\(R.2.2≠0->e= .returned (.tuple #[.pointer none,ij,R.2.2]))/\(R.2.2=0->∃p,e= .returned (.tuple #[p, .int .i64 (R.2.1:Nat),ij])/\ListAt w' w p R.1)
theorem Jg{R:List Nat×Nat×Int}{er:Int}(hR:R=([],0,er))(he:er≠0)(hb:Below w w w'):ML w R (.returned (.tuple #[.pointer none,ij,er])) w':=pj
theorem Zv{bound n:Nat}(hb:bound<=20000):efW bound n<=14:=by
 unfold efW;by_cases h0:bound / n=0
 ·rw[h0];decide
 ·have h2:bound / n<=20000:=AK (Hc _ _) hb;have h3:=Ke h0;by_cases h:Nat.log2 (bound / n)<=14
  ·exact h
  ·exfalso;have:2 ^ 15<=2 ^ Nat.log2 (bound / n):=Cc mw mw;omega
theorem Yw{z at_:Nat}(hz:z % 8=0)(h:at_<=z):(z-at_) % 8=GV at_:=by unfold GV;omega
theorem Rf(a b:Nat)(ha:a<2 ^ 40)(hb:b<2 ^ 40):bits .or .i64 (a:Int) (b:Int)=((a |||b:Nat):Int):=
 (bits_nat .i64 40 ip (fun n h0 h1=>Aq _ mw) a b ha hb).2
def Jd(acc:List Nat):Int:=if acc= []then-1 else((acc.getLast?.getD 0:Nat):Int)
theorem Rx{i:List Nat}{id:Nat}:(id:Int)<=Jd i↔(i≠ []/\id<=i.getLast?.getD 0):=by
 unfold Jd;by_cases h:i= []
 ·rw[Ab h];constructor
  ·intro h2;omega
  ·intro h2;exact absurd h h2.1
 ·rw[Aa h];constructor
  ·intro h2;exact⟨h,mw⟩
  ·intro h2;omega
theorem bU(h:List Nat)(id:Nat):Jd (h++ [id])=(id:Int):=by unfold Jd;rw[Aa oK];simp
set_option maxHeartbeats 4000000 in
set_option maxRecDepth 100000 in
theorem X9(w:World)(A:Option Addr)(m c bound n:Nat)(ls:List Nat)(hm:ls.length=m)(cd:m<=100000)(h8:∀x∈ls,x<=255)(a4:A=none->m=0/\c=0)(ha:Row w w A m 1 (jZ .u8 ls))(h1:1<=n)(h2:n<=bound)(hb:bound<=20000):
 Calls Tryz.prog 246 #[.int .i64 (bound:Nat), .int .i64 (n:Nat), .slice A m c] w (ML w (GT bound n (Bi ls))):=by
 have D0:=hid (Rr w A m c ls hm cd h8 a4 ha);have DW:=hid (fun wx=>Uf wx bound n h1 h2 mw);have hW:=Zv (n:=n) hb;have bx:(Bi ls).length=8*m:=by rw[Es,hm]
 have cF:Hid (n*efW bound n<=280000):=AK (Hb (by omega:n<=20000) hW) ip;obtain⟨R,hR⟩:=ii (GT bound n (Bi ls));rw[<-hR];unfold GT at hR;generalize efW bound n=W at *;generalize Bi ls=bs at *;have HR:=hid hR;have HZ:=hid bx;clear hm h8 a4 ha hR bx;go_enter Tryz.func246,Tryz.ntmps246;go_wp2_with fail;refine D0.out.mono ?_;rintro e w1 ⟨gr,rfl,bg,bb,b8⟩;have cC:=bg.lt;have b0:=hid bg;have ay:=hid b8;clear bg b8 D0;go_wp2_with fail;refine(DW.out _).mono ?_;rintro e N ⟨rfl,rfl⟩;go_wp2_with fail;have a5:Prt 323 (N.alloc (.cells #[.int .i64 (W:Nat),(),()] 323)) N N W (([]:List Nat).map (·/ 2 ^ W)) (([]:List Nat).map (·% 2 ^ W)) (.slice none 0 0) (.slice none 0 0):=⟨Blk.made _ _ _,AI _ _ _ _,AI _ _ _ _,Ak _⟩;have cc:Rd (N.alloc (.cells #[.int .i64 (W:Nat),(),()] 323)) w gr bs 0:=b0.out.keep (fun b _ ax=>DJ N _ b mw) bb;have ax:Below w w (N.alloc (.cells #[.int .i64 (W:Nat),(),()] 323)):=nZ ay.out.size ay.out;generalize bu:N.alloc (.cells #[.int .i64 (W:Nat),(),()] 323)=w2 at *;have z2:w2.heap.size=N.heap.size+1:=by rw[<-bu];simp
 clear bu;have zw:=ay.out.size;generalize N.heap.size=gl at *;have c0:=a5.blk.ia 0;have bN:=hid a5;have bk:=hid ax;have DL:=hid (Wu w2 w gr bs n W mw hW bb cc);unfold Ob at DL;clear a5 cc ax b0 ay DW;go_wp2_with fail;refine DL.out.mono ?_;rintro e w3 ⟨ar,M⟩;have z3:=ar.size;have bc:Hid (Below w w w3):=bk.out.trans (ar.below (fun b h=>⟨mw,mw⟩));by_cases ai:bs.length<n*W
 ·rw[Ab ai]at M;subst M;have L:Hid (R=([],0,1)):=by have h:=HR.out;rw[Ab ai]at h;exact h
  clear ai HR ar;go_wp2_with fail
  go_ret3
  exact Jg L.out ip bc.out
 ·rw[Aa ai]at M;obtain⟨v,rfl,ac,b3⟩:=M;obtain⟨va,vc,rfl⟩:=bZ ac;have hr:=HR.out;rw[Aa ai]at hr;have bl:Prt 323 w3 gl gl W (([]:List Nat).map (·/ 2 ^ W)) (([]:List Nat).map (·% 2 ^ W)) (.slice none 0 0) (.slice none 0 0):=bN.out.keep (fun y hy hy2=>ar.block y ⟨hy2,mw⟩);obtain⟨T,hT⟩:=ii (rowN bound W bs (Ej W bs n) (n*W) 0 []);rw[<-hT]at hr;have cl:Hid (∀x∈Ej W bs n,x<2 ^ W):=Xd W bs n;have a0:Hid ((Ej W bs n).length=n):=Qq W bs n;have b7:Hid (rowN bound W bs ((Ej W bs n).drop 0) (n*W) 0 []=T):=hT.symm;have a3:Hid (n*W<=bs.length):=by show _<=_;omega
  generalize Ej W bs n=lw at *;generalize n*W=N0 at *;have bS:=hid hr;have bh:Hid (∀a er,T=([],a,er)->er≠0->R=([],0,er)):=fun a er h he=>by rw[hr,h];exact Ab he
  have cL:bs.length<=800000:=ly
  have b5:=hid ac;have bt:=hid b3;have bm:=hid bl;have cX:Hid (∀y,(Value.slice va n vc).ownBlock=some y->w2.heap.size<=y):=fun y hy=>(Aj ac y hy).1;clear ai hr hT ac b3 bl HR bN bk DL ar c0;go_wp2_with fail;go_loopw [13,14,47] (fun hv wv iv wr=>∃ (k J at_:Nat) (i:List Nat) (vH vL:Value),k<=n/\J<=20000/\at_<=bs.length/\hv= .int .i64 J/\iv= .int .i64 k/\wv= .int .i64 (Jd i)/\Hid (i.length=k)/\Hid (∀x∈i,x<=20000)/\Hid (rowN bound W bs (lw.drop k) at_ J i=T)/\Hid (wr.ownsRow w2 25 1 (.slice va n vc) n (cZ .u16 lw))/\Hid (Rd wr w gr bs at_)/\Hid (Prt 323 wr gl gl W (i.map (·/ 2 ^ W)) (i.map (·% 2 ^ W)) vH vL)/\Hid (∀y,(Value.slice va n vc).ownBlock=some y->vL.ownBlock≠some y)/\Hid (Below w w wr)) (fun _ _ iv _=>n-(intOf iv).toNat)
  case atStart=>exact⟨0,0,N0,[], .slice none 0 0, .slice none 0 0,mw,mw,a3.out,rfl,rfl,rfl,rfl,fun x hx=>oM,b7.out,b5.out,bt.out,bm.out,(by first|trivial|(intro y _ h;cases h)),bc.out⟩
  case round=>
   obtain⟨k,J,at_,i,vH,vL,hk,cf,b4,rfl,rfl,rfl,HI,bd,HT,HO,au,HP,HV,HB⟩:=hrel;have zr:=HB.out.size;have cy:=HP.out.blk.lt;clear b7 a3 b5 bt bm bc;by_cases cT:k<n
   ·have g1:=ic ((k:Int)<n);have cE:=ic (k<n);obtain⟨x,hx⟩:∃x,lw[k]? =some x:=⟨_,Az (by have:=a0.out;omega)⟩;have am:lw.drop k=x :: lw.drop (k+1):=(by obtain⟨hl,e⟩:=Cv.1 hx;rw[Dj hl,e]);have a1:=cl.out x (Be hx);have cg:2 ^ W<=16384:=kx;have bC:1<=2 ^ W:=Nat.one_le_two_pow;obtain⟨gv,cv,ce,cG,_⟩:=HO.out.form mw;injection ce with e1 e2 e3;subst e1 e3;have cx:wr.cell? ⟨gv,k,none⟩=some (.int .u16 (x:Nat)):=(by rw[HO.out.cellAt k mw];unfold cZ;rw[BG,hx];rfl);have x0:(0:Int)<=(k:Int):=mw;have x1:(k:Int)<(n:Int):=mw;have hT:=HT.out;rw[am,rowN]at hT;have DU:=hid (XT wr w gr bs at_ au.out);have cz:=dO bs at_;have cm:=Um b4;generalize unV bs at_=d at *;generalize unE bs at_=ue at *;generalize unA bs at_=ua at *;obtain⟨j,bp⟩:=ii (J+d);have s1:IntKind.i64.wrap ((J:Int)+(d:Int))=(j:Int):=m8;rw[<-bp]at hT;obtain⟨hw,ag⟩:=ii (j*2 ^ W);have cw:hw<=13434880000:=(by rw[ag];exact AK (Hb (show j<=820000 by omega) cg) ip);have cu:j<=hw:=(by rw[ag];exact Nat.le_mul_of_pos_right _ mw);have E1:Hid (IntKind.i64.wrap ((j:Int)*2 ^ W)=(hw:Int)):=(by show _=_;rw[show(j:Int)*2 ^ W=(hw:Int) by rw[ag];simp,Aq _ mw]);have E2:Hid (bits .or .i64 (hw:Int) (x:Int)=((hw+x:Nat):Int)):=(by show _=_;rw[Rf hw x mw mw,ag,RX j x W a1]);rw[<-ag]at hT;obtain⟨id,b1⟩:=ii (hw+x);rw[<-b1]at hT E2;have cP:IntKind.i64.wrap (x:Int)=(x:Int):=Aq _ mw;have cp:j<=id:=mw;have ah:=hid hT;clear hT hx am a1 bp ag b1 HT bC;go_wp2_with fail;refine DU.out.mono ?_;rintro e w4 ⟨rfl,b9,av⟩;have z4:=av.size;have U:=hid b9;have G:Hid (Prt 323 w4 gl gl W (i.map (·/ 2 ^ W)) (i.map (·% 2 ^ W)) vH vL):=HP.out.keep (fun y hy _=>av.block y mw);have ak:Hid (w4.ownsRow w2 25 1 (.slice (some ⟨gv,0,none⟩) n vc) n (cZ .u16 lw)):=eZ HO.out (fun y hy=>av.block y (by have:=(Aj HO.out y hy).1;omega));have E:Hid (Below w w w4):=HB.out.trans (av.below (fun b h=>by omega));have c0:=G.out.blk.ia 0;clear b9 av HP HO HB au DU cx;by_cases ae:ue=0
    ·subst ae;have hT:=ah.out;rw[Aa (show ¬((0:Int)≠0) from fun h=>h rfl)]at hT;by_cases hB:i≠ []/\id<=i.getLast?.getD 0
     ·have gB:decide ((id:Int)<=Jd i)=true:=Bc (Rx.2 hB);have L:Hid (R=([],0,2)):=(by rw[Ab hB]at hT;exact bh.out _ _ hT.symm ip);have e1:=E1.out;have e2:=E2.out;clear hB hT ah;go_wp2_with fail
      go_ret3
      exact Jg L.out ip E.out
     ·have gB:decide ((id:Int)<=Jd i)=false:=Bt (fun h=>hB (Rx.1 h));rw[Aa hB]at hT;by_cases hC:bound<=id
      ·have gC:=ic ((bound:Int)<=id);have ci:=ic (bound<=id);have L:Hid (R=([],0,8)):=(by rw[Ab hC]at hT;exact bh.out _ _ hT.symm ip);have e1:=E1.out;have e2:=E2.out;clear hB hT ah hC;go_wp2_with fail
       go_ret3
       exact Jg L.out ip E.out
      ·have gC:=ig ((bound:Int)<=id);have ci:=ig (bound<=id);rw[Aa hC]at hT;have ct:id<=20000:=mw;have DA:=hid (TM 323 ip ip w4 gl gl W _ _ vH vL id mw hW (by rw[Bb,HI.out];omega) (by rw[Bb,HI.out];omega) G.out);have cq:=hid hT;have cA:=G.out.blk.lt;have e1:=E1.out;have e2:=E2.out;clear hB hT ah hC;go_wp2_with fail;refine DA.out.mono ?_;rintro e w5 ⟨rfl,bn,bf,ca,ba,aj,bq⟩;have aa:Hid (Prt 323 w5 gl gl W ((i++ [id]).map (·/ 2 ^ W)) ((i++ [id]).map (·% 2 ^ W)) bn bf):=(by rw[EP,EP];exact ca);have al:Hid (Rd w5 w gr bs ua):=U.out.keep (fun b _ ax=>ba.block b mw) bb
       have co:Hid (w5.ownsRow w2 25 1 (.slice (some ⟨gv,0,none⟩) n vc) n (cZ .u16 lw)):=eZ ak.out (fun y hy=>aj.block y ⟨(Aj ak.out y hy).2,by have:=(Aj ak.out y hy).1;omega,fun e=>by
        rcases ER G.out.oh ak.out ip with e3|e3
        ·rw[e3]at e;cases e
        ·exact e3 (by rw[e,hy]),HV.out y hy⟩)
       have cr:Hid (∀y,(Value.slice (some ⟨gv,0,none⟩) n vc).ownBlock=some y->bf.ownBlock≠some y):=fun y hy h=>HV.out y hy (bq y (Aj ak.out y hy).2 h);have Q:Hid (Below w w w5):=E.out.trans (ba.mono mw);clear ca ba aj bq G U ak E HV DA c0 e1 e2;go_wp2_with fail;go_roundw
       case measure=>exact jo
       case rel=>go_light;exact⟨k+1,j,ua,i++ [id],bn,bf,mw,mw,cm,iu,iu,by rw[bU],by show _=_;rw[Ae,HI.out];rfl,by intro y hy;rcases BF.1 hy with h|h;exact bd.out y h;(rw[Ei]at h;omega),cq.out,co.out,al.out,aa.out,cr.out,Q.out⟩
    ·have gE:(ue != 0)=true:=(by simpa using ae);have L:Hid (R=([],0,ue)):=(by have h:=ah.out;rw[Ab ae]at h;exact bh.out _ _ h.symm ae);have cj:=hid ae;clear ae ah;go_wp2_with fail
     go_ret3
     exact Jg L.out cj.out E.out
   ·obtain rfl:k=n:=by omega
    have g1:=ig ((k:Int)<k);have hT:=HT.out;rw[EB (by rw[a0.out];exact Ak _),rowN]at hT;have hr:=bS.out;rw[<-hT]at hr;rw[Aa (show ¬((0:Int)≠0) from fun h=>h rfl)]at hr;have az:=Yw (z:=bs.length) (at_:=at_) (by rw[HZ.out];omega) b4;simp only at hr;have DL:=hid (left_any wr w gr bs at_ au.out);have b6:=hid hr;obtain⟨r,aw⟩:=ii (GV at_);obtain⟨l,hl⟩:=ii (bs.length-at_);rw[<-hl]at DL az;have sr:(l:Int) % 8=(r:Int):=mw;have cS:r<=7:=(by rw[aw];unfold GV;omega);have an:at_+r<=bs.length:=(by have h:=HZ.out;have h3:=Nat.mod_le l 8;omega);rw[<-aw]at hr;have af:=hid hr;have ab:at_+r=at_+GV at_:=(by rw[aw]);clear hT hr HT bS hl az aw b6;go_wp2_with fail;refine DL.out.mono ?_;rintro e w4 ⟨rfl,q,hq⟩;have U:Hid (Rd w4 w gr bs at_):=(by rw[hq];exact au.out.drewN q);have G:Hid (Prt 323 w4 gl gl W (i.map (·/ 2 ^ W)) (i.map (·% 2 ^ W)) vH vL):=(by rw[hq];exact HP.out.keep (fun y _ _=>rfl));have E:Hid (Below w w w4):=(by rw[hq];exact below_drewN HB.out q);clear hq au HP HB DL;by_cases bi:r=0
    ·subst bi;have a9:Hid (R=(i,(at_+7) / 8,0)):=(by have h:=af.out;rw[Aa (by rw[yZ];exact fun h=>h rfl)]at h;exact h);obtain⟨a2,ha⟩:=ii (at_+0);rw[<-ha]at ab;have al:Hid (Rd w4 w gr bs a2):=(by rw[ha];exact U.out);have aa:=G;have Q:=E;obtain⟨w5,rfl⟩:=ii w4;clear af ha U G E;have Z:=hid (left_any w5 w gr bs a2 al.out);obtain⟨l2,aq⟩:=ii (bs.length-a2);rw[<-aq]at Z;obtain⟨t,ht⟩:=ii (l2 / 8);have st:(l2:Int) / 8=(t:Int):=mw;have st2:IntKind.i64.wrap (t:Int)=(t:Int):=Aq _ ly;have so:IntKind.i64.wrap ((m:Int)-(t:Int))=(((at_+7) / 8:Nat):Int):=mY;generalize (at_+7) / 8=o at *;clear aq ht ab;go_wp2_with fail;refine Z.out.mono ?_;rintro e w6 ⟨rfl,q6,Y⟩;have be:Hid (Prt 323 w6 gl gl W (i.map (·/ 2 ^ W)) (i.map (·% 2 ^ W)) vH vL):=(by rw[Y];exact aa.out.keep (fun y _ _=>rfl));have a6:Hid (Below w w w6):=(by rw[Y];exact below_drewN Q.out q6);clear Y aa Q Z;go_wp2_with fail
     go_ret3
     rw[a9.out];exact⟨a6.out,fun h=>absurd rfl h,fun _=>⟨_,rfl,gl,W,vH,vL,rfl,hW,by rw[HI.out];omega,bd.out,be.out.mono zw⟩⟩
    ·have cH:=ic ((0:Int)<r);have cB:=ic (0<r);have DG:=JA w4 w gr bs at_ r mw U.out;unfold IL II IE at DG;rw[Ab an,Ab an,Ab an]at DG;obtain⟨a2,ha⟩:=ii (at_+r);rw[<-ha]at ab DG;generalize yZ bs at_ r=y at *;have DG:=hid DG;clear ha bi;go_wp2_with fail;refine DG.out.mono ?_;rintro e w5 ⟨rfl,bj,aj⟩;have al:=hid bj;have aa:Hid (Prt 323 w5 gl gl W (i.map (·/ 2 ^ W)) (i.map (·% 2 ^ W)) vH vL):=G.out.keep (fun y hy _=>aj.block y mw);have Q:Hid (Below w w w5):=E.out.trans (aj.below (fun b h=>by omega));clear bj aj U G E DG;by_cases hy:y=0
     ·subst hy;have a9:Hid (R=(i,(at_+7) / 8,0)):=(by have h:=af.out;rw[Aa (fun h=>h rfl)]at h;exact h);clear af;have Z:=hid (left_any w5 w gr bs a2 al.out);obtain⟨l2,aq⟩:=ii (bs.length-a2);rw[<-aq]at Z;obtain⟨t,ht⟩:=ii (l2 / 8);have st:(l2:Int) / 8=(t:Int):=mw;have st2:IntKind.i64.wrap (t:Int)=(t:Int):=Aq _ ly;have so:IntKind.i64.wrap ((m:Int)-(t:Int))=(((at_+7) / 8:Nat):Int):=mY;generalize (at_+7) / 8=o at *;clear aq ht ab;go_wp2_with fail;refine Z.out.mono ?_;rintro e w6 ⟨rfl,q6,Y⟩;have be:Hid (Prt 323 w6 gl gl W (i.map (·/ 2 ^ W)) (i.map (·% 2 ^ W)) vH vL):=(by rw[Y];exact aa.out.keep (fun y _ _=>rfl));have a6:Hid (Below w w w6):=(by rw[Y];exact below_drewN Q.out q6);clear Y aa Q Z;go_wp2_with fail
      go_ret3
      rw[a9.out];exact⟨a6.out,fun h=>absurd rfl h,fun _=>⟨_,rfl,gl,W,vH,vL,rfl,hW,by rw[HI.out];omega,bd.out,be.out.mono zw⟩⟩
     ·have gy:((y:Int) != 0)=true:=nG;have L:Hid (R=([],0,2)):=(by have h:=af.out;rw[Ab hy]at h;exact h);clear af hy ab;go_wp2_with fail
      go_ret3
      exact Jg L.out ip Q.out
end Ef
end Go.Proofs.YtfgdoknipbpfhaaGreatDoor
