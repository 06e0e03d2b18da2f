/- The walks of post.li -/
import Derived.Test.YtfgdoknipbpfhaaGreatDoorZBodyIndex25
import Derived.Test.YtfgdoknipbpfhaaGreatDoorZBodyIndex32
namespace Go.Proofs.YtfgdoknipbpfhaaGreatDoor
open Go.Proofs.Tryz
open Go.Lib (hid)
set_option maxHeartbeats 4000000
set_option maxRecDepth 100000
section
section
variable{t:TypeId}{w w':World}{W base g:Nat}{hs ls:List Nat}{vH vL:Value}
namespace Ef
open Go.RowKit Mem Own Canon Huff NumPut
theorem Prt.keep(h:Prt t w base g W hs ls vH vL)(hk:∀y,base<=y->y<w.heap.size->w'.heap[y]? =w.heap[y]?):Prt t w' base g W hs ls vH vL:=
 ⟨(hk g h.gb h.blk.lt).trans h.blk,eZ h.oh (fun y hy=>hk y (Ai h.oh y hy).1 (Ai h.oh y hy).2),eZ h.ol (fun y hy=>hk y (Ai h.ol y hy).1 (Ai h.ol y hy).2),h.gb⟩
theorem Prt.mono{i:Nat}(h:Prt t w base g W hs ls vH vL)(hb:i<=base):Prt t w i g W hs ls vH vL:=
 ⟨h.blk,lZ h.oh hb,lZ h.ol hb,Bm hb h.gb⟩
def ListAt(w:World)(base:Nat)(p:Value)(ids:List Nat):Prop:=
 ∃g W vH vL,p= .pointer (some ⟨g,0,none⟩)/\W<=14/\ids.length<=20000/\(∀x∈ids,x<=20000)/\Prt 323 w base g W (ids.map (·/ 2 ^ W)) (ids.map (·% 2 ^ W)) vH vL
def Ny(w:World)(R:List Nat×Nat×Int)(e:Ending)(w':World):Prop:=
 Below w w w'/\(R.2.2≠0->e= .returned (.tuple #[.pointer none,jd,R.2.2]))/\(R.2.2=0->∃p,e= .returned (.tuple #[p, .int .i64 (R.2.1:Nat),jd])/\ListAt w' w p R.1)
theorem JC{R:List Nat×Nat×Int}{er:Int}(hR:R=([],0,er))(he:er≠0)(hb:Below w w w'):Ny w R (.returned (.tuple #[.pointer none,jd,er])) w':=qm
theorem fI{bound n:Nat}(hb:bound<=20000):efW bound n<=14:=by
 unfold efW;by_cases h0:bound / n=0
 ·rw[h0];decide
 ·have h2:bound / n<=20000:=Bm (ID _ _) hb;have h3:=Kb h0;by_cases h:Nat.log2 (bound / n)<=14
  ·exact h
  ·exfalso;have:2 ^ 15<=2 ^ Nat.log2 (bound / n):=Cf nB nB;omega
theorem YN{z at_:Nat}(hz:z % 8=0)(h:at_<=z):(z-at_) % 8=Hw at_:=by unfold Hw;omega
theorem Rm(a b:Nat)(ha:a<2 ^ 40)(hb:b<2 ^ 40):bits .or .i64 (a:Int) (b:Int)=((a |||b:Nat):Int):=
 (bits_nat .i64 40 ji (fun n h0 h1=>Az _ nB) a b ha hb).2
def JF(acc:List Nat):Int:=if acc= []then-1 else((acc.getLast?.getD 0:Nat):Int)
theorem Qz{i:List Nat}{id:Nat}:(id:Int)<=JF i↔(i≠ []/\id<=i.getLast?.getD 0):=by
 unfold JF;by_cases h:i= []
 ·rw[Ag h];constructor
  ·intro h2;omega
  ·intro h2;exact absurd h h2.1
 ·rw[Ae h];constructor
  ·intro h2;exact⟨h,nB⟩
  ·intro h2;omega
theorem cQ(h:List Nat)(id:Nat):JF (h++ [id])=(id:Int):=by unfold JF;rw[Ae pR];simp
set_option maxHeartbeats 4000000 in
set_option maxRecDepth 100000 in
theorem Yv(w:World)(A:Option Addr)(m c bound n:Nat)(ls:List Nat)(hm:ls.length=m)(b6:m<=100000)(h8:∀x∈ls,x<=255)(a1:A=none->m=0/\c=0)(ha:Row w w A m 1 (kZ .u8 ls))(h1:1<=n)(h2:n<=bound)(hb:bound<=20000):
 Calls Tryz.prog 246 #[.int .i64 (bound:Nat), .int .i64 (n:Nat), .slice A m c] w (Ny w (Hu bound n (Bv ls))):=by
 have D0:=hid (SD w A m c ls hm b6 h8 a1 ha);have DW:=hid (fun wx=>Zi wx bound n h1 h2 nB);have hW:=fI (n:=n) hb;have bn:(Bv ls).length=8*m:=by rw[EY,hm]
 have cC:Hid (n*efW bound n<=280000):=Bm (Hh (by omega:n<=20000) hW) ji;obtain⟨R,hR⟩:=jc (Hu bound n (Bv ls));rw[<-hR];unfold Hu at hR;generalize efW bound n=W at *;generalize Bv ls=bs at *;have HR:=hid hR;have HZ:=hid bn;clear hm h8 a1 ha hR bn;go_enter Tryz.func246,Tryz.ntmps246;go_wp2_with fail;refine D0.out.mono ?_;rintro e w1 ⟨gr,rfl,ba,bc,bO⟩;have cz:=ba.lt;have bN:=hid ba;have ax:=hid bO;clear ba bO D0;go_wp2_with fail;refine(DW.out _).mono ?_;rintro e N ⟨rfl,rfl⟩;go_wp2_with fail;have bg:Prt 323 (N.alloc (.cells #[.int .i64 (W:Nat),(),()] 323)) N N W (([]:List Nat).map (·/ 2 ^ W)) (([]:List Nat).map (·% 2 ^ W)) (.slice none 0 0) (.slice none 0 0):=⟨Blk.made _ _ _,AE _ _ _ _,AE _ _ _ _,Am _⟩;have bG:Rd (N.alloc (.cells #[.int .i64 (W:Nat),(),()] 323)) w gr bs 0:=bN.out.keep (fun b _ aw=>EA N _ b nB) bc;have aw:Below w w (N.alloc (.cells #[.int .i64 (W:Nat),(),()] 323)):=mZ ax.out.size ax.out;generalize b4:N.alloc (.cells #[.int .i64 (W:Nat),(),()] 323)=w2 at *;have z2:w2.heap.size=N.heap.size+1:=by rw[<-b4];simp
 clear b4;have zw:=ax.out.size;generalize N.heap.size=gl at *;have c0:=bg.blk.iy 0;have bm:=hid bg;have bp:=hid aw;have DL:=hid (mM w2 w gr bs n W nB hW bc bG);unfold PH at DL;clear bg bG aw bN ax DW;go_wp2_with fail;refine DL.out.mono ?_;rintro e w3 ⟨au,M⟩;have z3:=au.size;have bb:Hid (Below w w w3):=bp.out.trans (au.below (fun b h=>⟨nB,nB⟩));by_cases ah:bs.length<n*W
 ·rw[Ag ah]at M;subst M;have L:Hid (R=([],0,1)):=by have h:=HR.out;rw[Ag ah]at h;exact h
  clear ah HR au;go_wp2_with fail
  go_ret3
  exact JC L.out ji bb.out
 ·rw[Ae ah]at M;obtain⟨v,rfl,ac,bC⟩:=M;obtain⟨va,vc,rfl⟩:=aZ ac;have hr:=HR.out;rw[Ae ah]at hr;have b0:Prt 323 w3 gl gl W (([]:List Nat).map (·/ 2 ^ W)) (([]:List Nat).map (·% 2 ^ W)) (.slice none 0 0) (.slice none 0 0):=bm.out.keep (fun y hy hy2=>au.block y ⟨hy2,nB⟩);obtain⟨T,hT⟩:=jc (rowN bound W bs (ER W bs n) (n*W) 0 []);rw[<-hT]at hr;have cd:Hid (∀x∈ER W bs n,x<2 ^ W):=Wl W bs n;have a4:Hid ((ER W bs n).length=n):=RD W bs n;have bX:Hid (rowN bound W bs ((ER W bs n).drop 0) (n*W) 0 []=T):=hT.symm;have az:Hid (n*W<=bs.length):=by show _<=_;omega
  generalize ER W bs n=lw at *;generalize n*W=N0 at *;have b3:=hid hr;have a5:Hid (∀a er,T=([],a,er)->er≠0->R=([],0,er)):=fun a er h he=>by rw[hr,h];exact Ag he
  have cw:bs.length<=800000:=mT
  have bl:=hid ac;have bq:=hid bC;have bF:=hid b0;have cy:Hid (∀y,(Value.slice va n vc).ownBlock=some y->w2.heap.size<=y):=fun y hy=>(Ai ac y hy).1;clear ah hr hT ac bC b0 HR bm bp DL au c0;go_wp2_with fail;go_loopw [13,14,47] (fun hv wv iv wr=>∃ (k J at_:Nat) (i:List Nat) (vH vL:Value),k<=n/\J<=20000/\at_<=bs.length/\hv= .int .i64 J/\iv= .int .i64 k/\wv= .int .i64 (JF i)/\Hid (i.length=k)/\Hid (∀x∈i,x<=20000)/\Hid (rowN bound W bs (lw.drop k) at_ J i=T)/\Hid (wr.ownsRow w2 25 1 (.slice va n vc) n (bZ .u16 lw))/\Hid (Rd wr w gr bs at_)/\Hid (Prt 323 wr gl gl W (i.map (·/ 2 ^ W)) (i.map (·% 2 ^ W)) vH vL)/\Hid (∀y,(Value.slice va n vc).ownBlock=some y->vL.ownBlock≠some y)/\Hid (Below w w wr)) (fun _ _ iv _=>n-(intOf iv).toNat)
  case atStart=>exact⟨0,0,N0,[], .slice none 0 0, .slice none 0 0,nB,nB,az.out,rfl,rfl,rfl,rfl,fun x hx=>pT,bX.out,bl.out,bq.out,bF.out,(by first|trivial|(intro y _ h;cases h)),bb.out⟩
  case round=>
   obtain⟨k,J,at_,i,vH,vL,hk,b7,bi,rfl,rfl,rfl,HI,bh,HT,HO,ar,HP,HV,HB⟩:=hrel;have zr:=HB.out.size;have cq:=HP.out.blk.lt;clear bX az bl bq bF bb;by_cases cB:k<n
   ·have g1:=ja ((k:Int)<n);have ct:=ja (k<n);obtain⟨x,hx⟩:∃x,lw[k]? =some x:=⟨_,AD (by have:=a4.out;omega)⟩;have an:lw.drop k=x :: lw.drop (k+1):=(by obtain⟨hl,e⟩:=BS.1 hx;rw[Dx hl,e]);have a3:=cd.out x (AY hx);have ce:2 ^ W<=16384:=my;have bt:1<=2 ^ W:=Nat.one_le_two_pow;obtain⟨gv,cv,ca,cu,_⟩:=HO.out.form nB;injection ca with e1 e2 e3;subst e1 e3;have cx:wr.cell? ⟨gv,k,none⟩=some (.int .u16 (x:Nat)):=(by rw[HO.out.cellAt k nB];unfold bZ;rw[BR,hx];rfl);have x0:(0:Int)<=(k:Int):=nB;have x1:(k:Int)<(n:Int):=nB;have hT:=HT.out;rw[an,rowN]at hT;have DU:=hid (Zf wr w gr bs at_ ar.out);have cm:=mH bs at_;have b8:=Qv bi;generalize unV bs at_=d at *;generalize unE bs at_=ue at *;generalize unA bs at_=ua at *;obtain⟨j,bS⟩:=jc (J+d);have s1:IntKind.i64.wrap ((J:Int)+(d:Int))=(j:Int):=nX;rw[<-bS]at hT;obtain⟨hw,ae⟩:=jc (j*2 ^ W);have cj:hw<=13434880000:=(by rw[ae];exact Bm (Hh (show j<=820000 by omega) ce) ji);have cp:j<=hw:=(by rw[ae];exact Nat.le_mul_of_pos_right _ nB);have E1:Hid (IntKind.i64.wrap ((j:Int)*2 ^ W)=(hw:Int)):=(by show _=_;rw[show(j:Int)*2 ^ W=(hw:Int) by rw[ae];simp,Az _ nB]);have E2:Hid (bits .or .i64 (hw:Int) (x:Int)=((hw+x:Nat):Int)):=(by show _=_;rw[Rm hw x nB nB,ae,zV j x W a3]);rw[<-ae]at hT;obtain⟨id,bU⟩:=jc (hw+x);rw[<-bU]at hT E2;have cF:IntKind.i64.wrap (x:Int)=(x:Int):=Az _ nB;have ci:j<=id:=nB;have ag:=hid hT;clear hT hx an a3 bS ae bU HT bt;go_wp2_with fail;refine DU.out.mono ?_;rintro e w4 ⟨rfl,bM,al⟩;have z4:=al.size;have ab:=hid bM;have E:Hid (Prt 323 w4 gl gl W (i.map (·/ 2 ^ W)) (i.map (·% 2 ^ W)) vH vL):=HP.out.keep (fun y hy _=>al.block y nB);have af:Hid (w4.ownsRow w2 25 1 (.slice (some ⟨gv,0,none⟩) n vc) n (bZ .u16 lw)):=eZ HO.out (fun y hy=>al.block y (by have:=(Ai HO.out y hy).1;omega));have G:Hid (Below w w w4):=HB.out.trans (al.below (fun b h=>by omega));have c0:=E.out.blk.iy 0;clear bM al HP HO HB ar DU cx;by_cases ak:ue=0
    ·subst ak;have hT:=ag.out;rw[Ae (show ¬((0:Int)≠0) from fun h=>h rfl)]at hT;by_cases hB:i≠ []/\id<=i.getLast?.getD 0
     ·have gB:decide ((id:Int)<=JF i)=true:=AQ (Qz.2 hB);have L:Hid (R=([],0,2)):=(by rw[Ag hB]at hT;exact a5.out _ _ hT.symm ji);have e1:=E1.out;have e2:=E2.out;clear hB hT ag;go_wp2_with fail
      go_ret3
      exact JC L.out ji G.out
     ·have gB:decide ((id:Int)<=JF i)=false:=AV (fun h=>hB (Qz.1 h));rw[Ae hB]at hT;by_cases hC:bound<=id
      ·have gC:=ja ((bound:Int)<=id);have cg:=ja (bound<=id);have L:Hid (R=([],0,8)):=(by rw[Ag hC]at hT;exact a5.out _ _ hT.symm ji);have e1:=E1.out;have e2:=E2.out;clear hB hT ag hC;go_wp2_with fail
       go_ret3
       exact JC L.out ji G.out
      ·have gC:=jb ((bound:Int)<=id);have cg:=jb (bound<=id);rw[Ae hC]at hT;have cr:id<=20000:=nB;have DA:=hid (Ym 323 ji ji w4 gl gl W _ _ vH vL id nB hW (by rw[Bk,HI.out];omega) (by rw[Bk,HI.out];omega) E.out);have ch:=hid hT;have co:=E.out.blk.lt;have e1:=E1.out;have e2:=E2.out;clear hB hT ag hC;go_wp2_with fail;refine DA.out.mono ?_;rintro e w5 ⟨rfl,b5,bd,bk,a6,aj,bj⟩;have U:Hid (Prt 323 w5 gl gl W ((i++ [id]).map (·/ 2 ^ W)) ((i++ [id]).map (·% 2 ^ W)) b5 bd):=(by rw[DY,DY];exact bk);have am:Hid (Rd w5 w gr bs ua):=ab.out.keep (fun b _ aw=>a6.block b nB) bc
       have b9:Hid (w5.ownsRow w2 25 1 (.slice (some ⟨gv,0,none⟩) n vc) n (bZ .u16 lw)):=eZ af.out (fun y hy=>aj.block y ⟨(Ai af.out y hy).2,by have:=(Ai af.out y hy).1;omega,fun e=>by
        rcases EN E.out.oh af.out ji with e3|e3
        ·rw[e3]at e;cases e
        ·exact e3 (by rw[e,hy]),HV.out y hy⟩)
       have cf:Hid (∀y,(Value.slice (some ⟨gv,0,none⟩) n vc).ownBlock=some y->bd.ownBlock≠some y):=fun y hy h=>HV.out y hy (bj y (Ai af.out y hy).2 h);have Q:Hid (Below w w w5):=G.out.trans (a6.mono nB);clear bk a6 aj bj E ab af G HV DA c0 e1 e2;go_wp2_with fail;go_roundw
       case measure=>exact ld
       case rel=>go_light;exact⟨k+1,j,ua,i++ [id],b5,bd,nB,nB,b8,jk,jk,by rw[cQ],by show _=_;rw[Aj,HI.out];rfl,by intro y hy;rcases Bx.1 hy with h|h;exact bh.out y h;(rw[Em]at h;omega),ch.out,b9.out,am.out,U.out,cf.out,Q.out⟩
    ·have gE:(ue != 0)=true:=(by simpa using ak);have L:Hid (R=([],0,ue)):=(by have h:=ag.out;rw[Ag ak]at h;exact a5.out _ _ h.symm ak);have cc:=hid ak;clear ak ag;go_wp2_with fail
     go_ret3
     exact JC L.out cc.out G.out
   ·obtain rfl:k=n:=by omega
    have g1:=jb ((k:Int)<k);have hT:=HT.out;rw[CF (by rw[a4.out];exact Am _),rowN]at hT;have hr:=b3.out;rw[<-hT]at hr;rw[Ae (show ¬((0:Int)≠0) from fun h=>h rfl)]at hr;have a0:=YN (z:=bs.length) (at_:=at_) (by rw[HZ.out];omega) bi;simp only at hr;have DL:=hid (left_any wr w gr bs at_ ar.out);have bu:=hid hr;obtain⟨r,ay⟩:=jc (Hw at_);obtain⟨l,hl⟩:=jc (bs.length-at_);rw[<-hl]at DL a0;have sr:(l:Int) % 8=(r:Int):=nB;have cE:r<=7:=(by rw[ay];unfold Hw;omega);have aq:at_+r<=bs.length:=(by have h:=HZ.out;have h3:=Nat.mod_le l 8;omega);rw[<-ay]at hr;have ai:=hid hr;have aa:at_+r=at_+Hw at_:=(by rw[ay]);clear hT hr HT b3 hl a0 ay bu;go_wp2_with fail;refine DL.out.mono ?_;rintro e w4 ⟨rfl,q,hq⟩;have ab:Hid (Rd w4 w gr bs at_):=(by rw[hq];exact ar.out.drewN q);have E:Hid (Prt 323 w4 gl gl W (i.map (·/ 2 ^ W)) (i.map (·% 2 ^ W)) vH vL):=(by rw[hq];exact HP.out.keep (fun y _ _=>rfl));have G:Hid (Below w w w4):=(by rw[hq];exact below_drewN HB.out q);clear hq ar HP HB DL;by_cases b1:r=0
    ·subst b1;have be:Hid (R=(i,(at_+7) / 8,0)):=(by have h:=ai.out;rw[Ae (by rw[AN];exact fun h=>h rfl)]at h;exact h);obtain⟨a2,ha⟩:=jc (at_+0);rw[<-ha]at aa;have am:Hid (Rd w4 w gr bs a2):=(by rw[ha];exact ab.out);have U:=E;have Q:=G;obtain⟨w5,rfl⟩:=jc w4;clear ai ha ab E G;have Y:=hid (left_any w5 w gr bs a2 am.out);obtain⟨l2,av⟩:=jc (bs.length-a2);rw[<-av]at Y;obtain⟨t,ht⟩:=jc (l2 / 8);have st:(l2:Int) / 8=(t:Int):=nB;have st2:IntKind.i64.wrap (t:Int)=(t:Int):=Az _ mT;have so:IntKind.i64.wrap ((m:Int)-(t:Int))=(((at_+7) / 8:Nat):Int):=nV;generalize (at_+7) / 8=o at *;clear av ht aa;go_wp2_with fail;refine Y.out.mono ?_;rintro e w6 ⟨rfl,q6,Z⟩;have bf:Hid (Prt 323 w6 gl gl W (i.map (·/ 2 ^ W)) (i.map (·% 2 ^ W)) vH vL):=(by rw[Z];exact U.out.keep (fun y _ _=>rfl));have a9:Hid (Below w w w6):=(by rw[Z];exact below_drewN Q.out q6);clear Z U Q Y;go_wp2_with fail
     go_ret3
     rw[be.out];exact⟨a9.out,fun h=>absurd rfl h,fun _=>⟨_,rfl,gl,W,vH,vL,rfl,hW,by rw[HI.out];omega,bh.out,bf.out.mono zw⟩⟩
    ·have cA:=ja ((0:Int)<r);have cl:=ja (0<r);have DG:=JX w4 w gr bs at_ r nB ab.out;unfold I4 I2 I1 at DG;rw[Ag aq,Ag aq,Ag aq]at DG;obtain⟨a2,ha⟩:=jc (at_+r);rw[<-ha]at aa DG;generalize AN bs at_ r=y at *;have DG:=hid DG;clear ha b1;go_wp2_with fail;refine DG.out.mono ?_;rintro e w5 ⟨rfl,bW,aj⟩;have am:=hid bW;have U:Hid (Prt 323 w5 gl gl W (i.map (·/ 2 ^ W)) (i.map (·% 2 ^ W)) vH vL):=E.out.keep (fun y hy _=>aj.block y nB);have Q:Hid (Below w w w5):=G.out.trans (aj.below (fun b h=>by omega));clear bW aj ab E G DG;by_cases hy:y=0
     ·subst hy;have be:Hid (R=(i,(at_+7) / 8,0)):=(by have h:=ai.out;rw[Ae (fun h=>h rfl)]at h;exact h);clear ai;have Y:=hid (left_any w5 w gr bs a2 am.out);obtain⟨l2,av⟩:=jc (bs.length-a2);rw[<-av]at Y;obtain⟨t,ht⟩:=jc (l2 / 8);have st:(l2:Int) / 8=(t:Int):=nB;have st2:IntKind.i64.wrap (t:Int)=(t:Int):=Az _ mT;have so:IntKind.i64.wrap ((m:Int)-(t:Int))=(((at_+7) / 8:Nat):Int):=nV;generalize (at_+7) / 8=o at *;clear av ht aa;go_wp2_with fail;refine Y.out.mono ?_;rintro e w6 ⟨rfl,q6,Z⟩;have bf:Hid (Prt 323 w6 gl gl W (i.map (·/ 2 ^ W)) (i.map (·% 2 ^ W)) vH vL):=(by rw[Z];exact U.out.keep (fun y _ _=>rfl));have a9:Hid (Below w w w6):=(by rw[Z];exact below_drewN Q.out q6);clear Z U Q Y;go_wp2_with fail
      go_ret3
      rw[be.out];exact⟨a9.out,fun h=>absurd rfl h,fun _=>⟨_,rfl,gl,W,vH,vL,rfl,hW,by rw[HI.out];omega,bh.out,bf.out.mono zw⟩⟩
     ·have gy:((y:Int) != 0)=true:=oX;have L:Hid (R=([],0,2)):=(by have h:=ai.out;rw[Ag hy]at h;exact h);clear ai hy aa;go_wp2_with fail
      go_ret3
      exact JC L.out ji Q.out
end Ef
end
variable{bound:Nat}
namespace Ef
open Go.RowKit Mem Own Canon NumPut Nums
open Huff (Bv EY)
open Crc (Fy)
theorem number_any(w:World)(base g W i id:Nat)(h:List Nat)(vH vL:Value)(hW:W<=14)(Y:h.length<=20000)(L:∀x∈h,x<=20000)(hP:Prt 323 w base g W (h.map (·/ 2 ^ W)) (h.map (·% 2 ^ W)) vH vL)(hi:h[i]? =some id):
 Calls prog 247 #[.pointer (some ⟨g,0,none⟩), .int .i64 (i:Nat)] w fun e w'=>e= .returned (.int .i64 (id:Nat))/\∃q,w'=w.drewN q:=by
 have aa:i<h.length:=(BS.1 hi).1;have ab:=L id (AY hi);have U:2 ^ W<=16384:=my
 have Q:1<=2 ^ W:=Nat.one_le_two_pow;have c0:=hP.blk.iy 0;have c1:=hP.blk.iy 1;have c2:=hP.blk.iy 2;have oh:=hP.oh;have ol:=hP.ol;rw[Bk]at oh ol;obtain⟨gh,ch,rfl,_,_⟩:=oh.form nB;obtain⟨gl,cl,rfl,_,_⟩:=ol.form nB;obtain⟨j,N⟩:=jc (id / 2 ^ W);obtain⟨lo,E⟩:=jc (id % 2 ^ W);have d1:w.cell? ⟨gh,i,none⟩=some (.int .i64 (j:Nat)):=by rw[oh.cellAt i nB];unfold bZ;rw[BR,BR,hi,N];rfl
 have d2:w.cell? ⟨gl,i,none⟩=some (.int .u16 (lo:Nat)):=by rw[ol.cellAt i nB];unfold bZ;rw[BR,BR,hi,E];rfl
 have J:lo<2 ^ W:=by rw[E];exact Nat.mod_lt _ nB
 have G:j*2 ^ W+lo=id:=by rw[N,E,Nat.mul_comm];exact Nat.div_add_mod _ _
 obtain⟨hw,M⟩:=jc (j*2 ^ W);have e1:IntKind.i64.wrap ((j:Int)*2 ^ W)=(hw:Int):=by rw[show(j:Int)*2 ^ W=(hw:Int) by rw[M];simp,Az _ nB]
 have e2:bits .or .i64 (hw:Int) (lo:Int)=(id:Int):=by rw[Rm hw lo nB nB,M,zV j lo W J,G]
 have Z:IntKind.i64.wrap (lo:Int)=(lo:Int):=Az _ nB;have x0:(0:Int)<=(i:Int):=nB
 have x1:(i:Int)<(h.length:Int):=nB
 generalize h.length=n at *;clear hP oh ol hi L N E G M J U Q;go_enter func247,ntmps247;go_wp2_with fail;go_quiet (fail);go_wp2_with fail;go_ret;exact⟨rfl,_,rfl⟩
theorem len_any(w:World)(base:Nat)(p:Value)(i:List Nat)(h:ListAt w base p i):
 Calls prog 198 #[p] w fun e w'=>e= .returned (.int .i64 (i.length:Nat))/\w'=w:=by
 obtain⟨g,W,vH,vL,rfl,_,_,_,hP⟩:=h;have c1:=hP.blk.iy 1;have oh:=hP.oh;rw[Bk]at oh;obtain⟨A,c,rfl⟩:=aZ oh;generalize i.length=n at *;clear hP oh;go_enter func198,ntmps198;go_wp2_with fail;go_ret;exact⟨rfl,rfl⟩
theorem Xp:(prog.info? 3).map (fun i=>(i.zero,i.size,i.bytes))=some (some (.int .i64 0),1,8):=ni
theorem Yy(w:World)(base:Nat)(p:Value)(j:List Nat)(h:ListAt w base p j):
 Calls prog 199 #[p] w fun e w'=>∃v,e= .returned v/\w'.ownsRow w 3 1 v j.length (bZ .i64 j)/\Below w w w':=by
 obtain⟨j0,ae,ac,aa,M⟩:=info_parts Xp;have DL:=hid (len_any w base p j h);obtain⟨g,W,vH,vL,rfl,hW,G,J,hP⟩:=h;have DN:=hid (fun wx i id (hb:Below w w wx) hi=>number_any wx base g W i id j vH vL hW G J (hP.keep (fun y _ M=>hb.block y M)) hi);obtain⟨n,hn⟩:=jc j.length;rw[<-hn]at DL G ⊢;have HN:=hid hn;clear J hP hn;go_enter func199,ntmps199;go_wp2_with fail;refine DL.out.mono ?_;rintro e w1 ⟨rfl,rfl⟩;go_wp2_with fail;go_loopw [3,7] (fun v iv wr=>∃k:Nat,k<=n/\iv= .int .i64 k/\Hid (wr.ownsRow w1 3 1 v k (bZ .i64 (j.take k)))/\Hid (Below w1 w1 wr)) (fun _ iv _=>n-(intOf iv).toNat)
 case atStart=>exact⟨0,nB,rfl,AE _ _ _ _,Ak _ _⟩
 case round=>
  obtain⟨k,hk,rfl,HO,HB⟩:=hrel;obtain⟨va,vc,rfl⟩:=aZ HO.out;have zr:=HB.out.size;by_cases ag:k<n
  ·have g1:=ja ((k:Int)<n);have af:=ja (k<n);obtain⟨id,L⟩:∃id,j[k]? =some id:=⟨_,AD mR⟩;have HT:Hid (j.take (k+1)=j.take k++ [id]):=(by show _=_;rw[Ca,L];rfl);have D:=hid (DN.out wr k id HB.out L);clear L DL;go_wp2_with fail;refine D.out.mono ?_;rintro e w2 ⟨rfl,q,hq⟩;have Y:Hid (w2.ownsRow w1 3 1 (.slice va k vc) k (bZ .i64 (j.take k))):=(by rw[hq];exact eZ HO.out (fun y _=>rfl));have U:Hid (Below w1 w1 w2):=(by rw[hq];exact below_drewN HB.out q);have z2:=U.out.size;clear hq HO HB D;go_wp2_with(at_builtin;refine fZ rfl (.tmp 10) (.tmp 16) 37 rfl w1 3 j0 _ 1 8 underlying37 ae ac aa M rfl ji _ _ _ nC (Y.out.alloc _) _ 1 1 [.int .i64 (id:Nat)] nC (Src.of_blk (Blk.made_at _ _ _ pR) 1 1 1 rfl) mY qn nB p5 ?_;intro v5 w5 E Q N;obtain⟨A5,c5,rfl⟩:=aZ E);have Z:Hid (Below w1 w1 w5):=(mZ z2 U.out).grown Q p5 (fun y hy=>(Ai Y.out y hy).1);have ab:Hid (w5.ownsRow w1 3 1 (.slice A5 (k+1) c5) (k+1) (bZ .i64 (j.take (k+1)))):=(by show World.ownsRow _ _ _ _ _ _ _;rw[HT.out,show bZ .i64 (j.take k++ [id])=bZ .i64 (j.take k)++ [.int .i64 (id:Nat)] by simp[bZ]];exact E);clear E Q N HT;go_roundw
   case measure=>exact ld
   case rel=>go_light;exact⟨k+1,nB,jk,ab.out,Z.out⟩
  ·obtain rfl:k=n:=by omega
   have g1:=jb ((k:Int)<k);have HT:Hid (j.take k=j):=Bp oz;rw[HT.out]at HO;go_wp2_with fail;go_ret;exact⟨_,rfl,HO.out,HB.out⟩
def efG(a:Nat)(R:List Nat×Nat×Int):List Nat×Nat×Int:=if R.2.2≠0 then([],0,R.2.2)else(R.1,a+R.2.1,0)
def efR(bound:Nat)(bs:List Nat):List Nat×Nat×Int:=
 if AU bound bs 0 0≠0 then([],0,AU bound bs 0 0)else if Bh bound bs 0 0=0 then([],AR bound bs 0 0,0)
 else efG (AR bound bs 0 0) (Hu bound (Bh bound bs 0 0) (Bv (bs.drop (AR bound bs 0 0))))
theorem Qw{n z:Nat}{bs:List Bool}(hz:bs.length=8*z):(Hu bound n bs).2.1<=z:=by
 unfold Hu;split
 ·exact Da _
 ·rename_i h;have:=Ta (bound:=bound) (W:=efW bound n) (bs:=bs) (ER (efW bound n) bs n) (n*efW bound n) 0 [] nB;split
  ·exact Da _
  ·split
   ·exact Da _
   ·simp only;omega
theorem d9{bs:List Nat}(h8:∀x∈bs,x<=255):(efR bound bs).2.1<=bs.length:=by
 have ha:AR bound bs 0 0<=bs.length:=intA_le h8 0 nB;unfold efR;split
 ·exact Da _
 ·split
  ·exact ha
  ·have h:=Qw (bound:=bound) (n:=Bh bound bs 0 0) (z:=bs.length-AR bound bs 0 0) (bs:=Bv (bs.drop (AR bound bs 0 0))) (by rw[EY,AZ]);unfold efG;split
   ·exact Da _
   ·simp only;omega
theorem ListAt.mono{w:World}{base i:Nat}{p:Value}{j:List Nat}(h:ListAt w base p j)(hb:i<=base):ListAt w i p j:=by obtain⟨g,W,vH,vL,h1,h2,h3,h4,h5⟩:=h;exact⟨g,W,vH,vL,h1,h2,h3,h4,h5.mono hb⟩
set_option maxHeartbeats 1000000 in
theorem W6(w:World)(A:Option Addr)(m c bound:Nat)(bs:List Nat)(hm:bs.length=m)(aq:m<=100000)(h8:∀x∈bs,x<=255)(hc:m<=c)(J:A=none->m=0/\c=0)(ha:Row w w A m 1 (kZ .u8 bs))(hb:bound<=20000):
 Calls prog 197 #[.int .i64 (bound:Nat), .slice A m c] w (Ny w (efR bound bs)):=by
 have D0:=hid (new_any w A m c bs hm aq J ha);have al:bs.length<=100000:=nB
 have D1:=hid (fun wx g B d h=>I5 wx g w bs B d 0 0 bound al h8 nB h);have ax:=jb ((bound:Int)<0)
 have az:=jb ((20000:Int)<bound)
 have aw:=jb (20000<bound)
 obtain⟨R,hR⟩:=jc (efR bound bs);rw[<-hR];have am:Bh bound bs 0 0<=bound:=Gr h8 0 0;have an:AR bound bs 0 0<=bs.length:=intA_le h8 0 nB;unfold efR at hR;generalize AU bound bs 0 0=ie at *;generalize Bh bound bs 0 0=n at *;generalize AR bound bs 0 0=a at *;have ak:Row w w (Ba A a c 1) (m-a) 1 (kZ .u8 (bs.drop a)):=by have h:=Fy (hm ▸ ha:Row w w A bs.length 1 (kZ .u8 bs)) an (by omega:bs.length<=c);rw[hm]at h;exact h
 have G:Ba A a c 1=none->m-a=0/\c-a=0:=fun h=>by
  have hA:A=none:=by
   unfold Ba at h;split at h
   ·exact h
   ·cases A with
    |none=>rfl
    |some x=>cases h
  have:=J hA;omega
 have DR:=hid (fun wx (hbx:Below w w wx) (h1:1<=n)=>Yv wx (Ba A a c 1) (m-a) (c-a) bound n (bs.drop a) (by rw[AZ,hm]) nB (fun x hx=>h8 x (Cg hx)) G ((ak.below hbx).mono hbx.size) h1 am hb);have ks:=fun wx=>Gg (P:=prog) (t:=28) (s:=1) underlying28 (fun _=>by kernel_rfl) A m c .i64 (a:Int) a rfl nB wx;have HR:=hid hR;generalize Ba A a c 1=A2 at *;have Q:Hid ((Hu bound n (Bv (bs.drop a))).2.1<=m-a):=Qw (by rw[EY,AZ,hm]);generalize Hu bound n (Bv (bs.drop a))=T at *;have a3:a<=m:=nB
 clear hm h8 J ha hR ak G am an;go_enter func197,ntmps197;go_wp2_with fail;refine D0.out.mono ?_;rintro e w1 ⟨g,B,d,rfl,U,aa⟩;have DI:=hid (D1.out w1 g B d U);have aj:=hid aa;have ay:=U.lo;have a1:=aa.size;clear U aa D0 D1;go_wp2_with fail;refine DI.out.mono ?_;rintro e w2 ⟨rfl,Y,ah⟩;have E:Hid (Below w w w2):=aj.out.trans (ah.below fun b h=>⟨nB,nB⟩);have DE:=hid (Ej w2 g w bs B d a ie Y);have DA:=hid (fun wx (hb:Below w2 w2 wx)=>JK wx g w bs B d a ie (Y.step hb));clear Y ah aj DI;go_wp2_with fail;refine DE.out.mono ?_;rintro e w3 ⟨rfl,rfl⟩;by_cases i:ie=0
 ·have gE:(ie != 0)=false:=by rw[i];rfl
  by_cases af:n=0
  ·subst af;have j:Hid (R=([],a,0)):=(by have h:=HR.out;rw[Ae (by simp[i]),Ag rfl]at h;exact h);have av:=hid (DA.out (w3.alloc (.cells #[jd,(),()] 323)) (cZ (Ak _ _)));clear HR i DR DA DE;go_wp2_with fail;refine av.out.mono ?_;rintro e w4 ⟨rfl,rfl⟩;go_wp2_with fail
   go_ret3
   rw[j.out];exact⟨mZ E.out.size E.out,fun h=>absurd rfl h,fun _=>⟨_,rfl,w3.heap.size,0, .slice none 0 0, .slice none 0 0,rfl,nB,pR,(fun x hx=>by simp at hx),⟨Blk.made _ _ _,AE _ _ _ _,AE _ _ _ _,E.out.size⟩⟩⟩
  ·have gn:((n:Int)==0)=false:=oi;have a0:(n==0)=false:=oi;have j:Hid (R=efG a T):=(by have h:=HR.out;rw[Ae (by simp[i]),Ae af]at h;exact h);have Z:=hid (DA.out w3 (Ak _ _));have ag:=hid (fun wx hbx=>DR.out wx hbx nB);clear HR i af DR DE;go_wp2_with fail;refine Z.out.mono ?_;rintro e w4 ⟨rfl,rfl⟩;go_wp2_with fail;refine(ag.out _ E.out).mono ?_;rintro e w5 ⟨M,L,ae⟩;have ai:Hid (Below w w w5):=E.out.trans (M.mono E.out.size);by_cases hT:T.2.2=0
   ·obtain⟨p,rfl,hL⟩:=ae hT;have HL:=hid hL;have N:Hid (R=(T.1,a+T.2.1,0)):=(by show _=_;rw[j.out];unfold efG;exact Ae (by simp[hT]));have au:=hid (DA.out w5 M);have zz:=E.out.size;have ar:=Q.out;obtain⟨t1,ab⟩:=jc T.2.1;rw[<-ab]at N ar;have s1:IntKind.i64.wrap ((a:Int)+(t1:Int))=((a+t1:Nat):Int):=nX;rw[<-ab];clear M L ae hL j hT DA Z ag Q ab;go_wp2_with fail;refine au.out.mono ?_;rintro e w6 ⟨rfl,rfl⟩;go_wp2_with fail
    go_ret3
    rw[N.out];exact⟨ai.out,fun h=>absurd rfl h,fun _=>⟨_,rfl,HL.out.mono zz⟩⟩
   ·have he:=L hT;subst he;have gT:(T.2.2 != 0)=true:=(by simpa using hT);have N:Hid (R=([],0,T.2.2)):=(by show _=_;rw[j.out];unfold efG;exact Ag hT);have ac:=hid hT;clear M L ae j hT DA Z ag Q;generalize T.2.2=te at *;go_wp2_with fail
    go_ret3
    exact JC N.out ac.out ai.out
 ·have gE:(ie != 0)=true:=by simpa using i
  have j:Hid (R=([],0,ie)):=by have h:=HR.out;rw[Ag i]at h;exact h
  have ac:=hid i;clear i HR DR DA DE;go_wp2_with fail
  go_ret3
  exact JC j.out ac.out E.out
end Ef
end
variable{w w' w5:World}{b base:Nat}{u v5 vF vL:Value}{vals:List Value}{F j:List (List Nat)}
namespace Idx
open Go.RowKit Mem Own Canon Sift
open NumPut Recs Crc Block
open Ef
theorem Yg(w:World)(base gd size:Nat)(ts hs:List Str)(vT vH:Value)(h:DAt w base gd size ts hs vT vH):
 Calls prog 120 #[.pointer (some ⟨gd,0,none⟩)] w fun e w'=>e= .returned (.int .i64 (ts.length:Nat))/\w'=w:=by
 have c0:=h.blk.iy 0;have ot:=h.ot;obtain⟨n,hn⟩:=jc ts.length;rw[<-hn]at ot ⊢;obtain⟨A,c,rfl⟩:=aZ ot;clear h ot hn;go_enter func120,ntmps120;go_wp2_with fail;go_ret;exact⟨rfl,rfl⟩
theorem XW(w:World)(base gd size:Nat)(ts hs:List Str)(vT vH:Value)(h:DAt w base gd size ts hs vT vH)(hl:ts.length<=3000000):
 Calls prog 121 #[.pointer (some ⟨gd,0,none⟩)] w fun e w'=>∃v,e= .returned v/\w'.ownsRow w 9 1 v ts.length (AO ts)/\Below w w w':=by
 have c0:=h.blk.iy 0;have ot:=h.ot;obtain⟨n,hn⟩:=jc ts.length;rw[<-hn]at ot hl ⊢;obtain⟨A,c,rfl⟩:=aZ ot;have D:=hid (UH w base A n c (AO ts) hl ot (JR ts));clear h ot hn;go_enter func121,ntmps121;go_wp2_with fail;refine D.out.mono ?_;rintro e w1 ⟨v,rfl,ho,hb⟩;have HO:=hid ho;have HB:=hid hb;obtain⟨A1,c1,rfl⟩:=aZ ho;clear ho hb D;go_wp2_with fail;go_ret;exact⟨_,rfl,HO.out,HB.out⟩
def lsR(bound:Nat)(ls:List Nat):Nat->Nat->List (List Nat)->List (List Nat)×Int
 |0,at_,acc=>if at_<ls.length then([],2)else(acc,0)
 |k+1,at_,acc=>if(efR bound (ls.drop at_)).2.2≠0 then([],(efR bound (ls.drop at_)).2.2)else if(efR bound (ls.drop at_)).1.length=0 then([],2)else lsR bound ls k (at_+(efR bound (ls.drop at_)).2.1) (acc++ [(efR bound (ls.drop at_)).1])
structure LsAt (w:World) (base:Nat) (vL:Value) (vals:List Value) (acc:List (List Nat)):Prop where
 l:w.ownsRow base 37 1 vL acc.length vals
 r:∀ (i:Nat) v ids,vals[i]? =some v->acc[i]? =some ids->w.ownsRow base 3 1 v ids.length (bZ .i64 ids)
theorem LsAt.step(h:LsAt w base vL vals j)(hb:Below w w w'):LsAt w' base vL vals j:=
 ⟨eZ h.l fun y hy=>hb.block y (Ai h.l y hy).2,fun i v ids hv hi=>eZ (h.r i v ids hv hi) fun y hy=>hb.block y (Ai (h.r i v ids hv hi) y hy).2⟩
theorem LsAt.nil(w:World)(base:Nat):LsAt w base (.slice none 0 0) [] []:=⟨AE _ _ _ _,fun i v ids h=>pS⟩
theorem LsAt.add{E:List Nat}(h:LsAt w base vL vals j)(hu:w.ownsRow base 3 1 u E.length (bZ .i64 E))(hg:w.grownBy w5 vL.ownBlock)(G:w5.ownsRow base 37 1 v5 (j.length+1) (vals++ [u])):LsAt w5 base v5 (vals++ [u]) (j++ [E]):=by
 have far:∀ {n:Nat} {v:Value} {xs:List Value},w.ownsRow base 3 1 v n xs->w5.ownsRow base 3 1 v n xs:=fun hv=>eZ hv fun y hy=>hg.block y (Ai hv y hy).2 fun e2=>by
  rcases EN h.l hv ji with e3|e3
  ·rw[e3]at e2;cases e2
  ·exact e3 (by rw[<-e2,hy])
 have J:vals.length=j.length:=by have:=h.l.1;omega
 refine⟨by rw[Aj];exact G,fun i v is hv hi=> ?_⟩;by_cases L:i<j.length
 ·rw[Hk nB]at hv;rw[Hk L]at hi;exact far (h.r i v is hv hi)
 ·rw[I8 nB]at hv;rw[I8 nB]at hi;have h0:i-j.length=0:=by have:=(BS.1 hi).1;simp at this;omega
  rw[J,h0]at hv;rw[h0]at hi;simp at hv hi;subst hv hi;exact far hu
theorem Qn:(prog.info? 37).map (fun i=>(i.zero,i.size,i.bytes))=some (some (.slice none 0 0),1,24):=ni
def WJ(w:World)(R:List (List Nat)×Int)(e:Ending)(w':World):Prop:=
 Below w w w'/\∃v vals,e= .returned (.tuple #[v,R.2])/\LsAt w' w v vals R.1
theorem Wp(w:World)(A:Option Addr)(m c n bound:Nat)(ls:List Nat)(hm:ls.length=m)(bj:m<=100000)(h8:∀x∈ls,x<=255)(hc:m<=c)(af:A=none->m=0/\c=0)(ha:Row w w A m 1 (kZ .u8 ls))(hb:bound<=20000)(hn:n<=1100000):
 Calls prog 119 #[.int .i64 (n:Nat), .int .i64 (bound:Nat), .slice A m c] w (WJ w (lsR bound ls n 0 [])):=by
 obtain⟨j0,bi,ba,bg,bh⟩:=info_parts Qn;obtain⟨R,hR⟩:=jc (lsR bound ls n 0 []);rw[<-hR];have an:Hid (lsR bound ls (n-0) 0 []=R):=hR.symm;have H8:=hid h8;have HM:=hid hm;have aw:Hid (Row w w A m 1 (kZ .u8 (ls.drop 0))):=by show Row _ _ _ _ _ _;rw[Ie];exact ha
 have a0:=hid af;clear hm h8 af ha hR;go_enter func119,ntmps119;go_wp2_with fail;go_loopw [2,8,13] (fun bv ov iv wr=>∃ (k at_ mx cx:Nat) (Ax:Option Addr) (G:List (List Nat)) (vals:List Value),k<=n/\iv= .int .i64 k/\bv= .slice Ax mx cx/\mx+at_=m/\mx<=cx/\Hid (Ax=none->mx=0/\cx=0)/\Hid (Row w w Ax mx 1 (kZ .u8 (ls.drop at_)))/\Hid (G.length=k)/\Hid (LsAt wr w ov vals G)/\Hid (Below w w wr)/\Hid (lsR bound ls (n-k) at_ G=R)) (fun _ _ iv _=>n-(intOf iv).toNat)
 case atStart=>exact⟨0,0,m,c,A,[],[],nB,rfl,rfl,nB,hc,a0.out,aw.out,rfl,LsAt.nil _ _,Ak _ _,an.out⟩
 case round=>
  obtain⟨k,at_,mx,cx,Ax,G,vals,hk,rfl,rfl,bk,aq,av,ar,HL,J,HB,HG⟩:=hrel;obtain⟨vo,co,rfl⟩:=aZ J.out.l;have zr:=HB.out.size;clear an aw a0;by_cases bl:k<n
  ·have gk:=ja ((k:Int)<n);have bm:=ja (k<n);have hG:=HG.out;rw[show n-k=(n-(k+1))+1 by omega,lsR]at hG;have ak:∀x∈ls.drop at_,x<=255:=fun x hx=>H8.out x (Cg hx);have M:(ls.drop at_).length=mx:=(by rw[AZ,HM.out];omega);have DR:=W6 wr Ax mx cx bound (ls.drop at_) M nB ak aq av.out ((ar.out.below HB.out).mono zr) hb;have aa:=d9 (bound:=bound) ak;rw[M]at aa;generalize efR bound (ls.drop at_)=T at *;obtain⟨N,t1,te⟩:=T;simp only at hG aa;unfold Ny at DR;simp only at DR;have U:=hid hG;have DR:=hid DR;clear hG HG ak M;go_wp2_with fail;refine DR.out.mono ?_;rintro e w3 ⟨Y,j,ab⟩;have Q:Hid (Below w w w3):=HB.out.trans (Y.mono zr);by_cases ht:te=0
   ·subst ht;obtain⟨p,rfl,hp⟩:=ab rfl;have ae:=hid (J.out.step Y);have DL:=hid (len_any w3 wr p N hp);have DA:=hid (Yy w3 wr p N hp);have hG:=U.out;rw[Ae (show ¬((0:Int)≠0) from fun h=>h rfl)]at hG;obtain⟨L,hL⟩:=jc N.length;rw[<-hL]at DL DA hG;by_cases h0:L=0
    ·have gz:((L:Int)==0)=true:=(by rw[h0];rfl);have HF:Hid (R=([],2)):=(by rw[Ag h0]at hG;exact hG.symm);clear Y j ab hp J HB DR hG U h0 hL DA;go_wp2_with fail;refine DL.out.mono ?_;rintro e w4 ⟨rfl,rfl⟩;go_wp2_with fail;go_ret2;rw[HF.out];exact⟨Q.out,_,[],rfl,LsAt.nil _ _⟩
    ·have gz:((L:Int)==0)=false:=oi;rw[Ae h0]at hG;have bb:=hid hG;have bf:=hid hL;have ks:=fun wx=>Gg (P:=prog) (t:=28) (s:=1) underlying28 (fun _=>by kernel_rfl) Ax mx cx .i64 (t1:Int) t1 rfl aa wx;have al:=Fy ar.out aa aq;rw[List.drop_drop]at al;have a6:Hid (Row w w (Ba Ax t1 cx 1) (mx-t1) 1 (kZ .u8 (ls.drop (at_+t1)))):=al
     have a4:Hid (Ba Ax t1 cx 1=none->mx-t1=0/\cx-t1=0):=fun h=>by
      have hA:Ax=none:=by
       unfold Ba at h;split at h
       ·exact h
       ·cases Ax with
        |none=>rfl
        |some x=>cases h
      have:=av.out hA;omega
     have be:mx-t1+(at_+t1)=m:=nB;have bd:mx-t1<=cx-t1:=nB;generalize Ba Ax t1 cx 1=A2 at *;generalize a5:mx-t1=m2 at *;generalize a9:cx-t1=c2 at *;have az:=Q.out.size;clear Y j ab hp J HB DR hG U h0 hL al a5 a9;go_wp2_with fail;refine DL.out.mono ?_;rintro e w4 ⟨rfl,rfl⟩;go_wp2_with fail;refine DA.out.mono ?_;rintro e w5 ⟨v5,rfl,ag,ah⟩;have Z:=hid (ae.out.step ah);have ai:Hid (Below w w w5):=Q.out.trans (ah.mono az);have au:Hid (w5.ownsRow w 3 1 v5 L (bZ .i64 N)):=lZ ag az;obtain⟨A5,c5,rfl⟩:=aZ ag;have a1:=ai.out.size;have aj:Hid (w5.ownsRow w 37 1 (.slice vo G.length co) k vals):=(by have h:=Z.out.l;rw[HL.out]at h ⊢;exact h);clear ag ah DL DA ae Q;go_wp2_with(at_builtin;refine fZ rfl (.tmp 30) (.tmp 33) 51 rfl w 37 j0 _ 1 24 underlying51 bi ba bg bh rfl ji _ _ _ nC (aj.out.alloc _) _ 1 1 [.slice A5 L c5] nC (Src.of_blk (Blk.made_at _ _ _ pR) 1 1 1 rfl) mY qn nB p5 ?_;intro v7 w7 i am ay;obtain⟨A7,c7,rfl⟩:=aZ i);have ac:=(Z.out.step (cZ (o:= .cells #[.slice A5 L c5] 37) (Ak w5 w5))).add (by rw[<-bf.out];exact au.out.alloc _) am (by rw[HL.out];exact i);have ax:=hid ac;have bc:Hid (Below w w w7):=(mZ a1 ai.out).grown am p5 (fun y hy=>(Ai aj.out y hy).1);clear i am ay ac aj au Z ai;go_roundw
     case measure=>exact ld
     case rel=>go_light;exact⟨k+1,at_+t1,m2,c2,A2,G++ [N],vals++ [Value.slice A5 L c5],nB,jk,rfl,be,bd,a4.out,a6.out,pJ,ax.out,bc.out,bb.out⟩
   ·have he:=j ht;subst he;have gE:(te != 0)=true:=(by simpa using ht);have HF:Hid (R=([],te)):=(by have h:=U.out;rw[Ag ht]at h;exact h.symm);clear Y j ab ht U J HB DR;go_wp2_with fail;go_ret2;rw[HF.out];exact⟨Q.out,_,[],rfl,LsAt.nil _ _⟩
  ·obtain rfl:k=n:=by omega
   have gk:=jb ((k:Int)<k);have hG:=HG.out;rw[Gl,lsR]at hG;by_cases E:at_<ls.length
   ·rw[Ag E]at hG;have g0:decide ((0:Int)<(mx:Int))=true:=mQ;have a3:decide (0<mx)=true:=mQ;have HF:=hid hG.symm;clear hG HG E;go_wp2_with fail;go_ret2;rw[HF.out];exact⟨HB.out,_,[],rfl,LsAt.nil _ _⟩
   ·rw[Ae E]at hG;have g0:decide ((0:Int)<(mx:Int))=false:=mQ;have a3:decide (0<mx)=false:=mQ;have HF:=hid hG.symm;clear hG HG E;go_wp2_with fail;go_ret2;rw[HF.out];exact⟨HB.out,_,vals,rfl,J.out⟩
end Idx
namespace Body
open Go.RowKit Mem Own Canon Nums Crc
def Ek:List Nat->List Nat->List (List Nat)
 | [],_=> []
 |n :: S,ls=>ls.take n :: Ek S (ls.drop n)
theorem NJ:∀ (S ls:List Nat),(Ek S ls).length=S.length
 | [],_=>rfl
 |n :: S,ls=>by rw[Ek,AI,AI,NJ S]
theorem Sk:∀ (S:List Nat) (n:Nat) (ls:List Nat),Ek (S++ [n]) ls=Ek S ls++ [(ls.drop S.sum).take n]
 | [],n,ls=>by simp[Ek]
 |m :: S,n,ls=>by rw[En,Ek,Sk S n,Ek,List.drop_drop,GH];rfl
theorem a8{S:List Nat}{i n:Nat}(ls:List Nat)(h:S[i]? =some n):Ek (S.take (i+1)) ls=Ek (S.take i) ls++ [(ls.drop (S.take i).sum).take n]:=by rw[Ca,h];exact Sk _ _ _
structure FrAt (w:World) (base:Nat) (vF:Value) (vals:List Value) (F:List (List Nat)):Prop where
 l:w.ownsRow base 28 1 vF F.length vals
 r:∀ (i:Nat) v b,vals[i]? =some v->F[i]? =some b->w.ownsRow base 5 1 v b.length (bZ .u8 b)
theorem FrAt.step(h:FrAt w base vF vals F)(hb:Below w w w'):FrAt w' base vF vals F:=
 ⟨eZ h.l fun y hy=>hb.block y (Ai h.l y hy).2,fun i v b hv hi=>eZ (h.r i v b hv hi) fun y hy=>hb.block y (Ai (h.r i v b hv hi) y hy).2⟩
theorem FrAt.nil(w:World)(base:Nat):FrAt w base (.slice none 0 0) [] []:=⟨AE _ _ _ _,fun i v b h=>pS⟩
theorem FrAt.set{t:TypeId}{cs:Array Value}(h:FrAt w base vF vals F)(j:Blk w b t cs)(h1:28≠t)(h2:5≠t)(k:Nat)(u:Value):FrAt (w.setCell ⟨b,k,none⟩ u) base vF vals F:=
 ⟨Cb h.l (iZ h.l j h1) _,fun i v ids hv hi=>Cb (h.r i v ids hv hi) (iZ (h.r i v ids hv hi) j h2) _⟩
theorem FrAt.mono{j:Nat}(h:FrAt w base vF vals F)(hb:j<=base):FrAt w j vF vals F:=
 ⟨lZ h.l hb,fun i v b hv hi=>lZ (h.r i v b hv hi) hb⟩
theorem FrAt.add{b:List Nat}(h:FrAt w base vF vals F)(hu:w.ownsRow base 5 1 u b.length (bZ .u8 b))(hg:w.grownBy w5 vF.ownBlock)(j:w5.ownsRow base 28 1 v5 (F.length+1) (vals++ [u])):FrAt w5 base v5 (vals++ [u]) (F++ [b]):=by
 have far:∀ {n:Nat} {v:Value} {xs:List Value},w.ownsRow base 5 1 v n xs->w5.ownsRow base 5 1 v n xs:=fun hv=>own_far hv h.l ji hg;have E:vals.length=F.length:=by have:=h.l.1;omega
 refine⟨by rw[Aj];exact j,fun i v is hv hi=> ?_⟩;by_cases G:i<F.length
 ·rw[Hk nB]at hv;rw[Hk G]at hi;exact far (h.r i v is hv hi)
 ·rw[I8 nB]at hv;rw[I8 nB]at hi;have h0:i-F.length=0:=by have:=(BS.1 hi).1;simp at this;omega
  rw[E,h0]at hv;rw[h0]at hi;simp at hv hi;subst hv hi;exact far hu
theorem XD:(prog.info? 28).map (fun i=>(i.zero,i.size,i.bytes))=some (some (.slice none 0 0),1,24):=ni
structure SpI (w wr:World) (gb:Nat) (t:TypeId) (pre post:List Value) (vF:Value) (vals:List Value) (F:List (List Nat)):Prop where
 blk:Blk wr gb t (pre++vF :: post).toArray
 fr:FrAt wr w vF vals F
 kept:Kept (fun x=>x<w.heap.size/\x≠gb) w wr
 lt:gb<w.heap.size
 t1:28≠t
 t2:5≠t
section
variable {w wr w1 w2 w3:World} {gb:Nat} {t:TypeId} {pre post:List Value} {vF v3 u:Value} {vals:List Value} {F:List (List Nat)} {b:List Nat}
theorem SpI.step(h:SpI w wr gb t pre post vF vals F)(hb:Below wr wr w1):SpI w w1 gb t pre post vF vals F:=
 have hz:=h.kept.size
 ⟨h.blk.step hb,h.fr.step hb,h.kept.trans (Kept.of_below hb (fun x hx=>by have:=hx.1;omega)),h.lt,h.t1,h.t2⟩
theorem SpI.cell(h:SpI w wr gb t pre post vF vals F):wr.cell? ⟨gb,pre.length,none⟩=some vF:=by rw[h.blk.cell pre.length];simp
theorem SpI.add(h:SpI w wr gb t pre post vF vals F)(hu:wr.ownsRow w 5 1 u b.length (bZ .u8 b))(hb:Below wr wr w1)(hg:w1.grownBy w3 vF.ownBlock)(i:w3.ownsRow w 28 1 v3 (F.length+1) (vals++ [u])):
 SpI w (w3.setCell ⟨gb,pre.length,none⟩ v3) gb t pre post v3 (vals++ [u]) (F++ [b]):=by
 have h1:=h.step hb;have b3:=h1.blk.grown hg (By (iZ h1.fr.l h1.blk h.t1));have j:w1.ownsRow w 5 1 u b.length (bZ .u8 b):=eZ hu (fun y hy=>hb.block y (Ai hu y hy).2);have f3:=h1.fr.add j hg i;have hz:=h1.kept.size;refine⟨?_,f3.set b3 h.t1 h.t2 _ _,?_,h.lt,h.t1,h.t2⟩
 ·have hx:=b3.set pre.length v3;rw[aV,List.set_append_right _ _ (Am _),Gl]at hx;exact hx
 ·exact(h1.kept.grown hg (fun y hy=>by have:=hy.1;omega) (fun y hy hk=>by have:=(Ai h1.fr.l y hy).1;have:=hk.1;omega)).set (fun hk=>hk.2 rfl) _
end
end Body
namespace Body
open Go.RowKit Mem Own Canon Nums Crc
theorem Xk{A:Option Addr}{m c k:Nat}(i:A=none->m=0/\c=0):Ba A k c 1=none->m-k=0/\c-k=0:=fun h=>by
 have hA:A=none:=by
  unfold Ba at h;split at h
  ·exact h
  ·cases A with
   |none=>rfl
   |some x=>cases h
 have:=i hA;omega
def Qc(w:World)(base gb p:Nat)(t:TypeId)(pre post:List Value)(S ls:List Nat)(e:Ending)(w':World):Prop:=
 ∃ (A2 A3:Option Addr) (c2 c3:Nat) (vF:Value) (vals:List Value),e= .returned (.tuple #[.slice A2 p c2, .slice A3 (ls.length-S.sum-p) c3])/\
  p<=c2/\ls.length-S.sum-p<=c3/\Row w base A2 p 1 (kZ .u8 ((ls.drop S.sum).take p))/\Row w base A3 (ls.length-S.sum-p) 1 (kZ .u8 (ls.drop (S.sum+p)))/\
  SpI w w' gb t pre post vF vals (Ek S ls)
theorem V3(w:World)(gb base bs p q:Nat)(t:TypeId)(x0 x4 x5 x6 x7:Value)(post:List Value)(As A:Option Addr)(ns cs n c:Nat)(S ls:List Nat)(hB:Blk w gb t (x0 :: .slice As ns cs :: .int .i64 (p:Nat) :: .int .i64 (q:Nat) :: x4 :: x5 :: x6 :: x7 :: .slice none 0 0 :: post).toArray)
 (bt:3≠t)(ax:28≠t)(bl:5≠t)(hS:S.length=ns)(b8:ns<=100000)(G:w.ownsRow bs 3 1 (.slice As ns cs) ns (bZ .i64 S))(hn:ls.length=n)(b0:n<=100000)(hc:n<=c)(h8:∀x∈ls,x<=255)(bX:S.sum+p<=n)
 (ha:Row w base A n 1 (kZ .u8 ls))(bq:base<=gb)(ab:A=none->n=0/\c=0):
 Calls prog 58 #[.pointer (some ⟨gb,0,none⟩), .slice A n c] w (Qc w base gb p t [x0, .slice As ns cs, .int .i64 (p:Nat), .int .i64 (q:Nat),x4,x5,x6,x7] post S ls):=by
 obtain⟨j0,bO,bf,bG,bN⟩:=info_parts XD;have bj:=hB.lt;have aa:Hid (SpI w w gb t [x0, .slice As ns cs, .int .i64 (p:Nat), .int .i64 (q:Nat),x4,x5,x6,x7] post (.slice none 0 0) [] []):=⟨hB,FrAt.nil _ _,Kept.refl _ _,bj,ax,bl⟩;have c1:=hB.iy 1;have bU:Hid (∀k x,S[k]? =some x->(S.take (k+1)).sum=(S.take k).sum+x/\(S.take (k+1)).sum+p<=n):=fun k x h=>by have h1:=R0 h;have h2:=K0 S (k+1);exact⟨h1,nB⟩
 have HS:=hid hS;have aw:=hid G;have HN:=hid hn;have H8:=hid h8;have b4:=hid hB;have ay:Hid (Row w base A n 1 (kZ .u8 (ls.drop 0))):=by show Row _ _ _ _ _ _;rw[Ie];exact ha
 have a3:=hid ab;have bu:=hid (iZ G hB bt);clear hB hS G hn h8 ha ab;go_enter func58,ntmps58;go_wp2_with fail;go_loopw [1,14] (fun bv iv wr=>∃ (k mx cx j:Nat) (Ax:Option Addr) (vF:Value) (vals:List Value),k<=ns/\iv= .int .i64 k/\bv= .slice Ax mx cx/\mx+j=n/\mx<=cx/\Hid (j=(S.take k).sum)/\Hid (Row w base Ax mx 1 (kZ .u8 (ls.drop j)))/\Hid (Ax=none->mx=0/\cx=0)/\Hid (SpI w wr gb t [x0, .slice As ns cs, .int .i64 (p:Nat), .int .i64 (q:Nat),x4,x5,x6,x7] post vF vals (Ek (S.take k) ls))) (fun _ iv _=>ns-(intOf iv).toNat)
 case atStart=>exact⟨0,n,c,0,A,_,[],nB,rfl,rfl,nB,hc,rfl,ay.out,a3.out,aa.out⟩
 case round=>
  obtain⟨k,mx,cx,j,Ax,vF,vals,hk,rfl,rfl,b9,aq,M,U,av,HI⟩:=hrel;have zr:=HI.out.kept.size;clear aa ay a3;by_cases bk:k<ns
  ·have gk:=ja ((k:Int)<ns);have ca:=ja (k<ns);obtain⟨x,hx⟩:∃x,S[k]? =some x:=⟨_,AD (by rw[HS.out];exact bk)⟩;obtain⟨ak,bh⟩:=bU.out k x hx;rw[<-M.out]at ak;have cc:x+p<=mx:=nB;have G:wr.ownsRow bs 3 1 (.slice As ns cs) ns (bZ .i64 S):=eZ aw.out (fun y hy=>HI.out.kept.block y ⟨(Ai aw.out y hy).2,fun e=>bu.out (e ▸ hy)⟩);obtain⟨gv,cv,bi,b1,_⟩:=G.form nB;injection bi with q1 q2 q3;subst q1 q3;clear q2;have ck:wr.cell? ⟨gv,k,none⟩=some (.int .i64 (x:Nat)):=(by rw[G.cellAt k nB];unfold bZ;rw[BR,hx];rfl);have b3:(0:Int)<=(k:Int):=nB;have b7:(k:Int)<(ns:Int):=nB;have a0:Row wr base Ax mx 1 (kZ .u8 (ls.drop j)):=U.out.keep fun a ha=>World.cell?_of_block (a:=a) (HI.out.kept.block a.block ⟨by have:=HI.out.lt;omega,nB⟩);have az:Hid ((ls.drop j).length=mx):=(by show _=_;rw[AZ,HN.out];omega);have a9:Hid ((ls.drop j).take x=(ls.drop (S.take k).sum).take x):=(by rw[M.out];rfl);have bF:=hid (a8 ls hx);obtain⟨pc,aj⟩:=jc ((ls.drop j).take x);have ae:pc.length=x:=(by rw[aj,Bc,az.out];omega);have DC:=hid (fun wx (hb:Below wr wr wx)=>IM wx Ax x cx pc ae nB (fun h=>by have:=av.out h;omega) (((aj ▸ GO a0 (by omega:x<=mx):Row wr base Ax x 1 (kZ .u8 pc)).mono (by have:=HI.out.lt;omega)).below hb |>.mono hb.size));have a5:=fun wx=>FB (P:=prog) (t:=28) (s:=1) underlying28 (fun _=>by kernel_rfl) Ax mx cx .i64 (x:Int) x rfl nB (fun a _=>rfl) wx;have bM:=fun wx=>Gg (P:=prog) (t:=28) (s:=1) underlying28 (fun _=>by kernel_rfl) Ax mx cx .i64 (x:Int) x rfl nB wx;have ba:Hid (Row w base (Ba Ax x cx 1) (mx-x) 1 (kZ .u8 (ls.drop (j+x)))):=(by have h:=Fy U.out (by omega:x<=mx) aq;rw[List.drop_drop]at h;exact h);have a1:=hid (Xk (k:=x) av.out);have bm:mx-x+(j+x)=n:=nB;have bg:mx-x<=cx-x:=nB;have al:Hid (j+x=(S.take (k+1)).sum):=ak.symm;have bC:=hid ae;have c8:=HI.out.cell;have f8:=HI.out.blk.frozen 8;simp only[List.length_cons,List.length_nil,Nat.zero_add,Nat.reduceAdd]at c8;obtain⟨fl,Y⟩:=jc ((Ek (S.take k) ls).length);have ar:fl=k:=(by rw[Y,NJ,Bc,HS.out];omega);subst ar;have Z:=HI.out.fr.l;rw[<-Y]at Z;obtain⟨Af,cf,rfl⟩:=aZ Z;have Q:=hid Z;have bW:=hid Y;generalize Ba Ax x cx 1=A2 at *;generalize a6:mx-x=m2 at *;generalize bd:cx-x=c2 at *;clear G a0 ae hx ak bh a6 bd Z Y;go_upto_region 4 with fail;go_region_law(first|(go_simp;go_at_call 100;(with_reducible refine(DC.out _ qo).mono ?_);rintro e w4 ⟨v4,rfl,ah,am⟩;obtain⟨A4,c4,rfl⟩:=aZ ah;have E:Below wr wr w4:=dZ am qo;have q8:=(HI.out.step E).cell;simp only[List.length_cons,List.length_nil,Nat.zero_add,Nat.reduceAdd]at q8;have af:Hid (w4.ownsRow w 28 1 (.slice Af fl cf) fl vals):=eZ Q.out (fun y hy=>E.block y (Ai Q.out y hy).2);have b6:=E.size;have q9:=((HI.out.step E).step (cZ (o:= .cells #[.slice A4 x c4] 28) (Ak w4 w4))).cell;simp only[List.length_cons,List.length_nil,Nat.zero_add,Nat.reduceAdd]at q9)|(refine Uc rfl (.tmp 22) (.tmp 27) 59 rfl w 28 j0 _ 1 24 underlying59 bO bf bG bN rfl ji (.slice Af fl cf) fl vals nC (by first|exact af.out.alloc _|exact(af.out.alloc _).drew) _ 1 1 [.slice A4 x c4] nC (Src.of_blk (Blk.made_at _ _ _ pR) 1 1 1 rfl) mY qn nB p5 ?_;intro A5 c5 w5 N ag;have b5:=((HI.out.step E).blk.alloc (.cells #[.slice A4 x c4] 28)).grown ag (By (iZ Q.out HI.out.blk ax));have r8:=b5.cell 8;have s8:=b5.frozen 8;simp only[List.cons_append,List.nil_append,List.getElem?_toArray,List.getElem?_cons_zero,List.getElem?_cons_succ]at r8))
   all_goals
    have au:SpI w (w5.setCell ⟨gb,8,none⟩ (.slice A5 (fl+1) c5)) gb t [x0, .slice (some ⟨gv,0,none⟩) ns cs, .int .i64 (p:Nat), .int .i64 (q:Nat),x4,x5,x6,x7] post (.slice A5 (fl+1) c5) (vals++ [.slice A4 x c4]) (Ek (S.take fl) ls++ [pc]):=(HI.out.step E).add (lZ (by rw[bC.out];exact ah) (by simpa using zr)) (cZ (o:= .cells #[.slice A4 x c4] 28) (Ak w4 w4)) ag (by rw[<-bW.out];exact N);have bS:Hid (SpI w (w5.setCell ⟨gb,8,none⟩ (.slice A5 (fl+1) c5)) gb t [x0, .slice (some ⟨gv,0,none⟩) ns cs, .int .i64 (p:Nat), .int .i64 (q:Nat),x4,x5,x6,x7] post (.slice A5 (fl+1) c5) (vals++ [.slice A4 x c4]) (Ek (S.take (fl+1)) ls)):=(by show SpI _ _ _ _ _ _ _ _ _;rw[bF.out,<-a9.out,<-aj];exact au);clear au N ag b5 r8 s8 q8 q9 ah am E af HI c8 f8 DC Q;generalize w5.setCell ⟨gb,8,none⟩ (.slice A5 (fl+1) c5)=w6 at *;go_wp2_with fail;go_roundw
    case measure=>exact ld
    case rel=>go_light;exact⟨fl+1,m2,c2,j+x,A2,Value.slice A5 (fl+1) c5,vals++ [Value.slice A4 x c4],nB,jk,rfl,bm,bg,al.out,ba.out,a1.out,bS.out⟩
  ·obtain rfl:k=ns:=by omega
   have gk:=jb ((k:Int)<k);have ai:S.take k=S:=Bp (by rw[HS.out];exact Am _);have L:=M.out;rw[ai]at L;have bb:=HI.out.blk.cell 2;simp only[List.cons_append,List.nil_append,List.getElem?_toArray,List.getElem?_cons_zero,List.getElem?_cons_succ]at bb;have ac:p<=mx:=nB;have a5:=fun wx=>FB (P:=prog) (t:=28) (s:=1) underlying28 (fun _=>by kernel_rfl) Ax mx cx .i64 (p:Int) p rfl nB (fun a _=>rfl) wx;have bM:=fun wx=>Gg (P:=prog) (t:=28) (s:=1) underlying28 (fun _=>by kernel_rfl) Ax mx cx .i64 (p:Int) p rfl ac wx;have bp:Hid (Row w base Ax p 1 (kZ .u8 ((ls.drop S.sum).take p))):=(by rw[<-L];exact GO U.out ac);have bc:Hid (Row w base (Ba Ax p cx 1) (mx-p) 1 (kZ .u8 (ls.drop (S.sum+p)))):=(by have h:=Fy U.out ac aq;rw[List.drop_drop,L]at h;exact h);have an:ls.length-S.sum-p=mx-p:=oA;have a4:=hid an;have J:Hid (SpI w wr gb t [x0, .slice As k cs, .int .i64 (p:Nat), .int .i64 (q:Nat),x4,x5,x6,x7] post vF vals (Ek S ls)):=(by have h:=HI.out;rw[ai]at h;exact h);have bn:p<=cx:=nB;have be:mx-p<=cx-p:=nB;generalize Ba Ax p cx 1=A3 at *;generalize mx-p=m3 at *;generalize cx-p=c3 at *;clear HI ai L an M;go_wp2_with fail;go_quiet (fail);go_wp2_with fail;go_ret2;unfold Qc;rw[a4.out];exact⟨Ax,A3,cx,c3,vF,vals,rfl,bn,be,bp.out,bc.out,⟨J.out.blk,⟨eZ J.out.fr.l (fun y _=>rfl),fun i v b hv hi=>eZ (J.out.fr.r i v b hv hi) (fun y _=>rfl)⟩,J.out.kept.drewN _,J.out.lt,J.out.t1,J.out.t2⟩⟩
end Body
namespace Idx
open Go.RowKit Mem Own Canon Sift
open NumPut Recs Crc Block
open Ef Nums
theorem VO{n size:Nat}{ls:List Nat}(h8:∀x∈ls,x<=255):∀ (f at_ x:Nat) (i:List Nat),at_<=ls.length->(szR n size ls f at_ x i).2.1<=ls.length
 |0,_,_,_,h=>h
 |f+1,at_,x,i,h=>by
  unfold szR;split
  ·exact h
  ·split
   ·exact intA_le h8 0 h
   ·exact VO h8 f _ _ _ (intA_le h8 0 h)
theorem Vy{size:Nat}{ls:List Nat}:∀ (ks:List Nat) (r at_:Nat) (i:List Str),at_<=ls.length->(bkR size ls ks r at_ i).2.1<=ls.length
 | [],_,_,_,h=>h
 |k :: ks,r,at_,i,h=>by
  unfold bkR;split
  ·exact Da _
  ·split
   ·exact Da _
   ·exact Vy ks _ _ _ (L5 ls at_ 0 k h)
theorem Qk{size:Nat}{ls:List Nat}:∀ (ks:List Nat) (r at_:Nat) (i:List Str),(bkR size ls ks r at_ i).1.length<=i.length+r
 | [],_,_,_=>Nat.le_add_right _ _
 |k :: ks,r,at_,i=>by
  unfold bkR;split
  ·exact Da _
  ·split
   ·exact Da _
   ·rename_i h;have h1:=Ns (BJ ls at_ 0 k) (min size r) true 0 i (LM h);have h2:=Qk (size:=size) (ls:=ls) ks (r-size) (takeA ls at_ 0 k) (Ds (BJ ls at_ 0 k) (min size r) true 0 i).1;omega
theorem WX{size:Nat}{ls:List Nat}(h8:∀x∈ls,x<=255):(Gi size ls).2.1<=ls.length/\(Gi size ls).1.length<=1048576:=by
 have hv:Bh 1048576 ls 0 0<=1048576:=Gr h8 0 0;have ha:AR 1048576 ls 0 0<=ls.length:=intA_le h8 0 nB
 have hs:(GL size ls).2.1<=ls.length:=by
  unfold GL;split
  ·exact ha
  ·exact VO h8 _ _ _ _ ha
 unfold Gi;split
 ·exact⟨Da _,Da _⟩
 ·have:=Qk (size:=size) (ls:=ls) (GL size ls).1 (Bh 1048576 ls 0 0) (GL size ls).2.1 [];exact⟨Vy _ _ _ _ hs,by simp only[List.length_nil]at this;omega⟩
def ixF(ts:List Str)(L:List (List Nat)×Int):(List Str×List (List Nat))×Int:=if L.2≠0 then(([],[]),L.2)else((ts,L.1),0)
def ixR(size bound:Nat)(ls:List Nat):(List Str×List (List Nat))×Int:=
 if(Gi size ls).2.2≠0 then(([],[]),(Gi size ls).2.2)else ixF (Gi size ls).1 (lsR bound (ls.drop (Gi size ls).2.1) (Gi size ls).1.length 0 [])
def Pr(w:World)(R:(List Str×List (List Nat))×Int)(e:Ending)(w':World):Prop:=
 ∃vT vL vals,e= .returned (.tuple #[.agg #[vT,vL],R.2])/\IxAt w' w vT vL vals R.1.1 R.1.2/\Below w w w'
theorem VS(w:World)(base:Nat):IxAt w base (.slice none 0 0) (.slice none 0 0) [] [] []:=⟨AE _ _ _ _,AE _ _ _ _,fun i v ids h=>pS⟩
theorem IxAt.set{vT:Value}{ts:List Str}{ls:List (List Nat)}{cs:Array Value}(h:IxAt w base vT vL vals ts ls)(j:Blk w b 53 cs)(k:Nat)(u:Value):IxAt (w.setCell ⟨b,k,none⟩ u) base vT vL vals ts ls:=
 ⟨Cb h.t (iZ h.t j ji) _,Cb h.l (iZ h.l j ji) _,fun i v ids hv hi=>Cb (h.r i v ids hv hi) (iZ (h.r i v ids hv hi) j ji) _⟩
theorem TM(w:World)(A:Option Addr)(m c size bound:Nat)(ls:List Nat)(hm:ls.length=m)(ay:m<=100000)(h8:∀x∈ls,x<=255)(hc:m<=c)(Q:A=none->m=0/\c=0)(ha:Row w w A m 1 (kZ .u8 ls))(a4:1<=size)(a1:size<=64)(hb:bound<=20000):
 Calls prog 61 #[.int .i64 (size:Nat), .int .i64 (bound:Nat), .slice A m c] w (Pr w (ixR size bound ls)):=by
 have ar:Hid (∀wx,Below w w wx->Row wx wx A m 1 (kZ .u8 ls)):=fun wx h=>(ha.below h).mono h.size;have D0:=hid (fun wx (h:Below w w wx)=>i8 wx A m c size ls hm ay h8 Q (ar.out wx h) a4 a1);have a6:=jb ((bound:Int)<0)
 have a9:=jb ((20000:Int)<bound)
 have a3:=jb (20000<bound)
 obtain⟨R,hR⟩:=jc (ixR size bound ls);rw[<-hR];unfold ixR at hR;obtain⟨al,a0⟩:=WX (size:=size) h8;generalize Gi size ls=T at *;obtain⟨ts,t1,te⟩:=T;simp only at hR al a0;rw[hm]at al;have aj:=Fy (hm ▸ ha:Row w w A ls.length 1 (kZ .u8 ls)) (by omega:t1<=ls.length) (by omega:ls.length<=c);rw[hm]at aj
 have av:Ba A t1 c 1=none->m-t1=0/\c-t1=0:=fun h=>by
  have hA:A=none:=by
   unfold Ba at h;split at h
   ·exact h
   ·cases A with
    |none=>rfl
    |some x=>cases h
  have:=Q hA;omega
 have am:=hid (fun wx (hbx:Below w w wx)=>Wp wx (Ba A t1 c 1) (m-t1) (c-t1) ts.length bound (ls.drop t1) (by rw[AZ,hm]) nB (fun x hx=>h8 x (Cg hx)) nB av ((aj.below hbx).mono hbx.size) hb nB);have ks:=fun wx=>Gg (P:=prog) (t:=28) (s:=1) underlying28 (fun _=>by kernel_rfl) A m c .i64 (t1:Int) t1 rfl al wx;generalize lsR bound (ls.drop t1) ts.length 0 []=L at *;generalize Ba A t1 c 1=A2 at *;obtain⟨lv,le⟩:=L;have HR:=hid hR;unfold Pr;clear hR aj av ha h8 Q hm ar;go_enter func61,ntmps61;go_wp2_with fail;have ag:Below w w (w.alloc (.cells #[(),()] 53)):=cZ (Ak _ _);have an:Blk (w.alloc (.cells #[(),()] 53)) w 53 #[(),()]:=Blk.made _ _ _;have ba:(w.alloc (.cells #[(),()] 53)).heap.size=w.heap.size+1:=pR
 have D1:=hid (D0.out _ ag);generalize w.alloc (.cells #[(),()] 53)=w1 at *;have af:=hid ag;have ah:=hid an;clear ag an D0;refine D1.out.mono ?_;rintro e w2 ⟨N,U,ai⟩;have Z:Hid (Below w w w2):=af.out.trans (N.mono nB);have J:=hid (ah.out.step N);have z2:=N.size;have k0:=J.out.iy 0;have k1:=J.out.iy 1;have f0:=J.out.frozen 0;have f1:=J.out.frozen 1;by_cases ht:te=0
 ·subst ht;obtain⟨gd,sz,hs,vT,vH,rfl,hD⟩:=ai rfl;have HD:=hid hD;have hr:=HR.out;rw[Ae (show ¬((0:Int)≠0) from fun h=>h rfl)]at hr;have au:=hid hr;have aw:=hid (fun wx (hb:Below w2 w2 wx)=>Yg wx w1 gd sz ts hs vT vH (hD.keep (fun y _ hy=>hb.block y hy)));have ac:=hid (fun wx (hb:Below w2 w2 wx)=>am.out wx (Z.out.trans (hb.mono nB)));clear N U ai hD hr HR D1 af ah am;go_wp2_with fail;go_region_held3 (fun _=>True) (trivial) (first|(go_at_call 120;(with_reducible refine(aw.out _ qo).mono ?_);rintro e wA ⟨rfl,rfl⟩)|(go_at_call 119;(with_reducible refine(ac.out _ qo).mono ?_);rintro e wB ⟨aq,vB,vals,rfl,ab⟩;have BB:Below w2 w2 wB:=(by have hq:=aq;exact dZ hq qo)))
  all_goals
   have ae:Hid (Below w w wB):=Z.out.trans (BB.mono nB);have E:=hid (J.out.step BB);have zB:=BB.size;have aa:Hid (LsAt wB w2 vB vals lv):=ab;have ax:Hid (DAt wB w1 gd sz ts hs vT vH):=HD.out.keep (fun y _ hy=>BB.block y hy);obtain⟨Av,cv,rfl⟩:=aZ aa.out.l;have p0:=E.out.iy 0;have p1:=E.out.iy 1;have r0:=E.out.frozen 0;have r1:=E.out.frozen 1;clear aq ab BB aw ac HD J Z k0 k1 f0 f1;by_cases M:le=0
   ·subst M;have HF:Hid (R=((ts,lv),0)):=(by show _=_;rw[au.out];exact Ae (fun h=>h rfl));have DA:=hid (XW wB w1 gd sz ts hs vT vH ax.out nB);go_wp2_with fail;refine DA.out.mono ?_;rintro e w6 ⟨vt,rfl,ak,Y⟩;obtain⟨At,ct,rfl⟩:=aZ ak;have G:=hid (E.out.step Y);have a5:Hid (IxAt w6 w (.slice At ts.length ct) (.slice Av lv.length cv) vals ts lv):=⟨lZ ak nB,lZ (aa.out.step Y).l nB,fun i v ids hv hi=>lZ ((aa.out.step Y).r i v ids hv hi) nB⟩;have az:Hid (Below w w w6):=ae.out.trans (Y.mono nB);have q0:=G.out.iy 0;have q1:=G.out.iy 1;have s0:=G.out.frozen 0;have s1:=G.out.frozen 1;clear ak Y DA E aa ax ae p0 p1 r0 r1;go_wp2_with fail;rw[HF.out];refine Df (v:= .tuple #[.agg #[.slice At ts.length ct, .slice Av lv.length cv],jd]) ?_ rfl ⟨_,_,vals,rfl,?_,?_⟩
    ·have j:=(G.out.set 0 (.slice At ts.length ct)).set 1 (.slice Av lv.length cv);have e0:=j.cell 0;have e1:=j.cell 1;simp at e0 e1;simp[results,results61,go_sem,e0,e1]
    ·exact(a5.out.set G.out 0 _).set (G.out.set 0 _) 1 _
    ·exact BN (Am _) (BN (Am _) az.out)
   ·have gE:(le != 0)=true:=(by simpa using M);have HF:Hid (R=(([],[]),le)):=(by show _=_;rw[au.out];exact Ag M);clear M;go_wp2_with fail;rw[HF.out];refine Df (v:= .tuple #[.agg #[(),()],le]) ?_ rfl ⟨_,_,[],rfl,VS _ _,?_⟩
    ·have j:=(E.out.set 0 (.slice none 0 0)).set 1 (.slice none 0 0);have e0:=j.cell 0;have e1:=j.cell 1;simp at e0 e1;simp[results,results61,go_sem,e0,e1]
    ·exact BN (Am _) (BN (Am _) ae.out)
 ·have he:=U ht;subst he;have gE:(te != 0)=true:=by simpa using ht
  have HF:Hid (R=(([],[]),te)):=by have h:=HR.out;rw[Ag ht]at h;exact h
  clear N U ai ht HR D1 af ah am;go_wp2_with fail;rw[HF.out];refine Df (v:= .tuple #[.agg #[(),()],te]) ?_ rfl ⟨_,_,[],rfl,VS _ _,?_⟩
  ·have j:=(J.out.set 0 (.slice none 0 0)).set 1 (.slice none 0 0);have e0:=j.cell 0;have e1:=j.cell 1;simp at e0 e1;simp[results,results61,go_sem,e0,e1]
  ·exact BN (Am _) (BN (Am _) Z.out)
end Idx
end Go.Proofs.YtfgdoknipbpfhaaGreatDoor
