/- The walk of ef.row:  -/
import Derived.Test.YtfgdoknipbpfhaaGreatDoorZBodyBack28
namespace Go.Proofs.YtfgdoknipbpfhaaGreatDoor
open Go.Lib (hid)
variable{t:TypeId}{w w':World}{W base g:Nat}{hs ls:List Nat}{vH vL:Value}
namespace Ef
open Go.RowKit Mem Own Canon Huff NumPut
theorem Prt.keep(h:Prt t w base g W hs ls vH vL)(hk:∀y,base<=y->y<w.heap.size->w'.heap[y]? =w.heap[y]?):Prt t w' base g W hs ls vH vL:=
 ⟨(hk g h.gb h.blk.lt).trans h.blk,eZ h.oh (fun y hy=>hk y (Aj h.oh y hy).1 (Aj h.oh y hy).2),eZ h.ol (fun y hy=>hk y (Aj h.ol y hy).1 (Aj h.ol y hy).2),h.gb⟩
theorem Prt.mono{i:Nat}(h:Prt t w base g W hs ls vH vL)(hb:i<=base):Prt t w i g W hs ls vH vL:=
 ⟨h.blk,lZ h.oh hb,lZ h.ol hb,AN hb h.gb⟩
def ListAt(w:World)(base:Nat)(p:Value)(ids:List Nat):Prop:=
 ∃g W vH vL,p= .pointer (some ⟨g,0,none⟩)/\W<=14/\ids.length<=20000/\(∀x∈ids,x<=20000)/\Prt 323 w base g W (ids.map (·/ 2 ^ W)) (ids.map (·% 2 ^ W)) vH vL
def Mo(w:World)(R:List Nat×Nat×Int)(e:Ending)(w':World):Prop:=
 Below w w w'/\(R.2.2≠0->e= .returned (.tuple #[.pointer none,ij,R.2.2]))/\(R.2.2=0->∃p,e= .returned (.tuple #[p, .int .i64 (R.2.1:Nat),ij])/\ListAt w' w p R.1)
theorem JL{R:List Nat×Nat×Int}{er:Int}(hR:R=([],0,er))(he:er≠0)(hb:Below w w w'):Mo w R (.returned (.tuple #[.pointer none,ij,er])) w':=rC
theorem mR{bound n:Nat}(hb:bound<=20000):efW bound n<=14:=by
 unfold efW;by_cases h0:bound / n=0
 ·rw[h0];decide
 ·have h2:bound / n<=20000:=AN (Hw _ _) hb;have h3:=KI h0;by_cases h:Nat.log2 (bound / n)<=14
  ·exact h
  ·exfalso;have:2 ^ 15<=2 ^ Nat.log2 (bound / n):=Cn nj nj;omega
theorem jM{z at_:Nat}(hz:z % 8=0)(h:at_<=z):(z-at_) % 8=Hi at_:=by unfold Hi;omega
theorem TF(a b:Nat)(ha:a<2 ^ 40)(hb:b<2 ^ 40):bits .or .i64 (a:Int) (b:Int)=((a |||b:Nat):Int):=
 (bits_nat .i64 40 ip (fun n h0 h1=>Ar _ nj) a b ha hb).2
def JH(acc:List Nat):Int:=if acc= []then-1 else((acc.getLast?.getD 0:Nat):Int)
theorem Ss{i:List Nat}{id:Nat}:(id:Int)<=JH i↔(i≠ []/\id<=i.getLast?.getD 0):=by
 unfold JH;by_cases h:i= []
 ·rw[Ab h];constructor
  ·intro h2;omega
  ·intro h2;exact absurd h h2.1
 ·rw[Aa h];constructor
  ·intro h2;exact⟨h,nj⟩
  ·intro h2;omega
theorem oI(h:List Nat)(id:Nat):JH (h++ [id])=(id:Int):=by unfold JH;rw[Aa qT];simp
set_option maxHeartbeats 4000000 in
set_option maxRecDepth 100000 in
theorem iU(w:World)(A:Option Addr)(m c bound n:Nat)(ls:List Nat)(hm:ls.length=m)(ci:m<=100000)(h8:∀x∈ls,x<=255)(a0:A=none->m=0/\c=0)(ha:Row w w A m 1 (jZ .u8 ls))(h1:1<=n)(h2:n<=bound)(hb:bound<=20000):
 Calls Tryz.prog 246 #[.int .i64 (bound:Nat), .int .i64 (n:Nat), .slice A m c] w (Mo w (Hf bound n (Bp ls))):=by
 have D0:=hid (Q0 w A m c ls hm ci h8 a0 ha);have DW:=hid (fun wx=>SK wx bound n h1 h2 nj);have hW:=mR (n:=n) hb;have bC:(Bp ls).length=8*m:=by rw[EK,hm]
 have cS:Hid (n*efW bound n<=280000):=AN (Hv (by omega:n<=20000) hW) ip;obtain⟨R,hR⟩:=ii (Hf bound n (Bp ls));rw[<-hR];unfold Hf at hR;generalize efW bound n=W at *;generalize Bp ls=bs at *;have HR:=hid hR;have HZ:=hid bC;clear hm h8 a0 ha hR bC;go_enter Tryz.func246,Tryz.ntmps246;go_wp2_with fail;refine D0.out.mono ?_;rintro e w1 ⟨gr,rfl,a9,a6,b8⟩;have cL:=a9.lt;have bi:=hid a9;have ax:=hid b8;clear a9 b8 D0;go_wp2_with fail;refine(DW.out _).mono ?_;rintro e M ⟨rfl,rfl⟩;go_wp2_with fail;have bf:Prt 323 (M.alloc (.cells #[.int .i64 (W:Nat),(),()] 323)) M M W (([]:List Nat).map (·/ 2 ^ W)) (([]:List Nat).map (·% 2 ^ W)) (.slice none 0 0) (.slice none 0 0):=⟨Blk.made _ _ _,AE _ _ _ _,AE _ _ _ _,Ak _⟩;have b0:Rd (M.alloc (.cells #[.int .i64 (W:Nat),(),()] 323)) w gr bs 0:=bi.out.keep (fun b _ ay=>Ej M _ b nj) a6;have ay:Below w w (M.alloc (.cells #[.int .i64 (W:Nat),(),()] 323)):=mZ ax.out.size ax.out;generalize bu:M.alloc (.cells #[.int .i64 (W:Nat),(),()] 323)=w2 at *;have z2:w2.heap.size=M.heap.size+1:=by rw[<-bu];simp
 clear bu;have zw:=ax.out.size;generalize M.heap.size=gl at *;have c0:=bf.blk.ia 0;have b9:=hid bf;have bk:=hid ay;have DL:=hid (iD w2 w gr bs n W nj hW a6 b0);unfold Qu at DL;clear bf b0 ay bi ax DW;go_wp2_with fail;refine DL.out.mono ?_;rintro e w3 ⟨av,L⟩;have z3:=av.size;have bd:Hid (Below w w w3):=bk.out.trans (av.below (fun b h=>⟨nj,nj⟩));by_cases ak:bs.length<n*W
 ·rw[Ab ak]at L;subst L;have N:Hid (R=([],0,1)):=by have h:=HR.out;rw[Ab ak]at h;exact h
  clear ak HR av;go_wp2_with fail
  go_ret3
  exact JL N.out ip bd.out
 ·rw[Aa ak]at L;obtain⟨v,rfl,ac,cd⟩:=L;obtain⟨va,vc,rfl⟩:=bZ ac;have hr:=HR.out;rw[Aa ak]at hr;have b1:Prt 323 w3 gl gl W (([]:List Nat).map (·/ 2 ^ W)) (([]:List Nat).map (·% 2 ^ W)) (.slice none 0 0) (.slice none 0 0):=b9.out.keep (fun y hy hy2=>av.block y ⟨hy2,nj⟩);obtain⟨T,hT⟩:=ii (rowN bound W bs (ED W bs n) (n*W) 0 []);rw[<-hT]at hr;have cl:Hid (∀x∈ED W bs n,x<2 ^ W):=jQ W bs n;have a1:Hid ((ED W bs n).length=n):=Vu W bs n;have bq:Hid (rowN bound W bs ((ED W bs n).drop 0) (n*W) 0 []=T):=hT.symm;have a3:Hid (n*W<=bs.length):=by show _<=_;omega
  generalize ED W bs n=lw at *;generalize n*W=N0 at *;have b7:=hid hr;have bg:Hid (∀a er,T=([],a,er)->er≠0->R=([],0,er)):=fun a er h he=>by rw[hr,h];exact Ab he
  have cH:bs.length<=800000:=mh
  have bN:=hid ac;have b6:=hid cd;have bj:=hid b1;have cX:Hid (∀y,(Value.slice va n vc).ownBlock=some y->w2.heap.size<=y):=fun y hy=>(Aj ac y hy).1;clear ak hr hT ac cd b1 HR b9 bk DL av c0;go_wp2_with fail;go_loopw [13,14,47] (fun hv wv iv wr=>∃ (k J at_:Nat) (i:List Nat) (vH vL:Value),k<=n/\J<=20000/\at_<=bs.length/\hv= .int .i64 J/\iv= .int .i64 k/\wv= .int .i64 (JH i)/\Hid (i.length=k)/\Hid (∀x∈i,x<=20000)/\Hid (rowN bound W bs (lw.drop k) at_ J i=T)/\Hid (wr.ownsRow w2 25 1 (.slice va n vc) n (cZ .u16 lw))/\Hid (Rd wr w gr bs at_)/\Hid (Prt 323 wr gl gl W (i.map (·/ 2 ^ W)) (i.map (·% 2 ^ W)) vH vL)/\Hid (∀y,(Value.slice va n vc).ownBlock=some y->vL.ownBlock≠some y)/\Hid (Below w w wr)) (fun _ _ iv _=>n-(intOf iv).toNat)
  case atStart=>exact⟨0,0,N0,[], .slice none 0 0, .slice none 0 0,nj,nj,a3.out,rfl,rfl,rfl,rfl,fun x hx=>qV,bq.out,bN.out,b6.out,bj.out,(by first|trivial|(intro y _ h;cases h)),bd.out⟩
  case round=>
   obtain⟨k,J,at_,i,vH,vL,hk,cm,b4,rfl,rfl,rfl,HI,bc,HT,HO,al,HP,HV,HB⟩:=hrel;have zr:=HB.out.size;have cz:=HP.out.blk.lt;clear bq a3 bN b6 bj bd;by_cases cE:k<n
   ·have g1:=ic ((k:Int)<n);have cF:=ic (k<n);obtain⟨x,hx⟩:∃x,lw[k]? =some x:=⟨_,Aw (by have:=a1.out;omega)⟩;have ar:lw.drop k=x :: lw.drop (k+1):=(by obtain⟨hl,e⟩:=BW.1 hx;rw[Dg hl,e]);have az:=cl.out x (Be hx);have cf:2 ^ W<=16384:=lj;have cc:1<=2 ^ W:=Nat.one_le_two_pow;obtain⟨gv,cv,cr,cG,_⟩:=HO.out.form nj;injection cr with e1 e2 e3;subst e1 e3;have cx:wr.cell? ⟨gv,k,none⟩=some (.int .u16 (x:Nat)):=(by rw[HO.out.cellAt k nj];unfold cZ;rw[BI,hx];rfl);have x0:(0:Int)<=(k:Int):=nj;have x1:(k:Int)<(n:Int):=nj;have hT:=HT.out;rw[ar,rowN]at hT;have DU:=hid (gG wr w gr bs at_ al.out);have cB:=X9 bs at_;have cp:=QZ b4;generalize unV bs at_=d at *;generalize unE bs at_=ue at *;generalize unA bs at_=ua at *;obtain⟨j,bS⟩:=ii (J+d);have s1:IntKind.i64.wrap ((J:Int)+(d:Int))=(j:Int):=pi;rw[<-bS]at hT;obtain⟨hw,af⟩:=ii (j*2 ^ W);have cy:hw<=13434880000:=(by rw[af];exact AN (Hv (show j<=820000 by omega) cf) ip);have cA:j<=hw:=(by rw[af];exact Nat.le_mul_of_pos_right _ nj);have E1:Hid (IntKind.i64.wrap ((j:Int)*2 ^ W)=(hw:Int)):=(by show _=_;rw[show(j:Int)*2 ^ W=(hw:Int) by rw[af];simp,Ar _ nj]);have E2:Hid (bits .or .i64 (hw:Int) (x:Int)=((hw+x:Nat):Int)):=(by show _=_;rw[TF hw x nj nj,af,Ri j x W az]);rw[<-af]at hT;obtain⟨id,bm⟩:=ii (hw+x);rw[<-bm]at hT E2;have cT:IntKind.i64.wrap (x:Int)=(x:Int):=Ar _ nj;have cg:j<=id:=nj;have ag:=hid hT;clear hT hx ar az bS af bm HT cc;go_wp2_with fail;refine DU.out.mono ?_;rintro e w4 ⟨rfl,bn,am⟩;have z4:=am.size;have Y:=hid bn;have E:Hid (Prt 323 w4 gl gl W (i.map (·/ 2 ^ W)) (i.map (·% 2 ^ W)) vH vL):=HP.out.keep (fun y hy _=>am.block y nj);have ah:Hid (w4.ownsRow w2 25 1 (.slice (some ⟨gv,0,none⟩) n vc) n (cZ .u16 lw)):=eZ HO.out (fun y hy=>am.block y (by have:=(Aj HO.out y hy).1;omega));have G:Hid (Below w w w4):=HB.out.trans (am.below (fun b h=>by omega));have c0:=E.out.blk.ia 0;clear bn am HP HO HB al DU cx;by_cases aj:ue=0
    ·subst aj;have hT:=ag.out;rw[Aa (show ¬((0:Int)≠0) from fun h=>h rfl)]at hT;by_cases hB:i≠ []/\id<=i.getLast?.getD 0
     ·have gB:decide ((id:Int)<=JH i)=true:=AK (Ss.2 hB);have N:Hid (R=([],0,2)):=(by rw[Ab hB]at hT;exact bg.out _ _ hT.symm ip);have e1:=E1.out;have e2:=E2.out;clear hB hT ag;go_wp2_with fail
      go_ret3
      exact JL N.out ip G.out
     ·have gB:decide ((id:Int)<=JH i)=false:=AU (fun h=>hB (Ss.1 h));rw[Aa hB]at hT;by_cases hC:bound<=id
      ·have gC:=ic ((bound:Int)<=id);have co:=ic (bound<=id);have N:Hid (R=([],0,8)):=(by rw[Ab hC]at hT;exact bg.out _ _ hT.symm ip);have e1:=E1.out;have e2:=E2.out;clear hB hT ag hC;go_wp2_with fail
       go_ret3
       exact JL N.out ip G.out
      ·have gC:=ig ((bound:Int)<=id);have co:=ig (bound<=id);rw[Aa hC]at hT;have cC:id<=20000:=nj;have DA:=hid (Sh 323 ip ip w4 gl gl W _ _ vH vL id nj hW (by rw[Bc,HI.out];omega) (by rw[Bc,HI.out];omega) E.out);have ce:=hid hT;have cw:=E.out.blk.lt;have e1:=E1.out;have e2:=E2.out;clear hB hT ag hC;go_wp2_with fail;refine DA.out.mono ?_;rintro e w5 ⟨rfl,bl,ba,ca,bh,ae,bp⟩;have Z:Hid (Prt 323 w5 gl gl W ((i++ [id]).map (·/ 2 ^ W)) ((i++ [id]).map (·% 2 ^ W)) bl ba):=(by rw[EW,EW];exact ca);have aq:Hid (Rd w5 w gr bs ua):=Y.out.keep (fun b _ ay=>bh.block b nj) a6
       have cj:Hid (w5.ownsRow w2 25 1 (.slice (some ⟨gv,0,none⟩) n vc) n (cZ .u16 lw)):=eZ ah.out (fun y hy=>ae.block y ⟨(Aj ah.out y hy).2,by have:=(Aj ah.out y hy).1;omega,fun e=>by
        rcases EY E.out.oh ah.out ip with e3|e3
        ·rw[e3]at e;cases e
        ·exact e3 (by rw[e,hy]),HV.out y hy⟩)
       have ct:Hid (∀y,(Value.slice (some ⟨gv,0,none⟩) n vc).ownBlock=some y->ba.ownBlock≠some y):=fun y hy h=>HV.out y hy (bp y (Aj ah.out y hy).2 h);have Q:Hid (Below w w w5):=G.out.trans (bh.mono nj);clear ca bh ae bp E Y ah G HV DA c0 e1 e2;go_wp2_with fail;go_roundw
       case measure=>exact jq
       case rel=>go_light;exact⟨k+1,j,ua,i++ [id],bl,ba,nj,nj,cp,iw,iw,by rw[oI],by show _=_;rw[Ag,HI.out];rfl,by intro y hy;rcases BQ.1 hy with h|h;exact bc.out y h;(rw[Ex]at h;omega),ce.out,cj.out,aq.out,Z.out,ct.out,Q.out⟩
    ·have gE:(ue != 0)=true:=(by simpa using aj);have N:Hid (R=([],0,ue)):=(by have h:=ag.out;rw[Ab aj]at h;exact bg.out _ _ h.symm aj);have cq:=hid aj;clear aj ag;go_wp2_with fail
     go_ret3
     exact JL N.out cq.out G.out
   ·obtain rfl:k=n:=by omega
    have g1:=ig ((k:Int)<k);have hT:=HT.out;rw[DV (by rw[a1.out];exact Ak _),rowN]at hT;have hr:=b7.out;rw[<-hT]at hr;rw[Aa (show ¬((0:Int)≠0) from fun h=>h rfl)]at hr;have a4:=jM (z:=bs.length) (at_:=at_) (by rw[HZ.out];omega) b4;simp only at hr;have DL:=hid (left_any wr w gr bs at_ al.out);have b3:=hid hr;obtain⟨r,aw⟩:=ii (Hi at_);obtain⟨l,hl⟩:=ii (bs.length-at_);rw[<-hl]at DL a4;have sr:(l:Int) % 8=(r:Int):=nj;have c1:r<=7:=(by rw[aw];unfold Hi;omega);have an:at_+r<=bs.length:=(by have h:=HZ.out;have h3:=Nat.mod_le l 8;omega);rw[<-aw]at hr;have ai:=hid hr;have U:at_+r=at_+Hi at_:=(by rw[aw]);clear hT hr HT b7 hl a4 aw b3;go_wp2_with fail;refine DL.out.mono ?_;rintro e w4 ⟨rfl,q,hq⟩;have Y:Hid (Rd w4 w gr bs at_):=(by rw[hq];exact al.out.drewN q);have E:Hid (Prt 323 w4 gl gl W (i.map (·/ 2 ^ W)) (i.map (·% 2 ^ W)) vH vL):=(by rw[hq];exact HP.out.keep (fun y _ _=>rfl));have G:Hid (Below w w w4):=(by rw[hq];exact below_drewN HB.out q);clear hq al HP HB DL;by_cases b5:r=0
    ·subst b5;have a5:Hid (R=(i,(at_+7) / 8,0)):=(by have h:=ai.out;rw[Aa (by rw[yZ];exact fun h=>h rfl)]at h;exact h);obtain⟨a2,ha⟩:=ii (at_+0);rw[<-ha]at U;have aq:Hid (Rd w4 w gr bs a2):=(by rw[ha];exact Y.out);have Z:=E;have Q:=G;obtain⟨w5,rfl⟩:=ii w4;clear ai ha Y E G;have aa:=hid (left_any w5 w gr bs a2 aq.out);obtain⟨l2,au⟩:=ii (bs.length-a2);rw[<-au]at aa;obtain⟨t,ht⟩:=ii (l2 / 8);have st:(l2:Int) / 8=(t:Int):=nj;have st2:IntKind.i64.wrap (t:Int)=(t:Int):=Ar _ mh;have so:IntKind.i64.wrap ((m:Int)-(t:Int))=(((at_+7) / 8:Nat):Int):=pg;generalize (at_+7) / 8=o at *;clear au ht U;go_wp2_with fail;refine aa.out.mono ?_;rintro e w6 ⟨rfl,q6,ab⟩;have be:Hid (Prt 323 w6 gl gl W (i.map (·/ 2 ^ W)) (i.map (·% 2 ^ W)) vH vL):=(by rw[ab];exact Z.out.keep (fun y _ _=>rfl));have bb:Hid (Below w w w6):=(by rw[ab];exact below_drewN Q.out q6);clear ab Z Q aa;go_wp2_with fail
     go_ret3
     rw[a5.out];exact⟨bb.out,fun h=>absurd rfl h,fun _=>⟨_,rfl,gl,W,vH,vL,rfl,hW,by rw[HI.out];omega,bc.out,be.out.mono zw⟩⟩
    ·have cP:=ic ((0:Int)<r);have cu:=ic (0<r);have DG:=Kb w4 w gr bs at_ r nj Y.out;unfold IW IU IS at DG;rw[Ab an,Ab an,Ab an]at DG;obtain⟨a2,ha⟩:=ii (at_+r);rw[<-ha]at U DG;generalize yZ bs at_ r=y at *;have DG:=hid DG;clear ha b5;go_wp2_with fail;refine DG.out.mono ?_;rintro e w5 ⟨rfl,bt,ae⟩;have aq:=hid bt;have Z:Hid (Prt 323 w5 gl gl W (i.map (·/ 2 ^ W)) (i.map (·% 2 ^ W)) vH vL):=E.out.keep (fun y hy _=>ae.block y nj);have Q:Hid (Below w w w5):=G.out.trans (ae.below (fun b h=>by omega));clear bt ae Y E G DG;by_cases hy:y=0
     ·subst hy;have a5:Hid (R=(i,(at_+7) / 8,0)):=(by have h:=ai.out;rw[Aa (fun h=>h rfl)]at h;exact h);clear ai;have aa:=hid (left_any w5 w gr bs a2 aq.out);obtain⟨l2,au⟩:=ii (bs.length-a2);rw[<-au]at aa;obtain⟨t,ht⟩:=ii (l2 / 8);have st:(l2:Int) / 8=(t:Int):=nj;have st2:IntKind.i64.wrap (t:Int)=(t:Int):=Ar _ mh;have so:IntKind.i64.wrap ((m:Int)-(t:Int))=(((at_+7) / 8:Nat):Int):=pg;generalize (at_+7) / 8=o at *;clear au ht U;go_wp2_with fail;refine aa.out.mono ?_;rintro e w6 ⟨rfl,q6,ab⟩;have be:Hid (Prt 323 w6 gl gl W (i.map (·/ 2 ^ W)) (i.map (·% 2 ^ W)) vH vL):=(by rw[ab];exact Z.out.keep (fun y _ _=>rfl));have bb:Hid (Below w w w6):=(by rw[ab];exact below_drewN Q.out q6);clear ab Z Q aa;go_wp2_with fail
      go_ret3
      rw[a5.out];exact⟨bb.out,fun h=>absurd rfl h,fun _=>⟨_,rfl,gl,W,vH,vL,rfl,hW,by rw[HI.out];omega,bc.out,be.out.mono zw⟩⟩
     ·have gy:((y:Int) != 0)=true:=qg;have N:Hid (R=([],0,2)):=(by have h:=ai.out;rw[Ab hy]at h;exact h);clear ai hy U;go_wp2_with fail
      go_ret3
      exact JL N.out ip Q.out
end Ef
end Go.Proofs.YtfgdoknipbpfhaaGreatDoor
