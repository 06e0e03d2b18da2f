/- The walk of ef.row:  -/
import Derived.Test.YtfgdoknipbpfhaaGreatDoorZBodyOpened26
namespace Go.Proofs.YtfgdoknipbpfhaaGreatDoor
open Go.Lib (hid)
variable{t:TypeId}{w w':World}{W base g:Nat}{hs ls:List Nat}{vH vL:Value}
namespace Ef
open Go.RowKit Mem Own Canon Huff NumPut
theorem Prt.keep(h:Prt t w base g W hs ls vH vL)(hk:∀y,base<=y->y<w.heap.size->w'.heap[y]? =w.heap[y]?):Prt t w' base g W hs ls vH vL:=
 ⟨(hk g h.gb h.blk.lt).trans h.blk,eZ h.oh (fun y hy=>hk y (Am h.oh y hy).1 (Am h.oh y hy).2),eZ h.ol (fun y hy=>hk y (Am h.ol y hy).1 (Am h.ol y hy).2),h.gb⟩
theorem Prt.mono{i:Nat}(h:Prt t w base g W hs ls vH vL)(hb:i<=base):Prt t w i g W hs ls vH vL:=
 ⟨h.blk,kZ h.oh hb,kZ h.ol hb,AN hb h.gb⟩
def ListAt(w:World)(base:Nat)(p:Value)(ids:List Nat):Prop:=
 ∃g W vH vL,p= .pointer (some ⟨g,0,none⟩)/\W<=14/\ids.length<=20000/\(∀x∈ids,x<=20000)/\Prt 323 w base g W (ids.map (·/ 2 ^ W)) (ids.map (·% 2 ^ W)) vH vL
def Mm(w:World)(R:List Nat×Nat×Int)(e:Ending)(w':World):Prop:=
 Below w w w'/\(R.2.2≠0->e= .returned (.tuple #[.pointer none,ij,R.2.2]))/\(R.2.2=0->∃p,e= .returned (.tuple #[p, .int .i64 (R.2.1:Nat),ij])/\ListAt w' w p R.1)
theorem Jk{R:List Nat×Nat×Int}{er:Int}(hR:R=([],0,er))(he:er≠0)(hb:Below w w w'):Mm w R (.returned (.tuple #[.pointer none,ij,er])) w':=qb
theorem gL{bound n:Nat}(hb:bound<=20000):efW bound n<=14:=by
 unfold efW;by_cases h0:bound / n=0
 ·rw[h0];decide
 ·have h2:bound / n<=20000:=AN (Ho _ _) hb;have h3:=Lr h0;by_cases h:Nat.log2 (bound / n)<=14
  ·exact h
  ·exfalso;have:2 ^ 15<=2 ^ Nat.log2 (bound / n):=Cl mz mz;omega
theorem dD{z at_:Nat}(hz:z % 8=0)(h:at_<=z):(z-at_) % 8=G6 at_:=by unfold G6;omega
theorem R3(a b:Nat)(ha:a<2 ^ 40)(hb:b<2 ^ 40):bits .or .i64 (a:Int) (b:Int)=((a |||b:Nat):Int):=
 (bits_nat .i64 40 ip (fun n h0 h1=>Aw _ mz) a b ha hb).2
def Jf(acc:List Nat):Int:=if acc= []then-1 else((acc.getLast?.getD 0:Nat):Int)
theorem Ug{i:List Nat}{id:Nat}:(id:Int)<=Jf i↔(i≠ []/\id<=i.getLast?.getD 0):=by
 unfold Jf;by_cases h:i= []
 ·rw[Ae h];constructor
  ·intro h2;omega
  ·intro h2;exact absurd h h2.1
 ·rw[Ab h];constructor
  ·intro h2;exact⟨h,mz⟩
  ·intro h2;omega
theorem jM(h:List Nat)(id:Nat):Jf (h++ [id])=(id:Int):=by unfold Jf;rw[Ab pI];simp
set_option maxHeartbeats 4000000 in
set_option maxRecDepth 100000 in
theorem bR(w:World)(A:Option Addr)(m c bound n:Nat)(ls:List Nat)(hm:ls.length=m)(ce:m<=100000)(h8:∀x∈ls,x<=255)(a1:A=none->m=0/\c=0)(ha:Row w w A m 1 (jZ .u8 ls))(h1:1<=n)(h2:n<=bound)(hb:bound<=20000):
 Calls Tryz.prog 246 #[.int .i64 (bound:Nat), .int .i64 (n:Nat), .slice A m c] w (Mm w (G5 bound n (Bq ls))):=by
 have D0:=hid (VN w A m c ls hm ce h8 a1 ha);have DW:=hid (fun wx=>Tf wx bound n h1 h2 mz);have hW:=gL (n:=n) hb;have b0:(Bq ls).length=8*m:=by rw[EC,hm]
 have cF:Hid (n*efW bound n<=280000):=AN (Hn (by omega:n<=20000) hW) ip;obtain⟨R,hR⟩:=ii (G5 bound n (Bq ls));rw[<-hR];unfold G5 at hR;generalize efW bound n=W at *;generalize Bq ls=bs at *;have HR:=hid hR;have HZ:=hid b0;clear hm h8 a1 ha hR b0;go_enter Tryz.func246,Tryz.ntmps246;go_wp2_with fail;refine D0.out.mono ?_;rintro e w1 ⟨gr,rfl,a9,bg,bm⟩;have cP:=a9.lt;have bt:=hid a9;have az:=hid bm;clear a9 bm D0;go_wp2_with fail;refine(DW.out _).mono ?_;rintro e N ⟨rfl,rfl⟩;go_wp2_with fail;have bc:Prt 323 (N.alloc (.cells #[.int .i64 (W:Nat),(),()] 323)) N N W (([]:List Nat).map (·/ 2 ^ W)) (([]:List Nat).map (·% 2 ^ W)) (.slice none 0 0) (.slice none 0 0):=⟨Blk.made _ _ _,AK _ _ _ _,AK _ _ _ _,Aq _⟩;have bp:Rd (N.alloc (.cells #[.int .i64 (W:Nat),(),()] 323)) w gr bs 0:=bt.out.keep (fun b _ ax=>Ed N _ b mz) bg;have ax:Below w w (N.alloc (.cells #[.int .i64 (W:Nat),(),()] 323)):=mZ az.out.size az.out;generalize bn:N.alloc (.cells #[.int .i64 (W:Nat),(),()] 323)=w2 at *;have z2:w2.heap.size=N.heap.size+1:=by rw[<-bn];simp
 clear bn;have zw:=az.out.size;generalize N.heap.size=gl at *;have c0:=bc.blk.ia 0;have bu:=hid bc;have cc:=hid ax;have DL:=hid (ZC w2 w gr bs n W mz hW bg bp);unfold P7 at DL;clear bc bp ax bt az DW;go_wp2_with fail;refine DL.out.mono ?_;rintro e w3 ⟨am,M⟩;have z3:=am.size;have bd:Hid (Below w w w3):=cc.out.trans (am.below (fun b h=>⟨mz,mz⟩));by_cases ag:bs.length<n*W
 ·rw[Ae ag]at M;subst M;have Q:Hid (R=([],0,1)):=by have h:=HR.out;rw[Ae ag]at h;exact h
  clear ag HR am;go_wp2_with fail
  go_ret3
  exact Jk Q.out ip bd.out
 ·rw[Ab ag]at M;obtain⟨v,rfl,ae,b4⟩:=M;obtain⟨va,vc,rfl⟩:=bZ ae;have hr:=HR.out;rw[Ab ag]at hr;have b5:Prt 323 w3 gl gl W (([]:List Nat).map (·/ 2 ^ W)) (([]:List Nat).map (·% 2 ^ W)) (.slice none 0 0) (.slice none 0 0):=bu.out.keep (fun y hy hy2=>am.block y ⟨hy2,mz⟩);obtain⟨T,hT⟩:=ii (rowN bound W bs (Ev W bs n) (n*W) 0 []);rw[<-hT]at hr;have cf:Hid (∀x∈Ev W bs n,x<2 ^ W):=aF W bs n;have a3:Hid ((Ev W bs n).length=n):=U6 W bs n;have bl:Hid (rowN bound W bs ((Ev W bs n).drop 0) (n*W) 0 []=T):=hT.symm;have a5:Hid (n*W<=bs.length):=by show _<=_;omega
  generalize Ev W bs n=lw at *;generalize n*W=N0 at *;have bj:=hid hr;have bf:Hid (∀a er,T=([],a,er)->er≠0->R=([],0,er)):=fun a er h he=>by rw[hr,h];exact Ae he
  have cL:bs.length<=800000:=lx
  have b7:=hid ae;have bN:=hid b4;have bS:=hid b5;have c1:Hid (∀y,(Value.slice va n vc).ownBlock=some y->w2.heap.size<=y):=fun y hy=>(Am ae y hy).1;clear ag hr hT ae b4 b5 HR bu cc DL am c0;go_wp2_with fail;go_loopw [13,14,47] (fun hv wv iv wr=>∃ (k J at_:Nat) (i:List Nat) (vH vL:Value),k<=n/\J<=20000/\at_<=bs.length/\hv= .int .i64 J/\iv= .int .i64 k/\wv= .int .i64 (Jf i)/\Hid (i.length=k)/\Hid (∀x∈i,x<=20000)/\Hid (rowN bound W bs (lw.drop k) at_ J i=T)/\Hid (wr.ownsRow w2 25 1 (.slice va n vc) n (cZ .u16 lw))/\Hid (Rd wr w gr bs at_)/\Hid (Prt 323 wr gl gl W (i.map (·/ 2 ^ W)) (i.map (·% 2 ^ W)) vH vL)/\Hid (∀y,(Value.slice va n vc).ownBlock=some y->vL.ownBlock≠some y)/\Hid (Below w w wr)) (fun _ _ iv _=>n-(intOf iv).toNat)
  case atStart=>exact⟨0,0,N0,[], .slice none 0 0, .slice none 0 0,mz,mz,a5.out,rfl,rfl,rfl,rfl,fun x hx=>pK,bl.out,b7.out,bN.out,bS.out,(by first|trivial|(intro y _ h;cases h)),bd.out⟩
  case round=>
   obtain⟨k,J,at_,i,vH,vL,hk,ci,b6,rfl,rfl,rfl,HI,bb,HT,HO,ar,HP,HV,HB⟩:=hrel;have zr:=HB.out.size;have cB:=HP.out.blk.lt;clear bl a5 b7 bN bS bd;by_cases cT:k<n
   ·have g1:=ic ((k:Int)<n);have cH:=ic (k<n);obtain⟨x,hx⟩:∃x,lw[k]? =some x:=⟨_,AD (by have:=a3.out;omega)⟩;have av:lw.drop k=x :: lw.drop (k+1):=(by obtain⟨hl,e⟩:=CE.1 hx;rw[Df hl,e]);have a0:=cf.out x (Bg hx);have cj:2 ^ W<=16384:=kx;have bx:1<=2 ^ W:=Nat.one_le_two_pow;obtain⟨gv,cv,cl,cE,_⟩:=HO.out.form mz;injection cl with e1 e2 e3;subst e1 e3;have cx:wr.cell? ⟨gv,k,none⟩=some (.int .u16 (x:Nat)):=(by rw[HO.out.cellAt k mz];unfold cZ;rw[BE,hx];rfl);have x0:(0:Int)<=(k:Int):=mz;have x1:(k:Int)<(n:Int):=mz;have hT:=HT.out;rw[av,rowN]at hT;have DU:=hid (Zl wr w gr bs at_ ar.out);have cz:=lN bs at_;have co:=UV b6;generalize unV bs at_=d at *;generalize unE bs at_=ue at *;generalize unA bs at_=ua at *;obtain⟨j,b1⟩:=ii (J+d);have s1:IntKind.i64.wrap ((J:Int)+(d:Int))=(j:Int):=nW;rw[<-b1]at hT;obtain⟨hw,ah⟩:=ii (j*2 ^ W);have cC:hw<=13434880000:=(by rw[ah];exact AN (Hn (show j<=820000 by omega) cj) ip);have cA:j<=hw:=(by rw[ah];exact Nat.le_mul_of_pos_right _ mz);have E1:Hid (IntKind.i64.wrap ((j:Int)*2 ^ W)=(hw:Int)):=(by show _=_;rw[show(j:Int)*2 ^ W=(hw:Int) by rw[ah];simp,Aw _ mz]);have E2:Hid (bits .or .i64 (hw:Int) (x:Int)=((hw+x:Nat):Int)):=(by show _=_;rw[R3 hw x mz mz,ah,Ud j x W a0]);rw[<-ah]at hT;obtain⟨id,cd⟩:=ii (hw+x);rw[<-cd]at hT E2;have cG:IntKind.i64.wrap (x:Int)=(x:Int):=Aw _ mz;have cp:j<=id:=mz;have af:=hid hT;clear hT hx av a0 b1 ah cd HT bx;go_wp2_with fail;refine DU.out.mono ?_;rintro e w4 ⟨rfl,bC,an⟩;have z4:=an.size;have Z:=hid bC;have G:Hid (Prt 323 w4 gl gl W (i.map (·/ 2 ^ W)) (i.map (·% 2 ^ W)) vH vL):=HP.out.keep (fun y hy _=>an.block y mz);have al:Hid (w4.ownsRow w2 25 1 (.slice (some ⟨gv,0,none⟩) n vc) n (cZ .u16 lw)):=eZ HO.out (fun y hy=>an.block y (by have:=(Am HO.out y hy).1;omega));have E:Hid (Below w w w4):=HB.out.trans (an.below (fun b h=>by omega));have c0:=G.out.blk.ia 0;clear bC an HP HO HB ar DU cx;by_cases aj:ue=0
    ·subst aj;have hT:=af.out;rw[Ab (show ¬((0:Int)≠0) from fun h=>h rfl)]at hT;by_cases hB:i≠ []/\id<=i.getLast?.getD 0
     ·have gB:decide ((id:Int)<=Jf i)=true:=Be (Ug.2 hB);have Q:Hid (R=([],0,2)):=(by rw[Ae hB]at hT;exact bf.out _ _ hT.symm ip);have e1:=E1.out;have e2:=E2.out;clear hB hT af;go_wp2_with fail
      go_ret3
      exact Jk Q.out ip E.out
     ·have gB:decide ((id:Int)<=Jf i)=false:=Bi (fun h=>hB (Ug.1 h));rw[Ab hB]at hT;by_cases hC:bound<=id
      ·have gC:=ic ((bound:Int)<=id);have cr:=ic (bound<=id);have Q:Hid (R=([],0,8)):=(by rw[Ae hC]at hT;exact bf.out _ _ hT.symm ip);have e1:=E1.out;have e2:=E2.out;clear hB hT af hC;go_wp2_with fail
       go_ret3
       exact Jk Q.out ip E.out
      ·have gC:=ig ((bound:Int)<=id);have cr:=ig (bound<=id);rw[Ab hC]at hT;have cu:id<=20000:=mz;have DA:=hid (SB 323 ip ip w4 gl gl W _ _ vH vL id mz hW (by rw[Bc,HI.out];omega) (by rw[Bc,HI.out];omega) G.out);have ct:=hid hT;have cy:=G.out.blk.lt;have e1:=E1.out;have e2:=E2.out;clear hB hT af hC;go_wp2_with fail;refine DA.out.mono ?_;rintro e w5 ⟨rfl,ca,a6,bq,be,ai,bk⟩;have aa:Hid (Prt 323 w5 gl gl W ((i++ [id]).map (·/ 2 ^ W)) ((i++ [id]).map (·% 2 ^ W)) ca a6):=(by rw[EN,EN];exact bq);have au:Hid (Rd w5 w gr bs ua):=Z.out.keep (fun b _ ax=>be.block b mz) bg
       have cm:Hid (w5.ownsRow w2 25 1 (.slice (some ⟨gv,0,none⟩) n vc) n (cZ .u16 lw)):=eZ al.out (fun y hy=>ai.block y ⟨(Am al.out y hy).2,by have:=(Am al.out y hy).1;omega,fun e=>by
        rcases EZ G.out.oh al.out ip with e3|e3
        ·rw[e3]at e;cases e
        ·exact e3 (by rw[e,hy]),HV.out y hy⟩)
       have cg:Hid (∀y,(Value.slice (some ⟨gv,0,none⟩) n vc).ownBlock=some y->a6.ownBlock≠some y):=fun y hy h=>HV.out y hy (bk y (Am al.out y hy).2 h);have U:Hid (Below w w w5):=E.out.trans (be.mono mz);clear bq be ai bk G Z al E HV DA c0 e1 e2;go_wp2_with fail;go_roundw
       case measure=>exact jo
       case rel=>go_light;exact⟨k+1,j,ua,i++ [id],ca,a6,mz,mz,co,iu,iu,by rw[jM],by show _=_;rw[Aj,HI.out];rfl,by intro y hy;rcases BJ.1 hy with h|h;exact bb.out y h;(rw[Eu]at h;omega),ct.out,cm.out,au.out,aa.out,cg.out,U.out⟩
    ·have gE:(ue != 0)=true:=(by simpa using aj);have Q:Hid (R=([],0,ue)):=(by have h:=af.out;rw[Ae aj]at h;exact bf.out _ _ h.symm aj);have cq:=hid aj;clear aj af;go_wp2_with fail
     go_ret3
     exact Jk Q.out cq.out E.out
   ·obtain rfl:k=n:=by omega
    have g1:=ig ((k:Int)<k);have hT:=HT.out;rw[Eb (by rw[a3.out];exact Aq _),rowN]at hT;have hr:=bj.out;rw[<-hT]at hr;rw[Ab (show ¬((0:Int)≠0) from fun h=>h rfl)]at hr;have a4:=dD (z:=bs.length) (at_:=at_) (by rw[HZ.out];omega) b6;simp only at hr;have DL:=hid (left_any wr w gr bs at_ ar.out);have b9:=hid hr;obtain⟨r,ay⟩:=ii (G6 at_);obtain⟨l,hl⟩:=ii (bs.length-at_);rw[<-hl]at DL a4;have sr:(l:Int) % 8=(r:Int):=mz;have cS:r<=7:=(by rw[ay];unfold G6;omega);have aw:at_+r<=bs.length:=(by have h:=HZ.out;have h3:=Nat.mod_le l 8;omega);rw[<-ay]at hr;have ak:=hid hr;have ac:at_+r=at_+G6 at_:=(by rw[ay]);clear hT hr HT bj hl a4 ay b9;go_wp2_with fail;refine DL.out.mono ?_;rintro e w4 ⟨rfl,q,hq⟩;have Z:Hid (Rd w4 w gr bs at_):=(by rw[hq];exact ar.out.drewN q);have G:Hid (Prt 323 w4 gl gl W (i.map (·/ 2 ^ W)) (i.map (·% 2 ^ W)) vH vL):=(by rw[hq];exact HP.out.keep (fun y _ _=>rfl));have E:Hid (Below w w w4):=(by rw[hq];exact below_drewN HB.out q);clear hq ar HP HB DL;by_cases b3:r=0
    ·subst b3;have ba:Hid (R=(i,(at_+7) / 8,0)):=(by have h:=ak.out;rw[Ab (by rw[zZ];exact fun h=>h rfl)]at h;exact h);obtain⟨a2,ha⟩:=ii (at_+0);rw[<-ha]at ac;have au:Hid (Rd w4 w gr bs a2):=(by rw[ha];exact Z.out);have aa:=G;have U:=E;obtain⟨w5,rfl⟩:=ii w4;clear ak ha Z G E;have Y:=hid (left_any w5 w gr bs a2 au.out);obtain⟨l2,aq⟩:=ii (bs.length-a2);rw[<-aq]at Y;obtain⟨t,ht⟩:=ii (l2 / 8);have st:(l2:Int) / 8=(t:Int):=mz;have st2:IntKind.i64.wrap (t:Int)=(t:Int):=Aw _ lx;have so:IntKind.i64.wrap ((m:Int)-(t:Int))=(((at_+7) / 8:Nat):Int):=nU;generalize (at_+7) / 8=o at *;clear aq ht ac;go_wp2_with fail;refine Y.out.mono ?_;rintro e w6 ⟨rfl,q6,ab⟩;have bh:Hid (Prt 323 w6 gl gl W (i.map (·/ 2 ^ W)) (i.map (·% 2 ^ W)) vH vL):=(by rw[ab];exact aa.out.keep (fun y _ _=>rfl));have bi:Hid (Below w w w6):=(by rw[ab];exact below_drewN U.out q6);clear ab aa U Y;go_wp2_with fail
     go_ret3
     rw[ba.out];exact⟨bi.out,fun h=>absurd rfl h,fun _=>⟨_,rfl,gl,W,vH,vL,rfl,hW,by rw[HI.out];omega,bb.out,bh.out.mono zw⟩⟩
    ·have cX:=ic ((0:Int)<r);have cw:=ic (0<r);have DG:=JG w4 w gr bs at_ r mz Z.out;unfold IM IL II at DG;rw[Ae aw,Ae aw,Ae aw]at DG;obtain⟨a2,ha⟩:=ii (at_+r);rw[<-ha]at ac DG;generalize zZ bs at_ r=y at *;have DG:=hid DG;clear ha b3;go_wp2_with fail;refine DG.out.mono ?_;rintro e w5 ⟨rfl,b8,ai⟩;have au:=hid b8;have aa:Hid (Prt 323 w5 gl gl W (i.map (·/ 2 ^ W)) (i.map (·% 2 ^ W)) vH vL):=G.out.keep (fun y hy _=>ai.block y mz);have U:Hid (Below w w w5):=E.out.trans (ai.below (fun b h=>by omega));clear b8 ai Z G E DG;by_cases hy:y=0
     ·subst hy;have ba:Hid (R=(i,(at_+7) / 8,0)):=(by have h:=ak.out;rw[Ab (fun h=>h rfl)]at h;exact h);clear ak;have Y:=hid (left_any w5 w gr bs a2 au.out);obtain⟨l2,aq⟩:=ii (bs.length-a2);rw[<-aq]at Y;obtain⟨t,ht⟩:=ii (l2 / 8);have st:(l2:Int) / 8=(t:Int):=mz;have st2:IntKind.i64.wrap (t:Int)=(t:Int):=Aw _ lx;have so:IntKind.i64.wrap ((m:Int)-(t:Int))=(((at_+7) / 8:Nat):Int):=nU;generalize (at_+7) / 8=o at *;clear aq ht ac;go_wp2_with fail;refine Y.out.mono ?_;rintro e w6 ⟨rfl,q6,ab⟩;have bh:Hid (Prt 323 w6 gl gl W (i.map (·/ 2 ^ W)) (i.map (·% 2 ^ W)) vH vL):=(by rw[ab];exact aa.out.keep (fun y _ _=>rfl));have bi:Hid (Below w w w6):=(by rw[ab];exact below_drewN U.out q6);clear ab aa U Y;go_wp2_with fail
      go_ret3
      rw[ba.out];exact⟨bi.out,fun h=>absurd rfl h,fun _=>⟨_,rfl,gl,W,vH,vL,rfl,hW,by rw[HI.out];omega,bb.out,bh.out.mono zw⟩⟩
     ·have gy:((y:Int) != 0)=true:=oO;have Q:Hid (R=([],0,2)):=(by have h:=ak.out;rw[Ae hy]at h;exact h);clear ak hy ac;go_wp2_with fail
      go_ret3
      exact Jk Q.out ip U.out
end Ef
end Go.Proofs.YtfgdoknipbpfhaaGreatDoor
