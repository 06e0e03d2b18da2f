/- The walks of ef.Read -/
import Derived.Test.YtbgoibedicbkjaaGreatDoorZBodyLogs27
namespace Go.Proofs.YtbgoibedicbkjaaGreatDoor
open Go.Lib (hid)
set_option maxRecDepth 100000
namespace Ef
open Go.RowKit Mem Own Canon NumPut Nums
open Go.Proofs.YtbgoibedicbkjaaGreatDoor.Huff (AZ CX)
open Go.Proofs.YtbgoibedicbkjaaGreatDoor.Crc (Ct)
theorem number_any(w:World)(base g W i id:Nat)(h:List Nat)(vH vL:Value)(hW:W<=14)(Q:h.length<=20000)(z:∀x∈h,x<=20000)(hP:Prt 286 w base g W (h.map (·/ 2 ^ W)) (h.map (·% 2 ^ W)) vH vL)(hi:h[i]? =some id):
 Calls Tryz.prog 209 #[.pointer (some ⟨g,0,none⟩), .int .i64 (i:Nat)] w fun e w'=>e= .returned (.int .i64 (id:Nat))/\∃q,w'=w.drewN q:=by
 have U:i<h.length:=(BO.1 hi).1;have Y:=z id (BF hi);have N:2 ^ W<=16384:=by have:2 ^ W<=2 ^ 14:=Bu (by omega) hW;omega
 have M:1<=2 ^ W:=Nat.one_le_two_pow;have c0:=hP.blk.cell 0;have c1:=hP.blk.cell 1;have c2:=hP.blk.cell 2;simp only[List.getElem?_toArray,List.getElem?_cons_zero,List.getElem?_cons_succ]at c0 c1 c2;have oh:=hP.oh;have ol:=hP.ol;rw[BN]at oh ol;obtain⟨gh,ch,rfl,_,_⟩:=oh.form (by omega);obtain⟨gl,cl,rfl,_,_⟩:=ol.form (by omega);obtain⟨j,L⟩:∃a,a=id / 2 ^ W:=⟨_,rfl⟩;obtain⟨lo,y⟩:∃a,a=id % 2 ^ W:=⟨_,rfl⟩;have d1:w.cell? ⟨gh,i,none⟩=some (.int .i64 (j:Nat)):=by rw[oh.cellAt i (by omega)];unfold cZ;rw[Bw,Bw,hi,L];rfl
 have d2:w.cell? ⟨gl,i,none⟩=some (.int .u16 (lo:Nat)):=by rw[ol.cellAt i (by omega)];unfold cZ;rw[Bw,Bw,hi,y];rfl
 have E:lo<2 ^ W:=by rw[y];exact Nat.mod_lt _ (by omega)
 have G:j*2 ^ W+lo=id:=by rw[L,y,Nat.mul_comm];exact Nat.div_add_mod _ _
 obtain⟨hw,J⟩:∃hw,hw=j*2 ^ W:=⟨_,rfl⟩;have e1:IntKind.i64.wrap ((j:Int)*2 ^ W)=(hw:Int):=by rw[show(j:Int)*2 ^ W=(hw:Int) by rw[J];simp,Ak _ (by omega)]
 have e2:bits .or .i64 (hw:Int) (lo:Int)=(id:Int):=by rw[QP hw lo (by omega) (by omega),J,Px j lo W E,G]
 have Z:IntKind.i64.wrap (lo:Int)=(lo:Int):=Ak _ (by omega);have x0:(0:Int)<=(i:Int):=by omega
 have x1:(i:Int)<(h.length:Int):=by omega
 generalize h.length=n at *;clear hP oh ol hi z L y G J E N M;go_enter Tryz.func209,Tryz.ntmps209;go_wp2_with fail;go_quiet (fail);go_wp2_with fail;go_ret;exact⟨rfl,_,rfl⟩
theorem len_any(w:World)(base:Nat)(p:Value)(i:List Nat)(h:ListAt w base p i):
 Calls Tryz.prog 170 #[p] w fun e w'=>e= .returned (.int .i64 (i.length:Nat))/\w'=w:=by
 obtain⟨g,W,vH,vL,rfl,_,_,_,hP⟩:=h;have c1:=hP.blk.cell 1;have oh:=hP.oh;rw[BN]at oh;obtain⟨A,c,rfl⟩:=aZ oh;simp only[List.getElem?_toArray,List.getElem?_cons_zero,List.getElem?_cons_succ]at c1;generalize i.length=n at *;clear hP oh;go_enter Tryz.func170,Tryz.ntmps170;go_wp2_with fail;go_ret;exact⟨rfl,rfl⟩
theorem NL:(Tryz.prog.info? 3).map (fun i=>(i.zero,i.size,i.bytes))=some (some (.int .i64 0),1,8):=by kernel_rfl
theorem We(w:World)(base:Nat)(p:Value)(j:List Nat)(h:ListAt w base p j):
 Calls Tryz.prog 171 #[p] w fun e w'=>∃v,e= .returned v/\w'.ownsRow w.heap.size 3 1 v j.length (cZ .i64 j)/\Below w.heap.size w w':=by
 obtain⟨j0,ac,aa,Y,J⟩:=info_parts NL;have DL:=hid (len_any w base p j h);obtain⟨g,W,vH,vL,rfl,hW,E,G,hP⟩:=h;have DN:=hid (fun wx i id (hb:Below w.heap.size w wx) hi=>number_any wx base g W i id j vH vL hW E G (hP.keep (fun y _ J=>hb.block y J)) hi);obtain⟨n,hn⟩:∃n,n=j.length:=⟨_,rfl⟩;rw[<-hn]at DL E ⊢;have HN:=hid hn;clear G hP hn;go_enter Tryz.func171,Tryz.ntmps171;go_wp2_with fail;refine DL.out.mono ?_;rintro e w1 ⟨rfl,rfl⟩;go_wp2_with fail;go_loopw [3,7] (fun v iv wr=>∃k:Nat,k<=n/\iv= .int .i64 k/\Hid (wr.ownsRow w1.heap.size 3 1 v k (cZ .i64 (j.take k)))/\Hid (Below w1.heap.size w1 wr)) (fun _ iv _=>n-(intOf iv).toNat)
 case atStart=>exact⟨0,by omega,rfl,Am _ _ _ _,Ag _ _⟩
 case round=>
  obtain⟨k,hk,rfl,HO,HB⟩:=hrel;obtain⟨va,vc,rfl⟩:=aZ HO.out;have zr:=HB.out.size;by_cases ae:k<n
  ·have g1:decide ((k:Int)<(n:Int))=true:=(by simp;omega);have af:decide (k<n)=true:=(by simp;omega);obtain⟨id,L⟩:∃id,j[k]? =some id:=⟨_,AD (by have:=HN.out;omega)⟩;have HT:Hid (j.take (k+1)=j.take k++ [id]):=(by show _=_;rw[Ed,L];rfl);have D:=hid (DN.out wr k id HB.out L);clear L DL;go_wp2_with fail;refine D.out.mono ?_;rintro e w2 ⟨rfl,q,hq⟩;have M:Hid (w2.ownsRow w1.heap.size 3 1 (.slice va k vc) k (cZ .i64 (j.take k))):=(by rw[hq];exact dZ HO.out (fun y _=>rfl));have N:Hid (Below w1.heap.size w1 w2):=(by rw[hq];exact below_drewN HB.out q);have z2:=N.out.size;clear hq HO HB D;go_wp2_with(at_builtin;refine gZ rfl (.tmp 10) (.tmp 16) 30 rfl w1.heap.size 3 j0 _ 1 8 Tryz.underlying30 ac aa Y J rfl (by decide) _ _ _ (by rfl) (M.out.alloc _) _ 1 1 [.int .i64 (id:Nat)] (by rfl) (Src.of_blk (Blk.made_at _ _ _ (by simp)) 1 1 1 rfl) (by intro u hu;simp at hu;rcases hu with rfl;rfl) (by unfold maxLen;omega) (by omega) (by simp;omega) ?_;intro v5 w5 z Q U;obtain⟨A5,c5,rfl⟩:=aZ z);have ab:Hid (Below w1.heap.size w1 w5):=(kZ z2 N.out).grown Q (by simp;omega) (fun y hy=>(Ae M.out y hy).1);have Z:Hid (w5.ownsRow w1.heap.size 3 1 (.slice A5 (k+1) c5) (k+1) (cZ .i64 (j.take (k+1)))):=(by show World.ownsRow _ _ _ _ _ _ _;rw[HT.out,show cZ .i64 (j.take k++ [id])=cZ .i64 (j.take k)++ [.int .i64 (id:Nat)] by simp[cZ]];exact z);clear z Q U HT;go_roundw
   case measure=>go_light;simp[intOf];omega
   case rel=>go_light;exact⟨k+1,by omega,by first|rfl|go_num,Z.out,ab.out⟩
  ·obtain rfl:k=n:=by omega
   have g1:decide ((k:Int)<(k:Int))=false:=(by simp);have HT:Hid (j.take k=j):=Bv (by rw[HN.out];exact Aj _);rw[HT.out]at HO;go_wp2_with fail;go_ret;exact⟨_,rfl,HO.out,HB.out⟩
def efG(a:Nat)(R:List Nat×Nat×Int):List Nat×Nat×Int:=if R.2.2≠0 then([],0,R.2.2)else(R.1,a+R.2.1,0)
def efR(bound:Nat)(bs:List Nat):List Nat×Nat×Int:=
 if oZ bound bs 0 0≠0 then([],0,oZ bound bs 0 0)else if xZ bound bs 0 0=0 then([],mZ bound bs 0 0,0)
 else efG (mZ bound bs 0 0) (Fx bound (xZ bound bs 0 0) (AZ (bs.drop (mZ bound bs 0 0))))
theorem OB{bound n z:Nat}{bs:List Bool}(hz:bs.length=8*z):(Fx bound n bs).2.1<=z:=by
 unfold Fx;split
 ·exact AY _
 ·rename_i h;have:=PI (bound:=bound) (W:=efW bound n) (bs:=bs) (BK (efW bound n) bs n) (n*efW bound n) 0 [] (by omega);split
  ·exact AY _
  ·split
   ·exact AY _
   ·simp only;omega
theorem QG{bound:Nat}{bs:List Nat}(h8:∀x∈bs,x<=255):(efR bound bs).2.1<=bs.length:=by
 have ha:mZ bound bs 0 0<=bs.length:=intA_le h8 0 (by omega);unfold efR;split
 ·exact AY _
 ·split
  ·exact ha
  ·have h:=OB (bound:=bound) (n:=xZ bound bs 0 0) (z:=bs.length-mZ bound bs 0 0) (bs:=AZ (bs.drop (mZ bound bs 0 0))) (by rw[CX,AQ]);unfold efG;split
   ·exact AY _
   ·simp only;omega
theorem ListAt.mono{w:World}{base i:Nat}{p:Value}{j:List Nat}(h:ListAt w base p j)(hb:i<=base):ListAt w i p j:=by obtain⟨g,W,vH,vL,h1,h2,h3,h4,h5⟩:=h;exact⟨g,W,vH,vL,h1,h2,h3,h4,h5.mono hb⟩
set_option maxHeartbeats 1000000 in
theorem Ww(w:World)(A:Option Addr)(m c bound:Nat)(bs:List Nat)(hm:bs.length=m)(aq:m<=100000)(h8:∀x∈bs,x<=255)(hc:m<=c)(z:A=none->m=0/\c=0)(ha:Row w w.heap.size A m 1 (iZ .u8 bs))(hb:bound<=20000):
 Calls Tryz.prog 169 #[.int .i64 (bound:Nat), .slice A m c] w (Lg w (efR bound bs)):=by
 have D0:=hid (new_any w A m c bs hm aq z ha);have ak:bs.length<=100000:=by omega
 have D1:=hid (fun wx g B d h=>Hi wx g w.heap.size bs B d 0 0 bound ak h8 (by omega) h);have av:decide ((bound:Int)<0)=false:=by simp
 have aw:decide ((20000:Int)<(bound:Int))=false:=by simp;omega
 have ar:decide (20000<bound)=false:=by simp;omega
 obtain⟨R,hR⟩:∃R,R=efR bound bs:=⟨_,rfl⟩;rw[<-hR];have ai:xZ bound bs 0 0<=bound:=Cs h8 0 0;have ah:mZ bound bs 0 0<=bs.length:=intA_le h8 0 (by omega);unfold efR at hR;generalize oZ bound bs 0 0=ie at *;generalize xZ bound bs 0 0=n at *;generalize mZ bound bs 0 0=a at *;have aj:Row w w.heap.size (vZ A a c 1) (m-a) 1 (iZ .u8 (bs.drop a)):=by have h:=Ct (hm ▸ ha:Row w w.heap.size A bs.length 1 (iZ .u8 bs)) ah (by omega:bs.length<=c);rw[hm]at h;exact h
 have G:vZ A a c 1=none->m-a=0/\c-a=0:=fun h=>by
  have hA:A=none:=by
   unfold vZ at h;split at h
   ·exact h
   ·cases A with
    |none=>rfl
    |some x=>cases h
  have:=z hA;omega
 have DR:=hid (fun wx (hbx:Below w.heap.size w wx) (h1:1<=n)=>XM wx (vZ A a c 1) (m-a) (c-a) bound n (bs.drop a) (by rw[AQ,hm]) (by omega) (fun x hx=>h8 x (Bb hx)) G ((aj.below hbx).mono hbx.size) h1 ai hb);have ks:=fun wx=>EG (P:=Tryz.prog) (t:=22) (s:=1) Tryz.underlying22 (fun _=>by kernel_rfl) A m c .i64 (a:Int) a rfl (by omega) wx;have HR:=hid hR;generalize vZ A a c 1=A2 at *;have aa:Hid ((Fx bound n (AZ (bs.drop a))).2.1<=m-a):=OB (by rw[CX,AQ,hm]);generalize Fx bound n (AZ (bs.drop a))=T at *;have aA:a<=m:=by omega
 clear hm h8 z ha hR aj G ai ah;go_enter Tryz.func169,Tryz.ntmps169;go_wp2_with fail;refine D0.out.mono ?_;rintro e w1 ⟨g,B,d,rfl,Z,ae⟩;have DI:=hid (D1.out w1 g B d Z);have af:=hid ae;have ax:=Z.lo;have az:=ae.size;clear Z ae D0 D1;go_wp2_with fail;refine DI.out.mono ?_;rintro e w2 ⟨rfl,N,ag⟩;have j:Hid (Below w.heap.size w w2):=af.out.trans (ag.below fun b h=>⟨by omega,by omega⟩);have DE:=hid (CI w2 g w.heap.size bs B d a ie N);have DA:=hid (fun wx (hb:Below w2.heap.size w2 wx)=>IT wx g w.heap.size bs B d a ie (N.step hb));clear N ag af DI;go_wp2_with fail;refine DE.out.mono ?_;rintro e w3 ⟨rfl,rfl⟩;by_cases i:ie=0
 ·have gE:(ie != 0)=false:=by rw[i];rfl
  by_cases ac:n=0
  ·subst ac;have y:Hid (R=([],a,0)):=(by have h:=HR.out;rw[Aa (by simp[i]),Ab rfl]at h;exact h);have an:=hid (DA.out (w3.alloc (.cells #[.int .i64 0, .slice none 0 0, .slice none 0 0] 286)) (bZ (Ag _ _)));clear HR i DR DA DE;go_wp2_with fail;refine an.out.mono ?_;rintro e w4 ⟨rfl,rfl⟩;go_wp2_with fail
   go_ret3
   rw[y.out];exact⟨kZ j.out.size j.out,fun h=>absurd rfl h,fun _=>⟨_,rfl,w3.heap.size,0, .slice none 0 0, .slice none 0 0,rfl,by omega,by simp,(fun x hx=>by simp at hx),⟨Blk.made _ _ _,Am _ _ _ _,Am _ _ _ _,j.out.size⟩⟩⟩
  ·have gn:((n:Int)==0)=false:=(by rw[Dd];omega);have ay:(n==0)=false:=(by rw[Dd];omega);have y:Hid (R=efG a T):=(by have h:=HR.out;rw[Aa (by simp[i]),Aa ac]at h;exact h);have ab:=hid (DA.out w3 (Ag _ _));have U:=hid (fun wx hbx=>DR.out wx hbx (by omega));clear HR i ac DR DE;go_wp2_with fail;refine ab.out.mono ?_;rintro e w4 ⟨rfl,rfl⟩;go_wp2_with fail;refine(U.out _ j.out).mono ?_;rintro e w5 ⟨J,E,M⟩;have al:Hid (Below w.heap.size w w5):=j.out.trans (J.mono j.out.size);by_cases hT:T.2.2=0
   ·obtain⟨p,rfl,hL⟩:=M hT;have HL:=hid hL;have L:Hid (R=(T.1,a+T.2.1,0)):=(by show _=_;rw[y.out];unfold efG;exact Aa (by simp[hT]));have au:=hid (DA.out w5 J);have zz:=j.out.size;have am:=aa.out;obtain⟨t1,Q⟩:∃t1,t1=T.2.1:=⟨_,rfl⟩;rw[<-Q]at L am;have s1:IntKind.i64.wrap ((a:Int)+(t1:Int))=((a+t1:Nat):Int):=(by rw[Ak _ (by omega)];omega);rw[<-Q];clear J E M hL y hT DA ab U aa Q;go_wp2_with fail;refine au.out.mono ?_;rintro e w6 ⟨rfl,rfl⟩;go_wp2_with fail
    go_ret3
    rw[L.out];exact⟨al.out,fun h=>absurd rfl h,fun _=>⟨_,rfl,HL.out.mono zz⟩⟩
   ·have he:=E hT;subst he;have gT:(T.2.2 != 0)=true:=(by simpa using hT);have L:Hid (R=([],0,T.2.2)):=(by show _=_;rw[y.out];unfold efG;exact Ab hT);have Y:=hid hT;clear J E M y hT DA ab U aa;generalize T.2.2=te at *;go_wp2_with fail
    go_ret3
    exact Ii L.out Y.out al.out
 ·have gE:(ie != 0)=true:=by simpa using i
  have y:Hid (R=([],0,ie)):=by have h:=HR.out;rw[Ab i]at h;exact h
  have Y:=hid i;clear i HR DR DA DE;go_wp2_with fail
  go_ret3
  exact Ii y.out Y.out j.out
end Ef
end Go.Proofs.YtbgoibedicbkjaaGreatDoor
