/- The walks of ef.Read -/
import Derived.Test.YtfgdoknipbpfhaaGreatDoorZTwoUnpacks27
namespace Go.Proofs.YtfgdoknipbpfhaaGreatDoor
open Go.Proofs.Tryz
open Go.Lib (hid)
set_option maxRecDepth 100000
variable{bound:Nat}
namespace Ef
open Go.RowKit Mem Own Canon NumPut Nums
open Huff (Bg Dy)
open Crc (Cv)
theorem number_any(w:World)(base g W i id:Nat)(h:List Nat)(vH vL:Value)(hW:W<=14)(Q:h.length<=20000)(z:∀x∈h,x<=20000)(hP:Prt 323 w base g W (h.map (·/ 2 ^ W)) (h.map (·% 2 ^ W)) vH vL)(hi:h[i]? =some id):
 Calls prog 247 #[.pointer (some ⟨g,0,none⟩), .int .i64 (i:Nat)] w fun e w'=>e= .returned (.int .i64 (id:Nat))/\∃q,w'=w.drewN q:=by
 have U:i<h.length:=(Ch.1 hi).1;have Z:=z id (BP hi);have N:2 ^ W<=16384:=jS
 have M:1<=2 ^ W:=Nat.one_le_two_pow;have c0:=hP.blk.iO 0;have c1:=hP.blk.iO 1;have c2:=hP.blk.iO 2;have oh:=hP.oh;have ol:=hP.ol;rw[Cg]at oh ol;obtain⟨gh,ch,rfl,_,_⟩:=oh.form kR;obtain⟨gl,cl,rfl,_,_⟩:=ol.form kR;obtain⟨j,J⟩:=iS (id / 2 ^ W);obtain⟨lo,y⟩:=iS (id % 2 ^ W);have d1:w.cell? ⟨gh,i,none⟩=some (.int .i64 (j:Nat)):=by rw[oh.cellAt i kR];unfold cZ;rw[B0,B0,hi,J];rfl
 have d2:w.cell? ⟨gl,i,none⟩=some (.int .u16 (lo:Nat)):=by rw[ol.cellAt i kR];unfold cZ;rw[B0,B0,hi,y];rfl
 have G:lo<2 ^ W:=by rw[y];exact Nat.mod_lt _ kR
 have E:j*2 ^ W+lo=id:=by rw[J,y,Nat.mul_comm];exact Nat.div_add_mod _ _
 obtain⟨hw,L⟩:=iS (j*2 ^ W);have e1:IntKind.i64.wrap ((j:Int)*2 ^ W)=(hw:Int):=by rw[show(j:Int)*2 ^ W=(hw:Int) by rw[L];simp,Am _ kR]
 have e2:bits .or .i64 (hw:Int) (lo:Int)=(id:Int):=by rw[Rp hw lo kR kR,L,Rr j lo W G,E]
 have Y:IntKind.i64.wrap (lo:Int)=(lo:Int):=Am _ kR;have x0:(0:Int)<=(i:Int):=kR
 have x1:(i:Int)<(h.length:Int):=kR
 generalize h.length=n at *;clear hP oh ol hi z J y E L G N M;go_enter func247,ntmps247;go_wp2_with fail;go_quiet (fail);go_wp2_with fail;go_ret;exact⟨rfl,_,rfl⟩
theorem len_any(w:World)(base:Nat)(p:Value)(i:List Nat)(h:ListAt w base p i):
 Calls prog 198 #[p] w fun e w'=>e= .returned (.int .i64 (i.length:Nat))/\w'=w:=by
 obtain⟨g,W,vH,vL,rfl,_,_,_,hP⟩:=h;have c1:=hP.blk.iO 1;have oh:=hP.oh;rw[Cg]at oh;obtain⟨A,c,rfl⟩:=aZ oh;generalize i.length=n at *;clear hP oh;go_enter func198,ntmps198;go_wp2_with fail;go_ret;exact⟨rfl,rfl⟩
theorem PW:(prog.info? 3).map (fun i=>(i.zero,i.size,i.bytes))=some (some (.int .i64 0),1,8):=kG
theorem UZ(w:World)(base:Nat)(p:Value)(j:List Nat)(h:ListAt w base p j):
 Calls prog 199 #[p] w fun e w'=>∃v,e= .returned v/\w'.ownsRow w 3 1 v j.length (cZ .i64 j)/\aO w w':=by
 obtain⟨j0,Y,ab,ac,J⟩:=info_parts PW;have DL:=hid (len_any w base p j h);obtain⟨g,W,vH,vL,rfl,hW,E,G,hP⟩:=h;have DN:=hid (fun wx i id (hb:aO w wx) hi=>number_any wx base g W i id j vH vL hW E G (hP.keep (fun y _ J=>hb.block y J)) hi);obtain⟨n,hn⟩:=iS j.length;rw[<-hn]at DL E ⊢;have HN:=hid hn;clear G hP hn;go_enter func199,ntmps199;go_wp2_with fail;refine DL.out.mono ?_;rintro e w1 ⟨rfl,rfl⟩;go_wp2_with fail;go_loopw [3,7] (fun v iv wr=>∃k:Nat,k<=n/\iv= .int .i64 k/\Hid (wr.ownsRow w1 3 1 v k (cZ .i64 (j.take k)))/\Hid (aO w1 wr)) (fun _ iv _=>n-(intOf iv).toNat)
 case atStart=>exact⟨0,kR,rfl,Aq _ _ _ _,Ag _ _⟩
 case round=>
  obtain⟨k,hk,rfl,HO,HB⟩:=hrel;obtain⟨va,vc,rfl⟩:=aZ HO.out;have zr:=HB.out.size;by_cases af:k<n
  ·have g1:=iQ ((k:Int)<n);have ae:=iQ (k<n);obtain⟨id,L⟩:∃id,j[k]? =some id:=⟨_,AE kg⟩;have HT:Hid (j.take (k+1)=j.take k++ [id]):=(by show _=_;rw[EG,L];rfl);have D:=hid (DN.out wr k id HB.out L);clear L DL;go_wp2_with fail;refine D.out.mono ?_;rintro e w2 ⟨rfl,q,hq⟩;have U:Hid (w2.ownsRow w1 3 1 (.slice va k vc) k (cZ .i64 (j.take k))):=(by rw[hq];exact dZ HO.out (fun y _=>rfl));have M:Hid (aO w1 w2):=(by rw[hq];exact below_drewN HB.out q);have z2:=M.out.size;clear hq HO HB D;go_wp2_with(at_builtin;refine gZ rfl (.tmp 10) (.tmp 16) 37 rfl w1 3 j0 _ 1 8 underlying37 Y ab ac J rfl iX _ _ _ kU (U.out.alloc _) _ 1 1 [.int .i64 (id:Nat)] kU (Src.of_blk (Blk.made_at _ _ _ mY) 1 1 1 rfl) kw nI kR ni ?_;intro v5 w5 z Q N;obtain⟨A5,c5,rfl⟩:=aZ z);have Z:Hid (aO w1 w5):=(lZ z2 M.out).grown Q ni (fun y hy=>(Ae U.out y hy).1);have aa:Hid (w5.ownsRow w1 3 1 (.slice A5 (k+1) c5) (k+1) (cZ .i64 (j.take (k+1)))):=(by show World.ownsRow _ _ _ _ _ _ _;rw[HT.out,show cZ .i64 (j.take k++ [id])=cZ .i64 (j.take k)++ [.int .i64 (id:Nat)] by simp[cZ]];exact z);clear z Q N HT;go_roundw
   case measure=>exact jw
   case rel=>go_light;exact⟨k+1,kR,i5,aa.out,Z.out⟩
  ·obtain rfl:k=n:=by omega
   have g1:=iR ((k:Int)<k);have HT:Hid (j.take k=j):=BR lQ;rw[HT.out]at HO;go_wp2_with fail;go_ret;exact⟨_,rfl,HO.out,HB.out⟩
def efG(a:Nat)(R:List Nat×Nat×Int):List Nat×Nat×Int:=if R.2.2≠0 then([],0,R.2.2)else(R.1,a+R.2.1,0)
def efR(bound:Nat)(bs:List Nat):List Nat×Nat×Int:=
 if oZ bound bs 0 0≠0 then([],0,oZ bound bs 0 0)else if zZ bound bs 0 0=0 then([],nZ bound bs 0 0,0)
 else efG (nZ bound bs 0 0) (Ga bound (zZ bound bs 0 0) (Bg (bs.drop (nZ bound bs 0 0))))
theorem Qb{n z:Nat}{bs:List Bool}(hz:bs.length=8*z):(Ga bound n bs).2.1<=z:=by
 unfold Ga;split
 ·exact Ba _
 ·rename_i h;have:=RD (bound:=bound) (W:=efW bound n) (bs:=bs) (Cc (efW bound n) bs n) (n*efW bound n) 0 [] kR;split
  ·exact Ba _
  ·split
   ·exact Ba _
   ·simp only;omega
theorem Q9{bs:List Nat}(h8:∀x∈bs,x<=255):(efR bound bs).2.1<=bs.length:=by
 have ha:nZ bound bs 0 0<=bs.length:=intA_le h8 0 kR;unfold efR;split
 ·exact Ba _
 ·split
  ·exact ha
  ·have h:=Qb (bound:=bound) (n:=zZ bound bs 0 0) (z:=bs.length-nZ bound bs 0 0) (bs:=Bg (bs.drop (nZ bound bs 0 0))) (by rw[Dy,AK]);unfold efG;split
   ·exact Ba _
   ·simp only;omega
theorem ListAt.mono{w:World}{base i:Nat}{p:Value}{j:List Nat}(h:ListAt w base p j)(hb:i<=base):ListAt w i p j:=by obtain⟨g,W,vH,vL,h1,h2,h3,h4,h5⟩:=h;exact⟨g,W,vH,vL,h1,h2,h3,h4,h5.mono hb⟩
set_option maxHeartbeats 1000000 in
theorem W8(w:World)(A:Option Addr)(m c bound:Nat)(bs:List Nat)(hm:bs.length=m)(an:m<=100000)(h8:∀x∈bs,x<=255)(hc:m<=c)(G:A=none->m=0/\c=0)(ha:Row w w A m 1 (jZ .u8 bs))(hb:bound<=20000):
 Calls prog 197 #[.int .i64 (bound:Nat), .slice A m c] w (LF w (efR bound bs)):=by
 have D0:=hid (new_any w A m c bs hm an G ha);have ah:bs.length<=100000:=kR
 have D1:=hid (fun wx g B d h=>GJ wx g w bs B d 0 0 bound ah h8 kR h);have aw:=iR ((bound:Int)<0)
 have ax:=iR ((20000:Int)<bound)
 have am:=iR (20000<bound)
 obtain⟨R,hR⟩:=iS (efR bound bs);rw[<-hR];have al:zZ bound bs 0 0<=bound:=CI h8 0 0;have ak:nZ bound bs 0 0<=bs.length:=intA_le h8 0 kR;unfold efR at hR;generalize oZ bound bs 0 0=ie at *;generalize zZ bound bs 0 0=n at *;generalize nZ bound bs 0 0=a at *;have aj:Row w w (xZ A a c 1) (m-a) 1 (jZ .u8 (bs.drop a)):=by have h:=Cv (hm ▸ ha:Row w w A bs.length 1 (jZ .u8 bs)) ak (by omega:bs.length<=c);rw[hm]at h;exact h
 have E:xZ A a c 1=none->m-a=0/\c-a=0:=fun h=>by
  have hA:A=none:=by
   unfold xZ at h;split at h
   ·exact h
   ·cases A with
    |none=>rfl
    |some x=>cases h
  have:=G hA;omega
 have DR:=hid (fun wx (hbx:aO w wx) (h1:1<=n)=>Wq wx (xZ A a c 1) (m-a) (c-a) bound n (bs.drop a) (by rw[AK,hm]) kR (fun x hx=>h8 x (Be hx)) E ((aj.below hbx).mono hbx.size) h1 al hb);have ks:=fun wx=>EM (P:=prog) (t:=28) (s:=1) underlying28 (fun _=>by kernel_rfl) A m c .i64 (a:Int) a rfl kR wx;have HR:=hid hR;generalize xZ A a c 1=A2 at *;have Y:Hid ((Ga bound n (Bg (bs.drop a))).2.1<=m-a):=Qb (by rw[Dy,AK,hm]);generalize Ga bound n (Bg (bs.drop a))=T at *;have ay:a<=m:=kR
 clear hm h8 G ha hR aj E al ak;go_enter func197,ntmps197;go_wp2_with fail;refine D0.out.mono ?_;rintro e w1 ⟨g,B,d,rfl,ae,N⟩;have DI:=hid (D1.out w1 g B d ae);have ag:=hid N;have av:=ae.lo;have aP:=N.size;clear ae N D0 D1;go_wp2_with fail;refine DI.out.mono ?_;rintro e w2 ⟨rfl,U,af⟩;have j:Hid (aO w w2):=ag.out.trans (af.below fun b h=>⟨kR,kR⟩);have DE:=hid (CJ w2 g w bs B d a ie U);have DA:=hid (fun wx (hb:aO w2 wx)=>GQ wx g w bs B d a ie (U.step hb));clear U af ag DI;go_wp2_with fail;refine DE.out.mono ?_;rintro e w3 ⟨rfl,rfl⟩;by_cases i:ie=0
 ·have gE:(ie != 0)=false:=by rw[i];rfl
  by_cases ac:n=0
  ·subst ac;have y:Hid (R=([],a,0)):=(by have h:=HR.out;rw[Aa (by simp[i]),Ab rfl]at h;exact h);have ar:=hid (DA.out (w3.alloc (.cells #[iT,(),()] 323)) (bZ (Ag _ _)));clear HR i DR DA DE;go_wp2_with fail;refine ar.out.mono ?_;rintro e w4 ⟨rfl,rfl⟩;go_wp2_with fail
   go_ret3
   rw[y.out];exact⟨lZ j.out.size j.out,fun h=>absurd rfl h,fun _=>⟨_,rfl,w3.heap.size,0, .slice none 0 0, .slice none 0 0,rfl,kR,mY,(fun x hx=>by simp at hx),⟨Blk.made _ _ _,Aq _ _ _ _,Aq _ _ _ _,j.out.size⟩⟩⟩
  ·have gn:((n:Int)==0)=false:=lH;have az:(n==0)=false:=lH;have y:Hid (R=efG a T):=(by have h:=HR.out;rw[Aa (by simp[i]),Aa ac]at h;exact h);have M:=hid (DA.out w3 (Ag _ _));have Q:=hid (fun wx hbx=>DR.out wx hbx kR);clear HR i ac DR DE;go_wp2_with fail;refine M.out.mono ?_;rintro e w4 ⟨rfl,rfl⟩;go_wp2_with fail;refine(Q.out _ j.out).mono ?_;rintro e w5 ⟨J,z,Z⟩;have ai:Hid (aO w w5):=j.out.trans (J.mono j.out.size);by_cases hT:T.2.2=0
   ·obtain⟨p,rfl,hL⟩:=Z hT;have HL:=hid hL;have L:Hid (R=(T.1,a+T.2.1,0)):=(by show _=_;rw[y.out];unfold efG;exact Aa (by simp[hT]));have aq:=hid (DA.out w5 J);have zz:=j.out.size;have au:=Y.out;obtain⟨t1,ab⟩:=iS T.2.1;rw[<-ab]at L au;have s1:IntKind.i64.wrap ((a:Int)+(t1:Int))=((a+t1:Nat):Int):=lD;rw[<-ab];clear J z Z hL y hT DA M Q Y ab;go_wp2_with fail;refine aq.out.mono ?_;rintro e w6 ⟨rfl,rfl⟩;go_wp2_with fail
    go_ret3
    rw[L.out];exact⟨ai.out,fun h=>absurd rfl h,fun _=>⟨_,rfl,HL.out.mono zz⟩⟩
   ·have he:=z hT;subst he;have gT:(T.2.2 != 0)=true:=(by simpa using hT);have L:Hid (R=([],0,T.2.2)):=(by show _=_;rw[y.out];unfold efG;exact Ab hT);have aa:=hid hT;clear J z Z y hT DA M Q Y;generalize T.2.2=te at *;go_wp2_with fail
    go_ret3
    exact IT L.out aa.out ai.out
 ·have gE:(ie != 0)=true:=by simpa using i
  have y:Hid (R=([],0,ie)):=by have h:=HR.out;rw[Ab i]at h;exact h
  have aa:=hid i;clear i HR DR DA DE;go_wp2_with fail
  go_ret3
  exact IT y.out aa.out j.out
end Ef
end Go.Proofs.YtfgdoknipbpfhaaGreatDoor
