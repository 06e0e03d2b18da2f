/- The walks of ef.Read -/
import Derived.Test.YtfgdoknipbpfhaaGreatDoorZBodyBlocks29
namespace Go.Proofs.YtfgdoknipbpfhaaGreatDoor
open Go.Proofs.Tryz
open Go.Lib (hid)
set_option maxRecDepth 100000
variable{bound:Nat}
namespace Ef
open Go.RowKit Mem Own Canon NumPut Nums
open Huff (Bi Es)
open Crc (EQ)
theorem number_any(w:World)(base g W i id:Nat)(h:List Nat)(vH vL:Value)(hW:W<=14)(Q:h.length<=20000)(E:∀x∈h,x<=20000)(hP:Prt 323 w base g W (h.map (·/ 2 ^ W)) (h.map (·% 2 ^ W)) vH vL)(hi:h[i]? =some id):
 Calls prog 247 #[.pointer (some ⟨g,0,none⟩), .int .i64 (i:Nat)] w fun e w'=>e= .returned (.int .i64 (id:Nat))/\∃q,w'=w.drewN q:=by
 have Z:i<h.length:=(Cv.1 hi).1;have U:=E id (Be hi);have N:2 ^ W<=16384:=kx
 have M:1<=2 ^ W:=Nat.one_le_two_pow;have c0:=hP.blk.ia 0;have c1:=hP.blk.ia 1;have c2:=hP.blk.ia 2;have oh:=hP.oh;have ol:=hP.ol;rw[Bb]at oh ol;obtain⟨gh,ch,rfl,_,_⟩:=oh.form mw;obtain⟨gl,cl,rfl,_,_⟩:=ol.form mw;obtain⟨j,J⟩:=ii (id / 2 ^ W);obtain⟨lo,y⟩:=ii (id % 2 ^ W);have d1:w.cell? ⟨gh,i,none⟩=some (.int .i64 (j:Nat)):=by rw[oh.cellAt i mw];unfold cZ;rw[BG,BG,hi,J];rfl
 have d2:w.cell? ⟨gl,i,none⟩=some (.int .u16 (lo:Nat)):=by rw[ol.cellAt i mw];unfold cZ;rw[BG,BG,hi,y];rfl
 have z:lo<2 ^ W:=by rw[y];exact Nat.mod_lt _ mw
 have G:j*2 ^ W+lo=id:=by rw[J,y,Nat.mul_comm];exact Nat.div_add_mod _ _
 obtain⟨hw,L⟩:=ii (j*2 ^ W);have e1:IntKind.i64.wrap ((j:Int)*2 ^ W)=(hw:Int):=by rw[show(j:Int)*2 ^ W=(hw:Int) by rw[L];simp,Aq _ mw]
 have e2:bits .or .i64 (hw:Int) (lo:Int)=(id:Int):=by rw[Rf hw lo mw mw,L,RX j lo W z,G]
 have Y:IntKind.i64.wrap (lo:Int)=(lo:Int):=Aq _ mw;have x0:(0:Int)<=(i:Int):=mw
 have x1:(i:Int)<(h.length:Int):=mw
 generalize h.length=n at *;clear hP oh ol hi E J y G L z N M;go_enter func247,ntmps247;go_wp2_with fail;go_quiet (fail);go_wp2_with fail;go_ret;exact⟨rfl,_,rfl⟩
theorem len_any(w:World)(base:Nat)(p:Value)(i:List Nat)(h:ListAt w base p i):
 Calls prog 198 #[p] w fun e w'=>e= .returned (.int .i64 (i.length:Nat))/\w'=w:=by
 obtain⟨g,W,vH,vL,rfl,_,_,_,hP⟩:=h;have c1:=hP.blk.ia 1;have oh:=hP.oh;rw[Bb]at oh;obtain⟨A,c,rfl⟩:=bZ oh;generalize i.length=n at *;clear hP oh;go_enter func198,ntmps198;go_wp2_with fail;go_ret;exact⟨rfl,rfl⟩
theorem lV:(prog.info? 3).map (fun i=>(i.zero,i.size,i.bytes))=some (some (.int .i64 0),1,8):=mr
theorem bI(w:World)(base:Nat)(p:Value)(j:List Nat)(h:ListAt w base p j):
 Calls prog 199 #[p] w fun e w'=>∃v,e= .returned v/\w'.ownsRow w 3 1 v j.length (cZ .i64 j)/\Below w w w':=by
 obtain⟨j0,Y,Z,ab,L⟩:=info_parts lV;have DL:=hid (len_any w base p j h);obtain⟨g,W,vH,vL,rfl,hW,E,G,hP⟩:=h;have DN:=hid (fun wx i id (hb:Below w w wx) hi=>number_any wx base g W i id j vH vL hW E G (hP.keep (fun y _ L=>hb.block y L)) hi);obtain⟨n,hn⟩:=ii j.length;rw[<-hn]at DL E ⊢;have HN:=hid hn;clear G hP hn;go_enter func199,ntmps199;go_wp2_with fail;refine DL.out.mono ?_;rintro e w1 ⟨rfl,rfl⟩;go_wp2_with fail;go_loopw [3,7] (fun v iv wr=>∃k:Nat,k<=n/\iv= .int .i64 k/\Hid (wr.ownsRow w1 3 1 v k (cZ .i64 (j.take k)))/\Hid (Below w1 w1 wr)) (fun _ iv _=>n-(intOf iv).toNat)
 case atStart=>exact⟨0,mw,rfl,AI _ _ _ _,Ag _ _⟩
 case round=>
  obtain⟨k,hk,rfl,HO,HB⟩:=hrel;obtain⟨va,vc,rfl⟩:=bZ HO.out;have zr:=HB.out.size;by_cases af:k<n
  ·have g1:=ic ((k:Int)<n);have ae:=ic (k<n);obtain⟨id,J⟩:∃id,j[k]? =some id:=⟨_,Az lq⟩;have HT:Hid (j.take (k+1)=j.take k++ [id]):=(by show _=_;rw[Cj,J];rfl);have D:=hid (DN.out wr k id HB.out J);clear J DL;go_wp2_with fail;refine D.out.mono ?_;rintro e w2 ⟨rfl,q,hq⟩;have U:Hid (w2.ownsRow w1 3 1 (.slice va k vc) k (cZ .i64 (j.take k))):=(by rw[hq];exact eZ HO.out (fun y _=>rfl));have M:Hid (Below w1 w1 w2):=(by rw[hq];exact below_drewN HB.out q);have z2:=M.out.size;clear hq HO HB D;go_wp2_with(at_builtin;refine iZ rfl (.tmp 10) (.tmp 16) 37 rfl w1 3 j0 _ 1 8 underlying37 Y Z ab L rfl ip _ _ _ mz (U.out.alloc _) _ 1 1 [.int .i64 (id:Nat)] mz (Src.of_blk (Blk.made_at _ _ _ oK) 1 1 1 rfl) mj pm mw oT ?_;intro v5 w5 z N Q;obtain⟨A5,c5,rfl⟩:=bZ z);have aa:Hid (Below w1 w1 w5):=(nZ z2 M.out).grown N oT (fun y hy=>(Aj U.out y hy).1);have ac:Hid (w5.ownsRow w1 3 1 (.slice A5 (k+1) c5) (k+1) (cZ .i64 (j.take (k+1)))):=(by show World.ownsRow _ _ _ _ _ _ _;rw[HT.out,show cZ .i64 (j.take k++ [id])=cZ .i64 (j.take k)++ [.int .i64 (id:Nat)] by simp[cZ]];exact z);clear z N Q HT;go_roundw
   case measure=>exact jo
   case rel=>go_light;exact⟨k+1,mw,iu,ac.out,aa.out⟩
  ·obtain rfl:k=n:=by omega
   have g1:=ig ((k:Int)<k);have HT:Hid (j.take k=j):=BQ nm;rw[HT.out]at HO;go_wp2_with fail;go_ret;exact⟨_,rfl,HO.out,HB.out⟩
def efG(a:Nat)(R:List Nat×Nat×Int):List Nat×Nat×Int:=if R.2.2≠0 then([],0,R.2.2)else(R.1,a+R.2.1,0)
def efR(bound:Nat)(bs:List Nat):List Nat×Nat×Int:=
 if AJ bound bs 0 0≠0 then([],0,AJ bound bs 0 0)else if AY bound bs 0 0=0 then([],zZ bound bs 0 0,0)
 else efG (zZ bound bs 0 0) (GT bound (AY bound bs 0 0) (Bi (bs.drop (zZ bound bs 0 0))))
theorem Qr{n z:Nat}{bs:List Bool}(hz:bs.length=8*z):(GT bound n bs).2.1<=z:=by
 unfold GT;split
 ·exact Cr _
 ·rename_i h;have:=Sh (bound:=bound) (W:=efW bound n) (bs:=bs) (Ej (efW bound n) bs n) (n*efW bound n) 0 [] mw;split
  ·exact Cr _
  ·split
   ·exact Cr _
   ·simp only;omega
theorem Yt{bs:List Nat}(h8:∀x∈bs,x<=255):(efR bound bs).2.1<=bs.length:=by
 have ha:zZ bound bs 0 0<=bs.length:=intA_le h8 0 mw;unfold efR;split
 ·exact Cr _
 ·split
  ·exact ha
  ·have h:=Qr (bound:=bound) (n:=AY bound bs 0 0) (z:=bs.length-zZ bound bs 0 0) (bs:=Bi (bs.drop (zZ bound bs 0 0))) (by rw[Es,AO]);unfold efG;split
   ·exact Cr _
   ·simp only;omega
theorem ListAt.mono{w:World}{base i:Nat}{p:Value}{j:List Nat}(h:ListAt w base p j)(hb:i<=base):ListAt w i p j:=by obtain⟨g,W,vH,vL,h1,h2,h3,h4,h5⟩:=h;exact⟨g,W,vH,vL,h1,h2,h3,h4,h5.mono hb⟩
set_option maxHeartbeats 1000000 in
theorem lC(w:World)(A:Option Addr)(m c bound:Nat)(bs:List Nat)(hm:bs.length=m)(an:m<=100000)(h8:∀x∈bs,x<=255)(hc:m<=c)(E:A=none->m=0/\c=0)(ha:Row w w A m 1 (jZ .u8 bs))(hb:bound<=20000):
 Calls prog 197 #[.int .i64 (bound:Nat), .slice A m c] w (ML w (efR bound bs)):=by
 have D0:=hid (new_any w A m c bs hm an E ha);have ag:bs.length<=100000:=mw
 have D1:=hid (fun wx g B d h=>ID wx g w bs B d 0 0 bound ag h8 mw h);have av:=ig ((bound:Int)<0)
 have ax:=ig ((20000:Int)<bound)
 have aq:=ig (20000<bound)
 obtain⟨R,hR⟩:=ii (efR bound bs);rw[<-hR];have af:AY bound bs 0 0<=bound:=FQ h8 0 0;have al:zZ bound bs 0 0<=bs.length:=intA_le h8 0 mw;unfold efR at hR;generalize AJ bound bs 0 0=ie at *;generalize AY bound bs 0 0=n at *;generalize zZ bound bs 0 0=a at *;have ak:Row w w (AQ A a c 1) (m-a) 1 (jZ .u8 (bs.drop a)):=by have h:=EQ (hm ▸ ha:Row w w A bs.length 1 (jZ .u8 bs)) al (by omega:bs.length<=c);rw[hm]at h;exact h
 have z:AQ A a c 1=none->m-a=0/\c-a=0:=fun h=>by
  have hA:A=none:=by
   unfold AQ at h;split at h
   ·exact h
   ·cases A with
    |none=>rfl
    |some x=>cases h
  have:=E hA;omega
 have DR:=hid (fun wx (hbx:Below w w wx) (h1:1<=n)=>X9 wx (AQ A a c 1) (m-a) (c-a) bound n (bs.drop a) (by rw[AO,hm]) mw (fun x hx=>h8 x (BY hx)) z ((ak.below hbx).mono hbx.size) h1 af hb);have ks:=fun wx=>FU (P:=prog) (t:=28) (s:=1) underlying28 (fun _=>by kernel_rfl) A m c .i64 (a:Int) a rfl mw wx;have HR:=hid hR;generalize AQ A a c 1=A2 at *;have N:Hid ((GT bound n (Bi (bs.drop a))).2.1<=m-a):=Qr (by rw[Es,AO,hm]);generalize GT bound n (Bi (bs.drop a))=T at *;have ay:a<=m:=mw
 clear hm h8 E ha hR ak z af al;go_enter func197,ntmps197;go_wp2_with fail;refine D0.out.mono ?_;rintro e w1 ⟨g,B,d,rfl,ae,ac⟩;have DI:=hid (D1.out w1 g B d ae);have aj:=hid ac;have aw:=ae.lo;have az:=ac.size;clear ae ac D0 D1;go_wp2_with fail;refine DI.out.mono ?_;rintro e w2 ⟨rfl,M,ai⟩;have j:Hid (Below w w w2):=aj.out.trans (ai.below fun b h=>⟨mw,mw⟩);have DE:=hid (Dl w2 g w bs B d a ie M);have DA:=hid (fun wx (hb:Below w2 w2 wx)=>Jq wx g w bs B d a ie (M.step hb));clear M ai aj DI;go_wp2_with fail;refine DE.out.mono ?_;rintro e w3 ⟨rfl,rfl⟩;by_cases i:ie=0
 ·have gE:(ie != 0)=false:=by rw[i];rfl
  by_cases Q:n=0
  ·subst Q;have y:Hid (R=([],a,0)):=(by have h:=HR.out;rw[Aa (by simp[i]),Ab rfl]at h;exact h);have ar:=hid (DA.out (w3.alloc (.cells #[ij,(),()] 323)) (aZ (Ag _ _)));clear HR i DR DA DE;go_wp2_with fail;refine ar.out.mono ?_;rintro e w4 ⟨rfl,rfl⟩;go_wp2_with fail
   go_ret3
   rw[y.out];exact⟨nZ j.out.size j.out,fun h=>absurd rfl h,fun _=>⟨_,rfl,w3.heap.size,0, .slice none 0 0, .slice none 0 0,rfl,mw,oK,(fun x hx=>by simp at hx),⟨Blk.made _ _ _,AI _ _ _ _,AI _ _ _ _,j.out.size⟩⟩⟩
  ·have gn:((n:Int)==0)=false:=nc;have a0:(n==0)=false:=nc;have y:Hid (R=efG a T):=(by have h:=HR.out;rw[Aa (by simp[i]),Aa Q]at h;exact h);have U:=hid (DA.out w3 (Ag _ _));have Z:=hid (fun wx hbx=>DR.out wx hbx mw);clear HR i Q DR DE;go_wp2_with fail;refine U.out.mono ?_;rintro e w4 ⟨rfl,rfl⟩;go_wp2_with fail;refine(Z.out _ j.out).mono ?_;rintro e w5 ⟨L,G,aa⟩;have ah:Hid (Below w w w5):=j.out.trans (L.mono j.out.size);by_cases hT:T.2.2=0
   ·obtain⟨p,rfl,hL⟩:=aa hT;have HL:=hid hL;have J:Hid (R=(T.1,a+T.2.1,0)):=(by show _=_;rw[y.out];unfold efG;exact Aa (by simp[hT]));have au:=hid (DA.out w5 L);have zz:=j.out.size;have am:=N.out;obtain⟨t1,ab⟩:=ii T.2.1;rw[<-ab]at J am;have s1:IntKind.i64.wrap ((a:Int)+(t1:Int))=((a+t1:Nat):Int):=m8;rw[<-ab];clear L G aa hL y hT DA U Z N ab;go_wp2_with fail;refine au.out.mono ?_;rintro e w6 ⟨rfl,rfl⟩;go_wp2_with fail
    go_ret3
    rw[J.out];exact⟨ah.out,fun h=>absurd rfl h,fun _=>⟨_,rfl,HL.out.mono zz⟩⟩
   ·have he:=G hT;subst he;have gT:(T.2.2 != 0)=true:=(by simpa using hT);have J:Hid (R=([],0,T.2.2)):=(by show _=_;rw[y.out];unfold efG;exact Ab hT);have Y:=hid hT;clear L G aa y hT DA U Z N;generalize T.2.2=te at *;go_wp2_with fail
    go_ret3
    exact Jg J.out Y.out ah.out
 ·have gE:(ie != 0)=true:=by simpa using i
  have y:Hid (R=([],0,ie)):=by have h:=HR.out;rw[Ab i]at h;exact h
  have Y:=hid i;clear i HR DR DA DE;go_wp2_with fail
  go_ret3
  exact Jg y.out Y.out j.out
end Ef
end Go.Proofs.YtfgdoknipbpfhaaGreatDoor
