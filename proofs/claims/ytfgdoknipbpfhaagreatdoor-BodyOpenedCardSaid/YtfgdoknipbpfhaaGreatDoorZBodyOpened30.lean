/- The walks of ef.Read -/
import Derived.Test.YtfgdoknipbpfhaaGreatDoorZBodyOpened29
namespace Go.Proofs.YtfgdoknipbpfhaaGreatDoor
open Go.Proofs.Tryz
open Go.Lib (hid)
set_option maxRecDepth 100000
variable{bound:Nat}
namespace Ef
open Go.RowKit Mem Own Canon NumPut Nums
open Huff (Bq EC)
open Crc (Fe)
theorem number_any(w:World)(base g W i id:Nat)(h:List Nat)(vH vL:Value)(hW:W<=14)(U:h.length<=20000)(G:∀x∈h,x<=20000)(hP:Prt 323 w base g W (h.map (·/ 2 ^ W)) (h.map (·% 2 ^ W)) vH vL)(hi:h[i]? =some id):
 Calls prog 247 #[.pointer (some ⟨g,0,none⟩), .int .i64 (i:Nat)] w fun e w'=>e= .returned (.int .i64 (id:Nat))/\∃q,w'=w.drewN q:=by
 have Z:i<h.length:=(CE.1 hi).1;have aa:=G id (Bg hi);have Q:2 ^ W<=16384:=kx
 have N:1<=2 ^ W:=Nat.one_le_two_pow;have c0:=hP.blk.ia 0;have c1:=hP.blk.ia 1;have c2:=hP.blk.ia 2;have oh:=hP.oh;have ol:=hP.ol;rw[Bc]at oh ol;obtain⟨gh,ch,rfl,_,_⟩:=oh.form mz;obtain⟨gl,cl,rfl,_,_⟩:=ol.form mz;obtain⟨j,J⟩:=ii (id / 2 ^ W);obtain⟨lo,y⟩:=ii (id % 2 ^ W);have d1:w.cell? ⟨gh,i,none⟩=some (.int .i64 (j:Nat)):=by rw[oh.cellAt i mz];unfold cZ;rw[BE,BE,hi,J];rfl
 have d2:w.cell? ⟨gl,i,none⟩=some (.int .u16 (lo:Nat)):=by rw[ol.cellAt i mz];unfold cZ;rw[BE,BE,hi,y];rfl
 have z:lo<2 ^ W:=by rw[y];exact Nat.mod_lt _ mz
 have E:j*2 ^ W+lo=id:=by rw[J,y,Nat.mul_comm];exact Nat.div_add_mod _ _
 obtain⟨hw,M⟩:=ii (j*2 ^ W);have e1:IntKind.i64.wrap ((j:Int)*2 ^ W)=(hw:Int):=by rw[show(j:Int)*2 ^ W=(hw:Int) by rw[M];simp,Aw _ mz]
 have e2:bits .or .i64 (hw:Int) (lo:Int)=(id:Int):=by rw[R3 hw lo mz mz,M,Ud j lo W z,E]
 have Y:IntKind.i64.wrap (lo:Int)=(lo:Int):=Aw _ mz;have x0:(0:Int)<=(i:Int):=mz
 have x1:(i:Int)<(h.length:Int):=mz
 generalize h.length=n at *;clear hP oh ol hi G J y E M z Q N;go_enter func247,ntmps247;go_wp2_with fail;go_quiet (fail);go_wp2_with fail;go_ret;exact⟨rfl,_,rfl⟩
theorem len_any(w:World)(base:Nat)(p:Value)(i:List Nat)(h:ListAt w base p i):
 Calls prog 198 #[p] w fun e w'=>e= .returned (.int .i64 (i.length:Nat))/\w'=w:=by
 obtain⟨g,W,vH,vL,rfl,_,_,_,hP⟩:=h;have c1:=hP.blk.ia 1;have oh:=hP.oh;rw[Bc]at oh;obtain⟨A,c,rfl⟩:=bZ oh;generalize i.length=n at *;clear hP oh;go_enter func198,ntmps198;go_wp2_with fail;go_ret;exact⟨rfl,rfl⟩
theorem Px:(prog.info? 3).map (fun i=>(i.zero,i.size,i.bytes))=some (some (.int .i64 0),1,8):=mr
theorem j5(w:World)(base:Nat)(p:Value)(j:List Nat)(h:ListAt w base p j):
 Calls prog 199 #[p] w fun e w'=>∃v,e= .returned v/\w'.ownsRow w 3 1 v j.length (cZ .i64 j)/\Below w w w':=by
 obtain⟨j0,ac,ae,ab,M⟩:=info_parts Px;have DL:=hid (len_any w base p j h);obtain⟨g,W,vH,vL,rfl,hW,G,E,hP⟩:=h;have DN:=hid (fun wx i id (hb:Below w w wx) hi=>number_any wx base g W i id j vH vL hW G E (hP.keep (fun y _ M=>hb.block y M)) hi);obtain⟨n,hn⟩:=ii j.length;rw[<-hn]at DL G ⊢;have HN:=hid hn;clear E hP hn;go_enter func199,ntmps199;go_wp2_with fail;refine DL.out.mono ?_;rintro e w1 ⟨rfl,rfl⟩;go_wp2_with fail;go_loopw [3,7] (fun v iv wr=>∃k:Nat,k<=n/\iv= .int .i64 k/\Hid (wr.ownsRow w1 3 1 v k (cZ .i64 (j.take k)))/\Hid (Below w1 w1 wr)) (fun _ iv _=>n-(intOf iv).toNat)
 case atStart=>exact⟨0,mz,rfl,AK _ _ _ _,Ag _ _⟩
 case round=>
  obtain⟨k,hk,rfl,HO,HB⟩:=hrel;obtain⟨va,vc,rfl⟩:=bZ HO.out;have zr:=HB.out.size;by_cases ag:k<n
  ·have g1:=ic ((k:Int)<n);have af:=ic (k<n);obtain⟨id,J⟩:∃id,j[k]? =some id:=⟨_,AD lp⟩;have HT:Hid (j.take (k+1)=j.take k++ [id]):=(by show _=_;rw[Cm,J];rfl);have D:=hid (DN.out wr k id HB.out J);clear J DL;go_wp2_with fail;refine D.out.mono ?_;rintro e w2 ⟨rfl,q,hq⟩;have Q:Hid (w2.ownsRow w1 3 1 (.slice va k vc) k (cZ .i64 (j.take k))):=(by rw[hq];exact eZ HO.out (fun y _=>rfl));have Y:Hid (Below w1 w1 w2):=(by rw[hq];exact below_drewN HB.out q);have z2:=Y.out.size;clear hq HO HB D;go_wp2_with(at_builtin;refine iZ rfl (.tmp 10) (.tmp 16) 37 rfl w1 3 j0 _ 1 8 underlying37 ac ae ab M rfl ip _ _ _ nc (Q.out.alloc _) _ 1 1 [.int .i64 (id:Nat)] nc (Src.of_blk (Blk.made_at _ _ _ pI) 1 1 1 rfl) mj qg mz pQ ?_;intro v5 w5 z U N;obtain⟨A5,c5,rfl⟩:=bZ z);have Z:Hid (Below w1 w1 w5):=(mZ z2 Y.out).grown U pQ (fun y hy=>(Am Q.out y hy).1);have aa:Hid (w5.ownsRow w1 3 1 (.slice A5 (k+1) c5) (k+1) (cZ .i64 (j.take (k+1)))):=(by show World.ownsRow _ _ _ _ _ _ _;rw[HT.out,show cZ .i64 (j.take k++ [id])=cZ .i64 (j.take k)++ [.int .i64 (id:Nat)] by simp[cZ]];exact z);clear z U N HT;go_roundw
   case measure=>exact jo
   case rel=>go_light;exact⟨k+1,mz,iu,aa.out,Z.out⟩
  ·obtain rfl:k=n:=by omega
   have g1:=ig ((k:Int)<k);have HT:Hid (j.take k=j):=BV oq;rw[HT.out]at HO;go_wp2_with fail;go_ret;exact⟨_,rfl,HO.out,HB.out⟩
def efG(a:Nat)(R:List Nat×Nat×Int):List Nat×Nat×Int:=if R.2.2≠0 then([],0,R.2.2)else(R.1,a+R.2.1,0)
def efR(bound:Nat)(bs:List Nat):List Nat×Nat×Int:=
 if AO bound bs 0 0≠0 then([],0,AO bound bs 0 0)else if Ba bound bs 0 0=0 then([],AM bound bs 0 0,0)
 else efG (AM bound bs 0 0) (G5 bound (Ba bound bs 0 0) (Bq (bs.drop (AM bound bs 0 0))))
theorem Sj{n z:Nat}{bs:List Bool}(hz:bs.length=8*z):(G5 bound n bs).2.1<=z:=by
 unfold G5;split
 ·exact Cr _
 ·rename_i h;have:=Up (bound:=bound) (W:=efW bound n) (bs:=bs) (Ev (efW bound n) bs n) (n*efW bound n) 0 [] mz;split
  ·exact Cr _
  ·split
   ·exact Cr _
   ·simp only;omega
theorem dA{bs:List Nat}(h8:∀x∈bs,x<=255):(efR bound bs).2.1<=bs.length:=by
 have ha:AM bound bs 0 0<=bs.length:=intA_le h8 0 mz;unfold efR;split
 ·exact Cr _
 ·split
  ·exact ha
  ·have h:=Sj (bound:=bound) (n:=Ba bound bs 0 0) (z:=bs.length-AM bound bs 0 0) (bs:=Bq (bs.drop (AM bound bs 0 0))) (by rw[EC,AU]);unfold efG;split
   ·exact Cr _
   ·simp only;omega
theorem ListAt.mono{w:World}{base i:Nat}{p:Value}{j:List Nat}(h:ListAt w base p j)(hb:i<=base):ListAt w i p j:=by obtain⟨g,W,vH,vL,h1,h2,h3,h4,h5⟩:=h;exact⟨g,W,vH,vL,h1,h2,h3,h4,h5.mono hb⟩
set_option maxHeartbeats 1000000 in
theorem V3(w:World)(A:Option Addr)(m c bound:Nat)(bs:List Nat)(hm:bs.length=m)(aq:m<=100000)(h8:∀x∈bs,x<=255)(hc:m<=c)(E:A=none->m=0/\c=0)(ha:Row w w A m 1 (jZ .u8 bs))(hb:bound<=20000):
 Calls prog 197 #[.int .i64 (bound:Nat), .slice A m c] w (Mm w (efR bound bs)):=by
 have D0:=hid (new_any w A m c bs hm aq E ha);have aj:bs.length<=100000:=mz
 have D1:=hid (fun wx g B d h=>IG wx g w bs B d 0 0 bound aj h8 mz h);have ax:=ig ((bound:Int)<0)
 have ay:=ig ((20000:Int)<bound)
 have an:=ig (20000<bound)
 obtain⟨R,hR⟩:=ii (efR bound bs);rw[<-hR];have ai:Ba bound bs 0 0<=bound:=Gb h8 0 0;have ag:AM bound bs 0 0<=bs.length:=intA_le h8 0 mz;unfold efR at hR;generalize AO bound bs 0 0=ie at *;generalize Ba bound bs 0 0=n at *;generalize AM bound bs 0 0=a at *;have am:Row w w (AW A a c 1) (m-a) 1 (jZ .u8 (bs.drop a)):=by have h:=Fe (hm ▸ ha:Row w w A bs.length 1 (jZ .u8 bs)) ag (by omega:bs.length<=c);rw[hm]at h;exact h
 have G:AW A a c 1=none->m-a=0/\c-a=0:=fun h=>by
  have hA:A=none:=by
   unfold AW at h;split at h
   ·exact h
   ·cases A with
    |none=>rfl
    |some x=>cases h
  have:=E hA;omega
 have DR:=hid (fun wx (hbx:Below w w wx) (h1:1<=n)=>bR wx (AW A a c 1) (m-a) (c-a) bound n (bs.drop a) (by rw[AU,hm]) mz (fun x hx=>h8 x (Cb hx)) G ((am.below hbx).mono hbx.size) h1 ai hb);have ks:=fun wx=>Gc (P:=prog) (t:=28) (s:=1) underlying28 (fun _=>by kernel_rfl) A m c .i64 (a:Int) a rfl mz wx;have HR:=hid hR;generalize AW A a c 1=A2 at *;have af:Hid ((G5 bound n (Bq (bs.drop a))).2.1<=m-a):=Sj (by rw[EC,AU,hm]);generalize G5 bound n (Bq (bs.drop a))=T at *;have a0:a<=m:=mz
 clear hm h8 E ha hR am G ai ag;go_enter func197,ntmps197;go_wp2_with fail;refine D0.out.mono ?_;rintro e w1 ⟨g,B,d,rfl,Y,U⟩;have DI:=hid (D1.out w1 g B d Y);have ah:=hid U;have aw:=Y.lo;have az:=U.size;clear Y U D0 D1;go_wp2_with fail;refine DI.out.mono ?_;rintro e w2 ⟨rfl,Z,al⟩;have j:Hid (Below w w w2):=ah.out.trans (al.below fun b h=>⟨mz,mz⟩);have DE:=hid (Dv w2 g w bs B d a ie Z);have DA:=hid (fun wx (hb:Below w2 w2 wx)=>Kd wx g w bs B d a ie (Z.step hb));clear Z al ah DI;go_wp2_with fail;refine DE.out.mono ?_;rintro e w3 ⟨rfl,rfl⟩;by_cases i:ie=0
 ·have gE:(ie != 0)=false:=by rw[i];rfl
  by_cases N:n=0
  ·subst N;have y:Hid (R=([],a,0)):=(by have h:=HR.out;rw[Ab (by simp[i]),Ae rfl]at h;exact h);have au:=hid (DA.out (w3.alloc (.cells #[ij,(),()] 323)) (aZ (Ag _ _)));clear HR i DR DA DE;go_wp2_with fail;refine au.out.mono ?_;rintro e w4 ⟨rfl,rfl⟩;go_wp2_with fail
   go_ret3
   rw[y.out];exact⟨mZ j.out.size j.out,fun h=>absurd rfl h,fun _=>⟨_,rfl,w3.heap.size,0, .slice none 0 0, .slice none 0 0,rfl,mz,pI,(fun x hx=>by simp at hx),⟨Blk.made _ _ _,AK _ _ _ _,AK _ _ _ _,j.out.size⟩⟩⟩
  ·have gn:((n:Int)==0)=false:=n8;have a1:(n==0)=false:=n8;have y:Hid (R=efG a T):=(by have h:=HR.out;rw[Ab (by simp[i]),Ab N]at h;exact h);have ae:=hid (DA.out w3 (Ag _ _));have ab:=hid (fun wx hbx=>DR.out wx hbx mz);clear HR i N DR DE;go_wp2_with fail;refine ae.out.mono ?_;rintro e w4 ⟨rfl,rfl⟩;go_wp2_with fail;refine(ab.out _ j.out).mono ?_;rintro e w5 ⟨J,z,aa⟩;have ak:Hid (Below w w w5):=j.out.trans (J.mono j.out.size);by_cases hT:T.2.2=0
   ·obtain⟨p,rfl,hL⟩:=aa hT;have HL:=hid hL;have M:Hid (R=(T.1,a+T.2.1,0)):=(by show _=_;rw[y.out];unfold efG;exact Ab (by simp[hT]));have ar:=hid (DA.out w5 J);have zz:=j.out.size;have av:=af.out;obtain⟨t1,Q⟩:=ii T.2.1;rw[<-Q]at M av;have s1:IntKind.i64.wrap ((a:Int)+(t1:Int))=((a+t1:Nat):Int):=nW;rw[<-Q];clear J z aa hL y hT DA ae ab af Q;go_wp2_with fail;refine ar.out.mono ?_;rintro e w6 ⟨rfl,rfl⟩;go_wp2_with fail
    go_ret3
    rw[M.out];exact⟨ak.out,fun h=>absurd rfl h,fun _=>⟨_,rfl,HL.out.mono zz⟩⟩
   ·have he:=z hT;subst he;have gT:(T.2.2 != 0)=true:=(by simpa using hT);have M:Hid (R=([],0,T.2.2)):=(by show _=_;rw[y.out];unfold efG;exact Ae hT);have ac:=hid hT;clear J z aa y hT DA ae ab af;generalize T.2.2=te at *;go_wp2_with fail
    go_ret3
    exact Jk M.out ac.out ak.out
 ·have gE:(ie != 0)=true:=by simpa using i
  have y:Hid (R=([],0,ie)):=by have h:=HR.out;rw[Ae i]at h;exact h
  have ac:=hid i;clear i HR DR DA DE;go_wp2_with fail
  go_ret3
  exact Jk y.out ac.out j.out
end Ef
end Go.Proofs.YtfgdoknipbpfhaaGreatDoor
