/- The walks of post.li -/
import Derived.Test.YtfgdoknipbpfhaaGreatDoorZBodyBack31
import Derived.Test.YtfgdoknipbpfhaaGreatDoorZBodyBack30
namespace Go.Proofs.YtfgdoknipbpfhaaGreatDoor
open Go.Proofs.Tryz
open Go.Lib (hid)
set_option maxHeartbeats 4000000
set_option maxRecDepth 100000
section
variable{bound:Nat}
namespace Ef
open Go.RowKit Mem Own Canon NumPut Nums
open Huff (Bp EK)
open Crc (Fp)
theorem number_any(w:World)(base g W i id:Nat)(h:List Nat)(vH vL:Value)(hW:W<=14)(Q:h.length<=20000)(E:∀x∈h,x<=20000)(hP:Prt 323 w base g W (h.map (·/ 2 ^ W)) (h.map (·% 2 ^ W)) vH vL)(hi:h[i]? =some id):
 Calls prog 247 #[.pointer (some ⟨g,0,none⟩), .int .i64 (i:Nat)] w fun e w'=>e= .returned (.int .i64 (id:Nat))/\∃q,w'=w.drewN q:=by
 have U:i<h.length:=(BW.1 hi).1;have Z:=E id (Be hi);have N:2 ^ W<=16384:=lj
 have M:1<=2 ^ W:=Nat.one_le_two_pow;have c0:=hP.blk.ia 0;have c1:=hP.blk.ia 1;have c2:=hP.blk.ia 2;have oh:=hP.oh;have ol:=hP.ol;rw[Bc]at oh ol;obtain⟨gh,ch,rfl,_,_⟩:=oh.form nj;obtain⟨gl,cl,rfl,_,_⟩:=ol.form nj;obtain⟨j,J⟩:=ii (id / 2 ^ W);obtain⟨lo,y⟩:=ii (id % 2 ^ W);have d1:w.cell? ⟨gh,i,none⟩=some (.int .i64 (j:Nat)):=by rw[oh.cellAt i nj];unfold cZ;rw[BI,BI,hi,J];rfl
 have d2:w.cell? ⟨gl,i,none⟩=some (.int .u16 (lo:Nat)):=by rw[ol.cellAt i nj];unfold cZ;rw[BI,BI,hi,y];rfl
 have z:lo<2 ^ W:=by rw[y];exact Nat.mod_lt _ nj
 have G:j*2 ^ W+lo=id:=by rw[J,y,Nat.mul_comm];exact Nat.div_add_mod _ _
 obtain⟨hw,L⟩:=ii (j*2 ^ W);have e1:IntKind.i64.wrap ((j:Int)*2 ^ W)=(hw:Int):=by rw[show(j:Int)*2 ^ W=(hw:Int) by rw[L];simp,Ar _ nj]
 have e2:bits .or .i64 (hw:Int) (lo:Int)=(id:Int):=by rw[TF hw lo nj nj,L,Ri j lo W z,G]
 have Y:IntKind.i64.wrap (lo:Int)=(lo:Int):=Ar _ nj;have x0:(0:Int)<=(i:Int):=nj
 have x1:(i:Int)<(h.length:Int):=nj
 generalize h.length=n at *;clear hP oh ol hi E J y G L z N M;go_enter func247,ntmps247;go_wp2_with fail;go_quiet (fail);go_wp2_with fail;go_ret;exact⟨rfl,_,rfl⟩
theorem len_any(w:World)(base:Nat)(p:Value)(i:List Nat)(h:ListAt w base p i):
 Calls prog 198 #[p] w fun e w'=>e= .returned (.int .i64 (i.length:Nat))/\w'=w:=by
 obtain⟨g,W,vH,vL,rfl,_,_,_,hP⟩:=h;have c1:=hP.blk.ia 1;have oh:=hP.oh;rw[Bc]at oh;obtain⟨A,c,rfl⟩:=bZ oh;generalize i.length=n at *;clear hP oh;go_enter func198,ntmps198;go_wp2_with fail;go_ret;exact⟨rfl,rfl⟩
theorem aC:(prog.info? 3).map (fun i=>(i.zero,i.size,i.bytes))=some (some (.int .i64 0),1,8):=my
theorem W5(w:World)(base:Nat)(p:Value)(j:List Nat)(h:ListAt w base p j):
 Calls prog 199 #[p] w fun e w'=>∃v,e= .returned v/\w'.ownsRow w 3 1 v j.length (cZ .i64 j)/\Below w w w':=by
 obtain⟨j0,ab,aa,Z,L⟩:=info_parts aC;have DL:=hid (len_any w base p j h);obtain⟨g,W,vH,vL,rfl,hW,G,E,hP⟩:=h;have DN:=hid (fun wx i id (hb:Below w w wx) hi=>number_any wx base g W i id j vH vL hW G E (hP.keep (fun y _ L=>hb.block y L)) hi);obtain⟨n,hn⟩:=ii j.length;rw[<-hn]at DL G ⊢;have HN:=hid hn;clear E hP hn;go_enter func199,ntmps199;go_wp2_with fail;refine DL.out.mono ?_;rintro e w1 ⟨rfl,rfl⟩;go_wp2_with fail;go_loopw [3,7] (fun v iv wr=>∃k:Nat,k<=n/\iv= .int .i64 k/\Hid (wr.ownsRow w1 3 1 v k (cZ .i64 (j.take k)))/\Hid (Below w1 w1 wr)) (fun _ iv _=>n-(intOf iv).toNat)
 case atStart=>exact⟨0,nj,rfl,AE _ _ _ _,Ae _ _⟩
 case round=>
  obtain⟨k,hk,rfl,HO,HB⟩:=hrel;obtain⟨va,vc,rfl⟩:=bZ HO.out;have zr:=HB.out.size;by_cases ae:k<n
  ·have g1:=ic ((k:Int)<n);have af:=ic (k<n);obtain⟨id,J⟩:∃id,j[k]? =some id:=⟨_,Aw md⟩;have HT:Hid (j.take (k+1)=j.take k++ [id]):=(by show _=_;rw[BN,J];rfl);have D:=hid (DN.out wr k id HB.out J);clear J DL;go_wp2_with fail;refine D.out.mono ?_;rintro e w2 ⟨rfl,q,hq⟩;have Q:Hid (w2.ownsRow w1 3 1 (.slice va k vc) k (cZ .i64 (j.take k))):=(by rw[hq];exact eZ HO.out (fun y _=>rfl));have M:Hid (Below w1 w1 w2):=(by rw[hq];exact below_drewN HB.out q);have z2:=M.out.size;clear hq HO HB D;go_wp2_with(at_builtin;refine iZ rfl (.tmp 10) (.tmp 16) 37 rfl w1 3 j0 _ 1 8 underlying37 ab aa Z L rfl ip _ _ _ nm (Q.out.alloc _) _ 1 1 [.int .i64 (id:Nat)] nm (Src.of_blk (Blk.made_at _ _ _ qT) 1 1 1 rfl) mq rE nj rg ?_;intro v5 w5 z N U;obtain⟨A5,c5,rfl⟩:=bZ z);have Y:Hid (Below w1 w1 w5):=(mZ z2 M.out).grown N rg (fun y hy=>(Aj Q.out y hy).1);have ac:Hid (w5.ownsRow w1 3 1 (.slice A5 (k+1) c5) (k+1) (cZ .i64 (j.take (k+1)))):=(by show World.ownsRow _ _ _ _ _ _ _;rw[HT.out,show cZ .i64 (j.take k++ [id])=cZ .i64 (j.take k)++ [.int .i64 (id:Nat)] by simp[cZ]];exact z);clear z N U HT;go_roundw
   case measure=>exact jq
   case rel=>go_light;exact⟨k+1,nj,iw,ac.out,Y.out⟩
  ·obtain rfl:k=n:=by omega
   have g1:=ig ((k:Int)<k);have HT:Hid (j.take k=j):=Bw pu;rw[HT.out]at HO;go_wp2_with fail;go_ret;exact⟨_,rfl,HO.out,HB.out⟩
def efG(a:Nat)(R:List Nat×Nat×Int):List Nat×Nat×Int:=if R.2.2≠0 then([],0,R.2.2)else(R.1,a+R.2.1,0)
def efR(bound:Nat)(bs:List Nat):List Nat×Nat×Int:=
 if AM bound bs 0 0≠0 then([],0,AM bound bs 0 0)else if Bd bound bs 0 0=0 then([],AJ bound bs 0 0,0)
 else efG (AJ bound bs 0 0) (Hf bound (Bd bound bs 0 0) (Bp (bs.drop (AJ bound bs 0 0))))
theorem Vw{n z:Nat}{bs:List Bool}(hz:bs.length=8*z):(Hf bound n bs).2.1<=z:=by
 unfold Hf;split
 ·exact CA _
 ·rename_i h;have:=Ru (bound:=bound) (W:=efW bound n) (bs:=bs) (ED (efW bound n) bs n) (n*efW bound n) 0 [] nj;split
  ·exact CA _
  ·split
   ·exact CA _
   ·simp only;omega
theorem lX{bs:List Nat}(h8:∀x∈bs,x<=255):(efR bound bs).2.1<=bs.length:=by
 have ha:AJ bound bs 0 0<=bs.length:=intA_le h8 0 nj;unfold efR;split
 ·exact CA _
 ·split
  ·exact ha
  ·have h:=Vw (bound:=bound) (n:=Bd bound bs 0 0) (z:=bs.length-AJ bound bs 0 0) (bs:=Bp (bs.drop (AJ bound bs 0 0))) (by rw[EK,AO]);unfold efG;split
   ·exact CA _
   ·simp only;omega
theorem ListAt.mono{w:World}{base i:Nat}{p:Value}{j:List Nat}(h:ListAt w base p j)(hb:i<=base):ListAt w i p j:=by obtain⟨g,W,vH,vL,h1,h2,h3,h4,h5⟩:=h;exact⟨g,W,vH,vL,h1,h2,h3,h4,h5.mono hb⟩
set_option maxHeartbeats 1000000 in
theorem ZR(w:World)(A:Option Addr)(m c bound:Nat)(bs:List Nat)(hm:bs.length=m)(aq:m<=100000)(h8:∀x∈bs,x<=255)(hc:m<=c)(E:A=none->m=0/\c=0)(ha:Row w w A m 1 (jZ .u8 bs))(hb:bound<=20000):
 Calls prog 197 #[.int .i64 (bound:Nat), .slice A m c] w (Mo w (efR bound bs)):=by
 have D0:=hid (new_any w A m c bs hm aq E ha);have ak:bs.length<=100000:=nj
 have D1:=hid (fun wx g B d h=>Jd wx g w bs B d 0 0 bound ak h8 nj h);have ax:=ig ((bound:Int)<0)
 have aw:=ig ((20000:Int)<bound)
 have an:=ig (20000<bound)
 obtain⟨R,hR⟩:=ii (efR bound bs);rw[<-hR];have ag:Bd bound bs 0 0<=bound:=Gp h8 0 0;have ai:AJ bound bs 0 0<=bs.length:=intA_le h8 0 nj;unfold efR at hR;generalize AM bound bs 0 0=ie at *;generalize Bd bound bs 0 0=n at *;generalize AJ bound bs 0 0=a at *;have af:Row w w (AR A a c 1) (m-a) 1 (jZ .u8 (bs.drop a)):=by have h:=Fp (hm ▸ ha:Row w w A bs.length 1 (jZ .u8 bs)) ai (by omega:bs.length<=c);rw[hm]at h;exact h
 have G:AR A a c 1=none->m-a=0/\c-a=0:=fun h=>by
  have hA:A=none:=by
   unfold AR at h;split at h
   ·exact h
   ·cases A with
    |none=>rfl
    |some x=>cases h
  have:=E hA;omega
 have DR:=hid (fun wx (hbx:Below w w wx) (h1:1<=n)=>iU wx (AR A a c 1) (m-a) (c-a) bound n (bs.drop a) (by rw[AO,hm]) nj (fun x hx=>h8 x (Ck hx)) G ((af.below hbx).mono hbx.size) h1 ag hb);have ks:=fun wx=>FK (P:=prog) (t:=28) (s:=1) underlying28 (fun _=>by kernel_rfl) A m c .i64 (a:Int) a rfl nj wx;have HR:=hid hR;generalize AR A a c 1=A2 at *;have Q:Hid ((Hf bound n (Bp (bs.drop a))).2.1<=m-a):=Vw (by rw[EK,AO,hm]);generalize Hf bound n (Bp (bs.drop a))=T at *;have ay:a<=m:=nj
 clear hm h8 E ha hR af G ag ai;go_enter func197,ntmps197;go_wp2_with fail;refine D0.out.mono ?_;rintro e w1 ⟨g,B,d,rfl,Z,ae⟩;have DI:=hid (D1.out w1 g B d Z);have aj:=hid ae;have av:=Z.lo;have az:=ae.size;clear Z ae D0 D1;go_wp2_with fail;refine DI.out.mono ?_;rintro e w2 ⟨rfl,M,al⟩;have j:Hid (Below w w w2):=aj.out.trans (al.below fun b h=>⟨nj,nj⟩);have DE:=hid (Dt w2 g w bs B d a ie M);have DA:=hid (fun wx (hb:Below w2 w2 wx)=>JZ wx g w bs B d a ie (M.step hb));clear M al aj DI;go_wp2_with fail;refine DE.out.mono ?_;rintro e w3 ⟨rfl,rfl⟩;by_cases i:ie=0
 ·have gE:(ie != 0)=false:=by rw[i];rfl
  by_cases U:n=0
  ·subst U;have y:Hid (R=([],a,0)):=(by have h:=HR.out;rw[Aa (by simp[i]),Ab rfl]at h;exact h);have ar:=hid (DA.out (w3.alloc (.cells #[ij,(),()] 323)) (aZ (Ae _ _)));clear HR i DR DA DE;go_wp2_with fail;refine ar.out.mono ?_;rintro e w4 ⟨rfl,rfl⟩;go_wp2_with fail
   go_ret3
   rw[y.out];exact⟨mZ j.out.size j.out,fun h=>absurd rfl h,fun _=>⟨_,rfl,w3.heap.size,0, .slice none 0 0, .slice none 0 0,rfl,nj,qT,(fun x hx=>by simp at hx),⟨Blk.made _ _ _,AE _ _ _ _,AE _ _ _ _,j.out.size⟩⟩⟩
  ·have gn:((n:Int)==0)=false:=pm;have a0:(n==0)=false:=pm;have y:Hid (R=efG a T):=(by have h:=HR.out;rw[Aa (by simp[i]),Aa U]at h;exact h);have N:=hid (DA.out w3 (Ae _ _));have aa:=hid (fun wx hbx=>DR.out wx hbx nj);clear HR i U DR DE;go_wp2_with fail;refine N.out.mono ?_;rintro e w4 ⟨rfl,rfl⟩;go_wp2_with fail;refine(aa.out _ j.out).mono ?_;rintro e w5 ⟨L,z,ab⟩;have ah:Hid (Below w w w5):=j.out.trans (L.mono j.out.size);by_cases hT:T.2.2=0
   ·obtain⟨p,rfl,hL⟩:=ab hT;have HL:=hid hL;have J:Hid (R=(T.1,a+T.2.1,0)):=(by show _=_;rw[y.out];unfold efG;exact Aa (by simp[hT]));have am:=hid (DA.out w5 L);have zz:=j.out.size;have au:=Q.out;obtain⟨t1,Y⟩:=ii T.2.1;rw[<-Y]at J au;have s1:IntKind.i64.wrap ((a:Int)+(t1:Int))=((a+t1:Nat):Int):=pi;rw[<-Y];clear L z ab hL y hT DA N aa Q Y;go_wp2_with fail;refine am.out.mono ?_;rintro e w6 ⟨rfl,rfl⟩;go_wp2_with fail
    go_ret3
    rw[J.out];exact⟨ah.out,fun h=>absurd rfl h,fun _=>⟨_,rfl,HL.out.mono zz⟩⟩
   ·have he:=z hT;subst he;have gT:(T.2.2 != 0)=true:=(by simpa using hT);have J:Hid (R=([],0,T.2.2)):=(by show _=_;rw[y.out];unfold efG;exact Ab hT);have ac:=hid hT;clear L z ab y hT DA N aa Q;generalize T.2.2=te at *;go_wp2_with fail
    go_ret3
    exact JL J.out ac.out ah.out
 ·have gE:(ie != 0)=true:=by simpa using i
  have y:Hid (R=([],0,ie)):=by have h:=HR.out;rw[Ab i]at h;exact h
  have ac:=hid i;clear i HR DR DA DE;go_wp2_with fail
  go_ret3
  exact JL y.out ac.out j.out
end Ef
end
variable{w w' w5:World}{b base:Nat}{u v5 vF vL:Value}{vals:List Value}{F j:List (List Nat)}
namespace Idx
open Go.RowKit Mem Own Canon Sift
open NumPut Recs Crc Block
open Ef
theorem pQ(w:World)(base gd size:Nat)(ts hs:List Str)(vT vH:Value)(h:DAt w base gd size ts hs vT vH):
 Calls prog 120 #[.pointer (some ⟨gd,0,none⟩)] w fun e w'=>e= .returned (.int .i64 (ts.length:Nat))/\w'=w:=by
 have c0:=h.blk.ia 0;have ot:=h.ot;obtain⟨n,hn⟩:=ii ts.length;rw[<-hn]at ot ⊢;obtain⟨A,c,rfl⟩:=bZ ot;clear h ot hn;go_enter func120,ntmps120;go_wp2_with fail;go_ret;exact⟨rfl,rfl⟩
theorem oU(w:World)(base gd size:Nat)(ts hs:List Str)(vT vH:Value)(h:DAt w base gd size ts hs vT vH)(hl:ts.length<=3000000):
 Calls prog 121 #[.pointer (some ⟨gd,0,none⟩)] w fun e w'=>∃v,e= .returned v/\w'.ownsRow w 9 1 v ts.length (zZ ts)/\Below w w w':=by
 have c0:=h.blk.ia 0;have ot:=h.ot;obtain⟨n,hn⟩:=ii ts.length;rw[<-hn]at ot hl ⊢;obtain⟨A,c,rfl⟩:=bZ ot;have D:=hid (Rp w base A n c (zZ ts) hl ot (J4 ts));clear h ot hn;go_enter func121,ntmps121;go_wp2_with fail;refine D.out.mono ?_;rintro e w1 ⟨v,rfl,ho,hb⟩;have HO:=hid ho;have HB:=hid hb;obtain⟨A1,c1,rfl⟩:=bZ ho;clear ho hb D;go_wp2_with fail;go_ret;exact⟨_,rfl,HO.out,HB.out⟩
def lsR(bound:Nat)(ls:List Nat):Nat->Nat->List (List Nat)->List (List Nat)×Int
 |0,at_,acc=>if at_<ls.length then([],2)else(acc,0)
 |k+1,at_,acc=>if(efR bound (ls.drop at_)).2.2≠0 then([],(efR bound (ls.drop at_)).2.2)else if(efR bound (ls.drop at_)).1.length=0 then([],2)else lsR bound ls k (at_+(efR bound (ls.drop at_)).2.1) (acc++ [(efR bound (ls.drop at_)).1])
structure LsAt (w:World) (base:Nat) (vL:Value) (vals:List Value) (acc:List (List Nat)):Prop where
 l:w.ownsRow base 37 1 vL acc.length vals
 r:∀ (i:Nat) v ids,vals[i]? =some v->acc[i]? =some ids->w.ownsRow base 3 1 v ids.length (cZ .i64 ids)
theorem LsAt.step(h:LsAt w base vL vals j)(hb:Below w w w'):LsAt w' base vL vals j:=
 ⟨eZ h.l fun y hy=>hb.block y (Aj h.l y hy).2,fun i v ids hv hi=>eZ (h.r i v ids hv hi) fun y hy=>hb.block y (Aj (h.r i v ids hv hi) y hy).2⟩
theorem LsAt.nil(w:World)(base:Nat):LsAt w base (.slice none 0 0) [] []:=⟨AE _ _ _ _,fun i v ids h=>qU⟩
theorem LsAt.add{z:List Nat}(h:LsAt w base vL vals j)(hu:w.ownsRow base 3 1 u z.length (cZ .i64 z))(hg:w.grownBy w5 vL.ownBlock)(E:w5.ownsRow base 37 1 v5 (j.length+1) (vals++ [u])):LsAt w5 base v5 (vals++ [u]) (j++ [z]):=by
 have far:∀ {n:Nat} {v:Value} {xs:List Value},w.ownsRow base 3 1 v n xs->w5.ownsRow base 3 1 v n xs:=fun hv=>eZ hv fun y hy=>hg.block y (Aj hv y hy).2 fun e2=>by
  rcases EY h.l hv ip with e3|e3
  ·rw[e3]at e2;cases e2
  ·exact e3 (by rw[<-e2,hy])
 have G:vals.length=j.length:=by have:=h.l.1;omega
 refine⟨by rw[Ag];exact E,fun i v is hv hi=> ?_⟩;by_cases J:i<j.length
 ·rw[GW nj]at hv;rw[GW J]at hi;exact far (h.r i v is hv hi)
 ·rw[II nj]at hv;rw[II nj]at hi;have h0:i-j.length=0:=by have:=(BW.1 hi).1;simp at this;omega
  rw[G,h0]at hv;rw[h0]at hi;simp at hv hi;subst hv hi;exact far hu
theorem Sd:(prog.info? 37).map (fun i=>(i.zero,i.size,i.bytes))=some (some (.slice none 0 0),1,24):=my
def Zx(w:World)(R:List (List Nat)×Int)(e:Ending)(w':World):Prop:=
 Below w w w'/\∃v vals,e= .returned (.tuple #[v,R.2])/\LsAt w' w v vals R.1
theorem Ze(w:World)(A:Option Addr)(m c n bound:Nat)(ls:List Nat)(hm:ls.length=m)(bk:m<=100000)(h8:∀x∈ls,x<=255)(hc:m<=c)(ac:A=none->m=0/\c=0)(ha:Row w w A m 1 (jZ .u8 ls))(hb:bound<=20000)(hn:n<=1100000):
 Calls prog 119 #[.int .i64 (n:Nat), .int .i64 (bound:Nat), .slice A m c] w (Zx w (lsR bound ls n 0 [])):=by
 obtain⟨j0,bg,bf,a6,bh⟩:=info_parts Sd;obtain⟨R,hR⟩:=ii (lsR bound ls n 0 []);rw[<-hR];have az:Hid (lsR bound ls (n-0) 0 []=R):=hR.symm;have H8:=hid h8;have HM:=hid hm;have an:Hid (Row w w A m 1 (jZ .u8 (ls.drop 0))):=by show Row _ _ _ _ _ _;rw[IK];exact ha
 have ay:=hid ac;clear hm h8 ac ha hR;go_enter func119,ntmps119;go_wp2_with fail;go_loopw [2,8,13] (fun bv ov iv wr=>∃ (k at_ mx cx:Nat) (Ax:Option Addr) (G:List (List Nat)) (vals:List Value),k<=n/\iv= .int .i64 k/\bv= .slice Ax mx cx/\mx+at_=m/\mx<=cx/\Hid (Ax=none->mx=0/\cx=0)/\Hid (Row w w Ax mx 1 (jZ .u8 (ls.drop at_)))/\Hid (G.length=k)/\Hid (LsAt wr w ov vals G)/\Hid (Below w w wr)/\Hid (lsR bound ls (n-k) at_ G=R)) (fun _ _ iv _=>n-(intOf iv).toNat)
 case atStart=>exact⟨0,0,m,c,A,[],[],nj,rfl,rfl,nj,hc,ay.out,an.out,rfl,LsAt.nil _ _,Ae _ _,az.out⟩
 case round=>
  obtain⟨k,at_,mx,cx,Ax,G,vals,hk,rfl,rfl,bl,am,ar,ax,HL,E,HB,HG⟩:=hrel;obtain⟨vo,co,rfl⟩:=bZ E.out.l;have zr:=HB.out.size;clear az an ay;by_cases bj:k<n
  ·have gk:=ic ((k:Int)<n);have bi:=ic (k<n);have hG:=HG.out;rw[show n-k=(n-(k+1))+1 by omega,lsR]at hG;have ag:∀x∈ls.drop at_,x<=255:=fun x hx=>H8.out x (Ck hx);have M:(ls.drop at_).length=mx:=(by rw[AO,HM.out];omega);have DR:=ZR wr Ax mx cx bound (ls.drop at_) M nj ag am ar.out ((ax.out.below HB.out).mono zr) hb;have aa:=lX (bound:=bound) ag;rw[M]at aa;generalize efR bound (ls.drop at_)=T at *;obtain⟨U,t1,te⟩:=T;simp only at hG aa;unfold Mo at DR;simp only at DR;have J:=hid hG;have DR:=hid DR;clear hG HG ag M;go_wp2_with fail;refine DR.out.mono ?_;rintro e w3 ⟨Y,j,Z⟩;have N:Hid (Below w w w3):=HB.out.trans (Y.mono zr);by_cases ht:te=0
   ·subst ht;obtain⟨p,rfl,hp⟩:=Z rfl;have ab:=hid (E.out.step Y);have DL:=hid (len_any w3 wr p U hp);have DA:=hid (W5 w3 wr p U hp);have hG:=J.out;rw[Aa (show ¬((0:Int)≠0) from fun h=>h rfl)]at hG;obtain⟨L,hL⟩:=ii U.length;rw[<-hL]at DL DA hG;by_cases h0:L=0
    ·have gz:((L:Int)==0)=true:=(by rw[h0];rfl);have HF:Hid (R=([],2)):=(by rw[Ab h0]at hG;exact hG.symm);clear Y j Z hp E HB DR hG J h0 hL DA;go_wp2_with fail;refine DL.out.mono ?_;rintro e w4 ⟨rfl,rfl⟩;go_wp2_with fail;go_ret2;rw[HF.out];exact⟨N.out,_,[],rfl,LsAt.nil _ _⟩
    ·have gz:((L:Int)==0)=false:=pm;rw[Aa h0]at hG;have a1:=hid hG;have ba:=hid hL;have ks:=fun wx=>FK (P:=prog) (t:=28) (s:=1) underlying28 (fun _=>by kernel_rfl) Ax mx cx .i64 (t1:Int) t1 rfl aa wx;have ak:=Fp ax.out aa am;rw[List.drop_drop]at ak;have a4:Hid (Row w w (AR Ax t1 cx 1) (mx-t1) 1 (jZ .u8 (ls.drop (at_+t1)))):=ak
     have be:Hid (AR Ax t1 cx 1=none->mx-t1=0/\cx-t1=0):=fun h=>by
      have hA:Ax=none:=by
       unfold AR at h;split at h
       ·exact h
       ·cases Ax with
        |none=>rfl
        |some x=>cases h
      have:=ar.out hA;omega
     have bd:mx-t1+(at_+t1)=m:=nj;have a0:mx-t1<=cx-t1:=nj;generalize AR Ax t1 cx 1=A2 at *;generalize a5:mx-t1=m2 at *;generalize a9:cx-t1=c2 at *;have av:=N.out.size;clear Y j Z hp E HB DR hG J h0 hL ak a5 a9;go_wp2_with fail;refine DL.out.mono ?_;rintro e w4 ⟨rfl,rfl⟩;go_wp2_with fail;refine DA.out.mono ?_;rintro e w5 ⟨v5,rfl,af,al⟩;have Q:=hid (ab.out.step al);have aj:Hid (Below w w w5):=N.out.trans (al.mono av);have aw:Hid (w5.ownsRow w 3 1 v5 L (cZ .i64 U)):=lZ af av;obtain⟨A5,c5,rfl⟩:=bZ af;have bc:=aj.out.size;have ai:Hid (w5.ownsRow w 37 1 (.slice vo G.length co) k vals):=(by have h:=Q.out.l;rw[HL.out]at h ⊢;exact h);clear af al DL DA ab N;go_wp2_with(at_builtin;refine iZ rfl (.tmp 30) (.tmp 33) 51 rfl w 37 j0 _ 1 24 underlying51 bg bf a6 bh rfl ip _ _ _ nm (ai.out.alloc _) _ 1 1 [.slice A5 L c5] nm (Src.of_blk (Blk.made_at _ _ _ qT) 1 1 1 rfl) mq rE nj rg ?_;intro v7 w7 i ah aq;obtain⟨A7,c7,rfl⟩:=bZ i);have ae:=(Q.out.step (aZ (o:= .cells #[.slice A5 L c5] 37) (Ae w5 w5))).add (by rw[<-ba.out];exact aw.out.alloc _) ah (by rw[HL.out];exact i);have au:=hid ae;have bb:Hid (Below w w w7):=(mZ bc aj.out).grown ah rg (fun y hy=>(Aj ai.out y hy).1);clear i ah aq ae ai aw Q aj;go_roundw
     case measure=>exact jq
     case rel=>go_light;exact⟨k+1,at_+t1,m2,c2,A2,G++ [U],vals++ [Value.slice A5 L c5],nj,iw,rfl,bd,a0,be.out,a4.out,qK,au.out,bb.out,a1.out⟩
   ·have he:=j ht;subst he;have gE:(te != 0)=true:=(by simpa using ht);have HF:Hid (R=([],te)):=(by have h:=J.out;rw[Ab ht]at h;exact h.symm);clear Y j Z ht J E HB DR;go_wp2_with fail;go_ret2;rw[HF.out];exact⟨N.out,_,[],rfl,LsAt.nil _ _⟩
  ·obtain rfl:k=n:=by omega
   have gk:=ig ((k:Int)<k);have hG:=HG.out;rw[Gf,lsR]at hG;by_cases z:at_<ls.length
   ·rw[Ab z]at hG;have g0:decide ((0:Int)<(mx:Int))=true:=lz;have a3:decide (0<mx)=true:=lz;have HF:=hid hG.symm;clear hG HG z;go_wp2_with fail;go_ret2;rw[HF.out];exact⟨HB.out,_,[],rfl,LsAt.nil _ _⟩
   ·rw[Aa z]at hG;have g0:decide ((0:Int)<(mx:Int))=false:=lz;have a3:decide (0<mx)=false:=lz;have HF:=hid hG.symm;clear hG HG z;go_wp2_with fail;go_ret2;rw[HF.out];exact⟨HB.out,_,vals,rfl,E.out⟩
end Idx
namespace Body
open Go.RowKit Mem Own Canon Nums Crc
def Dz:List Nat->List Nat->List (List Nat)
 | [],_=> []
 |n :: S,ls=>ls.take n :: Dz S (ls.drop n)
theorem PK:∀ (S ls:List Nat),(Dz S ls).length=S.length
 | [],_=>rfl
 |n :: S,ls=>by rw[Dz,AD,AD,PK S]
theorem Ut:∀ (S:List Nat) (n:Nat) (ls:List Nat),Dz (S++ [n]) ls=Dz S ls++ [(ls.drop S.sum).take n]
 | [],n,ls=>by simp[Dz]
 |m :: S,n,ls=>by rw[Ei,Dz,Ut S n,Dz,List.drop_drop,GU];rfl
theorem nH{S:List Nat}{i n:Nat}(ls:List Nat)(h:S[i]? =some n):Dz (S.take (i+1)) ls=Dz (S.take i) ls++ [(ls.drop (S.take i).sum).take n]:=by rw[BN,h];exact Ut _ _ _
structure FrAt (w:World) (base:Nat) (vF:Value) (vals:List Value) (F:List (List Nat)):Prop where
 l:w.ownsRow base 28 1 vF F.length vals
 r:∀ (i:Nat) v b,vals[i]? =some v->F[i]? =some b->w.ownsRow base 5 1 v b.length (cZ .u8 b)
theorem FrAt.step(h:FrAt w base vF vals F)(hb:Below w w w'):FrAt w' base vF vals F:=
 ⟨eZ h.l fun y hy=>hb.block y (Aj h.l y hy).2,fun i v b hv hi=>eZ (h.r i v b hv hi) fun y hy=>hb.block y (Aj (h.r i v b hv hi) y hy).2⟩
theorem FrAt.nil(w:World)(base:Nat):FrAt w base (.slice none 0 0) [] []:=⟨AE _ _ _ _,fun i v b h=>qU⟩
theorem FrAt.set{t:TypeId}{cs:Array Value}(h:FrAt w base vF vals F)(j:Blk w b t cs)(h1:28≠t)(h2:5≠t)(k:Nat)(u:Value):FrAt (w.setCell ⟨b,k,none⟩ u) base vF vals F:=
 ⟨BR h.l (fZ h.l j h1) _,fun i v ids hv hi=>BR (h.r i v ids hv hi) (fZ (h.r i v ids hv hi) j h2) _⟩
theorem FrAt.mono{j:Nat}(h:FrAt w base vF vals F)(hb:j<=base):FrAt w j vF vals F:=
 ⟨lZ h.l hb,fun i v b hv hi=>lZ (h.r i v b hv hi) hb⟩
theorem FrAt.add{b:List Nat}(h:FrAt w base vF vals F)(hu:w.ownsRow base 5 1 u b.length (cZ .u8 b))(hg:w.grownBy w5 vF.ownBlock)(j:w5.ownsRow base 28 1 v5 (F.length+1) (vals++ [u])):FrAt w5 base v5 (vals++ [u]) (F++ [b]):=by
 have far:∀ {n:Nat} {v:Value} {xs:List Value},w.ownsRow base 5 1 v n xs->w5.ownsRow base 5 1 v n xs:=fun hv=>own_far hv h.l ip hg;have y:vals.length=F.length:=by have:=h.l.1;omega
 refine⟨by rw[Ag];exact j,fun i v is hv hi=> ?_⟩;by_cases z:i<F.length
 ·rw[GW nj]at hv;rw[GW z]at hi;exact far (h.r i v is hv hi)
 ·rw[II nj]at hv;rw[II nj]at hi;have h0:i-F.length=0:=by have:=(BW.1 hi).1;simp at this;omega
  rw[y,h0]at hv;rw[h0]at hi;simp at hv hi;subst hv hi;exact far hu
theorem nW:(prog.info? 28).map (fun i=>(i.zero,i.size,i.bytes))=some (some (.slice none 0 0),1,24):=my
structure SpI (w wr:World) (gb:Nat) (t:TypeId) (pre post:List Value) (vF:Value) (vals:List Value) (F:List (List Nat)):Prop where
 blk:Blk wr gb t (pre++vF :: post).toArray
 fr:FrAt wr w vF vals F
 kept:Kept (fun x=>x<w.heap.size/\x≠gb) w wr
 lt:gb<w.heap.size
 t1:28≠t
 t2:5≠t
section
variable {w wr w1 w2 w3:World} {gb:Nat} {t:TypeId} {pre post:List Value} {vF v3 u:Value} {vals:List Value} {F:List (List Nat)} {b:List Nat}
theorem SpI.step(h:SpI w wr gb t pre post vF vals F)(hb:Below wr wr w1):SpI w w1 gb t pre post vF vals F:=
 have hz:=h.kept.size
 ⟨h.blk.step hb,h.fr.step hb,h.kept.trans (Kept.of_below hb (fun x hx=>by have:=hx.1;omega)),h.lt,h.t1,h.t2⟩
theorem SpI.cell(h:SpI w wr gb t pre post vF vals F):wr.cell? ⟨gb,pre.length,none⟩=some vF:=by rw[h.blk.cell pre.length];simp
theorem SpI.add(h:SpI w wr gb t pre post vF vals F)(hu:wr.ownsRow w 5 1 u b.length (cZ .u8 b))(hb:Below wr wr w1)(hg:w1.grownBy w3 vF.ownBlock)(i:w3.ownsRow w 28 1 v3 (F.length+1) (vals++ [u])):
 SpI w (w3.setCell ⟨gb,pre.length,none⟩ v3) gb t pre post v3 (vals++ [u]) (F++ [b]):=by
 have h1:=h.step hb;have b3:=h1.blk.grown hg (AZ (fZ h1.fr.l h1.blk h.t1));have j:w1.ownsRow w 5 1 u b.length (cZ .u8 b):=eZ hu (fun y hy=>hb.block y (Aj hu y hy).2);have f3:=h1.fr.add j hg i;have hz:=h1.kept.size;refine⟨?_,f3.set b3 h.t1 h.t2 _ _,?_,h.lt,h.t1,h.t2⟩
 ·have hx:=b3.set pre.length v3;rw[Nk,List.set_append_right _ _ (Ak _),Gf]at hx;exact hx
 ·exact(h1.kept.grown hg (fun y hy=>by have:=hy.1;omega) (fun y hy hk=>by have:=(Aj h1.fr.l y hy).1;have:=hk.1;omega)).set (fun hk=>hk.2 rfl) _
end
end Body
namespace Body
open Go.RowKit Mem Own Canon Nums Crc
theorem mX{A:Option Addr}{m c k:Nat}(i:A=none->m=0/\c=0):AR A k c 1=none->m-k=0/\c-k=0:=fun h=>by
 have hA:A=none:=by
  unfold AR at h;split at h
  ·exact h
  ·cases A with
   |none=>rfl
   |some x=>cases h
 have:=i hA;omega
def PF(w:World)(base gb p:Nat)(t:TypeId)(pre post:List Value)(S ls:List Nat)(e:Ending)(w':World):Prop:=
 ∃ (A2 A3:Option Addr) (c2 c3:Nat) (vF:Value) (vals:List Value),e= .returned (.tuple #[.slice A2 p c2, .slice A3 (ls.length-S.sum-p) c3])/\
  p<=c2/\ls.length-S.sum-p<=c3/\Row w base A2 p 1 (jZ .u8 ((ls.drop S.sum).take p))/\Row w base A3 (ls.length-S.sum-p) 1 (jZ .u8 (ls.drop (S.sum+p)))/\
  SpI w w' gb t pre post vF vals (Dz S ls)
theorem YV(w:World)(gb base bs p q:Nat)(t:TypeId)(x0 x4 x5 x6 x7:Value)(post:List Value)(As A:Option Addr)(ns cs n c:Nat)(S ls:List Nat)(hB:Blk w gb t (x0 :: .slice As ns cs :: .int .i64 (p:Nat) :: .int .i64 (q:Nat) :: x4 :: x5 :: x6 :: x7 :: .slice none 0 0 :: post).toArray)
 (a6:3≠t)(av:28≠t)(bu:5≠t)(hS:S.length=ns)(cl:ns<=100000)(E:w.ownsRow bs 3 1 (.slice As ns cs) ns (cZ .i64 S))(hn:ls.length=n)(cd:n<=100000)(hc:n<=c)(h8:∀x∈ls,x<=255)(b7:S.sum+p<=n)
 (ha:Row w base A n 1 (jZ .u8 ls))(b3:base<=gb)(Z:A=none->n=0/\c=0):
 Calls prog 58 #[.pointer (some ⟨gb,0,none⟩), .slice A n c] w (PF w base gb p t [x0, .slice As ns cs, .int .i64 (p:Nat), .int .i64 (q:Nat),x4,x5,x6,x7] post S ls):=by
 obtain⟨j0,bS,bC,bd,b0⟩:=info_parts nW;have bi:=hB.lt;have aa:Hid (SpI w w gb t [x0, .slice As ns cs, .int .i64 (p:Nat), .int .i64 (q:Nat),x4,x5,x6,x7] post (.slice none 0 0) [] []):=⟨hB,FrAt.nil _ _,Kept.refl _ _,bi,av,bu⟩;have c1:=hB.ia 1;have a4:Hid (∀k x,S[k]? =some x->(S.take (k+1)).sum=(S.take k).sum+x/\(S.take (k+1)).sum+p<=n):=fun k x h=>by have h1:=TL h;have h2:=Lg S (k+1);exact⟨h1,nj⟩
 have HS:=hid hS;have ay:=hid E;have HN:=hid hn;have H8:=hid h8;have b9:=hid hB;have am:Hid (Row w base A n 1 (jZ .u8 (ls.drop 0))):=by show Row _ _ _ _ _ _;rw[IK];exact ha
 have a0:=hid Z;have be:=hid (fZ E hB a6);clear hB hS E hn h8 ha Z;go_enter func58,ntmps58;go_wp2_with fail;go_loopw [1,14] (fun bv iv wr=>∃ (k mx cx j:Nat) (Ax:Option Addr) (vF:Value) (vals:List Value),k<=ns/\iv= .int .i64 k/\bv= .slice Ax mx cx/\mx+j=n/\mx<=cx/\Hid (j=(S.take k).sum)/\Hid (Row w base Ax mx 1 (jZ .u8 (ls.drop j)))/\Hid (Ax=none->mx=0/\cx=0)/\Hid (SpI w wr gb t [x0, .slice As ns cs, .int .i64 (p:Nat), .int .i64 (q:Nat),x4,x5,x6,x7] post vF vals (Dz (S.take k) ls))) (fun _ iv _=>ns-(intOf iv).toNat)
 case atStart=>exact⟨0,n,c,0,A,_,[],nj,rfl,rfl,nj,hc,rfl,am.out,a0.out,aa.out⟩
 case round=>
  obtain⟨k,mx,cx,j,Ax,vF,vals,hk,rfl,rfl,cg,al,J,Q,aq,HI⟩:=hrel;have zr:=HI.out.kept.size;clear aa am a0;by_cases ba:k<ns
  ·have gk:=ic ((k:Int)<ns);have b8:=ic (k<ns);obtain⟨x,hx⟩:∃x,S[k]? =some x:=⟨_,Aw (by rw[HS.out];exact ba)⟩;obtain⟨ai,bj⟩:=a4.out k x hx;rw[<-J.out]at ai;have ci:x+p<=mx:=nj;have E:wr.ownsRow bs 3 1 (.slice As ns cs) ns (cZ .i64 S):=eZ ay.out (fun y hy=>HI.out.kept.block y ⟨(Aj ay.out y hy).2,fun e=>be.out (e ▸ hy)⟩);obtain⟨gv,cv,b1,ca,_⟩:=E.form nj;injection b1 with q1 q2 q3;subst q1 q3;clear q2;have ck:wr.cell? ⟨gv,k,none⟩=some (.int .i64 (x:Nat)):=(by rw[E.cellAt k nj];unfold cZ;rw[BI,hx];rfl);have cj:(0:Int)<=(k:Int):=nj;have ce:(k:Int)<(ns:Int):=nj;have ar:Row wr base Ax mx 1 (jZ .u8 (ls.drop j)):=Q.out.keep fun a ha=>World.cell?_of_block (a:=a) (HI.out.kept.block a.block ⟨by have:=HI.out.lt;omega,nj⟩);have au:Hid ((ls.drop j).length=mx):=(by show _=_;rw[AO,HN.out];omega);have b4:Hid ((ls.drop j).take x=(ls.drop (S.take k).sum).take x):=(by rw[J.out];rfl);have bg:=hid (nH ls hx);obtain⟨pc,af⟩:=ii ((ls.drop j).take x);have aj:pc.length=x:=(by rw[af,Ba,au.out];omega);have DC:=hid (fun wx (hb:Below wr wr wx)=>Ic wx Ax x cx pc aj nj (fun h=>by have:=aq.out h;omega) (((af ▸ GO ar (by omega:x<=mx):Row wr base Ax x 1 (jZ .u8 pc)).mono (by have:=HI.out.lt;omega)).below hb |>.mono hb.size));have bm:=fun wx=>Fv (P:=prog) (t:=28) (s:=1) underlying28 (fun _=>by kernel_rfl) Ax mx cx .i64 (x:Int) x rfl nj (fun a _=>rfl) wx;have bt:=fun wx=>FK (P:=prog) (t:=28) (s:=1) underlying28 (fun _=>by kernel_rfl) Ax mx cx .i64 (x:Int) x rfl nj wx;have bb:Hid (Row w base (AR Ax x cx 1) (mx-x) 1 (jZ .u8 (ls.drop (j+x)))):=(by have h:=Fp Q.out (by omega:x<=mx) al;rw[List.drop_drop]at h;exact h);have a1:=hid (mX (k:=x) aq.out);have bn:mx-x+(j+x)=n:=nj;have a5:mx-x<=cx-x:=nj;have ak:Hid (j+x=(S.take (k+1)).sum):=ai.symm;have bq:=hid aj;have c8:=HI.out.cell;have f8:=HI.out.blk.frozen 8;simp only[List.length_cons,List.length_nil,Nat.zero_add,Nat.reduceAdd]at c8;obtain⟨fl,N⟩:=ii ((Dz (S.take k) ls).length);have aw:fl=k:=(by rw[N,PK,Ba,HS.out];omega);subst aw;have U:=HI.out.fr.l;rw[<-N]at U;obtain⟨Af,cf,rfl⟩:=bZ U;have Y:=hid U;have a9:=hid N;generalize AR Ax x cx 1=A2 at *;generalize bc:mx-x=m2 at *;generalize bf:cx-x=c2 at *;clear E ar aj hx ai bj bc bf U N;go_upto_region 4 with fail;go_region_law(first|(go_simp;go_at_call 100;(with_reducible refine(DC.out _ rF).mono ?_);rintro e w4 ⟨v4,rfl,ah,an⟩;obtain⟨A4,c4,rfl⟩:=bZ ah;have z:Below wr wr w4:=dZ an rF;have q8:=(HI.out.step z).cell;simp only[List.length_cons,List.length_nil,Nat.zero_add,Nat.reduceAdd]at q8;have ae:Hid (w4.ownsRow w 28 1 (.slice Af fl cf) fl vals):=eZ Y.out (fun y hy=>z.block y (Aj Y.out y hy).2);have cc:=z.size;have q9:=((HI.out.step z).step (aZ (o:= .cells #[.slice A4 x c4] 28) (Ae w4 w4))).cell;simp only[List.length_cons,List.length_nil,Nat.zero_add,Nat.reduceAdd]at q9)|(refine Qj rfl (.tmp 22) (.tmp 27) 59 rfl w 28 j0 _ 1 24 underlying59 bS bC bd b0 rfl ip (.slice Af fl cf) fl vals nm (by first|exact ae.out.alloc _|exact(ae.out.alloc _).drew) _ 1 1 [.slice A4 x c4] nm (Src.of_blk (Blk.made_at _ _ _ qT) 1 1 1 rfl) mq rE nj rg ?_;intro A5 c5 w5 M ac;have b5:=((HI.out.step z).blk.alloc (.cells #[.slice A4 x c4] 28)).grown ac (AZ (fZ Y.out HI.out.blk av));have r8:=b5.cell 8;have s8:=b5.frozen 8;simp only[List.cons_append,List.nil_append,List.getElem?_toArray,List.getElem?_cons_zero,List.getElem?_cons_succ]at r8))
   all_goals
    have ax:SpI w (w5.setCell ⟨gb,8,none⟩ (.slice A5 (fl+1) c5)) gb t [x0, .slice (some ⟨gv,0,none⟩) ns cs, .int .i64 (p:Nat), .int .i64 (q:Nat),x4,x5,x6,x7] post (.slice A5 (fl+1) c5) (vals++ [.slice A4 x c4]) (Dz (S.take fl) ls++ [pc]):=(HI.out.step z).add (lZ (by rw[bq.out];exact ah) (by simpa using zr)) (aZ (o:= .cells #[.slice A4 x c4] 28) (Ae w4 w4)) ac (by rw[<-a9.out];exact M);have b6:Hid (SpI w (w5.setCell ⟨gb,8,none⟩ (.slice A5 (fl+1) c5)) gb t [x0, .slice (some ⟨gv,0,none⟩) ns cs, .int .i64 (p:Nat), .int .i64 (q:Nat),x4,x5,x6,x7] post (.slice A5 (fl+1) c5) (vals++ [.slice A4 x c4]) (Dz (S.take (fl+1)) ls)):=(by show SpI _ _ _ _ _ _ _ _ _;rw[bg.out,<-b4.out,<-af];exact ax);clear ax M ac b5 r8 s8 q8 q9 ah an z ae HI c8 f8 DC Y;generalize w5.setCell ⟨gb,8,none⟩ (.slice A5 (fl+1) c5)=w6 at *;go_wp2_with fail;go_roundw
    case measure=>exact jq
    case rel=>go_light;exact⟨fl+1,m2,c2,j+x,A2,Value.slice A5 (fl+1) c5,vals++ [Value.slice A4 x c4],nj,iw,rfl,bn,a5,ak.out,bb.out,a1.out,b6.out⟩
  ·obtain rfl:k=ns:=by omega
   have gk:=ig ((k:Int)<k);have ab:S.take k=S:=Bw (by rw[HS.out];exact Ak _);have L:=J.out;rw[ab]at L;have bN:=HI.out.blk.cell 2;simp only[List.cons_append,List.nil_append,List.getElem?_toArray,List.getElem?_cons_zero,List.getElem?_cons_succ]at bN;have ag:p<=mx:=nj;have bm:=fun wx=>Fv (P:=prog) (t:=28) (s:=1) underlying28 (fun _=>by kernel_rfl) Ax mx cx .i64 (p:Int) p rfl nj (fun a _=>rfl) wx;have bt:=fun wx=>FK (P:=prog) (t:=28) (s:=1) underlying28 (fun _=>by kernel_rfl) Ax mx cx .i64 (p:Int) p rfl ag wx;have a3:Hid (Row w base Ax p 1 (jZ .u8 ((ls.drop S.sum).take p))):=(by rw[<-L];exact GO Q.out ag);have bp:Hid (Row w base (AR Ax p cx 1) (mx-p) 1 (jZ .u8 (ls.drop (S.sum+p)))):=(by have h:=Fp Q.out ag al;rw[List.drop_drop,L]at h;exact h);have az:ls.length-S.sum-p=mx-p:=px;have bh:=hid az;have G:Hid (SpI w wr gb t [x0, .slice As k cs, .int .i64 (p:Nat), .int .i64 (q:Nat),x4,x5,x6,x7] post vF vals (Dz S ls)):=(by have h:=HI.out;rw[ab]at h;exact h);have bk:p<=cx:=nj;have bl:mx-p<=cx-p:=nj;generalize AR Ax p cx 1=A3 at *;generalize mx-p=m3 at *;generalize cx-p=c3 at *;clear HI ab L az J;go_wp2_with fail;go_quiet (fail);go_wp2_with fail;go_ret2;unfold PF;rw[bh.out];exact⟨Ax,A3,cx,c3,vF,vals,rfl,bk,bl,a3.out,bp.out,⟨G.out.blk,⟨eZ G.out.fr.l (fun y _=>rfl),fun i v b hv hi=>eZ (G.out.fr.r i v b hv hi) (fun y _=>rfl)⟩,G.out.kept.drewN _,G.out.lt,G.out.t1,G.out.t2⟩⟩
end Body
namespace Idx
open Go.RowKit Mem Own Canon Sift
open NumPut Recs Crc Block
open Ef Nums
theorem R8{n size:Nat}{ls:List Nat}(h8:∀x∈ls,x<=255):∀ (f at_ x:Nat) (i:List Nat),at_<=ls.length->(szR n size ls f at_ x i).2.1<=ls.length
 |0,_,_,_,h=>h
 |f+1,at_,x,i,h=>by
  unfold szR;split
  ·exact h
  ·split
   ·exact intA_le h8 0 h
   ·exact R8 h8 f _ _ _ (intA_le h8 0 h)
theorem RO{size:Nat}{ls:List Nat}:∀ (ks:List Nat) (r at_:Nat) (i:List Str),at_<=ls.length->(bkR size ls ks r at_ i).2.1<=ls.length
 | [],_,_,_,h=>h
 |k :: ks,r,at_,i,h=>by
  unfold bkR;split
  ·exact CA _
  ·split
   ·exact CA _
   ·exact RO ks _ _ _ (Mx ls at_ 0 k h)
theorem Vj{size:Nat}{ls:List Nat}:∀ (ks:List Nat) (r at_:Nat) (i:List Str),(bkR size ls ks r at_ i).1.length<=i.length+r
 | [],_,_,_=>Nat.le_add_right _ _
 |k :: ks,r,at_,i=>by
  unfold bkR;split
  ·exact CA _
  ·split
   ·exact CA _
   ·rename_i h;have h1:=NW (BC ls at_ 0 k) (min size r) true 0 i (LX h);have h2:=Vj (size:=size) (ls:=ls) ks (r-size) (takeA ls at_ 0 k) (C8 (BC ls at_ 0 k) (min size r) true 0 i).1;omega
theorem l9{size:Nat}{ls:List Nat}(h8:∀x∈ls,x<=255):(FY size ls).2.1<=ls.length/\(FY size ls).1.length<=1048576:=by
 have hv:Bd 1048576 ls 0 0<=1048576:=Gp h8 0 0;have ha:AJ 1048576 ls 0 0<=ls.length:=intA_le h8 0 nj
 have hs:(GF size ls).2.1<=ls.length:=by
  unfold GF;split
  ·exact ha
  ·exact R8 h8 _ _ _ _ ha
 unfold FY;split
 ·exact⟨CA _,CA _⟩
 ·have:=Vj (size:=size) (ls:=ls) (GF size ls).1 (Bd 1048576 ls 0 0) (GF size ls).2.1 [];exact⟨RO _ _ _ _ hs,by simp only[List.length_nil]at this;omega⟩
def ixF(ts:List Str)(L:List (List Nat)×Int):(List Str×List (List Nat))×Int:=if L.2≠0 then(([],[]),L.2)else((ts,L.1),0)
def ixR(size bound:Nat)(ls:List Nat):(List Str×List (List Nat))×Int:=
 if(FY size ls).2.2≠0 then(([],[]),(FY size ls).2.2)else ixF (FY size ls).1 (lsR bound (ls.drop (FY size ls).2.1) (FY size ls).1.length 0 [])
def Qz(w:World)(R:(List Str×List (List Nat))×Int)(e:Ending)(w':World):Prop:=
 ∃vT vL vals,e= .returned (.tuple #[.agg #[vT,vL],R.2])/\IxAt w' w vT vL vals R.1.1 R.1.2/\Below w w w'
theorem RU(w:World)(base:Nat):IxAt w base (.slice none 0 0) (.slice none 0 0) [] [] []:=⟨AE _ _ _ _,AE _ _ _ _,fun i v ids h=>qU⟩
theorem IxAt.set{vT:Value}{ts:List Str}{ls:List (List Nat)}{cs:Array Value}(h:IxAt w base vT vL vals ts ls)(j:Blk w b 53 cs)(k:Nat)(u:Value):IxAt (w.setCell ⟨b,k,none⟩ u) base vT vL vals ts ls:=
 ⟨BR h.t (fZ h.t j ip) _,BR h.l (fZ h.l j ip) _,fun i v ids hv hi=>BR (h.r i v ids hv hi) (fZ (h.r i v ids hv hi) j ip) _⟩
theorem VC(w:World)(A:Option Addr)(m c size bound:Nat)(ls:List Nat)(hm:ls.length=m)(az:m<=100000)(h8:∀x∈ls,x<=255)(hc:m<=c)(N:A=none->m=0/\c=0)(ha:Row w w A m 1 (jZ .u8 ls))(a3:1<=size)(ay:size<=64)(hb:bound<=20000):
 Calls prog 61 #[.int .i64 (size:Nat), .int .i64 (bound:Nat), .slice A m c] w (Qz w (ixR size bound ls)):=by
 have aw:Hid (∀wx,Below w w wx->Row wx wx A m 1 (jZ .u8 ls)):=fun wx h=>(ha.below h).mono h.size;have D0:=hid (fun wx (h:Below w w wx)=>lN wx A m c size ls hm az h8 N (aw.out wx h) a3 ay);have a6:=ig ((bound:Int)<0)
 have a5:=ig ((20000:Int)<bound)
 have ax:=ig (20000<bound)
 obtain⟨R,hR⟩:=ii (ixR size bound ls);rw[<-hR];unfold ixR at hR;obtain⟨ak,a1⟩:=l9 (size:=size) h8;generalize FY size ls=T at *;obtain⟨ts,t1,te⟩:=T;simp only at hR ak a1;rw[hm]at ak;have al:=Fp (hm ▸ ha:Row w w A ls.length 1 (jZ .u8 ls)) (by omega:t1<=ls.length) (by omega:ls.length<=c);rw[hm]at al
 have ar:AR A t1 c 1=none->m-t1=0/\c-t1=0:=fun h=>by
  have hA:A=none:=by
   unfold AR at h;split at h
   ·exact h
   ·cases A with
    |none=>rfl
    |some x=>cases h
  have:=N hA;omega
 have af:=hid (fun wx (hbx:Below w w wx)=>Ze wx (AR A t1 c 1) (m-t1) (c-t1) ts.length bound (ls.drop t1) (by rw[AO,hm]) nj (fun x hx=>h8 x (Ck hx)) nj ar ((al.below hbx).mono hbx.size) hb nj);have ks:=fun wx=>FK (P:=prog) (t:=28) (s:=1) underlying28 (fun _=>by kernel_rfl) A m c .i64 (t1:Int) t1 rfl ak wx;generalize lsR bound (ls.drop t1) ts.length 0 []=L at *;generalize AR A t1 c 1=A2 at *;obtain⟨lv,le⟩:=L;have HR:=hid hR;unfold Qz;clear hR al ar ha h8 N hm aw;go_enter func61,ntmps61;go_wp2_with fail;have aj:Below w w (w.alloc (.cells #[(),()] 53)):=aZ (Ae _ _);have am:Blk (w.alloc (.cells #[(),()] 53)) w 53 #[(),()]:=Blk.made _ _ _;have a9:(w.alloc (.cells #[(),()] 53)).heap.size=w.heap.size+1:=qT
 have D1:=hid (D0.out _ aj);generalize w.alloc (.cells #[(),()] 53)=w1 at *;have ai:=hid aj;have ac:=hid am;clear aj am D0;refine D1.out.mono ?_;rintro e w2 ⟨U,M,ah⟩;have Y:Hid (Below w w w2):=ai.out.trans (U.mono nj);have z:=hid (ac.out.step U);have z2:=U.size;have k0:=z.out.ia 0;have k1:=z.out.ia 1;have f0:=z.out.frozen 0;have f1:=z.out.frozen 1;by_cases ht:te=0
 ·subst ht;obtain⟨gd,sz,hs,vT,vH,rfl,hD⟩:=ah rfl;have HD:=hid hD;have hr:=HR.out;rw[Aa (show ¬((0:Int)≠0) from fun h=>h rfl)]at hr;have av:=hid hr;have an:=hid (fun wx (hb:Below w2 w2 wx)=>pQ wx w1 gd sz ts hs vT vH (hD.keep (fun y _ hy=>hb.block y hy)));have ab:=hid (fun wx (hb:Below w2 w2 wx)=>af.out wx (Y.out.trans (hb.mono nj)));clear U M ah hD hr HR D1 ai ac af;go_wp2_with fail;go_region_held3 (fun _=>True) (trivial) (first|(go_at_call 120;(with_reducible refine(an.out _ rF).mono ?_);rintro e wA ⟨rfl,rfl⟩)|(go_at_call 119;(with_reducible refine(ab.out _ rF).mono ?_);rintro e wB ⟨au,vB,vals,rfl,aa⟩;have BB:Below w2 w2 wB:=(by have hq:=au;exact dZ hq rF)))
  all_goals
   have ag:Hid (Below w w wB):=Y.out.trans (BB.mono nj);have G:=hid (z.out.step BB);have zB:=BB.size;have Z:Hid (LsAt wB w2 vB vals lv):=aa;have aq:Hid (DAt wB w1 gd sz ts hs vT vH):=HD.out.keep (fun y _ hy=>BB.block y hy);obtain⟨Av,cv,rfl⟩:=bZ Z.out.l;have p0:=G.out.ia 0;have p1:=G.out.ia 1;have r0:=G.out.frozen 0;have r1:=G.out.frozen 1;clear au aa BB an ab HD z Y k0 k1 f0 f1;by_cases J:le=0
   ·subst J;have HF:Hid (R=((ts,lv),0)):=(by show _=_;rw[av.out];exact Aa (fun h=>h rfl));have DA:=hid (oU wB w1 gd sz ts hs vT vH aq.out nj);go_wp2_with fail;refine DA.out.mono ?_;rintro e w6 ⟨vt,rfl,ae,Q⟩;obtain⟨At,ct,rfl⟩:=bZ ae;have E:=hid (G.out.step Q);have a4:Hid (IxAt w6 w (.slice At ts.length ct) (.slice Av lv.length cv) vals ts lv):=⟨lZ ae nj,lZ (Z.out.step Q).l nj,fun i v ids hv hi=>lZ ((Z.out.step Q).r i v ids hv hi) nj⟩;have a0:Hid (Below w w w6):=ag.out.trans (Q.mono nj);have q0:=E.out.ia 0;have q1:=E.out.ia 1;have s0:=E.out.frozen 0;have s1:=E.out.frozen 1;clear ae Q DA G Z aq ag p0 p1 r0 r1;go_wp2_with fail;rw[HF.out];refine CF (v:= .tuple #[.agg #[.slice At ts.length ct, .slice Av lv.length cv],ij]) ?_ rfl ⟨_,_,vals,rfl,?_,?_⟩
    ·have j:=(E.out.set 0 (.slice At ts.length ct)).set 1 (.slice Av lv.length cv);have e0:=j.cell 0;have e1:=j.cell 1;simp at e0 e1;simp[results,results61,go_sem,e0,e1]
    ·exact(a4.out.set E.out 0 _).set (E.out.set 0 _) 1 _
    ·exact BF (Ak _) (BF (Ak _) a0.out)
   ·have gE:(le != 0)=true:=(by simpa using J);have HF:Hid (R=(([],[]),le)):=(by show _=_;rw[av.out];exact Ab J);clear J;go_wp2_with fail;rw[HF.out];refine CF (v:= .tuple #[.agg #[(),()],le]) ?_ rfl ⟨_,_,[],rfl,RU _ _,?_⟩
    ·have j:=(G.out.set 0 (.slice none 0 0)).set 1 (.slice none 0 0);have e0:=j.cell 0;have e1:=j.cell 1;simp at e0 e1;simp[results,results61,go_sem,e0,e1]
    ·exact BF (Ak _) (BF (Ak _) ag.out)
 ·have he:=M ht;subst he;have gE:(te != 0)=true:=by simpa using ht
  have HF:Hid (R=(([],[]),te)):=by have h:=HR.out;rw[Ab ht]at h;exact h
  clear U M ah ht HR D1 ai ac af;go_wp2_with fail;rw[HF.out];refine CF (v:= .tuple #[.agg #[(),()],te]) ?_ rfl ⟨_,_,[],rfl,RU _ _,?_⟩
  ·have j:=(z.out.set 0 (.slice none 0 0)).set 1 (.slice none 0 0);have e0:=j.cell 0;have e1:=j.cell 1;simp at e0 e1;simp[results,results61,go_sem,e0,e1]
  ·exact BF (Ak _) (BF (Ak _) Y.out)
end Idx
end Go.Proofs.YtfgdoknipbpfhaaGreatDoor
