/- The walk of the refe -/
import Derived.Test.YtfgdoknipbpfhaaGreatDoorZTwoUnpacks33
import Derived.Test.YtfgdoknipbpfhaaGreatDoorZTwoUnpacks35
namespace Go.Proofs.YtfgdoknipbpfhaaGreatDoor
open Go.Proofs.Tryz
open Go.Lib (hid)
set_option maxHeartbeats 2000000
set_option maxRecDepth 100000
variable{ls:List Nat}{X cd s th x:Nat}
namespace Huff
open Go.RowKit Mem Canon Own
theorem LY(p:Nat->Bool)(s:Nat):(List.range (s+1)).any p=((List.range s).any p || p s):=by rw[Iq,List.any_append];simp
def LW(ls:List Nat)(bs:List Bool)(at_ g hi:Nat)(w:World)(e:Ending)(w':World):Prop:=
 e= .returned (.tuple #[.int .i64 (Cy ls (head bs at_) (there bs at_)).1, .int .i64 (Cy ls (head bs at_) (there bs at_)).2.1])/\
  RRd w' g hi bs (at_+(Cy ls (head bs at_) (there bs at_)).2.2)/\Kept (fun x=>x<w.heap.size/\x≠g) w w'
theorem Ww(bs:List Bool)(at_ x:Nat)(hx:x<=15):yZ bs at_ x=head bs at_ / 2 ^ (15-x):=by have h:=To bs at_ x (15-x);rw[show x+(15-x)=15 by omega]at h;exact h.symm
theorem Wg(i:okB ls=true)(hx:ls[s]? =some x)(h0:x≠0)(j:x<=th)(y:code ls s=cd)(h:X / 2 ^ (15-x)=cd):Cy ls X th=((s:Int),0,x):=
 TA i hx (FA.2 ⟨x,hx,h0,j,by rw[h,y]⟩)
theorem Ta(hx:ls[s]? =some x)(i:code ls s=cd)(h:¬(x<=th/\X / 2 ^ (15-x)=cd)):hit ls X th s=false:=by
 cases hh:hit ls X th s
 ·rfl
 ·obtain⟨y,hy,_,h2,h3⟩:=FA.1 hh;rw[hx]at hy;injection hy with hy;subst hy;exact absurd ⟨h2,by rw[h3,i]⟩ h
theorem OX(hx:ls[s]? =some 0):hit ls X th s=false/\Ek ls X th s=false:=by
 constructor
 ·cases hh:hit ls X th s
  ·rfl
  ·obtain⟨y,hy,h1,_⟩:=FA.1 hh;rw[hx]at hy;injection hy with hy;exact absurd hy.symm h1
 ·cases hh:Ek ls X th s
  ·rfl
  ·obtain⟨y,hy,h1,_⟩:=LQ.1 hh;rw[hx]at hy;injection hy with hy;omega
theorem VZ(hx:ls[s]? =some x)(h:x<=th):Ek ls X th s=false:=by
 cases hh:Ek ls X th s
 ·rfl
 ·obtain⟨y,hy,h1,_⟩:=LQ.1 hh;rw[hx]at hy;injection hy with hy;omega
theorem Xl(hx:ls[s]? =some x)(i:code ls s=cd)(h:th<x)(j:x<=15):Ek ls X th s=decide (X / 2 ^ (15-x) / 2 ^ (x-th)=cd / 2 ^ (x-th)):=by
 have e:X / 2 ^ (15-x) / 2 ^ (x-th)=X / 2 ^ (15-th):=by rw[JR,<-Nat.pow_add,show 15-x+(x-th)=15-th by omega]
 rw[e];unfold Ek;have hg:ls.getD s 0=x:=by simp[List.getD_eq_getElem?_getD,hx]
 rw[hg,i];by_cases h2:X / 2 ^ (15-th)=cd / 2 ^ (x-th)
 ·rw[Aw ⟨h,h2⟩,Aw h2]
 ·rw[Az (fun h3=>h2 h3.2),Az h2]
theorem NQ(h:∀t,t<s->hit ls X th t=false)(h2:hit ls X th s=false):∀t,t<s+1->hit ls X th t=false:=by
 intro t ht;by_cases e:t=s
 ·rw[e];exact h2
 ·exact h t kR
theorem VL(h:∀t,t<ls.length->hit ls X th t=false):Cy ls X th=if(List.range ls.length).any (Ek ls X th)then(-1,1,0)else(-1,7,0):=by
 refine Q5 fun s=> ?_;by_cases hs:s<ls.length
 ·exact h s hs
 ·cases hh:hit ls X th s
  ·rfl
  ·obtain⟨y,hy,_⟩:=FA.1 hh;exact absurd (Ch.1 hy).1 hs
theorem OK(w:World)(a9 cB g hi:Nat)(vl vc:Value)(ls:List Nat)(bs:List Bool)(at_:Nat)(au:okB ls=true)(hC:RCo w a9 cB vl vc ls)(bd:cB<=w.heap.size)(hR:RRd w g hi bs at_)(a8:hi<=w.heap.size):
 Calls prog 266 #[.agg #[vl,vc], .pointer (some ⟨g,0,none⟩)] w (LW ls bs at_ g hi w):=by
 obtain⟨ay,a4,_⟩:=Ii au;obtain⟨A,c,rfl,aW⟩:=hC.lens;obtain⟨A',c',rfl,av⟩:=hC.codes;have bp:g<w.heap.size:=by obtain⟨_,_,h1,_⟩:=hR;exact h1.lt
 have bi:at_<=bs.length/\bs.length<=800000:=by obtain⟨_,_,_,_,h3,h4⟩:=hR;exact⟨h3,h4⟩
 obtain⟨w0,ab⟩:=iS (w.alloc (.cells #[.slice A ls.length c, .slice A' ls.length c'] 272));have J:aO w w0:=by rw[ab];exact bZ (Ag _ _)
 have blk:Blk w0 w 272 #[.slice A ls.length c, .slice A' ls.length c']:=by rw[ab];exact Blk.made _ _ _
 have a0:RRd w0 g hi bs at_:=hR.keep (fun b _ hb=>J.block b kR);have ai:Row w0 cB A ls.length 1 (jZ .u8 ls):=(aW.keep (fun p _ h=>J.cell kR)).row;have af:Row w0 cB A' ls.length 1 (fun i _=> .int .u16 (Db ls i:Nat)):=(av.keep (fun p _ h=>J.cell kR)).row;have p0:=blk.iO 0;have p1:=blk.iO 1;have hX:=Ol bs at_;have ae:there bs at_=min 15 (bs.length-at_):=rfl;have aU:=fun x (h:x<=15)=>Ww bs at_ x h;unfold LW;generalize head bs at_=X at *;generalize there bs at_=th at *;have a5:=hid (Kept.of_below (K:=fun x=>x<w.heap.size/\x≠g) J (fun _ h=>h.1));have HR:=hid a0;have aT:=hid au;have ba:=hid a4;have aQ:=hid ai;have aR:=hid af;have a7:=hid aU;have aw:=hid ae;have HN:Hid (∃n,n=ls.length):=⟨_,rfl⟩;obtain⟨n,hn⟩:=HN.out;rw[<-hn]at p0 p1 ay aQ aR;have am:=hid hn;have bc:w0=w.alloc (.cells #[.slice A n c, .slice A' n c'] 272):=by rw[hn];exact ab
 rw[<-hn];clear hR a0 au a4 aW av ai af hC aU ae blk J HN ab hn bd a8;subst bc;go_enter func266,ntmps266;go_wp2_with fail;generalize w.alloc (.cells #[.slice A n c, .slice A' n c'] 272)=w0 at *;go_loopw [6,7,8,9,10,11,12] (fun pv i _ _ _ _ _ wr=>∃ (s:Nat) (pt:Bool),s<=n/\i= .int .i64 s/\pv= .bool pt/\Hid (∀t,t<s->hit ls X th t=false)/\Hid (pt=(List.range s).any (Ek ls X th))/\Hid (∃q,wr=w0.drewN q)) (fun _ i _ _ _ _ _ _=>n-(intOf i).toNat)
 case atStart=>exact⟨0,false,kR,rfl,rfl,(fun t h=>by omega),rfl,⟨0,rfl⟩⟩
 case round=>
  obtain⟨s,pt,hs,rfl,rfl,z,j,E⟩:=hrel;have al:RRd wr g hi bs at_:=by obtain⟨q,hq⟩:=E.out;rw[hq];exact HR.out
  have q0:wr.cell? ⟨w,0,none⟩=some (.slice A n c):=by obtain⟨q,hq⟩:=E.out;rw[hq];exact p0
  have q1:wr.cell? ⟨w,1,none⟩=some (.slice A' n c'):=by obtain⟨q,hq⟩:=E.out;rw[hq];exact p1
  have ah:Row wr cB A n 1 (jZ .u8 ls):=by obtain⟨q,hq⟩:=E.out;rw[hq];exact aQ.out
  have ag:Row wr cB A' n 1 (fun i _=> .int .u16 (Db ls i:Nat)):=by obtain⟨q,hq⟩:=E.out;rw[hq];exact aR.out
  obtain⟨AR,cR,_,r1,r2,_,_,_⟩:=al.cells;have ak:Hid (Kept (fun x=>x<w.heap.size/\x≠g) w wr):=by show Kept _ w wr;obtain⟨q,hq⟩:=E.out;rw[hq];exact a5.out.drewN q
  obtain⟨bj,bk⟩:=bi;have Z:=hid al;have a1:=hid ag;clear al ag;by_cases aS:s<n
  ·obtain⟨b,bl,x,rfl,bD,hx,d0⟩:=CD ah am.out.symm aS;have U:=ba.out x (BP hx);have G:=hid hx;have x0:(0:Int)<=(s:Int):=kR;have x1:(s:Int)<(n:Int):=kR;clear hx ah;by_cases aq:x=0
   ·subst aq;have N:=hid (NQ z.out (OX G.out).1);have L:Hid (pt=(List.range (s+1)).any (Ek ls X th)):=(by show _=_;rw[LY,(OX G.out).2,Bool.or_false];exact j.out);clear z j;go_wp2_with fail;go_roundw
    case measure=>exact jw
    case rel=>go_light;exact⟨s+1,pt,kR,jx,rfl,N.out,L.out,E.out⟩
   ·have bC:((x:Int)==0)=false:=ni;have C1:=Oe wr g hi bs at_ x kR Z.out;rw[a7.out x U]at C1;have C1:=hid C1;have ax:=QP aT.out G.out aq;have aj:code ls s<65536:=Em ax (by have:2 ^ x<=2 ^ 15:=BQ kR U;omega);have aP:Db ls s=code ls s:=Nat.mod_eq_of_lt aj;obtain⟨b',aY,rfl,_,Q⟩:=a1.out kR;have d1:=Q s 0 aS kR;have a6:=Hh X (2 ^ (15-x));obtain⟨y,hy⟩:=iS (X / 2 ^ (15-x));rw[<-hy]at C1 a6;have HY:=hid hy;obtain⟨cd,aa⟩:=iS (code ls s);have d2:wr.cell? ⟨b',aY+s,none⟩=some (.int .u16 cd):=(by have:=d1;simpa[aP,aa]using this);rw[<-aa]at aj;have ac:=hid aa;have bn:0<x:=kR;clear d1 Q ax aP hy aa aq;by_cases bg:x<=bs.length-at_
    ·rw[Nat.min_eq_left bg]at C1;have M:x<=th:=(by rw[aw.out];omega);by_cases an:y=cd
     ·subst an;have HG:=hid (Wg aT.out G.out kR M ac.out.symm HY.out.symm);clear z j;go_wp2_with fail;refine C1.out.mono ?_;rintro e w2 ⟨rfl,q2,rfl⟩;go_wp2_with fail;go_ret2;rw[HG.out];exact⟨rfl,(Z.out.drewN q2).moved kR,Kept.set (p:=⟨g,1,none⟩) (ak.out.drewN q2) (fun h=>h.2 rfl) _⟩
     ·have N:=hid (NQ z.out (Ta (X:=X) (th:=th) G.out ac.out.symm (fun h=>an (HY.out.trans h.2))));have L:Hid (pt=(List.range (s+1)).any (Ek ls X th)):=(by show _=_;rw[LY,VZ G.out M,Bool.or_false];exact j.out);have bm:((y:Int)==(cd:Int))=false:=ni;clear z j an;go_wp2_with fail;refine C1.out.mono ?_;rintro e w2 ⟨rfl,q2,rfl⟩;go_wp2_with fail;go_roundw
      case measure=>exact jw
      case rel=>go_light;refine⟨s+1,pt,kR,jx,rfl,N.out,L.out,?_⟩;obtain⟨q,rfl⟩:=E.out;exact⟨_,Dh _ _ _⟩
    ·rw[Nat.min_eq_right kR]at C1;have aX:th=bs.length-at_:=(by rw[aw.out];omega);rw[<-aX]at C1;have M:th<x:=kR;have HB:=Xl (X:=X) G.out ac.out.symm M U;rw[<-HY.out]at HB;have HB:=hid HB;have N:=hid (NQ z.out (Ta (X:=X) (th:=th) G.out ac.out.symm (fun h=>by omega)));have bq:th<=15:=kR;clear z aX;go_wp2_with fail;refine C1.out.mono ?_;rintro e w2 ⟨rfl,q2,rfl⟩;go_wp2_with fail;obtain⟨w3,ar⟩:=iS (wr.drewN q2);rw[<-ar];have bb:=hid ar;clear ar
     go_loop [9,11,12] (fun a b d=>∃K Y W:Nat,th<=K/\K<=x/\d= .int .i64 K/\a= .int .u64 Y/\b= .int .u64 W/\Hid (Y=y / 2 ^ (K-th))/\Hid (W=cd / 2 ^ (K-th))/\Y<=65536/\W<=65536) (fun _ _ d=>x-(intOf d).toNat)
     case atStart=>exact⟨th,y,cd,kR,kR,rfl,rfl,rfl,by show y=_;simp,by show cd=_;simp,kR,kR⟩
     case round=>
      obtain⟨K,Y,W,bu,bB,rfl,rfl,rfl,hY,hW,bE,bA⟩:=hrel;by_cases bt:K<x
      ·have aV:Y / 2=y / 2 ^ (K+1-th):=(by rw[hY.out,show K+1-th=(K-th)+1 by omega,ER,JR]);have a3:W / 2=cd / 2 ^ (K+1-th):=(by rw[hW.out,show K+1-th=(K-th)+1 by omega,ER,JR]);have bf:=hid aV;have bh:=hid a3;clear hY hW aV a3;go_wp2_with fail
       go_round
       case measure=>exact jw
       case rel=>go_light;exact⟨K+1,Y / 2,W / 2,kR,kR,jx,jx,jx,bf.out,bh.out,kR,kR⟩
      ·obtain rfl:K=x:=by omega
       have be:Hid (Ek ls X th s=decide (Y=W)):=(by show _=_;rw[HB.out,hY.out,hW.out]);have az:Hid (∃q,w3=w0.drewN q):=(by obtain⟨q,hq⟩:=E.out;exact⟨_,by rw[bb.out,hq,Dh]⟩);clear hY hW;cases pt
       ·have L:Hid (((Y:Int)==(W:Int))=(List.range (s+1)).any (Ek ls X th)):=by
         show _=_;rw[LY,be.out,<-j.out,Bool.false_or];by_cases h:Y=W
         ·subst h;simp
         ·rw[Az h];simp;omega
        clear j;go_wp2_with fail;go_roundw
        case measure=>exact jw
        case rel=>go_light;exact⟨s+1,_,kR,jx,rfl,N.out,L.out,az.out⟩
       ·have L:Hid (true=(List.range (s+1)).any (Ek ls X th)):=(by show _=_;rw[LY,<-j.out,Bool.true_or]);clear j;go_wp2_with fail;go_roundw
        case measure=>exact jw
        case rel=>go_light;exact⟨s+1,true,kR,jx,rfl,N.out,L.out,az.out⟩
  ·obtain rfl:s=n:=by omega
   have hG:=VL (X:=X) (th:=th) (ls:=ls) (fun t ht=>z.out t (by rw[am.out];exact ht));rw[<-am.out,<-j.out]at hG;have HG:=hid hG;clear hG z j;cases pt
   ·go_wp2_with fail;go_ret2;rw[HG.out];exact⟨rfl,Z.out,ak.out⟩
   ·go_wp2_with fail;go_ret2;rw[HG.out];exact⟨rfl,Z.out,ak.out⟩
end Huff
namespace Huff
open Go.RowKit Mem Canon Own
structure RB (w wr:World) (ls:List Nat) (p:Nat) (v:Value):Prop where
 blk:Blk wr w 392 #[v,iT]
 own:wr.ownsRow (w.heap.size+1) 5 1 v p (cZ .u8 (b01 ((Bg ls).take p)))
 bel:aO w wr
theorem Ye{i k:Nat}(hx:ls[i]? =some x)(hk:k<8):b01 ((Bg ls).take (8*i+k+1))=b01 ((Bg ls).take (8*i+k))++ [x / 2 ^ (7-k) % 2]:=by
 have hi:=(Ch.1 hx).1;have h:8*i+k<(Bg ls).length:=by rw[Dy];omega
 rw[EG,AE h];have hb:=Pt (ls:=ls) (i:=8*i+k) kR;rw[show(8*i+k) / 8=i by omega,show(8*i+k) % 8=k by omega]at hb;have hg:ls.getD i 0=x:=by simp[List.getD_eq_getElem?_getD,hx]
 rw[hg]at hb;have j:(if(Bg ls)[8*i+k]=true then 1 else 0)=x / 2 ^ (7-k) % 2:=by rw[<-hb];unfold bit;simp[List.getD_eq_getElem?_getD,h]
 unfold b01;rw[Is];congr 1;show [if(Bg ls)[8*i+k]=true then 1 else 0]=_;rw[j]
theorem W4(x k M:Nat)(hx:x<=255)(hk:k<8)(hM:M=128 / 2 ^ k):IntKind.u8.wrap ((IntKind.i64.wrap ((IntKind.i64.wrap (x:Int)).tdiv (M:Int))).tmod 2)=((x / 2 ^ (7-k) % 2:Nat):Int):=by
 have e:M=2 ^ (7-k):=by
  have:k=0∨k=1∨k=2∨k=3∨k=4∨k=5∨k=6∨k=7:=kR
  rcases this with rfl|rfl|rfl|rfl|rfl|rfl|rfl|rfl<;>rw[hM]
 rw[<-e,Am (x:Int) kR,Int.tdiv_eq_ediv_of_nonneg kR,<-Int.natCast_ediv];have h:=Hh x M;generalize x / M=y at *;rw[Am (y:Int) kR,Int.tmod_eq_emod_of_nonneg kR,IntKind.wrap_u8];omega
theorem PK(w:World)(A:Option Addr)(n c:Nat)(ls:List Nat)(hn:ls.length=n)(av:n<=100000)(h8:∀x∈ls,x<=255)(ha:Row w w A n 1 (jZ .u8 ls)):
 Calls prog 264 #[.slice A n c] w fun e w'=>∃g,e= .returned (.pointer (some ⟨g,0,none⟩))/\RRd w' g w' (Bg ls) 0/\w.heap.size<=g/\aO w w':=by
 obtain⟨j0,ag,ak,al,aj⟩:=info_parts Ct;have HN:=hid hn;have H8:=hid h8;clear hn h8;go_enter func264,ntmps264;go_wp2_with fail;go_loopw [4,5,6] (fun i _ _ wr=>∃ (k:Nat) (v:Value),k<=n/\i= .int .i64 k/\Hid (RB w wr ls (8*k) v)) (fun i _ _ _=>n-(intOf i).toNat)
 case atStart=>exact⟨0, .slice none 0 0,kR,rfl,⟨Blk.made _ _ _,by simpa[b01,cZ]using Aq _ _ _ _,bZ (Ag _ _)⟩⟩
 case round=>
  obtain⟨i,v,hi,rfl,hB⟩:=hrel;by_cases ai:i<n
  ·go_wp2_with fail;go_loopw [5,6] (fun m j wr=>∃ (k M:Nat) (v:Value),k<=8/\j= .int .i64 k/\m= .int .i64 M/\Hid (M=128 / 2 ^ k)/\M<=128/\Hid (RB w wr ls (8*i+k) v)) (fun _ j _=>8-(intOf j).toNat)
   case atStart=>exact⟨0,128,v,kR,rfl,rfl,rfl,kR,hB.out⟩
   case round=>
    clear hB;obtain⟨k,M,v,hk,rfl,rfl,hM,aw,hB⟩:=hrel;by_cases ab:k<8
    ·have J:=hB.out.bel;obtain⟨b,au,x,rfl,aq,hx,d0⟩:=CD (ha.below J) HN.out ai;have Y:=H8.out x (BP hx);have z:=hB.out.own;have Z:=fZ z hB.out.blk iX;obtain⟨AS,cS,rfl⟩:=aZ z;obtain⟨q,hq⟩:=iS (8*i+k);have ay:q<=800000:=kR;rw[<-hq]at z Z;have e0:=hB.out.blk.iO 0;have f0:=hB.out.blk.frozen 0;rw[<-hq]at e0;have ax:0<M:=(by rw[hM.out];exact Nat.div_pos (by have:2 ^ k<=2 ^ 7:=BQ kR kR;omega) (GE _));have az:((M:Int)==0)=false:=ni;have ar:¬M=0:=kR;have x0:(0:Int)<=(i:Int):=kR;have x1:(i:Int)<(n:Int):=kR;have ah:=hB.out.blk.lt;have L:some w.heap.size≠(Value.slice AS q cS).ownBlock:=Br Z;have HQ:=hid hq;have HX:=hid hx;clear hq hx Z;go_upto_region 9 with fail;go_region_law((refine step_append_lies _ kU _ _ _ kU (w.heap.size+1) 5 j0 _ 1 1 underlying28 ag ak al aj rfl kR (.slice AS q cS) q (cZ .u8 (b01 ((Bg ls).take q))) kU ((z.alloc _).drew) ⟨wr,0,none⟩ 1 1 [.int .u8 (IntKind.u8.wrap ((IntKind.i64.wrap ((IntKind.i64.wrap (x:Int)).tdiv (M:Int))).tmod 2))] kU kU (World.news_of_block (cs:=#[.int .u8 (IntKind.u8.wrap ((IntKind.i64.wrap ((IntKind.i64.wrap (x:Int)).tdiv (M:Int))).tmod 2))]) (t:=5) (fr:=(0,0)) (heap_alloc_new wr _)) kA kR nI kR ni (wr.heap.size+1) mY ?_;intro g3 aa w3 G E am an;have gb:w3.heap[w.heap.size]? =wr.heap[w.heap.size]? :=(E.block w ni L).trans (Ca wr _ w ah);have p3:=(World.cell?_of_block (a:=⟨w,0,none⟩) gb).trans e0;have p4:=(World.frozen?_of_block (a:=⟨w,0,none⟩) gb).trans f0))
     all_goals
      have N:=W4 x k M Y ab hM.out;rw[N]at G;have Q:=hid G;have U:=hid E;clear G E N;go_wp2_with fail;go_roundw
      case measure=>exact jw
      case rel=>
       go_light;have ae:M / 2=128 / 2 ^ (k+1):=by rw[hM.out,ER,JR]
       have ac:g3≠w.heap.size:=by
        rcases am with h|h
        ·exact fun e=>L (by rw[h,e])
        ·omega
       refine⟨k+1,M / 2,_,kR,jx,jx,ae,kR,⟨(show Blk w3 w _ _ from gb.trans hB.out.blk).set 0 (.slice (some ⟨g3,0,none⟩) (q+1) aa),?_,kZ (p:=⟨w,0,none⟩) (Ai _) ((((lZ J.size J)).drew).grown U.out ni (fun y hy=>by have:=(Ae z y hy).1;omega))⟩⟩;have e:8*i+(k+1)=q+1:=(by rw[HQ.out];rfl);rw[e];have e2:cZ .u8 (b01 ((Bg ls).take (q+1)))=cZ .u8 (b01 ((Bg ls).take q))++ [.int .u8 ((x / 2 ^ (7-k) % 2:Nat):Int)]:=(by rw[HQ.out,Ye HX.out ab,VN]);rw[e2];exact dZ Q.out (fun y hy=>by have hy:g3=y:=(by simpa[Value.ownBlock]using hy);subst hy;exact AJ _ _ _ g3 ac)
    ·obtain rfl:k=8:=by omega
     go_wp2_with fail;go_roundw
     case measure=>exact jw
     case rel=>go_light;exact⟨i+1,v,kR,jx,by rw[show 8*(i+1)=8*i+8 by omega];exact hB.out⟩
  ·obtain rfl:i=n:=by omega
   have af:(Bg ls).take (8*i)=Bg ls:=BR (by rw[Dy,HN.out];omega);go_wp2_with fail;go_ret;have z:=hB.out.own;rw[af]at z;obtain⟨AS,cS,rfl⟩:=aZ z;have hl:(Bg ls).length=8*i:=(by rw[Dy,HN.out]);refine⟨w.heap.size,rfl,⟨AS,cS,?_,?_,kR,by rw[hl];omega⟩,Ai _,hB.out.bel⟩
   ·rw[hl];exact hB.out.blk
   ·rw[hl];exact RowIn.of_own z rfl (fun a j ha hj=>by have e0:j=0:=kR;subst e0;exact numL_get (by rw[Kc,hl];exact ha))
end Huff
namespace Huff
open Go.RowKit Mem Canon Own Go.Proofs.YtfgdoknipbpfhaaGreatDoor.Open
theorem Nz(bs:List Bool)(i m:Nat)(h:yZ bs i m≠0):∀d,yZ bs i (m+d)≠0
 |0=>h
 |d+1=>by have:=Nz bs i m h d;rw[<-Nat.add_assoc,yZ];omega
theorem WI(w:World)(g hi:Nat)(bs:List Bool)(at_:Nat)(hR:RRd w g hi bs at_):
 Calls prog 269 #[.pointer (some ⟨g,0,none⟩)] w fun e w'=>e= .returned (.int .i64 (Eb bs at_))/\∃q,w'=w.drewN q:=by
 have C1:=hid (rleft_any w g hi bs at_ hR);have HR:=hid hR;have ab:at_<=bs.length/\bs.length<=800000:=by obtain⟨_,_,_,_,h3,h4⟩:=hR;exact⟨h3,h4⟩
 obtain⟨N,U⟩:=ab;clear hR;by_cases h8:bs.length-at_<8
 ·have x8:¬(8:Int)<=((bs.length-at_:Nat):Int):=by omega
  go_enter func269,ntmps269;go_wp2_with fail;refine C1.out.mono ?_;rintro e w1 ⟨rfl,q1,L⟩;have M:RRd w1 g hi bs at_:=by rw[L];exact HR.out
  obtain⟨A,c,c0,c1,_,E,_,_⟩:=M.cells;have HQ:=hid L;have Q:=hid E;obtain⟨z,hz⟩:=iS bs.length;rw[<-hz]at c0 N U h8;have HZ:=hid hz;clear L E M hz C1;go_wp2_with fail;go_loopw [3] (fun i wr=>∃p:Nat,at_<=p/\p<=z/\i= .int .i64 p/\Hid (yZ bs at_ (p-at_)=0)/\w1=wr) (fun i _=>z-(intOf i).toNat)
  case atStart=>exact⟨at_,kR,kR,rfl,by show _=0;rw[Fj];rfl,rfl⟩
  case round=>
   obtain⟨p,af,ae,rfl,G,rfl⟩:=hrel;by_cases Z:p<z
   ·obtain⟨b,ac,y,rfl,_,hy,d0⟩:=CD Q.out.row (Kc bs) (show p<bs.length by rw[<-HZ.out];exact Z);have J:bit bs p=y:=k7;have Y:=E6 bs p;have j:yZ bs at_ (p+1-at_)=y:=(by rw[show p+1-at_=(p-at_)+1 by omega,yZ,G.out,show at_+(p-at_)=p by omega,J];omega);rw[J]at Y;have HS:=hid j;have x0:(0:Int)<=(p:Int):=kR;have x1:(p:Int)<(z:Int):=kR;clear hy J j;by_cases aa:y=1
    ·subst aa
     have hE:Eb bs at_=2:=by
      unfold Eb;rw[Ab]
      right
      have h:=Nz bs at_ (p+1-at_) (by rw[HS.out];omega) (bs.length-(p+1));rw[show p+1-at_+(bs.length-(p+1))=bs.length-at_ by rw[<-HZ.out];omega]at h;exact h
     have HE:=hid hE;clear hE;go_wp2_with fail;go_ret;exact⟨lK,q1,HQ.out⟩
    ·obtain rfl:y=0:=by omega
     go_wp2_with fail;go_roundw
     case measure=>exact jw
     case rel=>go_light;exact⟨p+1,kR,kR,jx,HS.out,trivial⟩
   ·obtain rfl:p=z:=by omega
    have hE:Eb bs at_=0:=(by unfold Eb;rw[<-HZ.out,Aa];rw[not_or,Nat.not_le,Decidable.not_not];exact⟨h8,G.out⟩);have HE:=hid hE;clear hE;go_wp2_with fail;go_ret;exact⟨lK,q1,HQ.out⟩
 ·have x8:(8:Int)<=((bs.length-at_:Nat):Int):=by omega
  have HE:Hid (Eb bs at_=2):=by show _=_;unfold Eb;rw[Ab (.inl kR)]
  go_enter func269,ntmps269;go_wp2_with fail;refine C1.out.mono ?_;rintro e w1 ⟨rfl,q1,rfl⟩;go_wp2_with fail;go_ret;exact⟨lK,q1,rfl⟩
end Huff
namespace Huff
open Go.RowKit Mem Canon Own
def Mw(R:List Nat×Int×Nat)(g hi:Nat)(bs:List Bool)(w:World)(e:Ending)(w':World):Prop:=
 ∃v,e= .returned (.tuple #[v,R.2.1])/\w'.ownsRow w 5 1 v R.1.length (cZ .u8 R.1)/\RRd w' g hi bs R.2.2/\Kept (fun x=>x<w.heap.size/\x≠g) w w'
theorem Qs(w:World)(g hi:Nat)(bs:List Bool)(ak n:Nat)(hn:n<=300)(aY:hi<=w.heap.size)(hR:RRd w g hi bs ak):
 Calls prog 265 #[.pointer (some ⟨g,0,none⟩), .int .i64 (n:Nat)] w (Mw (Bp bs n (n+1) [] false ak) g hi bs w):=by
 obtain⟨j0,aP,aR,ay,aQ⟩:=info_parts Ct;have a3:g<w.heap.size:=by obtain⟨_,_,h1,_⟩:=hR;exact h1.lt
 have HR:=hid hR;clear hR;go_enter func265,ntmps265;go_wp2_with fail
 go_loopw [6,7] (fun u s wr=>∃ (L at_ a:Nat) (out:List Nat) (sh:Bool),L<=n/\a<=64/\s= .int .i64 a/\Hid (sh=decide (a<64))/\wr.ownsRow w 5 1 u L (cZ .u8 out)/\Hid (out.length=L)/\
  Hid (∃f,n+1<=f+L/\Bp bs n f out sh at_=Bp bs n (n+1) [] false ak)/\Hid (RRd wr g hi bs at_)/\Hid (Kept (fun x=>x<w.heap.size/\x≠g) w wr)) (fun u _ _=>match u with| .slice _ l _=>n-l|_=>0)
 case atStart=>exact⟨0,ak,64,[],false,kR,kR,rfl,rfl,Aq _ _ _ _,rfl,⟨n+1,kR,rfl⟩,HR.out,Kept.refl _ _⟩
 case round=>
  clear HR;obtain⟨L,at_,a,out,sh,hL,ha,rfl,al,E,Y,z,ae,M⟩:=hrel;obtain⟨f,hf,z⟩:=z.out;obtain⟨f,rfl⟩:∃f',f=f'+1:=⟨f-1,kR⟩;have HF:=hid hf;obtain⟨va,vc,rfl⟩:=aZ E;by_cases a4:L<n
  ·have C1:=Ku wr g hi bs at_ 4 kR ae.out;have Z:¬n<=out.length:=(by rw[Y.out];omega);by_cases Q:at_+4<=bs.length
   ·rw[(CQ Q).1,(CQ Q).2.1,(CQ Q).2.2]at C1;have ai:=Ev bs at_ 4;obtain⟨l,hl⟩:=iS (yZ bs at_ 4);rw[<-hl]at C1 ai;have C1:=hid C1;by_cases am:l=0
    ·subst am;have az:=M.out.size;have C2:=fun wx (h:RRd wx g hi bs (at_+4))=>Ku wx g hi bs (at_+4) 6 kR h;by_cases J:at_+4+6<=bs.length
     ·rw[(CQ J).1,(CQ J).2.1,(CQ J).2.2]at C2;have au:=Ev bs (at_+4) 6;have ab:=fun h=>Rj (f:=f) (short:=sh) Z J hl.symm h;have N:=fun h=>Q6 (f:=f) (short:=sh) Z J hl.symm h;obtain⟨k,hk⟩:=iS (yZ bs (at_+4) 6);rw[<-hk]at C2 au ab N;rw[Y.out]at ab N;have C2:=hid C2;by_cases hb:sh=true∨n-L<=k
      ·rw[ab hb]at z;have HG:=hid z;by_cases aU:a<64
       ·clear z Z Q hf hl ab N hk hb J;go_wp2_with fail;refine C1.out.mono ?_;rintro e w1 ⟨rfl,U,y⟩;go_wp2_with fail;refine(C2.out _ U).mono ?_;rintro e w2 ⟨rfl,af,G⟩;go_wp2_with fail;go_ret2;rw[<-HG.out];exact⟨_,rfl,Aq _ _ _ _,af,M.out.trans (Kept.trans ⟨y.os,y.tape,y.output,y.size,fun b h=>y.block b h.2⟩ ⟨G.os,G.tape,G.output,G.size,fun b h=>G.block b h.2⟩)⟩
       ·have aT:n-L<=k:=by
         rcases hb with h|h
         ·rw[al.out]at h;simp at h;omega
         ·exact h
        clear z Z Q hf hl ab N hk hb J;obtain rfl:a=64:=kR
        clear aU;go_wp2_with fail;refine C1.out.mono ?_;rintro e w1 ⟨rfl,U,y⟩;go_wp2_with fail;refine(C2.out _ U).mono ?_;rintro e w2 ⟨rfl,af,G⟩;go_wp2_with fail;go_ret2;rw[<-HG.out];exact⟨_,rfl,Aq _ _ _ _,af,M.out.trans (Kept.trans ⟨y.os,y.tape,y.output,y.size,fun b h=>y.block b h.2⟩ ⟨G.os,G.tape,G.output,G.size,fun b h=>G.block b h.2⟩)⟩
      ·rw[N hb]at z;have HG:=hid z;obtain rfl:a=64:=by rw[al.out]at hb;simp at hb;omega
       have aT:¬(n:Int)-(L:Int)<=(k:Int):=(by intro h;exact hb (.inr kR));have an:L+(k+1)<=n:=kR;clear z Z Q hf hl ab N hk hb J;go_wp2_with fail;refine C1.out.mono ?_;rintro e w1 ⟨rfl,U,y⟩;go_wp2_with fail;refine(C2.out _ U).mono ?_;rintro e w2 ⟨rfl,af,G⟩;have aa:Kept (fun x=>x≠g) wr w2:=y.trans G;have aj:=dZ E (fun x hx=>aa.block x (by have:=(Ae E x hx).1;show x≠g;omega));have aq:Hid (Kept (fun x=>x<w.heap.size/\x≠g) w w2):=M.out.trans ⟨aa.os,aa.tape,aa.output,aa.size,fun b h=>aa.block b h.2⟩;have aX:=aq.out.size;have aw:=hid af;have ax:=hid aj;clear y G aa U af C1 C2 E M ae aj z al ha ai;have ek:((k+1:Nat):Int)=(k:Int)+1:=kR;go_wp2_with fail;go_loopw [6,11] (fun u i wx=>∃j:Nat,j<=k+1/\i= .int .i64 j/\wx.ownsRow w 5 1 u (L+j) (cZ .u8 (out++List.replicate j 0))/\Hid (RRd wx g hi bs (at_+4+6))/\Hid (Kept (fun x=>x<w.heap.size/\x≠g) w wx)) (fun _ i _=>k+1-(intOf i).toNat)
       case atStart=>exact⟨0,kR,rfl,by simpa using ax.out,aw.out,aq.out⟩
       case round=>
        clear ax aw aq;obtain⟨j,hj,rfl,E,ae,M⟩:=hrel;obtain⟨wa,wc,rfl⟩:=aZ E;have az:=M.out.size;by_cases a5:j<k+1
        ·have aV:(j:Int)<(k:Int)+1:=kR;go_wp2_with(at_builtin;refine gZ rfl (.tmp 65) (.tmp 66) 28 rfl w 5 j0 _ 1 1 underlying28 aP aR ay aQ rfl iX _ _ _ kU (E.alloc _) _ 1 1 [.int .u8 0] kU (Src.of_blk (Blk.made _ _ _) 1 1 1 rfl) kA nI kR ni ?_;intro v3 w3 ac ah av);go_roundw
         case measure=>exact jw
         case rel=>
          go_light;refine⟨j+1,kR,jx,?_,?_,?_⟩
          ·rw[List.replicate_succ',<-zY,L3,<-Nat.add_assoc];exact ac
          ·exact ae.out.keep (fun b _ h=>(ah.block b ni (fun h=>by have:=(Ae E b h.symm).1;omega)).trans (Ca wr _ b kR))
          ·exact(M.out.alloc (fun b h=>by have:=h.1;omega) _).grown ah (fun b h=>by have:=h.1;simp;omega) (fun b hb h=>by have:=(Ae E b hb).1;have:=h.1;omega)
        ·obtain rfl:j=k+1:=by omega
         go_wp2_with fail;go_roundw
         case measure=>go_light;show n-(L+(k+1))<n-L;omega
         case rel=>go_light;refine⟨L+(k+1),at_+4+6,k+1,out++List.replicate (k+1) 0,decide (k+1<64),an,kR,jx,rfl,E,?_,⟨f,ka,HG.out⟩,ae.out,M.out⟩;show(out++List.replicate (k+1) 0).length=_;rw[Aj,Do,Y.out]
     ·rw[(CP J).1,(CP J).2.1,(CP J).2.2]at C2;rw[Py Z Q hl.symm J]at z;have C2:=hid C2;have HG:=hid z;clear z Z Q hf hl J;go_wp2_with fail;refine C1.out.mono ?_;rintro e w1 ⟨rfl,U,y⟩;go_wp2_with fail;refine(C2.out _ U).mono ?_;rintro e w2 ⟨rfl,af,G⟩;go_wp2_with fail;go_ret2;rw[<-HG.out];exact⟨_,rfl,Aq _ _ _ _,af,M.out.trans (Kept.trans ⟨y.os,y.tape,y.output,y.size,fun b h=>y.block b h.2⟩ ⟨G.os,G.tape,G.output,G.size,fun b h=>G.block b h.2⟩)⟩
    ·have aW:l<16:=kR;rw[Rv Z Q (by rw[<-hl];exact am),<-hl]at z;have HG:=hid z;have a0:0<l:=kR;clear z Z Q hf hl am ai;go_wp2_with fail;refine C1.out.mono ?_;rintro e w1 ⟨rfl,U,y⟩;have ag:=dZ E (fun x hx=>y.block x (by have:=(Ae E x hx).1;show x≠g;omega));have ar:Hid (Kept (fun x=>x<w.heap.size/\x≠g) w w1):=M.out.trans ⟨y.os,y.tape,y.output,y.size,fun b h=>y.block b h.2⟩;have a1:=ar.out.size;have aS:=hid U;clear y U C1 E M ae;go_wp2_with(at_builtin;refine gZ rfl (.tmp 32) (.tmp 35) 28 rfl w 5 j0 _ 1 1 underlying28 aP aR ay aQ rfl iX _ _ _ kU (ag.alloc _) _ 1 1 [.int .u8 (l:Nat)] kU (Src.of_blk (Blk.made _ _ _) 1 1 1 rfl) kA nI kR ni ?_;intro v3 w3 ac ah av);obtain⟨A3,c3,rfl⟩:=aZ ac;go_roundw
     case measure=>go_light;show n-(L+1)<n-L;omega
     case rel=>
      go_light;refine⟨L+1,at_+4,64,out++ [l],false,kR,kR,rfl,rfl,?_,?_,⟨f,ka,HG.out⟩,?_,?_⟩
      ·rw[L3];exact ac
      ·show(out++ [l]).length=_;rw[Aj,Y.out];rfl
      ·exact aS.out.keep (fun b _ h=>(ah.block b ni (fun h=>by have:=(Ae ag b h.symm).1;omega)).trans (Ca w1 _ b kR))
      ·exact(ar.out.alloc (fun b h=>by have:=h.1;omega) _).grown ah (fun b h=>by have:=h.1;simp;omega) (fun b hb h=>by have:=(Ae ag b hb).1;have:=h.1;omega)
   ·rw[(CP Q).1,(CP Q).2.1,(CP Q).2.2]at C1;rw[Pk Z Q]at z;have C1:=hid C1;have HG:=hid z;clear z Z Q hf;go_wp2_with fail;refine C1.out.mono ?_;rintro e w1 ⟨rfl,U,y⟩;go_wp2_with fail;go_ret2;rw[<-HG.out];exact⟨_,rfl,Aq _ _ _ _,U,M.out.trans ⟨y.os,y.tape,y.output,y.size,fun b h=>y.block b h.2⟩⟩
  ·obtain rfl:L=n:=by omega
   rw[RK (by rw[Y.out];omega)]at z;have N:Row wr wr va L 1 (jZ .u8 out):=Row.of_own E rfl (fun i j hi hj=>by have e0:j=0:=kR;subst e0;exact numL_get (by rw[Y.out];exact hi));have C3:=refcheck_any wr va L vc out Y.out kR N;have az:=M.out.size;unfold Fx at C3;cases hok:okB out
   ·rw[hok]at C3 z;rw[Aa mY]at z;have C3:=hid C3;have HG:=hid z;clear z hok N hf;go_wp2_with fail;refine C3.out.mono ?_;rintro e w1 ⟨rfl,rfl⟩;go_wp2_with fail;go_ret2;rw[<-HG.out];exact⟨_,rfl,Aq _ _ _ _,ae.out,M.out⟩
   ·rw[hok]at C3 z;rw[Ab rfl]at z;have C3:=hid C3;have HG:=hid z;clear z hok N hf;go_wp2_with fail;refine C3.out.mono ?_;rintro e w1 ⟨rfl,rfl⟩;go_wp2_with fail;go_ret2;rw[<-HG.out];refine⟨_,rfl,?_,ae.out,M.out⟩;show World.ownsRow _ _ _ _ _ out.length _;rw[Y.out];exact E
end Huff
namespace Huff
open Go.RowKit Mem Canon Own
open Toks (Tk Pc CH Dv pw BS)
theorem UF{r y:Nat}(h1:257<=s)(h2:s<=264)(h3:r<=11)(hx:x<2 ^ (s-257))(hy:y<2 ^ r):Dv ⟨(s:Int),(x:Int),(r:Int),(y:Int)⟩=0:=by
 have p1:pw ((s:Int)-257)=((2 ^ (s-257):Nat):Int):=by unfold pw;rw[show((s:Int)-257).toNat=s-257 by omega]
 have p2:pw (r:Int)=((2 ^ r:Nat):Int):=by unfold pw;rw[CA]
 exact(Toks.Ns ⟨(s:Int),(x:Int),(r:Int),(y:Int)⟩ m8 m8 m8 m8 (by simp only;rw[p1];omega) (by simp only;rw[p2];omega)).2
theorem Qi(w:World)(A:Option Addr)(n c:Nat)(lb:List Nat)(most:Int)(cV:0<=most)(dg:most<=9223372036854775807)(hn:lb.length=n)(hN:n<=100000)(h8:∀x∈lb,x<=255)(ha:Row w w A n 1 (jZ .u8 lb)):
 Calls prog 215 #[.slice A n c,most] w (Il (BX lb most) w):=by
 obtain⟨j0,a9,b3,b6,b7⟩:=info_parts Lq;have C1:=hid (PK w A n c lb hn hN h8 ha);have dn:(Bg lb).length<=800000:=by rw[Dy,hn];omega
 obtain⟨RT,aY⟩:=iS (BX lb most);rw[<-aY];unfold BX at aY;rw[Aa kR]at aY;clear hn h8 ha;generalize Bg lb=bs at *;have b8:=G3 (bs:=bs) (n:=265) 266 [] false 0 mY mY;have D1:=hid (fun wx g hi h1 h2=>Qs wx g hi bs 0 265 kR h1 h2)
 change Hid (∀wx g hi,hi<=wx.heap.size->RRd wx g hi bs 0->Calls _ _ _ _ (Mw (Bp bs 265 266 [] false 0) g hi bs wx))at D1
 generalize Bp bs 265 266 [] false 0=R1 at D1 b8 aY;obtain⟨ls,e1,a1⟩:=R1;simp only at b8 aY;have a4:=G3 (bs:=bs) (n:=12) 13 [] false a1 mY mY;have D2:=hid (fun wx g hi h1 h2=>Qs wx g hi bs a1 12 kR h1 h2)
 change Hid (∀wx g hi,hi<=wx.heap.size->RRd wx g hi bs a1->Calls _ _ _ _ (Mw (Bp bs 12 13 [] false a1) g hi bs wx))at D2
 generalize Bp bs 12 13 [] false a1=R2 at D2 a4 aY;obtain⟨lf,e2,a2⟩:=R2;simp only at a4 aY;have bB:=hid aY;have cJ:=hid b8;have cM:=hid a4;clear aY b8 a4;go_enter func215,ntmps215;go_wp2_with fail;refine C1.out.mono ?_;rintro e w1 ⟨g,rfl,bV,hg,cw⟩;have z1:=cw.size;have c6:g<w1.heap.size:=by obtain⟨_,_,h1,_⟩:=bV;exact h1.lt
 obtain⟨hi,cF⟩:=iS w1.heap.size;have cg:hi<=w1.heap.size:=kR
 rw[<-cF]at bV;clear cF;go_wp2_with fail;refine(D1.out w1 g hi cg bV).mono ?_;rintro e w2 ⟨v1,rfl,bj,cD,a4⟩;simp only at bj cD;have z2:=a4.size;have cl:Hid (aO w w2):=cw.trans (a4.below (fun b h=>⟨kR,kR⟩));have cm:=hid bj;have cQ:=hid cD;clear bj cD bV a4 cw D1 C1;by_cases b0:e1=0
 ·subst b0;obtain⟨cj,cS⟩:=cJ.out rfl;have ce:=hid cj;have bg:=hid cS;clear cj cS cJ;go_wp2_with fail;refine(D2.out w2 g hi kR cQ.out).mono ?_;rintro e w3 ⟨v2,rfl,be,cr,bX⟩;simp only at be cr;have z3:=bX.size;have cz:Hid (aO w w3):=cl.out.trans (bX.below (fun b h=>⟨kR,kR⟩));have cf:=hid (dZ cm.out (fun x hx=>bX.block x (by have:=Ae cm.out x hx;exact⟨this.2,kR⟩)));have cN:=hid be;have cx:=hid cr;clear be cr bX cm cQ cl D2;by_cases bU:e2=0
  ·subst bU;obtain⟨ch,cR⟩:=cM.out rfl;have ck:=hid ch;have bh:=hid cR;have aT:Hid (RT=Dk ls lf bs (bs.length+1) most [] a2):=(by show _=_;rw[bB.out,Aa mY,Aa mY]);have ci:a2<=bs.length:=(by obtain⟨_,_,_,_,h3,_⟩:=cx.out;exact h3);clear ch cR cM bB;have bH:=cf.out;have bC:=cN.out;rw[bg.out]at bH;rw[bh.out]at bC;obtain⟨A1,c1,rfl⟩:=aZ bH;obtain⟨A2,c2,rfl⟩:=aZ bC;have N1:=hid (rnew_any w3 A1 265 c1 ls bg.out ce.out (Da bH).1 (Row.of_own bH rfl (fun i j hi hj=>by have e0:j=0:=kR;subst e0;exact numL_get (by rw[bg.out];exact hi))));have bP:Row w3 w3 A2 12 1 (jZ .u8 lf):=Row.of_own bC rfl (fun i j hi hj=>by have e0:j=0:=kR;subst e0;exact numL_get (by rw[bh.out];exact hi));have N2:=hid (fun wx (h:aO w3 wx)=>rnew_any wx A2 12 c2 lf bh.out ck.out (Da bC).1 ((bP.below h).mono h.size));clear bH bC cf cN bP;go_wp2_with fail;refine N1.out.mono ?_;rintro e w4 ⟨vl,vc,rfl,bK,cq⟩;have z4:=cq.size;obtain⟨AL,cL,rfl,_⟩:=bK.lens;obtain⟨AC,cC,rfl,_⟩:=bK.codes;rw[bg.out]at bK ⊢;have cI:=hid bK;clear bK N1;go_wp2_with fail;have ba:aO w4 (w4.alloc (.cells #[.slice AL 265 cL, .slice AC 265 cC] 272)):=bZ (Ag _ _);have bD:Blk (w4.alloc (.cells #[.slice AL 265 cL, .slice AC 265 cC] 272)) w4 272 #[.slice AL 265 cL, .slice AC 265 cC]:=Blk.made _ _ _;generalize w4.alloc (.cells #[.slice AL 265 cL, .slice AC 265 cC] 272)=w5 at *;have z5:=bD.lt;have a0:aO w3 w5:=cq.trans (ba.mono z4);have cc:Hid (RCo w5 w3 w4 (.slice AL 265 cL) (.slice AC 265 cC) ls):=cI.out.kept (Kept.of_below ba (fun k (h:k<w4.heap.size)=>h)) (fun _ _ h=>h);refine(N2.out _ a0).mono ?_;rintro e w6 ⟨ds,dm,rfl,bJ,bF⟩;have z6:=bF.size;obtain⟨BL,dL,rfl,_⟩:=bJ.lens;obtain⟨BC,dC,rfl,_⟩:=bJ.codes;rw[bh.out]at bJ ⊢;have cK:=hid bJ;have ca:Hid (RCo w6 w3 w4 (.slice AL 265 cL) (.slice AC 265 cC) ls):=cc.out.kept (Kept.of_below bF (fun k (h:k<w5.heap.size)=>h)) (fun _ _ h=>by omega);have cd:=bD.step bF;have bp:aO w3 w6:=a0.trans (bF.mono kR);clear bJ N2 cI cc bD cq ba bF a0;go_wp2_with fail;have aR:aO w6 (w6.alloc (.cells #[.slice BL 12 dL, .slice BC 12 dC] 272)):=bZ (Ag _ _);have bO:Blk (w6.alloc (.cells #[.slice BL 12 dL, .slice BC 12 dC] 272)) w6 272 #[.slice BL 12 dL, .slice BC 12 dC]:=Blk.made _ _ _;generalize w6.alloc (.cells #[.slice BL 12 dL, .slice BC 12 dC] 272)=w7 at *;have z7:=bO.lt;have aW:aO w3 w7:=bp.trans (aR.mono kR);have HP:Hid (Blk w7 w4 272 #[.slice AL 265 cL, .slice AC 265 cC]):=cd.step aR;have HQ:Hid (Blk w7 w6 272 #[.slice BL 12 dL, .slice BC 12 dC]):=bO;have cW:Hid (RCo w7 w3 w7 (.slice AL 265 cL) (.slice AC 265 cC) ls):=(ca.out.kept (Kept.of_below aR (fun k (h:k<w6.heap.size)=>h)) (fun _ _ h=>by omega)).mono (Ai _) kR;have cX:Hid (RCo w7 w3 w7 (.slice BL 12 dL) (.slice BC 12 dC) lf):=(cK.out.kept (Kept.of_below aR (fun k (h:k<w6.heap.size)=>h)) (fun _ _ h=>by omega)).mono kR kR;have a8:Hid (aO w w7):=cz.out.trans (aW.mono kR);have cH:Hid (RRd w7 g hi bs a2):=cx.out.keep (fun b h1 h2=>aW.block b kR);clear ca cK cd bO bp aW aR cz cx;have zz:g<w3.heap.size/\hi<=w3.heap.size/\w3.heap.size<=w4.heap.size/\w4.heap.size<w6.heap.size/\w6.heap.size<w7.heap.size:=kR;clear z2 z3 z4 z5 z6 z7 cg c6;obtain⟨zg,zh,z3,z4,z6⟩:=zz;generalize w3.heap.size=cP at *;generalize w4.heap.size=gc at *;generalize w6.heap.size=gd at *;go_wp2_with fail;go_loopw [14,15] (fun u m wr=>∃ (f at_ k:Nat) (M:Int) (out:List Tk),(0<=M/\M<=257*(k:Int)/\M<=most)/\m= .int .i64 M/\k<=at_/\at_<=bs.length/\Hid (out.length=k)/\wr.ownsRow w7 280 3 u k (CW out)/\Hid (bs.length+1<=f+at_)/\Hid (Dk ls lf bs f (most-M) out at_=RT)/\Hid (RRd wr g hi bs at_)/\Hid (Kept (fun x=>x<w7.heap.size/\x≠g) w7 wr)) (fun _ m _=>(most-intOf m).toNat)
   case atStart=>exact⟨bs.length+1,a2,0,0,[],⟨kR,kR,cV⟩,rfl,kR,ci,rfl,Aq _ _ _ _,mI,by rw[Int.sub_zero];exact aT.out.symm,cH.out,Kept.refl _ _⟩
   case round=>
    clear cH aT ci;obtain⟨f,at_,k,M,out,⟨dq,ar,dp⟩,rfl,dr,di,a5,al,hf,cG,cy,aX⟩:=hrel;obtain⟨f,rfl⟩:∃f',f=f'+1:=⟨f-1,by have:=hf.out;omega⟩;have c7:=aX.out.size;have bE:Blk wr gc _ _:=(aX.out.block gc ⟨kR,kR⟩).trans HP.out;have p0:=bE.iO 0;have p1:=bE.iO 1;clear bE;have aj:=fun he hm=>QD (T:=BJ ls lf bs at_) (bs:=bs) (f:=f) (M:=most-M) (out:=out) rfl he hm;have ak:=fun he=>QL (T:=BJ ls lf bs at_) (bs:=bs) (f:=f) (M:=most-M) (out:=out) rfl he;have ac:=fun he hm hl=>O4 (T:=BJ ls lf bs at_) (bs:=bs) (f:=f) (M:=most-M) (out:=out) rfl he hm hl;have N:=fun he hm hl=>P0 (T:=BJ ls lf bs at_) (bs:=bs) (f:=f) (M:=most-M) (out:=out) rfl he hm hl;have C3:=OK wr cP w7 g hi _ _ ls bs at_ ce.out (cW.out.kept aX.out (fun b h1 h2=>⟨kR,kR⟩)) c7 cy.out kR;unfold LW at C3;have ah:=Jm ls (head bs at_) (there bs at_);obtain⟨G,hG⟩:=iS (Cy ls (head bs at_) (there bs at_));rw[<-hG]at C3 ah;obtain⟨gv,ge,ga⟩:=G;simp only at C3 ah;have C3:=hid C3;have b4:=hid hG;rw[cG.out]at aj ak ac N;clear hG cG;by_cases he:ge=0
    ·subst he;obtain⟨s,rfl,hs⟩:=ah rfl;rw[bg.out]at hs;clear ah;by_cases bG:s=256
     ·subst bG;have HT:BJ ls lf bs at_=(⟨0,0,0⟩,false,0,at_+ga):=(by unfold BJ;rw[<-b4.out];rfl);rw[HT]at aj;have aq:=hid (aj rfl rfl);simp only at aq;clear aj ak ac N HT;go_wp2_with fail;refine C3.out.mono ?_;rintro e w8 ⟨rfl,au,E⟩;have z8:=E.size;have aw:Kept (fun x=>x<w7.heap.size/\x≠g) w7 w8:=aX.out.trans ⟨E.os,E.tape,E.output,E.size,fun b h=>E.block b ⟨ko,h.2⟩⟩;have aS:Hid (aO w w8):=a8.out.trans (aw.below (fun b h=>⟨kR,kR⟩));have af:w8.ownsRow w7 280 3 _ k (CW out):=dZ al (fun x hx=>E.block x j7);have C4:=WI w8 g hi bs (at_+ga) au;rcases O9 bs (at_+ga)with hp|hp
      ·rw[hp]at C4;have bk:Hid (RT=(out,0)):=(by show _=_;rw[aq.out,Ab hp]);have C4:=hid C4;clear hp aq;go_wp2_with fail;refine C4.out.mono ?_;rintro e w9 ⟨rfl,q,rfl⟩;go_wp2_with fail;go_ret2;rw[bk.out];refine⟨_,rfl,?_,below_drewN aS.out q⟩;show World.ownsRow _ _ _ _ _ out.length _;rw[a5.out];exact iZ af kR
      ·rw[hp]at C4;have bk:Hid (RT=([],2)):=(by show _=_;rw[aq.out,Aa (by rw[hp];decide)]);have C4:=hid C4;clear hp aq;go_wp2_with fail;refine C4.out.mono ?_;rintro e w9 ⟨rfl,q,rfl⟩;go_wp2_with fail;go_ret2;rw[bk.out];exact⟨_,rfl,Aq _ _ _ _,below_drewN aS.out q⟩
     ·have de:((s:Int)==256)=false:=ni;by_cases c9:s<256
      ·obtain⟨cU,cO⟩:=Toks.Pb (s:Int) kR kR;have HT:BJ ls lf bs at_=(CH ⟨(s:Int),0,0,0⟩,true,0,at_+ga):=(by unfold BJ;rw[<-b4.out,cU];simp only;rw[Aa kR,Aa kR,Ab kR]);have HJ:=fun wx=>Toks.OM ⟨(s:Int),0,0,0⟩ wx m8 m8 mY mY;rw[cO]at HJ;have Z:=KV (ls:=ls) (lf:=lf) (by rw[bg.out];omega) (by rw[bh.out];omega) bs (at_:=at_);rw[HT]at ac N Z;have ay:=hid (ac rfl rfl);have aa:=hid (N rfl rfl);obtain⟨Z,a7⟩:=Z rfl;have Z:=Z rfl;generalize CH ⟨(s:Int),0,0,0⟩=t at *;obtain⟨ta,bS⟩:=iS (at_+ga);rw[<-bS]at C3 aa a7;obtain⟨lit,len,dist⟩:=t;obtain⟨_,⟨l0,l1⟩,l2,l3⟩:=Z;unfold Toks.Tk.val Toks.Pc.val at HJ;simp only at ay aa a7 l0 l1 l2 l3 HJ;have HJ:=hid HJ;clear aj ak ac N HT;clear bS cU cO bG;go_wp2_with fail;refine C3.out.mono ?_;rintro e w8 ⟨rfl,au,E⟩;have z8:=E.size;have aw:Kept (fun x=>x<w7.heap.size/\x≠g) w7 w8:=aX.out.trans ⟨E.os,E.tape,E.output,E.size,fun b h=>E.block b ⟨ko,h.2⟩⟩;have aS:Hid (aO w w8):=a8.out.trans (aw.below (fun b h=>⟨kR,kR⟩));have af:w8.ownsRow w7 280 3 _ k (CW out):=dZ al (fun x hx=>E.block x j7);go_wp2_with fail;have am:Hid (RRd (w8.alloc (.cells #[.int .i64 (s:Nat),iT,iT,iT] 276)) g hi bs ta):=au.keep (fun b _ h=>Ca w8 _ b kR);have K9:Hid (Kept (fun x=>x<w7.heap.size/\x≠g) w7 (w8.alloc (.cells #[.int .i64 (s:Nat),iT,iT,iT] 276))):=aw.alloc (fun b h=>by have:=h.1;omega) _;have an:Hid ((w8.alloc (.cells #[.int .i64 (s:Nat),iT,iT,iT] 276)).ownsRow w7 280 3 _ k (CW out)):=af.alloc _;generalize w8.alloc (.cells #[.int .i64 (s:Nat),iT,iT,iT] 276)=w9 at *;clear au aw af aS E al cy aX C3 p0 p1;have z9:=K9.out.size;by_cases c0:0<len
       ·by_cases hl:most-M-len<0
        ·refine(HJ.out _).mono ?_;rintro e J ⟨rfl,z⟩;have aV:=z.size;go_wp2_with fail;go_ret2;rw[ay.out kR];exact⟨_,rfl,Aq _ _ _ _,lZ kR ((a8.out.trans (K9.out.below (fun b h=>⟨kR,kR⟩))).trans (z.mono kR))⟩
        ·have hq:M+len<=most/\M+len<=257*((k:Int)+1):=kR;have bb:Hid (Dk ls lf bs f (most-(M+len)) (out++ [⟨lit,len,dist⟩]) ta=RT):=mR;refine(HJ.out _).mono ?_;rintro e J ⟨rfl,z⟩;have aV:=z.size;have az:ta<=bs.length:=kJ;have L:=hid (dZ an.out (fun x hx=>z.block x (Ae an.out x hx).2));have ag:Hid (Kept (fun x=>x<w7.heap.size/\x≠g) w7 J):=K9.out.trans (Kept.of_below z (fun b h=>by have:=h.1;omega));have ax:Hid (RRd J g hi bs ta):=am.out.keep (fun b _ h=>z.block b kR);have bW:=ag.out.size;obtain⟨va,vc,rfl⟩:=aZ L.out;clear z an K9 am;go_wp2_with(at_builtin;refine gZ rfl (.tmp 122) (.tmp 124) 190 rfl w7 280 j0 _ 3 24 underlying190 a9 b3 b6 b7 rfl iX _ _ _ kU ((L.out.alloc _).alloc _) _ 1 1 [.int .u8 lit, .int .i64 _, .int .i64 dist] kU (Src.of_blk (g:=J.heap.size+1) (Blk.made_at _ _ _ mY) 1 1 3 rfl) kx nI kR ni ?_;intro v4 bq ab ae bc);go_roundw
         case measure=>exact jt
         case rel=>
          go_light;refine⟨f,ta,k+1,M+len,out++ [⟨lit,len,dist⟩],⟨kR,kR,hq.1⟩,by congr 1;omega,kR,az,?_,?_,?_,bb,?_,?_⟩
          ·show(out++ [_]).length=k+1;rw[Aj,a5.out];rfl
          ·rw[IU];exact ab
          ·show _<=_;have:=hf.out;omega
          ·exact ax.out.keep (fun b _ h2=>(ae.block b ni (fun h=>by have:=(Ae L.out b h.symm).1;omega)).trans ((Ca _ _ b ni).trans (Ca J _ b kR)))
          ·exact((ag.out.alloc (fun b h=>by have:=h.1;omega) _).alloc (fun b h=>by have:=h.1;simp;omega) _).grown ae (fun b h=>by have:=h.1;simp;omega) (fun b hb hh=>by have:=(Ae L.out b hb).1;have:=hh.1;omega)
       ·obtain rfl:len=0:=by omega
        by_cases hl:most-M-1<0
        ·refine(HJ.out _).mono ?_;rintro e J ⟨rfl,z⟩;have aV:=z.size;go_wp2_with fail;go_ret2;rw[ay.out kR];exact⟨_,rfl,Aq _ _ _ _,lZ kR ((a8.out.trans (K9.out.below (fun b h=>⟨kR,kR⟩))).trans (z.mono kR))⟩
        ·have hq:M+1<=most/\M+1<=257*((k:Int)+1):=kR;have bb:Hid (Dk ls lf bs f (most-(M+1)) (out++ [⟨lit,0,dist⟩]) ta=RT):=mR;refine(HJ.out _).mono ?_;rintro e J ⟨rfl,z⟩;have aV:=z.size;have az:ta<=bs.length:=kJ;have L:=hid (dZ an.out (fun x hx=>z.block x (Ae an.out x hx).2));have ag:Hid (Kept (fun x=>x<w7.heap.size/\x≠g) w7 J):=K9.out.trans (Kept.of_below z (fun b h=>by have:=h.1;omega));have ax:Hid (RRd J g hi bs ta):=am.out.keep (fun b _ h=>z.block b kR);have bW:=ag.out.size;obtain⟨va,vc,rfl⟩:=aZ L.out;clear z an K9 am;go_wp2_with(at_builtin;refine gZ rfl (.tmp 122) (.tmp 124) 190 rfl w7 280 j0 _ 3 24 underlying190 a9 b3 b6 b7 rfl iX _ _ _ kU ((L.out.alloc _).alloc _) _ 1 1 [.int .u8 lit, .int .i64 _, .int .i64 dist] kU (Src.of_blk (g:=J.heap.size+1) (Blk.made_at _ _ _ mY) 1 1 3 rfl) kx nI kR ni ?_;intro v4 bq ab ae bc);go_roundw
         case measure=>exact jt
         case rel=>
          go_light;refine⟨f,ta,k+1,M+1,out++ [⟨lit,0,dist⟩],⟨kR,kR,hq.1⟩,rfl,kR,az,?_,?_,?_,bb,?_,?_⟩
          ·show(out++ [_]).length=k+1;rw[Aj,a5.out];rfl
          ·rw[IU];exact ab
          ·show _<=_;have:=hf.out;omega
          ·exact ax.out.keep (fun b _ h2=>(ae.block b ni (fun h=>by have:=(Ae L.out b h.symm).1;omega)).trans ((Ca _ _ b ni).trans (Ca J _ b kR)))
          ·exact((ag.out.alloc (fun b h=>by have:=h.1;omega) _).alloc (fun b h=>by have:=h.1;simp;omega) _).grown ae (fun b h=>by have:=h.1;simp;omega) (fun b hb hh=>by have:=(Ae L.out b hb).1;have:=hh.1;omega)
      ·obtain⟨m,hm⟩:=iS (s-257);have cE:(s:Int)-257=(m:Int):=kR;have s1:IntKind.i64.wrap ((s:Int)-257)=(m:Int):=(by rw[Am _ kR,cE]);have dk:m<=7:=kR;have da:257<=s:=by omega
       have bd:BJ ls lf bs at_=((Cj lf bs s (at_+ga)).1,decide ((Cj lf bs s (at_+ga)).2.1=0),(Cj lf bs s (at_+ga)).2.1,(Cj lf bs s (at_+ga)).2.2):=(by unfold BJ;rw[<-b4.out];simp only;rw[Aa kR,Aa kR,Aa kR,CA]);have bd:=hid bd;have dd:=hid aj;have bR:=hid ak;have cB:=hid ac;have bY:=hid N;have HM:=hid hm;have df:=hid cE;obtain⟨a3,ct⟩:=iS (at_+ga);rw[<-ct]at C3 bd;have dh:=hid ct;clear aj ak ac N bG hm cE ct c9;go_wp2_with fail;refine C3.out.mono ?_;rintro e w8 ⟨rfl,au,E⟩;have z8:=E.size;have aw:Kept (fun x=>x<w7.heap.size/\x≠g) w7 w8:=aX.out.trans ⟨E.os,E.tape,E.output,E.size,fun b h=>E.block b ⟨ko,h.2⟩⟩;have aS:Hid (aO w w8):=a8.out.trans (aw.below (fun b h=>⟨kR,kR⟩));have af:w8.ownsRow w7 280 3 _ k (CW out):=dZ al (fun x hx=>E.block x j7);go_wp2_with fail;have aP:Blk (w8.alloc (.cells #[.int .i64 (s:Nat),iT,iT,iT] 276)) w8 276 #[.int .i64 (s:Nat),iT,iT,iT]:=Blk.made _ _ _;have L9:Kept (fun x=>x<w8.heap.size/\x≠g) w8 (w8.alloc (.cells #[.int .i64 (s:Nat),iT,iT,iT] 276)):=Kept.of_below (bZ (Ag _ _)) (fun b h=>h.1);have bL:RRd (w8.alloc (.cells #[.int .i64 (s:Nat),iT,iT,iT] 276)) g hi bs a3:=au.keep (fun b _ h=>Ca w8 _ b kR);generalize w8.alloc (.cells #[.int .i64 (s:Nat),iT,iT,iT] 276)=w9 at *;have C4:=Ku w9 g hi bs a3 m kR bL;have dc:=hid bL;have cp:=hid af;have b5:=hid aw;clear au bL af aw E al cy aX C3 p0 p1;by_cases Y:a3+m<=bs.length
       ·rw[(CQ Y).1,(CQ Y).2.1,(CQ Y).2.2]at C4;have C4:=hid C4;have cA:=hid Y;have bA:=Ev bs a3 m;have c8:yZ bs a3 m<256:=Em bA jT;obtain⟨x,hx⟩:=iS (yZ bs a3 m);rw[<-hx]at C4 c8;have HX:=hid hx;clear hx bA Y;refine C4.out.mono ?_;rintro e J ⟨rfl,bf,U⟩;have aP:Blk J w8 _ _:=(U.block w8 (by show w8.heap.size≠g;omega)).trans aP;have bm:=L9.trans ⟨U.os,U.tape,U.output,U.size,fun b h=>U.block b h.2⟩;have y0:=aP.frozen 1;have y6:=aP.iO 1;have aV:=aP.lt;have bT:Blk J gd _ _:=((b5.out.trans ⟨bm.os,bm.tape,bm.output,bm.size,fun b h=>bm.block b ⟨ko,h.2⟩⟩).block gd ⟨kR,kR⟩).trans HQ.out;have q0:=bT.iO 0;have q1:=bT.iO 1;have dl:gd≠w8.heap.size:=kR;clear L9 U C4 bT;go_wp2_with fail;have aU:Blk (J.setCell ⟨w8,1,none⟩ (.int .i64 (x:Nat))) w8 276 #[.int .i64 (s:Nat), .int .i64 (x:Nat),iT,iT]:=aP.set 1 _;have a6:Kept (fun x=>x<w8.heap.size/\x≠g) w8 (J.setCell ⟨w8,1,none⟩ (.int .i64 (x:Nat))):=bm.set (fun h=>absurd h.1 (BY _)) _;have bI:RRd (J.setCell ⟨w8,1,none⟩ (.int .i64 (x:Nat))) g hi bs (a3+m):=bf.keep (fun b _ h=>AJ _ _ _ b mV);have bW:=a6.size;generalize J.setCell ⟨w8,1,none⟩ (.int .i64 (x:Nat))=bq at *;have cT:Kept (fun x=>x<w7.heap.size/\x≠g) w7 bq:=b5.out.trans ⟨a6.os,a6.tape,a6.output,a6.size,fun b h=>a6.block b ⟨ko,h.2⟩⟩;have C5:=OK bq cP w7 g hi _ _ lf bs (a3+m) ck.out (cX.out.kept cT (fun b h1 h2=>⟨kR,kR⟩)) kR bI kR;unfold LW at C5;have ah:=Jm lf (head bs (a3+m)) (there bs (a3+m));obtain⟨G,hG⟩:=iS (Cy lf (head bs (a3+m)) (there bs (a3+m)));rw[<-hG]at C5 ah;obtain⟨hv,he,hx⟩:=G;simp only at C5 ah;have bk:=hid hG;clear hG bm aP q0 q1 y0 y6 bf cT bI;refine C5.mono ?_;rintro e bt ⟨rfl,bN,aQ⟩;have av:Blk bt w8 _ _:=(aQ.block w8 ⟨aU.lt,kR⟩).trans aU;have b9:Kept (fun x=>x<w8.heap.size/\x≠g) w8 bt:=a6.trans ⟨aQ.os,aQ.tape,aQ.output,aQ.size,fun b h=>aQ.block b ⟨ko,h.2⟩⟩;have y0:=av.frozen 2;have y5:=av.iO 2;have dt:=b9.size;clear aU a6 C5 aQ;by_cases bQ:he=0
        ·subst bQ;obtain⟨r,rfl,hr⟩:=ah rfl;rw[bh.out]at hr;clear ah;go_wp2_with fail;have bn:Blk (bt.setCell ⟨w8,2,none⟩ (.int .i64 (r:Nat))) w8 276 #[.int .i64 (s:Nat), .int .i64 (x:Nat), .int .i64 (r:Nat),iT]:=av.set 2 _;have b1:Kept (fun x=>x<w8.heap.size/\x≠g) w8 (bt.setCell ⟨w8,2,none⟩ (.int .i64 (r:Nat))):=b9.set (fun h=>absurd h.1 (BY _)) _;have bM:RRd (bt.setCell ⟨w8,2,none⟩ (.int .i64 (r:Nat))) g hi bs (a3+m+hx):=bN.keep (fun b _ h=>AJ _ _ _ b mV);have dj:=b1.size;generalize bt.setCell ⟨w8,2,none⟩ (.int .i64 (r:Nat))=c5 at *;clear av b9 y0 y5 bN;have C6:=Ku c5 g hi bs (a3+m+hx) r kR bM;by_cases Y:a3+m+hx+r<=bs.length
         ·rw[(CQ Y).1,(CQ Y).2.1,(CQ Y).2.2]at C6;have cv:=Ev bs (a3+m+hx) r;have c4:yZ bs (a3+m+hx) r<4096:=Em cv (by have:2 ^ r<=2 ^ 11:=BQ kR kR;omega);have co:yZ bs (a3+m+hx) r<2 ^ r:=cv;obtain⟨y,hy⟩:=iS (yZ bs (a3+m+hx) r);have ar:Cj lf bs s a3=(CH ⟨(s:Int),(x:Int),(r:Int),(y:Int)⟩,Dv ⟨(s:Int),(x:Int),(r:Int),(y:Int)⟩,a3+m+hx+r):=(by unfold Cj;rw[<-HM.out,Aa (fun h=>h cA.out),<-bk.out];simp only[ne_eq,not_true_eq_false,if_false,Int.toNat_natCast];rw[Aa (fun h=>h Y),<-HX.out,<-hy]);have bA:=Ev bs a3 m;rw[<-HX.out]at bA;rw[<-hy]at C6 co c4;have a9:Dv ⟨(s:Int),(x:Int),(r:Int),(y:Int)⟩=0:=UF kR kR kR (by rw[<-HM.out];exact bA) co;rw[a9]at ar;have HT:BJ ls lf bs at_=(CH ⟨(s:Int),(x:Int),(r:Int),(y:Int)⟩,true,0,a3+m+hx+r):=(by rw[bd.out,ar];rfl);have HJ:=fun wx=>Toks.OM ⟨(s:Int),(x:Int),(r:Int),(y:Int)⟩ wx m8 m8 m8 m8;rw[a9]at HJ;have ac:=cB.out;have N:=bY.out;have aj:=trivial;have ak:=trivial;have Z:=KV (ls:=ls) (lf:=lf) (by rw[bg.out];omega) (by rw[bh.out];omega) bs (at_:=at_);rw[HT]at ac N Z;have ay:=hid (ac rfl rfl);have aa:=hid (N rfl rfl);obtain⟨Z,a7⟩:=Z rfl;have Z:=Z rfl;generalize CH ⟨(s:Int),(x:Int),(r:Int),(y:Int)⟩=t at *;obtain⟨ta,bS⟩:=iS (a3+m+hx+r);rw[<-bS]at C6 aa a7;obtain⟨lit,len,dist⟩:=t;obtain⟨_,⟨l0,l1⟩,l2,l3⟩:=Z;unfold Toks.Tk.val Toks.Pc.val at HJ;simp only at ay aa a7 l0 l1 l2 l3 HJ;have HJ:=hid HJ;clear aj ak ac N HT;clear bS hy cv co bA ar a9 Y;refine C6.mono ?_;rintro e bu ⟨rfl,bi,Q⟩;have ai:Blk bu w8 _ _:=(Q.block w8 (by show w8.heap.size≠g;omega)).trans bn;have cu:Kept (fun x=>x<w8.heap.size/\x≠g) w8 bu:=b1.trans ⟨Q.os,Q.tape,Q.output,Q.size,fun b h=>Q.block b h.2⟩;have y0:=ai.frozen 3;have y1:=ai.iO 0;have y2:=ai.iO 1;have y3:=ai.iO 2;have y4:=ai.iO 3;have c3:=cu.size;clear bn b1 C6 Q bM;go_wp2_with fail;have bl:Kept (fun x=>x<w8.heap.size/\x≠g) w8 (bu.setCell ⟨w8,3,none⟩ (.int .i64 (y:Nat))):=cu.set (fun h=>absurd h.1 (BY _)) _;have am:Hid (RRd (bu.setCell ⟨w8,3,none⟩ (.int .i64 (y:Nat))) g hi bs ta):=bi.keep (fun b _ h=>AJ _ _ _ b mV);generalize bu.setCell ⟨w8,3,none⟩ (.int .i64 (y:Nat))=cY at *;have K9:Hid (Kept (fun x=>x<w7.heap.size/\x≠g) w7 cY):=b5.out.trans ⟨bl.os,bl.tape,bl.output,bl.size,fun b h=>bl.block b ⟨ko,h.2⟩⟩;have an:=hid (dZ cp.out (fun x hx=>bl.block x (by have:=Ae cp.out x hx;exact⟨this.2,kR⟩)));have z9:=K9.out.size;clear cu bl ai y0 y1 y2 y3 y4 bi cp b5;by_cases c0:0<len
          ·by_cases hl:most-M-len<0
           ·refine(HJ.out _).mono ?_;rintro e J ⟨rfl,z⟩;have aV:=z.size;go_wp2_with fail;go_ret2;rw[ay.out kR];exact⟨_,rfl,Aq _ _ _ _,lZ kR ((a8.out.trans (K9.out.below (fun b h=>⟨kR,kR⟩))).trans (z.mono kR))⟩
           ·have hq:M+len<=most/\M+len<=257*((k:Int)+1):=kR;have bb:Hid (Dk ls lf bs f (most-(M+len)) (out++ [⟨lit,len,dist⟩]) ta=RT):=mR;refine(HJ.out _).mono ?_;rintro e J ⟨rfl,z⟩;have aV:=z.size;have az:ta<=bs.length:=kJ;have L:=hid (dZ an.out (fun x hx=>z.block x (Ae an.out x hx).2));have ag:Hid (Kept (fun x=>x<w7.heap.size/\x≠g) w7 J):=K9.out.trans (Kept.of_below z (fun b h=>by have:=h.1;omega));have ax:Hid (RRd J g hi bs ta):=am.out.keep (fun b _ h=>z.block b kR);have bW:=ag.out.size;obtain⟨va,vc,rfl⟩:=aZ L.out;clear z an K9 am;go_wp2_with(at_builtin;refine gZ rfl (.tmp 122) (.tmp 124) 190 rfl w7 280 j0 _ 3 24 underlying190 a9 b3 b6 b7 rfl iX _ _ _ kU ((L.out.alloc _).alloc _) _ 1 1 [.int .u8 lit, .int .i64 _, .int .i64 dist] kU (Src.of_blk (g:=J.heap.size+1) (Blk.made_at _ _ _ mY) 1 1 3 rfl) kx nI kR ni ?_;intro v4 bq ab ae bc);go_roundw
            case measure=>exact jt
            case rel=>
             go_light;refine⟨f,ta,k+1,M+len,out++ [⟨lit,len,dist⟩],⟨kR,kR,hq.1⟩,by congr 1;omega,kR,az,?_,?_,?_,bb,?_,?_⟩
             ·show(out++ [_]).length=k+1;rw[Aj,a5.out];rfl
             ·rw[IU];exact ab
             ·show _<=_;have:=hf.out;omega
             ·exact ax.out.keep (fun b _ h2=>(ae.block b ni (fun h=>by have:=(Ae L.out b h.symm).1;omega)).trans ((Ca _ _ b ni).trans (Ca J _ b kR)))
             ·exact((ag.out.alloc (fun b h=>by have:=h.1;omega) _).alloc (fun b h=>by have:=h.1;simp;omega) _).grown ae (fun b h=>by have:=h.1;simp;omega) (fun b hb hh=>by have:=(Ae L.out b hb).1;have:=hh.1;omega)
          ·obtain rfl:len=0:=by omega
           by_cases hl:most-M-1<0
           ·refine(HJ.out _).mono ?_;rintro e J ⟨rfl,z⟩;have aV:=z.size;go_wp2_with fail;go_ret2;rw[ay.out kR];exact⟨_,rfl,Aq _ _ _ _,lZ kR ((a8.out.trans (K9.out.below (fun b h=>⟨kR,kR⟩))).trans (z.mono kR))⟩
           ·have hq:M+1<=most/\M+1<=257*((k:Int)+1):=kR;have bb:Hid (Dk ls lf bs f (most-(M+1)) (out++ [⟨lit,0,dist⟩]) ta=RT):=mR;refine(HJ.out _).mono ?_;rintro e J ⟨rfl,z⟩;have aV:=z.size;have az:ta<=bs.length:=kJ;have L:=hid (dZ an.out (fun x hx=>z.block x (Ae an.out x hx).2));have ag:Hid (Kept (fun x=>x<w7.heap.size/\x≠g) w7 J):=K9.out.trans (Kept.of_below z (fun b h=>by have:=h.1;omega));have ax:Hid (RRd J g hi bs ta):=am.out.keep (fun b _ h=>z.block b kR);have bW:=ag.out.size;obtain⟨va,vc,rfl⟩:=aZ L.out;clear z an K9 am;go_wp2_with(at_builtin;refine gZ rfl (.tmp 122) (.tmp 124) 190 rfl w7 280 j0 _ 3 24 underlying190 a9 b3 b6 b7 rfl iX _ _ _ kU ((L.out.alloc _).alloc _) _ 1 1 [.int .u8 lit, .int .i64 _, .int .i64 dist] kU (Src.of_blk (g:=J.heap.size+1) (Blk.made_at _ _ _ mY) 1 1 3 rfl) kx nI kR ni ?_;intro v4 bq ab ae bc);go_roundw
            case measure=>exact jt
            case rel=>
             go_light;refine⟨f,ta,k+1,M+1,out++ [⟨lit,0,dist⟩],⟨kR,kR,hq.1⟩,rfl,kR,az,?_,?_,?_,bb,?_,?_⟩
             ·show(out++ [_]).length=k+1;rw[Aj,a5.out];rfl
             ·rw[IU];exact ab
             ·show _<=_;have:=hf.out;omega
             ·exact ax.out.keep (fun b _ h2=>(ae.block b ni (fun h=>by have:=(Ae L.out b h.symm).1;omega)).trans ((Ca _ _ b ni).trans (Ca J _ b kR)))
             ·exact((ag.out.alloc (fun b h=>by have:=h.1;omega) _).alloc (fun b h=>by have:=h.1;simp;omega) _).grown ae (fun b h=>by have:=h.1;simp;omega) (fun b hb hh=>by have:=(Ae L.out b hb).1;have:=hh.1;omega)
         ·rw[(CP Y).1,(CP Y).2.1,(CP Y).2.2]at C6;have ar:Cj lf bs s a3=(⟨0,0,0⟩,1,a3+m+hx):=(by unfold Cj;rw[<-HM.out,Aa (fun h=>h cA.out),<-bk.out];simp only[ne_eq,not_true_eq_false,if_false,Int.toNat_natCast];rw[Ab Y]);have aq:Hid (RT=([],1)):=jO;clear Y ar;refine C6.mono ?_;rintro e bu ⟨rfl,bi,Q⟩;have c3:=Q.size;go_wp2_with fail;go_ret2;rw[aq.out];exact⟨_,rfl,Aq _ _ _ _,aS.out.trans ((b1.trans ⟨Q.os,Q.tape,Q.output,Q.size,fun b h=>Q.block b h.2⟩).below (fun b h=>⟨kR,kR⟩))⟩
        ·have hb:(he != 0)=true:=bne_iff_ne.mpr bQ;have ar:Cj lf bs s a3=(⟨0,0,0⟩,he,a3+m+hx):=(by unfold Cj;rw[<-HM.out,Aa (fun h=>h cA.out),<-bk.out];simp only;rw[Ab bQ]);have aq:Hid (RT=([],he)):=(by have h:=bd.out;rw[ar]at h;have h2:=bR.out;rw[h]at h2;exact h2 bQ);clear ar bQ ah;go_wp2_with fail;go_ret2;rw[aq.out];exact⟨_,rfl,Aq _ _ _ _,aS.out.trans ((b9.set (p:=⟨w8,2,none⟩) (fun h=>absurd h.1 (BY _)) _).below (fun b h=>⟨kR,kR⟩))⟩
       ·rw[(CP Y).1,(CP Y).2.1,(CP Y).2.2]at C4;have C4:=hid C4;have ar:Cj lf bs s a3=(⟨0,0,0⟩,1,a3):=by unfold Cj;rw[<-HM.out,Ab Y]
        have aq:Hid (RT=([],1)):=jO;clear Y ar;refine C4.out.mono ?_;rintro e J ⟨rfl,bf,U⟩;have aV:=U.size;go_wp2_with fail;go_ret2;rw[aq.out];exact⟨_,rfl,Aq _ _ _ _,aS.out.trans ((L9.trans ⟨U.os,U.tape,U.output,U.size,fun b h=>U.block b h.2⟩).below (fun b h=>⟨kR,kR⟩))⟩
    ·have hb:(ge != 0)=true:=bne_iff_ne.mpr he;have HT:BJ ls lf bs at_=(⟨0,0,0⟩,false,ge,at_+ga):=(by unfold BJ;rw[<-b4.out];simp only;rw[Ab he]);rw[HT]at ak;have aq:=hid (ak he);clear aj ak ac N HT ah he;go_wp2_with fail;refine C3.out.mono ?_;rintro e w8 ⟨rfl,au,E⟩;have z8:=E.size;have aw:Kept (fun x=>x<w7.heap.size/\x≠g) w7 w8:=aX.out.trans ⟨E.os,E.tape,E.output,E.size,fun b h=>E.block b ⟨ko,h.2⟩⟩;have aS:Hid (aO w w8):=a8.out.trans (aw.below (fun b h=>⟨kR,kR⟩));have af:w8.ownsRow w7 280 3 _ k (CW out):=dZ al (fun x hx=>E.block x j7);go_wp2_with fail;go_ret2;rw[aq.out];exact⟨_,rfl,Aq _ _ _ _,aS.out⟩
  ·have hb:(e2 != 0)=true:=bne_iff_ne.mpr bU;have aT:Hid (RT=([],e2)):=(by show _=_;rw[bB.out,Aa mY,Ab bU]);clear bU bB;go_wp2_with fail;go_ret2;rw[aT.out];exact⟨_,rfl,Aq _ _ _ _,cz.out⟩
 ·have hb:(e1 != 0)=true:=bne_iff_ne.mpr b0;have aT:Hid (RT=([],e1)):=by show _=_;rw[bB.out,Ab b0]
  clear b0 bB;go_wp2_with fail;go_ret2;rw[aT.out];exact⟨_,rfl,Aq _ _ _ _,cl.out⟩
end Huff
end Go.Proofs.YtfgdoknipbpfhaaGreatDoor
