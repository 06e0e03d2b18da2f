/- The index of a log:  -/
import Derived.Test.YtfgdoknipbpfhaaGreatDoorZTwoUnpacks23
import Derived.Test.YtfgdoknipbpfhaaGreatDoorZTwoUnpacks22
namespace Go.Proofs.YtfgdoknipbpfhaaGreatDoor
open Go.Proofs.Tryz
open Go.Lib (hid)
set_option maxHeartbeats 4000000
set_option maxRecDepth 100000
variable{w:World}{base bound i n s x:Nat}{e:TypeId}{xs:List Value}{l:List Nat}{ls:List (List Nat)}
namespace Idx
open Go.RowKit Go.Maps Mem Own Canon Sift
open Recs
def mZ(r:Rec):List Str:=FX r.text.data.toList r.source.data.toList
structure IxAt (w:World) (base:Nat) (vT vL:Value) (vals:List Value) (ts:List Str) (ls:List (List Nat)):Prop where
 t:w.ownsRow base 9 1 vT ts.length (AD ts)
 l:w.ownsRow base 37 1 vL ls.length vals
 r:∀ (i:Nat) v ids,vals[i]? =some v->ls[i]? =some ids->w.ownsRow base 3 1 v ids.length (cZ .i64 ids)
def G1(ts:List (List Str))(w:World)(e:Ending)(w':World):Prop:=
 ∃vT vL vals,e= .returned (.agg #[vT,vL])/\IxAt w' w vT vL vals (AQ ts) ((AQ ts).map (BI ts))/\aO w w'
theorem Rt:(prog.info? 3).map (fun i=>(i.zero,i.size,i.bytes))=some (some (.int .i64 0),1,8):=kG
theorem Rh:(prog.info? 37).map (fun i=>(i.zero,i.size,i.bytes))=some (some (.slice none 0 0),1,24):=kG
theorem OQ{r:Rec}{s:Str}(h:s∈mZ r):1<=s.length/\s.length<=25:=by
 unfold mZ at h;rw[Zt]at h;unfold He at h;rcases BN.1 h with h|h
 ·have:=NV _ s h;omega
 ·obtain⟨x,hx,rfl⟩:=ET.1 h;have:=NV _ x hx;simp only[List.length_cons];omega
theorem Nr(t s:List UInt8):(FX t s).length<=t.length+s.length:=by have h1:=Lr (He t s) [];have h2:=JK t;have h3:=JK s;unfold FX;unfold He at h1;rw[Aj,Cg]at h1;unfold He;simp only[List.length_nil]at h1;omega
theorem LK(ts:List (List Str))(u:Str):(BI ts u).length<=ts.length:=by unfold BI;exact AY (List.length_filter_le _ _) mY
theorem JL{w':World}{s' n':Nat}{e':TypeId}{v v':Value}{j:List Value}(h:w.ownsRow base e s v n xs)(ho:w.ownsRow i e' s' v' n' j)(z:e≠e')(hg:w.grownBy w' v'.ownBlock):w'.ownsRow base e s v n xs:=
 dZ h (fun y hy=>hg.block y (Ae h y hy).2 (fun e=>by
  rcases Fh h ho z with h0|h0
  ·rw[h0]at hy;cases hy
  ·exact h0 (hy.trans e)))
section
variable {H:Type} {P:Program} {kt:TypeId} {R:Value->Option (DataW H×List MemPlace)} {w w':World} {mb m:Nat} {D:DataW H}
theorem aN{v:Value}(hm:w.ownsMap P kt R mb m D)(ho:w.ownsRow base e s v n xs)(hg:w.grownBy w' (some mb)):w'.ownsRow base e s v n xs:=
 dZ ho fun b hb=>hg.block b (Ae ho b hb).2 fun he=>by
  injection he with he;subst he;obtain⟨es,h,h1,_⟩:=hm;rcases ho.2 with ⟨hv,_⟩|⟨g',j,cur,hv,_,h2,_⟩
  ·rw[hv]at hb;cases hb
  ·rw[hv]at hb;have i:g'=b:=(by simpa[Value.ownBlock]using hb);rw[i,h1]at h2;cases h2
theorem Z5{g:Nat}{t:TypeId}{cs:Array Value}(hm:w.ownsMap P kt R mb m D)(h:Blk w g t cs)(hg:w.grownBy w' (some mb)):Blk w' g t cs:=
 h.grown hg fun he=>by injection he with he;subst he;obtain⟨es,i,h1,_⟩:=hm;have h2:w.heap[g]? =some (.cells cs t):=h;rw[h1]at h2;cases h2
end
def FB(ts:List (List Str))(T:List Str)(j:Nat)(s:Str):List Nat:=BI ts s++(if s∈T.take j then [ts.length]else [])
theorem TL(ts:List (List Str))(T:List Str):FB ts T 0=BI ts:=by funext s;simp[FB]
theorem XC(ts:List (List Str))(T:List Str):FB ts T T.length=BI (ts++ [T]):=by
 funext s
 rw[YY];unfold FB;rw[List.take_length];simp
theorem aG{ts:List (List Str)}{T:List Str}(hT:Er T){j:Nat}{t:Str}(h:T[j]? =some t):(fun s=>if s=t then FB ts T j s++ [ts.length]else FB ts T j s)=FB ts T (j+1):=by
 have y:t ∉ T.take j:=fun hm=>by obtain⟨i,hi,e⟩:=List.getElem_of_mem hm;rw[AN]at hi;rw[List.getElem_take]at e;obtain⟨hj,e2⟩:=Ch.1 h;have:=List.pairwise_iff_getElem.1 hT i j kR hj kR;rw[e,e2]at this;exact GS t this
 funext s
 unfold FB;rw[EG,h];by_cases hs:s=t
 ·subst hs;rw[Ab rfl,Aa y];simp
 ·rw[Aa hs];simp[hs]
theorem Nh(ts:List (List Str))(s:Str):s∈AQ ts↔BI ts s≠ []:=by
 rw[SP];unfold BI;rw[ne_eq,List.filter_eq_nil_iff];constructor
 ·rintro⟨t,ht,hs⟩ h;obtain⟨i,hi,rfl⟩:=List.getElem_of_mem ht;have:=h i (ES.2 hi);rw[Ar,AE hi]at this;simp at this;exact this hs
 ·intro h;refine JW fun hn=>h fun i hi=> ?_;rw[ES]at hi;rw[Ar,AE hi];simp only[Option.getD_some,List.contains_iff_mem];exact fun hm=>hn ⟨_,Hi hi,hm⟩
theorem Xm{H:Type}{P:Program}{kt:TypeId}{R:Value->Option (DataW H×List MemPlace)}{mb m:Nat}{D:DataW H}(h:w.ownsMap P kt R mb m D):Maps.size D<=m:=by obtain⟨es,i,_,_,hs,rfl⟩:=h;show(List.foldr DataW.insert [] _).length<=m;rw[length_sorted,Cg];simpa using hs
structure St3 (w:World) (mb m base rb bo B2:Nat) (D:DataW Value) (I:Str->List Nat) (V:Str->Value) (vS vT vL:Value) (q nT nL:Nat) (SS:List Str):Prop where
 mi:MI w mb m base D I V
 res:Blk w rb 53 #[(),()]
 box:Blk w bo 53 #[vT,vL]
 ne:rb≠bo
 tt:w.ownsRow B2 9 1 vT nT (AD (SS.take nT))
 ll:w.ownsRow B2 37 1 vL nL ((SS.take nL).map V)
 ss:w.ownsRow base 9 1 vS q (AD SS)
 sg:∀g,vS.ownBlock=some g->g<B2
 b2:base<=B2
 bz:B2<=w.heap.size
section
variable {w w4:World} {mb m base rb bo B2 q nT nL:Nat} {D:DataW Value} {I:Str->List Nat} {V:Str->Value} {vS vT vL v4:Value} {SS:List Str} {o:Obj}
theorem St3.putT(h:St3 w mb m base rb bo B2 D I V vS vT vL q nT nL SS)(hg:(w.alloc o).grownBy w4 vT.ownBlock)(j:w4.ownsRow B2 9 1 v4 (nT+1) (AD (SS.take (nT+1)))):
 St3 (w4.setCell ⟨bo,0,none⟩ v4) mb m base rb bo B2 D I V vS v4 vL q (nT+1) nL SS:=by
 have i:Blk w4 bo 53 #[vT,vL]:=(h.box.alloc o).grown hg (fun e=>fZ h.tt h.box iX e.symm);have G:w4.heap[mb]? =w.heap[mb]? :=(hg.block mb kq (fun e=>Jn h.mi h.tt e.symm rfl)).trans (Ca w o mb h.mi.map.lt)
 have y:MI w4 mb m base D I V:=(h.mi.step (bZ (Ag _ _) (o:=o))).kept (hg.block mb kq (fun e=>Jn h.mi h.tt e.symm rfl)) fun s b hb=>by
  refine hg.block b (by have:=(Ae (h.mi.row s) b hb).2;simp;omega) fun e=> ?_;rcases Fh (h.mi.row s) h.tt iX with h0|h0
  ·rw[h0]at hb;cases hb
  ·exact h0 (hb.trans e)
 have E:mb≠bo:=fun e=>kK
 refine⟨y.kept (AJ w4 _ _ mb E) fun s b hb=>AJ w4 _ _ b (fun e=>fZ (y.row s) i iX (hb.trans (AI some e))),?_,?_,h.ne,?_,?_,?_,h.sg,h.b2,?_⟩
 ·exact((h.res.alloc o).grown hg (fun e=>fZ h.tt h.res iX e.symm)).far h.ne _
 ·exact i.set 0 v4
 ·exact Cu j (fZ j i iX) _
 ·have:=JL (h.ll.alloc o) (h.tt.alloc o) iX hg;exact Cu this (fZ this i iX) _
 ·have:w4.ownsRow base 9 1 vS q (AD SS):=dZ h.ss fun b hb=>(hg.block b (by have:=(Ae h.ss b hb).2;simp;omega) (fun e=>by have h1:=h.sg b hb;have h2:=(Ae h.tt b e.symm).1;omega)).trans (Ca w o b (Ae h.ss b hb).2);exact Cu this (fZ this i iX) _
 ·have h1:=hg.size;have h2:=h.bz;simp at h1 ⊢;omega
theorem St3.putL(h:St3 w mb m base rb bo B2 D I V vS vT vL q nT nL SS)(hg:(w.alloc o).grownBy w4 vL.ownBlock)(j:w4.ownsRow B2 37 1 v4 (nL+1) ((SS.take (nL+1)).map V)):
 St3 (w4.setCell ⟨bo,1,none⟩ v4) mb m base rb bo B2 D I V vS vT v4 q nT (nL+1) SS:=by
 have i:Blk w4 bo 53 #[vT,vL]:=(h.box.alloc o).grown hg (fun e=>fZ h.ll h.box iX e.symm)
 have y:MI w4 mb m base D I V:=(h.mi.step (bZ (Ag _ _) (o:=o))).kept (hg.block mb kq (fun e=>Jn h.mi h.ll e.symm rfl)) fun s b hb=>by
  refine hg.block b (by have:=(Ae (h.mi.row s) b hb).2;simp;omega) fun e=> ?_;rcases Fh (h.mi.row s) h.ll iX with h0|h0
  ·rw[h0]at hb;cases hb
  ·exact h0 (hb.trans e)
 have E:mb≠bo:=fun e=>kK
 refine⟨y.kept (AJ w4 _ _ mb E) fun s b hb=>AJ w4 _ _ b (fun e=>fZ (y.row s) i iX (hb.trans (AI some e))),?_,?_,h.ne,?_,?_,?_,h.sg,h.b2,?_⟩
 ·exact((h.res.alloc o).grown hg (fun e=>fZ h.ll h.res iX e.symm)).far h.ne _
 ·exact i.set 1 v4
 ·have:=JL (h.tt.alloc o) (h.ll.alloc o) iX hg;exact Cu this (fZ this i iX) _
 ·exact Cu j (fZ j i iX) _
 ·have:=JL (h.ss.alloc o) (h.ll.alloc o) iX hg;exact Cu this (fZ this i iX) _
 ·have h1:=hg.size;have h2:=h.bz;simp at h1 ⊢;omega
end
theorem K0(w:World)(A:Option Addr)(n c:Nat)(l:List Rec)(hn:l.length=n)(hN:n<=20000)(al:∀r∈l,r.source.size<=50000/\r.text.size<=50000)(ha:Row w w A n 4 (Dt l)):
 Calls prog 52 #[.slice A n c] w (G1 (l.map mZ) w):=by
 obtain⟨j0,cc,cq,b5,cf⟩:=info_parts Rt;have HN:=hid hn;have D1:Hid (∀wx r,r∈l->Calls prog 106 #[.agg #[.int .u64 r.time, .int .u8 r.level, .string r.source, .string r.text]] wx (Ie (mZ r) wx)):=fun wx r hr=>UQ wx r.time r.level r.source r.text (al r hr).1 (al r hr).2;have aw:Hid (∀r∈l,(mZ r).length<=100000):=fun r hr=>by have:=Nr r.text.data.toList r.source.data.toList;have h1:=Lib.size_eq r.text;have h2:=Lib.size_eq r.source;have:=al r hr;unfold mZ;omega
 have a5:=@run_makeMap prog;unfold Ie at D1;unfold G1;clear hn al;go_enter func52,ntmps52;go_wp2_with fail;have ab:Blk (w.alloc (.cells #[(),()] 53)) w 53 #[(),()]:=Blk.made _ _ _;have bc:aO w (w.alloc (.cells #[(),()] 53)):=bZ (Ag _ _);have bH:(w.alloc (.cells #[(),()] 53)).heap.size=w.heap.size+1:=mY
 generalize w.alloc (.cells #[(),()] 53)=w1 at *;rw[<-bH];have ba:Hid (MI (w1.alloc (.map #[] 0)) w1 0 w (.map []) (fun _=> []) (fun _=> .slice none 0 0)):=MI.start w1 w;have bt:=hid (ab.alloc (.map #[] 0));have bE:Hid (aO w (w1.alloc (.map #[] 0))):=bZ bc;obtain⟨mb,aW⟩:=iS w1.heap.size;rw[<-aW]at ba ⊢;have bS:Hid (w.heap.size<=mb):=by show _<=_;rw[aW];exact bc.size
 generalize w1.alloc (.map #[] 0)=w2 at *;clear ab bc bH aW a5;go_loopw [14] (fun iv wr=>∃ (k m:Nat) (D:DataW Value) (V:Str->Value),k<=n/\m<=100000*k/\iv= .int .i64 k/\Hid (MI wr mb m w D (BI ((l.take k).map mZ)) V)/\Hid (Blk wr w 53 #[(),()])/\Hid (aO w wr)) (fun iv _=>n-(intOf iv).toNat)
 case atStart=>exact⟨0,0, .map [],fun _=> .slice none 0 0,kR,kR,rfl,ba.out,bt.out,bE.out⟩
 case round=>
  obtain⟨k,m,D,V,hk,hm,rfl,HM,HX,HB⟩:=hrel;clear ba bt bE;obtain⟨w0,rfl⟩:=iS wr;by_cases b3:k<n
  ·have gk:=iQ ((k:Int)<n);have bP:=iQ (k<n);have x0:(0:Int)<=(k:Int):=kR;have x1:(k:Int)<(n:Int):=kR;obtain⟨b,cu,r,rfl,cz,hg,c0,c1,c2,c3⟩:=Row.rec (ha.below HB.out) HN.out b3;have a1:=BP hg;have E1:=hid (fun wx=>D1.out wx r a1);have bR:=aw.out r a1;have bf:Er (mZ r):=Zz _ _;have ac:∀s∈mZ r,1<=s.length/\s.length<=25:=fun s hs=>OQ hs;have aX:(l.take (k+1)).map mZ=(l.take k).map mZ++ [mZ r]:=(by rw[EG,hg,Is];rfl);have au:((l.take k).map mZ).length=k:=(by rw[Cg,AN,HN.out];omega);obtain⟨TS,az⟩:=iS ((l.take k).map mZ);rw[<-az]at aX au HM;have am:=hid aX;have bp:=hid au;have bU:=hid bf;have ci:=hid ac;clear hg a1 bf ac aX au az;generalize mZ r=T at *;obtain⟨q,hq⟩:=iS T.length;rw[<-hq]at E1 bR;have HQ:=hid hq;clear hq;go_wp2_with fail;have ax:aO w0 (w0.alloc (.cells #[.int .u64 r.time, .int .u8 r.level, .string r.source, .string r.text] 43)):=bZ (Ag _ _);generalize w0.alloc (.cells #[.int .u64 r.time, .int .u8 r.level, .string r.source, .string r.text] 43)=w3 at *;have L:=hid (HM.out.step ax);have aj:=hid (HX.out.step ax);have Q:Hid (aO w w3):=eZ ax HB.out;clear ax HM HX HB c0 c1 c2 c3;refine(E1.out _).mono ?_;rintro e w4 ⟨v4,rfl,aT,ag⟩;obtain⟨A4,c4,rfl⟩:=aZ aT;have bk:=hid (L.out.step ag);have bd:=hid (aj.out.step ag);have a7:Hid (aO w w4):=eZ ag Q.out;have bg:=hid aT;have bL:=ag.size;have b7:=a7.out.size;clear ag aT E1 L aj Q;go_wp2_with fail;go_loopw [22] (fun jv wr=>∃ (j m':Nat) (D':DataW Value) (V':Str->Value),j<=q/\m'<=m+j/\jv= .int .i64 j/\Hid (MI wr mb m' w D' (FB TS T j) V')/\Hid (wr.ownsRow w3 9 1 (.slice A4 q c4) q (AD T))/\Hid (Blk wr w 53 #[(),()])/\Hid (aO w wr)) (fun jv _=>q-(intOf jv).toNat)
   case atStart=>exact⟨0,m,D,V,kR,kR,rfl,(by show MI _ _ _ _ _ _ _;rw[TL];exact bk.out),bg.out,bd.out,a7.out⟩
   case round=>
    obtain⟨j,m',D',V',hj,cv,rfl,HM,HO,HX,HB⟩:=hrel;clear bk bg bd a7 bL b7;obtain⟨wi,rfl⟩:=iS wr;by_cases cx:j<q
    ·have gj:=iQ ((j:Int)<q);have aS:=iQ (j<q);have y0:(0:Int)<=(j:Int):=kR;have y1:(j:Int)<(q:Int):=kR;obtain⟨t,ht⟩:∃t,T[j]? =some t:=⟨_,AE kj⟩;obtain⟨g,cg,a9,cj,_⟩:=HO.out.form kR;injection a9 with hA1 hA2 hA3;subst hA1 hA3;have ck:wi.cell? ⟨g,j,none⟩=some (.string (bs t)):=(by rw[HO.out.cellAt j kR];exact GM ht);have bA:=ci.out t (BP ht);have a0:=aG (ts:=TS) bU.out ht;rw[bp.out]at a0;have be:=hid a0;obtain⟨A5,c5,hV⟩:=aZ (HM.out.row t);have aq:=HM.out.look t nI;have aa:=HM.out.row t;rw[hV]at aq aa
     have cm:(FB TS T j t).length<=20001:=by
      have h1:=LK TS t;have h2:=bp.out;unfold FB;rw[Aj];split
      ·simp only[List.length_singleton];omega
      ·simp only[List.length_nil];omega
     obtain⟨p,hp⟩:=iS ((FB TS T j t).length);have b6:=hid hp;rw[<-hp]at aq aa cm hV;have J:=hid aa;have HV:=hid hV;have aR:=hid bA;have bF:=HB.out.size;have a5:m'<maxLen:=nI;clear ht bA a0 hV aa hp HQ;go_wp2_with(at_builtin;refine gZ rfl (.tmp 30) (.tmp 32) 37 rfl w 3 j0 _ 1 8 underlying37 cc cq b5 cf rfl iX _ _ _ kU (J.out.alloc _) _ 1 1 [.int .i64 (k:Nat)] kU (Src.of_blk (Blk.made _ _ _) 1 1 1 rfl) kw nI kR ni ?_;intro v6 w6 h E Z;have bm:(some mb:Option Nat)≠(Value.slice A5 p c5).ownBlock:=(fun e=>Jn HM.out J.out e.symm rfl);have aY:=(HM.out.map.alloc (.cells #[.int .i64 (k:Nat)] 3)).kept E bm;obtain⟨w7,ct,bM,bu⟩:=aY.update (string_keyed underlying9) underlying153 a5 (Mp t (by have:=aR.out;unfold maxLen;omega)) (show J2 v6=some (.held v6,[]) from rfl);have H6:=hid (And.intro h (And.intro E (And.intro Z aY)));have H7:=hid (And.intro bM bu);clear h E Z bm aY bM bu);have aU:Hid (MI w7 mb (m'+1) w (D'.put (.string t) (.held v6)) (FB TS T (j+1)) (fun s=>if s=t then v6 else V' s)):=(by show MI _ _ _ _ _ _ _;rw[<-be.out];exact MI.put HM.out aR.out.2 (bZ (Ag _ _)) (by rw[HV.out];exact H6.out.2.1) (by rw[<-b6.out];exact H6.out.1) (by rw[HV.out];exact H6.out.2.2.1.imp_right fun e=>⟨_,e,Ai _⟩) H7.out.1 H7.out.2);have b4:Hid (w7.ownsRow w3 9 1 (.slice (some ⟨g,0,none⟩) q c4) q (AD T)):=aN H6.out.2.2.2 (JL (HO.out.alloc _) (J.out.alloc _) iX H6.out.2.1) H7.out.2;have co:Hid (Blk w7 w 53 #[(),()]):=Z5 H6.out.2.2.2 ((HX.out.alloc _).grown H6.out.2.1 (fun e=>fZ J.out HX.out iX e.symm)) H7.out.2;have bQ:Hid (aO w w7):=((lZ bF HB.out).grown H6.out.2.1 ni (fun y hy=>(Ae J.out y hy).1)).grown H7.out.2 (by have:=(lZ (o:= .cells #[.int .i64 (k:Nat)] 3) bF HB.out).size;have:=H6.out.2.1.size;omega) (fun y hy=>by injection hy with hy;rw[<-hy];exact bS.out);clear H6 H7 HM HO HX HB J HV be;go_roundw
     case measure=>exact jw
     case rel=>go_light;exact⟨j+1,m'+1,_,_,kR,kR,i5,aU.out,b4.out,co.out,bQ.out⟩
    ·obtain rfl:j=q:=by omega
     have gj:=iR ((j:Int)<j);have aS:=iR (j<j);have aU:Hid (MI wi mb m' w D' (BI ((l.take (k+1)).map mZ)) V'):=(by show MI _ _ _ _ _ _ _;rw[am.out,<-XC,<-HQ.out];exact HM.out);clear HM HQ;go_wp2_with fail;go_roundw
     case measure=>exact jw
     case rel=>go_light;exact⟨k+1,m',D',V',kR,kR,i5,aU.out,HX.out,HB.out⟩
  ·obtain rfl:k=n:=by omega
   have gk:=iR ((k:Int)<k);have bP:=iR (k<k);have ay:l.take k=l:=BR lQ;rw[ay]at HM;have ae:(l.map mZ).length=k:=(by rw[Cg,HN.out]);obtain⟨TS,ac⟩:=iS (l.map mZ);rw[<-ac]at HM ae;have ah:=hid ac;have bK:=hid ae;clear ay ac ae D1 aw ha;have ab:Blk (w0.alloc (.cells #[(),()] 53)) w0 53 #[(),()]:=Blk.made _ _ _;have ar:aO w0 (w0.alloc (.cells #[(),()] 53)):=bZ (Ag _ _);obtain⟨bo,bb⟩:=iS w0.heap.size;go_wp2_with fail;rw[<-bb]at ab ⊢;have bC:w.heap.size<bo:=(by rw[bb];exact HX.out.lt);generalize w0.alloc (.cells #[(),()] 53)=w3 at *;have L:=hid (HM.out.step ar);have aj:=hid (HX.out.step ar);have Q:Hid (aO w w3):=eZ ar HB.out;have aQ:=hid ab;have bi:=Xm L.out.map;have bI:m<=2000000000:=kR;have DK:=hid (callsIn_wide.1 (Tryz.maps_Keys_108 (some mb) w3));have DS:=hid (callsIn_wide.1 (Tryz.slices_Sorted_keys_107_108 mb m D J2 w3 L.out.map nI kR));clear ar ab HM HX HB bb;refine DK.out.mono ?_;rintro e w4 ⟨rfl,rfl⟩;clear DK;go_wp2_with fail;refine DS.out.mono ?_;rintro e w5 ⟨vS,ss,rfl,N,ai,bJ,bG⟩;have M:=L.out.keys N (OF TS) (Nh TS);have a4:ss.length=(AQ TS).length:=(by rw[<-M];exact(List.length_mergeSort ss).symm);rw[a4,show ss.mergeSort (fun x y=>decide (x<=y))=AQ TS from M,Uw]at ai;have G:aO w3 w5:=eZ bG (bZ (Ag _ _));have z:w5.ownsRow w 9 1 vS (AQ TS).length (AD (AQ TS)):=iZ ai (by have:=Q.out.size;simp;omega);obtain⟨SS,an⟩:=iS (AQ TS);rw[<-an]at z;have cd:SS.length<=2000000000:=(by rw[an,<-a4,N.length_eq];refine AY ?_ (AY bi bI);unfold strKeys Maps.size;cases D<;>simp);obtain⟨q,hq⟩:=iS SS.length;rw[<-hq]at z cd;obtain⟨AS,cS,rfl⟩:=aZ z
   have aV:Hid (St3 w5 mb m w w bo w5 D (BI TS) V (.slice AS q cS) (.slice none 0 0) (.slice none 0 0) q 0 0 SS):=
    ⟨L.out.step G,aj.out.step G,aQ.out.step G,kR,Aq _ _ _ _,Aq _ _ _ _,z,fun g hg=>(Ae z g hg).2,by have:=Q.out.size;have:=G.size;omega,Ai _⟩
   have bn:Hid (aO w w5):=eZ G Q.out;have HQ:=hid hq;have Y:=hid an;have bW:Hid (∀s∈SS,s.length<=25):=fun s hs=>L.out.long s ((Nh TS s).1 (by rw[<-Y.out];exact hs));have cy:Hid (∀s,(BI TS s).length<=20000):=fun s=>by have h1:=LK TS s;have h2:=bK.out;omega
   obtain⟨B2,bh⟩:=iS w5.heap.size;rw[<-bh]at aV;clear N ai bJ bG M a4 G z hq an DS L aj aQ Q bh bi bI;obtain⟨i0,ch,b9,bY,bX⟩:=info_parts Kn;obtain⟨i1,ca,ce,bV,bT⟩:=info_parts Rh;go_wp2_with fail;go_loopw [40] (fun iv wr=>∃ (k2:Nat) (vT vL:Value),k2<=q/\iv= .int .i64 k2/\Hid (St3 wr mb m w w bo B2 D (BI TS) V (.slice AS q cS) vT vL q k2 k2 SS)/\Hid (aO w wr)) (fun iv _=>q-(intOf iv).toNat)
   case atStart=>exact⟨0,_,_,kR,rfl,aV.out,bn.out⟩
   case round=>
    obtain⟨k2,vT,vL,cw,rfl,HS,HB⟩:=hrel;clear aV bn;by_cases au:k2<q
    ·have gj:=iQ ((k2:Int)<q);have aS:=iQ (k2<q);have y0:(0:Int)<=(k2:Int):=kR;have y1:(k2:Int)<(q:Int):=kR;obtain⟨t,ht⟩:∃t,SS[k2]? =some t:=⟨_,AE kj⟩;obtain⟨g,cg,a9,cj,_⟩:=HS.out.ss.form kR;injection a9 with hA1 hA2 hA3;subst hA1 hA3;have ck:wr.cell? ⟨g,k2,none⟩=some (.string (bs t)):=(by rw[HS.out.ss.cellAt k2 kR];exact GM ht);have bB:SS.take (k2+1)=SS.take k2++ [t]:=(by rw[EG,ht];rfl);have am:=hid bB;have bO:=bW.out t (BP ht);have aw:=hid bO;obtain⟨A5,c5,rfl⟩:=aZ HS.out.tt;obtain⟨A8,c8,rfl⟩:=aZ HS.out.ll;obtain⟨A7,c7,hV⟩:=aZ (HS.out.mi.row t);have HV:=hid hV;have b0:=HS.out.box.iO 0;have b8:=HB.out.size;have cr:=HS.out.bz;have aP:=HS.out.b2;obtain⟨p,hp⟩:=iS ((BI TS t).length);rw[<-hp]at HV;clear ht bB bO hV hp;go_wp2_with(first|(at_builtin;refine gZ rfl (.tmp 45) (.tmp 47) 50 rfl B2 9 i0 _ 1 16 underlying50 ch b9 bY bX rfl iX _ _ _ kU (HS.out.tt.alloc _) _ 1 1 [.string (bs t)] kU (Src.of_blk (Blk.made _ _ _) 1 1 1 rfl) kw nI kR ni ?_;intro v6 w6 h E Z;obtain⟨A6,c6,rfl⟩:=aZ h;have ak:=HS.out.putT E (by rw[am.out,JD];exact h);have aq:=ak.mi.look t (by have:=aw.out;unfold maxLen;omega);rw[HV.out]at aq;have f6:=((HS.out.box.alloc _).grown E (fun e=>fZ HS.out.tt HS.out.box iX e.symm)).frozen 0;have e6:=((HS.out.box.alloc _).grown E (fun e=>fZ HS.out.tt HS.out.box iX e.symm)).cell 0;have cl:=((HS.out.box.alloc _).grown E (fun e=>fZ HS.out.tt HS.out.box iX e.symm)).cell 1;simp only[List.getElem?_toArray,List.getElem?_cons_zero,List.getElem?_cons_succ]at e6 cl;have av:Hid (aO w w6):=(lZ b8 HB.out).grown E ni (fun y hy=>AY aP (Ae HS.out.tt y hy).1);have H6:=hid ak;have bj:=ak.bz;clear ak h E Z)|(at_builtin;refine gZ rfl (.tmp 51) (.tmp 55) 51 rfl B2 37 i1 _ 1 24 underlying51 ca ce bV bT rfl iX _ _ _ kU (H6.out.ll.alloc _) _ 1 1 [.slice A7 p c7] kU (Src.of_blk (Blk.made_at _ _ _ mY) 1 1 1 rfl) kw nI kR (by simp at bj ⊢;omega) ?_;intro v9 w9 U af bl;obtain⟨A9,c9,rfl⟩:=aZ U;have bD:=H6.out.putL af (by rw[am.out,Is,List.map_singleton,HV.out];exact U);have f9:=((H6.out.box.alloc _).grown af (fun e=>fZ H6.out.ll H6.out.box iX e.symm)).frozen 1;have e9:=((H6.out.box.alloc _).grown af (fun e=>fZ H6.out.ll H6.out.box iX e.symm)).cell 1;simp only[List.getElem?_toArray,List.getElem?_cons_zero,List.getElem?_cons_succ]at e9;have bN:Hid (aO w w9):=(lZ (by have:=av.out.size;simp;omega) (kZ (Nat.le_of_lt bC) av.out)).grown af (by have:=av.out.size;simp;omega) (fun y hy=>AY aP (Ae H6.out.ll y hy).1);have H9:=hid bD;clear bD U af bl));have cp:Hid (aO w (w9.setCell ⟨bo,1,none⟩ (.slice A9 (k2+1) c9))):=kZ (Nat.le_of_lt bC) bN.out;clear H6 av bN HS HB;go_roundw
     case measure=>exact jw
     case rel=>go_light;exact⟨k2+1,_,_,kR,i5,H9.out,cp.out⟩
    ·obtain rfl:k2=q:=by omega
     have gj:=iR ((k2:Int)<k2);have aS:=iR (k2<k2);obtain⟨A5,c5,rfl⟩:=aZ HS.out.tt;obtain⟨A8,c8,rfl⟩:=aZ HS.out.ll;have b0:=HS.out.box.iO 0;have b1:=HS.out.box.iO 1;have r0:=HS.out.res.iO 0;have r1:=HS.out.res.iO 1;have s0:=HS.out.res.frozen 0;have s1:=HS.out.res.frozen 1;go_wp2_with fail;have a8:SS.take k2=SS:=BR (by rw[<-HQ.out];exact Ai _);have a6:=HS.out.tt;have a3:=HS.out.ll;rw[a8]at a6 a3;have bq:=HS.out.b2;have n1:(Value.slice A5 k2 c5).ownBlock≠some w.heap.size:=fZ a6 HS.out.res iX;have n2:(Value.slice A8 k2 c8).ownBlock≠some w.heap.size:=fZ a3 HS.out.res iX;refine AV (v:= .agg #[.slice A5 k2 c5, .slice A8 k2 c8]) ?_ rfl ⟨_,_,SS.map V,rfl,⟨?_,?_,?_⟩,?_⟩
     ·have e0:=(HS.out.res.set 0 (.slice A5 k2 c5)).cell 0;have e1:=((HS.out.res.set 0 (.slice A5 k2 c5)).set 1 (.slice A8 k2 c8)).cell 1;simp at e0 e1;simp[results,results52,go_sem,e0,e1]
     ·rw[<-ah.out,<-Y.out,<-HQ.out];exact Cu (Cu (iZ a6 bq) n1 _) n1 _
     ·rw[<-ah.out,<-Y.out,Cg,<-HQ.out];exact Cu (Cu (iZ a3 bq) n2 _) n2 _
     ·intro i v cA hv hi;rw[<-ah.out,<-Y.out]at hi;rw[B0]at hv hi;cases hs:SS[i]? with
      |none=>rw[hs]at hv;cases hv
      |some s=>rw[hs]at hv hi;injection hv with hv;injection hi with hi;subst hv hi;have hn:=fZ (HS.out.mi.row s) HS.out.res iX;exact Cu (Cu (HS.out.mi.row s) hn _) hn _
     ·exact kZ (Ai _) (kZ (Ai _) HB.out)
end Idx
namespace Idx
open Go.RowKit Mem Own Canon
open NumPut (tZ Cf Et)
open Ef (efO Eg J5 Kw Ju Ky unary O5 JP efW)
open Huff (bytesOf bytesOf_length)
def Ed(bound:Nat)(ls:List (List Nat)):List Nat:=ls.flatMap (efO bound)
def ixO(size bound:Nat)(ts:List Str)(ls:List (List Nat)):List Nat:=Fs size ts++Ed bound ls
theorem UC(bound:Nat)(ls:List (List Nat))(k:Nat)(x:List Nat)(h:ls[k]? =some x):Ed bound (ls.take (k+1))=Ed bound (ls.take k)++efO bound x:=by unfold Ed;rw[EG,h];simp
theorem No:∀ (l:List Nat) (i B:Nat),i<=B->(∀x∈l,i<=x/\x<=B)->l.Pairwise (·<= ·)->(Ju i l).length+i<=B+l.length
 | [],i,B,hw,_,_=>by simp[Ju];exact hw
 |x :: t,i,B,hw,h,hp=>by rw[Ir]at hp;have hx:=h x Fu;have ih:=No t x B hx.2 (fun y hy=>⟨hp.1 y hy,(h y (Fv _ hy)).2⟩) hp.2;rw[Ju,Aj,O5,Bu];omega
theorem Nj:∀ (bound:Nat) (l:List Nat) (u:Option Nat),Eg bound u l=true->l.Pairwise (·<= ·)/\∀y,u=some y->∀x∈l,y<=x
 |_,[],_,_=>⟨List.Pairwise.nil,fun _ _ _ hx=>by cases hx⟩
 |bound,a :: t,u,h=>by
  rw[Eg,CV]at h;have ih:=Nj bound t (some a) h.2;have ha:∀y,u=some y->y<=a:=fun y hy=>by have h1:=h.1;unfold Ef.mayO at h1;rw[hy,CV]at h1;have:=h1.2;simp at this;omega
  refine⟨Ir.2 ⟨fun x hx=>ih.2 a rfl x hx,ih.1⟩,fun y hy x hx=> ?_⟩;rcases BK.1 hx with rfl|hx
  ·exact ha y hy
  ·exact AY (ha y hy) (ih.2 a rfl x hx)
theorem Xz(hb:bound<=20000)(hm:Eg bound none l=true)(hn:l.length<=bound):(efO bound l).length<=45010:=by
 unfold efO;split
 ·have:=Cf (x:=0) kR;omega
 ·rename_i h0;have h1:1<=l.length:=Iu.2 h0;have hq:1<=bound / l.length:=(Nat.one_le_div_iff kR).2 hn;have hW:efW bound l.length<=14:=by refine JW fun h=> ?_;have h2:2 ^ 15<=2 ^ efW bound l.length:=BQ kR kR;have h3:=Ef.Mb (q:=bound / l.length) kR;have h4:bound / l.length<=bound:=Hh _ _;unfold efW at h2;omega
  have E:=Cf (x:=l.length) kR;have i:=Ky (efW bound l.length) l;have G:l.length*efW bound l.length<=20000*14:=GT kR hW;have z:=JP bound l none hm;have hp:=(Nj bound l none hm).1;have j:=No (l.map (·/ 2 ^ efW bound l.length)) 0 bound kR (fun x hx=>by obtain⟨y,hy,rfl⟩:=ET.1 hx;exact⟨Ba _,AY (Hh _ _) (by have:=z y hy;omega)⟩) (List.Pairwise.map _ (fun a b h=>Nat.div_le_div_right h) hp);rw[Cg]at j;rw[Aj,bytesOf_length];unfold J5;rw[Aj,i];omega
theorem Tc:∀ (bound:Nat) (l:List Nat) (u:Option Nat),Eg bound u l=true->l.length+(match u with|none=>0|some y=>y+1)<=bound∨l= []
 |_,[],_,_=> .inr rfl
 |bound,a :: t,u,h=>by
  have h':=h;rw[Eg,CV]at h';have i:=JP bound (a :: t) u h a Fu;have h1:=h'.1;unfold Ef.mayO at h1;rw[CV]at h1;refine .inl ?_;rcases Tc bound t (some a) h'.2 with ih|ih
  ·simp only at ih;cases u with
   |none=>simp only[List.length_cons];omega
   |some y=>have:=h1.2;simp at this;simp only[List.length_cons];omega
  ·subst ih;cases u with
   |none=>simp only[List.length_cons,List.length_nil];omega
   |some y=>have:=h1.2;simp at this;simp only[List.length_cons,List.length_nil];omega
theorem Wk(h:Eg bound none l=true)(h0:l≠ []):1<=l.length/\l.length<=bound:=by
 have h1:1<=l.length:=Iu.2 h0;rcases Tc bound l none h with h2|h2
 ·exact⟨h1,nA⟩
 ·exact absurd h2 h0
def J0(bound:Nat)(ls:List (List Nat)):Bool:=ls.all (Eg bound none)
theorem V3(hb:bound<=20000)(h0:∀l∈ls,l≠ [])(hm:J0 bound ls=true):(Ed bound ls).length<=45010*ls.length:=by
 induction ls with
 |nil=>simp[Ed]
 |cons x t ih=>unfold J0 at hm ih;rw[List.all_cons,CV]at hm;have ih:=ih (fun l hl=>h0 l (Fv _ hl)) hm.2;have hx:=Xz hb hm.1 (Wk hm.1 (h0 x Fu)).2;unfold Ed at ih ⊢;rw[Iw,Aj,Bu];omega
theorem ZY{size:Nat}{l:List Str}(hm:Hc l=true)(h1:1<=size)(h2:size<=64)(hN:l.length<=20000):(Fs size l).length<=820010:=by have hs:∀s∈l,s.length<=25:=fun s hs=>(MJ hm s hs).2;have a:=LN hs h2 kR (nCh size l.length);have b:=KW hs h1 (nCh size l.length);have c:=Nc (n:=l.length) h1;have e:Fs size l=hdB size l (nCh size l.length)++bdB size l (nCh size l.length):=NF h1 l;rw[e,Aj];omega
theorem IxAt.len{vT vL:Value}{vals:List Value}{ts:List Str}(h:IxAt w base vT vL vals ts ls):vals.length=ls.length:=by have:=h.l.1;omega
end Idx
namespace Body
open Recs Opts Crc Idx
open NumPut (tZ Cf Et)
open Block (Gs)
open Go.Proofs.YtfgdoknipbpfhaaGreatDoor.One (M5 MY MV MO)
def GB(wh pl:Bool):List Nat->List Rec->List (List Nat)
 | [],_=> []
 |c :: t,l=>Gs (FH wh (l.take c)) pl :: GB wh pl t (l.drop c)
def Ea(o:Opt)(l:List Rec):List Nat:=GI o.block.toNat (GH false l)
def Ck:List Nat->List Nat->List Nat
 |a :: g,b :: s=>tZ a++(tZ b++Ck g s)
 |_,_=> []
def AO(b:List Nat):List Nat:=b++Cb (BE b)
def DZ(n:Nat)(G S:List Nat)(x y:Nat):List Nat:=tZ n++(tZ G.length++(Ck G S++(tZ x++tZ y)))
def Ec(n:Nat)(G:List Nat)(FS:List (List Nat))(cols idx:List Nat):List Nat:=
 FS.flatten++(AO cols++(AO idx++(AO (DZ n G (FS.map List.length) (AO cols).length (AO idx).length)++Ds (AO (DZ n G (FS.map List.length) (AO cols).length (AO idx).length)).length)))
def ixR(o:Opt)(l:List Rec):List Nat:=ixO o.bucket.toNat l.length (AQ (l.map mZ)) ((AQ (l.map mZ)).map (BI (l.map mZ)))
def Gn(o:Opt)(l:List Rec):List Nat:=Ec l.length (Ea o l) (GB false o.plain (Ea o l) l) (FG l) (ixR o l)
theorem EW(b:List Nat):(AO b).length=b.length+4:=by unfold AO;rw[Aj];rfl
theorem Nd{b:List Nat}(h:∀x∈b,x<=255):∀x∈AO b,x<=255:=fun x hx=>by
 rcases BN.1 hx with hx|hx
 ·exact h x hx
 ·have:=N3 _ x hx;omega
theorem Ou:∀ (g s:List Nat),(∀x∈g,x<18446744073709551616)->(∀x∈s,x<18446744073709551616)->(Ck g s).length<=20*g.length
 | [],_,_,_=>by simp[Ck]
 |_ :: _,[],_,_=>by simp[Ck]
 |x :: g,y :: s,h1,h2=>by have a:=Cf (h1 x Fu);have b:=Cf (h2 y Fu);have c:=Ou g s (fun z hz=>h1 z (Fv _ hz)) (fun z hz=>h2 z (Fv _ hz));rw[Ck,Aj,Aj,Bu];omega
theorem Q4:∀ (g s:List Nat),∀x∈Ck g s,x<=255
 | [],_,x,h=>by simp[Ck]at h
 |_ :: _,[],x,h=>by simp[Ck]at h
 |a :: g,b :: s,x,h=>by
  rw[Ck]at h;rcases BN.1 h with h|h
  ·exact Et _ x h
  ·rcases BN.1 h with h|h
   ·exact Et _ x h
   ·exact Q4 g s x h
theorem M8(n:Nat)(G S:List Nat)(x y:Nat):∀z∈DZ n G S x y,z<=255:=fun z h=>by
 unfold DZ at h;simp only[List.mem_append]at h;rcases h with h|h|h|h|h
 ·exact Et _ z h
 ·exact Et _ z h
 ·exact Q4 _ _ z h
 ·exact Et _ z h
 ·exact Et _ z h
theorem S4{G S:List Nat}{y:Nat}(hn:n<=1000000000)(hg:G.length<=1000000000)(h1:∀z∈G,z<=1000000000)(h2:∀z∈S,z<=1000000000)(hx:x<=1000000000)(hy:y<=1000000000):(DZ n G S x y).length<=40+20*G.length:=by have a:=Cf (x:=n) kR;have b:=Cf (x:=G.length) kR;have c:=Cf (x:=x) kR;have d:=Cf (x:=y) kR;have e:=Ou G S (fun z hz=>by have:=h1 z hz;omega) (fun z hz=>by have:=h2 z hz;omega);unfold DZ;simp only[List.length_append];omega
theorem NG(wh pl:Bool):∀ (cs:List Nat) (l:List Rec),(FH wh l).length<=16000->(GB wh pl cs l).flatten.length<=(FH wh l).length+25*cs.length
 | [],_,_=>by simp[GB]
 |c :: t,l,h=>by have hs:=One.MM wh l c;have ih:=NG wh pl t (l.drop c) kR;have hf:=One.Xq (bs:=FH wh (l.take c)) pl kR;rw[GB,List.flatten_cons,Aj,Bu];omega
theorem St(o:Opt)(l:List Rec):(Ea o l).sum=l.length:=by unfold Ea;rw[M5,MO]
theorem Sf(o:Opt)(l:List Rec):(Ea o l).length<=l.length:=by have:=MV (MY o.block.toNat (GH false l));rw[M5,MO]at this;exact this
theorem le_sum:∀ {l:List Nat} {x:Nat},x∈l->x<=l.sum
 |y :: t,x,h=>by
  rw[GU];rcases BK.1 h with rfl|h
  ·omega
  ·have:=le_sum h;omega
end Body
namespace Body
open Go.RowKit Mem Own Canon Recs
open NumPut
open Block (uZ)
theorem Nq{k:Nat}(h:l[k]? =some x):(l.take (k+1)).sum=(l.take k).sum+x:=by rw[EG,h];simp
theorem Hu(l:List Nat)(k:Nat):(l.take k).sum<=l.sum:=by
 conv=>rhs;rw[<-I5 k l]
 rw[I6];omega
theorem Ke(w:World)(A:Option Addr)(n c:Nat)(ls:List Nat)(hn:ls.length=n)(hN:n<=1000000)(hs:ls.sum<=1000000000000000)(ha:Row w w A n 1 (jZ .i64 ls)):
 Calls prog 64 #[.slice A n c] w fun e w'=>e= .returned (.int .i64 (ls.sum:Nat))/\w'=w:=by
 have HN:=hid hn;obtain⟨R,hR⟩:=iS ls.sum;have HR:=hid hR;rw[<-hR]at hs ⊢;clear hn hR;go_enter func64,ntmps64;go_wp2_with fail;go_loopw [3,8] (fun sv iv wx=>∃k s:Nat,k<=n/\s<=R/\iv= .int .i64 k/\sv= .int .i64 s/\Hid (s=(ls.take k).sum)/\wx=w) (fun _ iv _=>n-(intOf iv).toNat)
 case atStart=>exact⟨0,0,kR,kR,rfl,rfl,rfl,rfl⟩
 case round=>
  obtain⟨k,s,hk,J,rfl,rfl,HS,rfl⟩:=hrel;by_cases j:k<n
  ·have gk:=iQ ((k:Int)<n);have y:=iQ (k<n);have x0:(0:Int)<=(k:Int):=kR;have x1:(k:Int)<(n:Int):=kR;obtain⟨b,G,x,rfl,_,hx,ck⟩:=CD ha HN.out j;have h:=Nq hx;have i:=Hu ls (k+1);rw[h,<-HS.out,<-HR.out]at i;have E:Hid (s+x=(ls.take (k+1)).sum):=(by show _=_;rw[h,HS.out]);have s1:IntKind.i64.wrap ((s:Int)+(x:Int))=((s+x:Nat):Int):=lD;clear h hx HS;go_wp2_with fail;go_roundw
   case measure=>exact jw
   case rel=>go_light;exact⟨k+1,s+x,kR,i,i5,i5,E.out,i7⟩
  ·obtain rfl:k=n:=by omega
   have gk:=iR ((k:Int)<k);have y:=iR (k<k);have z:s=R:=(by rw[HS.out,HR.out,BR lQ]);subst z;clear HS HR j;go_wp2_with fail;go_ret;exact⟨rfl,rfl⟩
theorem sum_any(w:World)(A:Option Addr)(n c:Nat)(ls:List Nat)(hn:ls.length=n)(hN:n<=1000000)(hs:ls.sum<=1000000000)(ha:Row w w A n 1 (jZ .i64 ls)):
 Calls prog 64 #[.slice A n c] w fun e w'=>e= .returned (.int .i64 (ls.sum:Nat))/\w'=w:=Ke w A n c ls hn hN kR ha
end Body
namespace Body
open Go.RowKit Mem Own Canon Recs Idx
open Go.Proofs.YtfgdoknipbpfhaaGreatDoor.One (FrsAt FrsAt.step FrsAt.grown GN)
open NumPut
open Ef (Eg Nk)
structure MSt (base db:Nat) (vG pv vS:Value) (ps:List Part) (W:World):Prop where
 dir:Blk W db 87 #[vG,vS,iT,iT]
 pr:W.ownsRow base 28 1 pv ps.length (ps.map Part.v)
 fr:FrsAt W base ps
 sr:W.ownsRow base 3 1 vS ps.length (cZ .i64 (ps.map fun p=>p.ls.length))
 gb:base<=db
section
variable {base db:Nat} {vG pv vS pv' vS':Value} {ps:List Part} {W w' w8 w9:World} {p:Part} {o1 o2:Obj}
theorem MSt.step(h:MSt base db vG pv vS ps W)(b:aO W w'):MSt base db vG pv vS ps w':=
 ⟨h.dir.step b,dZ h.pr fun y hy=>b.block y (Ae h.pr y hy).2,h.fr.step b,dZ h.sr fun y hy=>b.block y (Ae h.sr y hy).2,h.gb⟩
theorem MSt.stores(h:MSt base db vG pv vS ps W)(x y:Value):
 Blk ((W.setCell ⟨db,2,none⟩ x).setCell ⟨db,3,none⟩ y) db 87 #[vG,vS,x,y]/\Below base W ((W.setCell ⟨db,2,none⟩ x).setCell ⟨db,3,none⟩ y)/\
  ∀ {b s n:Nat} {e:TypeId} {v:Value} {xs:List Value},W.ownsRow b e s v n xs->e≠87->((W.setCell ⟨db,2,none⟩ x).setCell ⟨db,3,none⟩ y).ownsRow b e s v n xs:=by
 refine⟨by simpa using (h.dir.set 2 x).set 3 y,((Ag base W).setCell (p:=⟨db,2,none⟩) h.gb _).setCell (p:=⟨db,3,none⟩) h.gb _,fun ho hne=> ?_⟩;refine dZ ho fun z hz=> ?_;have hd:z≠db:=fun e=>fZ ho h.dir hne (by rw[hz,e]);exact(AJ _ _ _ z hd).trans (AJ _ _ _ z hd)
end
theorem QT:∀ (l:List Str) (i:Str),(∀s∈l,i<s)->(∀s∈l,1<=s.length/\s.length<=25)->Er l->Ff i l=true
 | [],_,_,_,_=>rfl
 |s :: t,i,h,hs,hr=>by obtain⟨h1,h2⟩:=Ir.1 hr;rw[Ff,CV];refine⟨?_,QT t s h1 (fun x hx=>hs x (Fv _ hx)) h2⟩;unfold BH;rw[CV,CV,decide_eq_true_iff,decide_eq_true_iff,decide_eq_true_iff];exact⟨(hs s Fu).1,(hs s Fu).2,h s Fu⟩
theorem QJ{l:List Rec}{s:Str}(h:s∈AQ (l.map mZ)):1<=s.length/\s.length<=25:=by obtain⟨t,ht,hs⟩:=(SP s _).1 h;obtain⟨r,_,rfl⟩:=ET.1 ht;exact OQ hs
theorem QO{l:List Rec}(h:(AQ (l.map mZ)).length<=1048576):Hc (AQ (l.map mZ))=true:=by
 unfold Hc;rw[CV];refine⟨QT _ _ (fun s hs=> ?_) (fun s hs=>QJ hs) (OF _),Aw h⟩;have:=(QJ hs).1;cases s with
 |nil=>simp at this
 |cons x t=>exact List.nil_lt_cons x t
theorem Xj(ts:List (List Str))(u:Str):Eg ts.length none (BI ts u)=true:=by
 refine Nk _ _ none (fun x hx=> ?_) ?_ (fun y hy=>by cases hy)
 ·unfold BI at hx;exact ES.1 (List.mem_filter.1 hx).1
 ·unfold BI;exact List.Pairwise.filter _ List.pairwise_lt_range
theorem S9(l:List Rec):J0 l.length ((AQ (l.map mZ)).map (BI (l.map mZ)))=true/\∀x∈(AQ (l.map mZ)).map (BI (l.map mZ)),x≠ []/\x.length<=l.length:=by
 refine⟨Iy.2 fun x hx=> ?_,fun x hx=> ?_⟩
 ·obtain⟨u,_,rfl⟩:=ET.1 hx;have:=Xj (l.map mZ) u;rw[Cg]at this;exact this
 ·obtain⟨u,hu,rfl⟩:=ET.1 hx;have h2:=LK (l.map mZ) u;rw[Cg]at h2;exact⟨(Nh _ u).1 hu,h2⟩
theorem SO(s:Str):∀x∈I1 s,x<=255:=fun x h=>by
 unfold I1 natS at h;rcases BN.1 h with h|h
 ·exact Et _ x h
 ·obtain⟨c,_,rfl⟩:=ET.1 h;have:=c.toNat_lt;omega
theorem SA:∀ (t:List Str) (i:Str),∀x∈Hw i t,x<=255
 | [],_,x,h=>by simp[Hw]at h
 |s :: t,i,x,h=>by
  rw[Hw]at h;simp only[List.mem_append]at h;rcases h with (h|h)|h
  ·exact Et _ x h
  ·exact SO _ x h
  ·exact SA t s x h
theorem VP(l:List Str):∀x∈EO l,x<=255:=fun x h=>by
 cases l with
 |nil=>simp[EO]at h
 |cons s t=>
  rw[EO]at h;rcases BN.1 h with h|h
  ·exact SO _ x h
  ·exact SA t s x h
theorem W5(size:Nat)(l:List Str):∀x∈Fs size l,x<=255:=fun x h=>by
 unfold Fs at h;simp only[List.mem_append,List.mem_flatMap]at h;rcases h with (h|⟨c,_,h⟩)|⟨c,_,h⟩
 ·exact Et _ x h
 ·exact Et _ x h
 ·exact VP _ x h
theorem V8(bound:Nat)(l:List Nat):∀x∈Ef.efO bound l,x<=255:=fun x h=>by
 unfold Ef.efO at h;split at h
 ·exact Et _ x h
 ·rcases BN.1 h with h|h
  ·exact Et _ x h
  ·obtain⟨k,_,rfl⟩:=ET.1 h;exact Huff.Ru _ k
theorem VT(o:Opts.Opt)(l:List Rec):∀x∈ixR o l,x<=255:=fun x h=>by
 unfold ixR ixO Ed at h;rcases BN.1 h with h|h
 ·exact W5 _ _ x h
 ·obtain⟨c,_,h⟩:=List.mem_flatMap.1 h;exact V8 _ _ x h
theorem QF{o:Opts.Opt}(h:Opts.Dl o=0):16<=o.block/\o.block<=32768/\1<=o.bucket/\o.bucket<=64:=by
 unfold Opts.Dl Opts.Dj at h;split at h
 ·rename_i hc;exact⟨hc.1.1,hc.1.2,hc.2.1.1,hc.2.1.2⟩
 ·cases h
end Body
namespace Body
open Go.RowKit Mem Own Canon NumPut Crc
open Recs Idx
open Block (uZ)
open Go.Proofs.YtfgdoknipbpfhaaGreatDoor.One (FrsAt FrsAt.step)
structure JS (base:Nat) (O D:List Nat) (vo vd:Value) (W:World):Prop where
 oo:W.ownsRow base 5 1 vo O.length (cZ .u8 O)
 od:W.ownsRow base 5 1 vd D.length (cZ .u8 D)
 ap:Apt vo vd
section
variable {base:Nat} {O D X:List Nat} {vo vd v':Value} {W w':World}
theorem JS.step(h:JS base O D vo vd W)(b:aO W w'):JS base O D vo vd w':=
 ⟨dZ h.oo fun y hy=>b.block y (Ae h.oo y hy).2,dZ h.od fun y hy=>b.block y (Ae h.od y hy).2,h.ap⟩
theorem JS.dirA(h:JS base O D vo vd W)(hB:base<=W.heap.size)(g:W.grownBy w' vd.ownBlock)(o:w'.ownsRow base 5 1 v' (D.length+X.length) (cZ .u8 D++cZ .u8 X))(t:v'.ownBlock=vd.ownBlock∨v'.ownBlock=some W.heap.size):
 JS base O (D++X) vo v' w'/\Below base W w':=by
 obtain⟨a,b⟩:=Lg h.oo h.ap.symm g t;refine⟨⟨a,?_,b.symm⟩,(Ag base W).grown g hB fun y hy=>(Ae h.od y hy).1⟩;rw[Aj,show cZ .u8 (D++X)=cZ .u8 D++cZ .u8 X by simp[cZ]];exact o
theorem JS.outA(h:JS base O D vo vd W)(hB:base<=W.heap.size)(g:W.grownBy w' vo.ownBlock)(o:w'.ownsRow base 5 1 v' (O.length+X.length) (cZ .u8 O++cZ .u8 X))(t:v'.ownBlock=vo.ownBlock∨v'.ownBlock=some W.heap.size):
 JS base (O++X) D v' vd w'/\Below base W w':=by
 obtain⟨a,b⟩:=Lg h.od h.ap g t;refine⟨⟨?_,a,b⟩,(Ag base W).grown g hB fun y hy=>(Ae h.oo y hy).1⟩;rw[Aj,show cZ .u8 (O++X)=cZ .u8 O++cZ .u8 X by simp[cZ]];exact o
end
structure JE (base:Nat) (vo vd u:Value) (m:Nat) (ys:List Value) (W:World):Prop where
 own:W.ownsRow base 5 1 u m ys
 ao:Apt vo u
 ad:Apt vd u
section
variable {base m:Nat} {O D X:List Nat} {vo vd v' u:Value} {ys:List Value} {W w':World}
theorem JE.new(h:JS base O D vo vd W)(hB:base<=W.heap.size)(o:w'.ownsRow W 5 1 u m ys):JE base vo vd u m ys w':=
 ⟨iZ o hB,(RR o (Ai _) fun x hx=>(Ae h.oo x hx).2).symm,(RR o (Ai _) fun x hx=>(Ae h.od x hx).2).symm⟩
theorem JE.step(h:JE base vo vd u m ys W)(b:aO W w'):JE base vo vd u m ys w':=⟨dZ h.own fun y hy=>b.block y (Ae h.own y hy).2,h.ao,h.ad⟩
theorem JE.dirA(h:JE base vo vd u m ys W)(g:W.grownBy w' vd.ownBlock)(t:v'.ownBlock=vd.ownBlock∨v'.ownBlock=some W.heap.size):JE base vo v' u m ys w':=by obtain⟨a,b⟩:=Lg h.own h.ad g t;exact⟨a,h.ao,b⟩
theorem JE.outA(h:JE base vo vd u m ys W)(g:W.grownBy w' vo.ownBlock)(t:v'.ownBlock=vo.ownBlock∨v'.ownBlock=some W.heap.size):JE base v' vd u m ys w':=by obtain⟨a,b⟩:=Lg h.own h.ao g t;exact⟨a,b,h.ad⟩
end
end Body
namespace Idx
open Go.RowKit Go.Maps Mem Own Canon Sift
open Recs
structure RS (w:World) (base rb xb:Nat) (vT vL:Value) (q k:Nat) (SS:List Str) (vals:List Value) (I:Str->List Nat):Prop where
 res:Blk w rb 53 #[(),()]
 box:Blk w xb 53 #[vT,vL]
 ne:rb≠xb
 tt:w.ownsRow base 9 1 vT q (AD SS)
 ll:w.ownsRow base 37 1 vL k vals
 vl:∀ (i:Nat) v s,vals[i]? =some v->SS[i]? =some s->w.ownsRow base 3 1 v (I s).length (cZ .i64 (I s))
section
variable {w w4:World} {base rb xb q k q':Nat} {SS SS':List Str} {vals:List Value} {vT vL v4 v:Value} {I I':Str->List Nat} {o:Obj}
theorem RS.step(h:RS w base rb xb vT vL q k SS vals I)(hb:aO w w4):RS w4 base rb xb vT vL q k SS vals I:=
 ⟨h.res.step hb,h.box.step hb,h.ne,dZ h.tt (fun b hy=>hb.block b (Ae h.tt b hy).2),dZ h.ll (fun b hy=>hb.block b (Ae h.ll b hy).2),
  fun i v s hv hs=>dZ (h.vl i v s hv hs) (fun b hy=>hb.block b (Ae (h.vl i v s hv hs) b hy).2)⟩
theorem RS.putT(h:RS w base rb xb vT vL q 0 SS [] I)(j:w.ownsRow base 9 1 v4 q' (AD SS')):RS (w.setCell ⟨xb,0,none⟩ v4) base rb xb v4 vL q' 0 SS' [] I':=
 ⟨h.res.far h.ne _,h.box.set 0 v4,h.ne,Cu j (fZ j h.box iX) _,Cu h.ll (fZ h.ll h.box iX) _,fun i v s hv=>by cases hv⟩
theorem RS.putL{s:Str}(h:RS w base rb xb vT vL q k SS vals I)(hs:SS[k]? =some s)(hv:w.ownsRow base 3 1 v (I s).length (cZ .i64 (I s)))(hg:(w.alloc o).grownBy w4 vL.ownBlock)(y:w4.ownsRow base 37 1 v4 (k+1) (vals++ [v])):
 RS (w4.setCell ⟨xb,1,none⟩ v4) base rb xb vT v4 q (k+1) SS (vals++ [v]) I:=by
 have j:Blk w4 xb 53 #[vT,vL]:=(h.box.alloc o).grown hg (fun e=>fZ h.ll h.box iX e.symm);have G:=h.ll;have hk:vals.length=k:=by have:=h.ll.1;omega
 refine⟨((h.res.alloc o).grown hg (fun e=>fZ h.ll h.res iX e.symm)).far h.ne _,j.set 1 v4,h.ne,?_,Cu y (fZ y j iX) _,fun i u t hu ht=> ?_⟩
 ·have:=JL (h.tt.alloc o) (h.ll.alloc o) iX hg;exact Cu this (fZ this j iX) _
 ·have z:w.ownsRow base 3 1 u (I t).length (cZ .i64 (I t)):=by
   by_cases hi:i<k
   ·rw[Hj kR]at hu;exact h.vl i u t hu ht
   ·have E:=(Ch.1 hu).1;rw[Aj,KE]at E;obtain rfl:i=k:=kR;rw[JU kR,hk,Fj]at hu;rw[hs]at ht;injection ht with ht;injection hu with hu;rw[<-ht,<-hu];exact hv
  have:=JL (z.alloc o) (h.ll.alloc o) iX hg;exact Cu this (fZ this j iX) _
end
def DY(ts:List (List Str))(u:Str)(i:Nat):List Nat:=(List.range i).filter fun i=>(ts.getD i []).contains u
theorem WJ(ts:List (List Str))(u:Str):DY ts u ts.length=BI ts u:=rfl
theorem QB{ts:List (List Str)}{T:List Str}{u:Str}(h:ts[i]? =some T):DY ts u (i+1)=DY ts u i++(if T.contains u then [i]else []):=by unfold DY;rw[Iq,List.filter_append];congr 1;rw[List.filter_cons,List.filter_nil,Ar,h];rfl
theorem Of(w:World)(A:Option Addr)(n c:Nat)(l:List Rec)(hn:l.length=n)(hN:n<=20000)(ak:∀r∈l,r.source.size<=50000/\r.text.size<=50000)(ha:Row w w A n 4 (Dt l)):
 Calls prog 23 #[.slice A n c] w (G1 (l.map mZ) w):=by
 obtain⟨j0,bJ,bR,bF,bL⟩:=info_parts Rt;obtain⟨i1,bI,bK,bB,bA⟩:=info_parts Rh;have HN:=hid hn;have D1:Hid (∀wx r,r∈l->Calls prog 68 #[.agg #[.int .u64 r.time, .int .u8 r.level, .string r.source, .string r.text]] wx (Ie (mZ r) wx)):=fun wx r hr=>UB wx r.time r.level r.source r.text (ak r hr).1 (ak r hr).2;have bf:Hid (∀r∈l,(mZ r).length<=100000):=fun r hr=>by have:=Nr r.text.data.toList r.source.data.toList;have h1:=Lib.size_eq r.text;have h2:=Lib.size_eq r.source;have:=ak r hr;unfold mZ;omega
 unfold Ie at D1;unfold G1;clear hn ak;go_enter func23,ntmps23;go_wp2_with fail
 have aQ:Hid (RS ((w.alloc (.cells #[(),()] 53)).alloc (.cells #[(),()] 53)) w w (w.heap.size+1) (.slice none 0 0) (.slice none 0 0) 0 0 [] [] (fun _=> [])):=
  ⟨(Blk.made _ _ _).alloc _,Blk.made_at _ _ _ mY,kR,Aq _ _ _ _,Aq _ _ _ _,fun i v s hv=>by cases hv⟩
 have a7:Hid (aO w ((w.alloc (.cells #[(),()] 53)).alloc (.cells #[(),()] 53))):=bZ (bZ (Ag _ _));obtain⟨xb,bi⟩:=iS (w.heap.size+1);rw[<-bi]at aQ ⊢;have a1:w.heap.size<=xb:=kR
 generalize (w.alloc (.cells #[(),()] 53)).alloc (.cells #[(),()] 53)=w1 at *;clear bi;go_loopw [4] (fun iv wr=>∃ (k m:Nat) (vT:Value),k<=n/\m<=100000*k/\iv= .int .i64 k/\Hid (RS wr w w xb vT (.slice none 0 0) m 0 (AQ ((l.take k).map mZ)) [] (fun _=> []))/\Hid (aO w wr)) (fun iv _=>n-(intOf iv).toNat)
 case atStart=>exact⟨0,0,_,kR,kR,rfl,aQ.out,a7.out⟩
 case round=>
  obtain⟨k,m,vT,hk,hm,rfl,HS,HB⟩:=hrel;clear aQ a7;obtain⟨w0,rfl⟩:=iS wr;by_cases bD:k<n
  ·have gk:=iQ ((k:Int)<n);have bp:=iQ (k<n);have x0:(0:Int)<=(k:Int):=kR;have x1:(k:Int)<(n:Int):=kR;obtain⟨b,z,r,rfl,bM,hg,c0,c1,c2,c3⟩:=Row.rec (ha.below HB.out) HN.out bD;have Z:=BP hg;have E1:=hid (fun wx=>D1.out wx r Z);have az:=bf.out r Z;have bb:(l.take (k+1)).map mZ=(l.take k).map mZ++ [mZ r]:=(by rw[EG,hg,Is];rfl);have aV:AQ ((l.take (k+1)).map mZ)=Bk (AQ ((l.take k).map mZ)) (mZ r):=(by rw[bb,Zd]);obtain⟨AT,aw⟩:=iS (AQ ((l.take k).map mZ));rw[<-aw]at aV HS;have bq:=hid aV;clear hg Z bb aV aw;generalize mZ r=T at *;obtain⟨q,hq⟩:=iS T.length;rw[<-hq]at E1 az;have HQ:=hid hq;clear hq;go_wp2_with fail;refine(E1.out _).mono ?_;rintro e w4 ⟨v4,rfl,G,M⟩;obtain⟨A4,c4,rfl⟩:=aZ G;have bd:=hid (HS.out.step M);have E:Hid (aO w w4):=eZ M HB.out;have a0:=hid (iZ G HB.out.size);clear M G E1 HS HB c0 c1 c2 c3;go_wp2_with fail;go_loopw [6] (fun jv wr=>∃ (j m':Nat) (an:Value),j<=q/\m'<=m+j/\jv= .int .i64 j/\Hid (RS wr w w xb an (.slice none 0 0) m' 0 (Bk AT (T.take j)) [] (fun _=> []))/\Hid (wr.ownsRow w 9 1 (.slice A4 q c4) q (AD T))/\Hid (aO w wr)) (fun jv _=>q-(intOf jv).toNat)
   case atStart=>exact⟨0,m,vT,kR,kR,rfl,(by show RS _ _ _ _ _ _ _ _ _ _ _;rw[List.take_zero];exact bd.out),a0.out,E.out⟩
   case round=>
    obtain⟨j,m',an,hj,bT,rfl,HS,HO,HB⟩:=hrel;clear bd a0 E;obtain⟨wi,rfl⟩:=iS wr;by_cases bW:j<q
    ·have gj:=iQ ((j:Int)<q);have ay:=iQ (j<q);have y0:(0:Int)<=(j:Int):=kR;have y1:(j:Int)<(q:Int):=kR;obtain⟨t,ht⟩:∃t,T[j]? =some t:=⟨_,AE kj⟩;obtain⟨g,cg,aW,bP,_⟩:=HO.out.form kR;injection aW with hA1 hA2 hA3;subst hA1 hA3;have ck:wi.cell? ⟨g,j,none⟩=some (.string (bs t)):=(by rw[HO.out.cellAt j kR];exact GM ht);have N:=N5 AT ht;have bn:=Kj t (Bk AT (T.take j));have ac:(Bk AT (T.take j)).length=m':=(by have h:=HS.out.tt.1;rw[Ob]at h;omega);rw[<-N,ac]at bn;obtain⟨A5,c5,rfl⟩:=aZ HS.out.tt;have DP:Hid (∀wx,aO wi wx->Calls prog 69 #[.slice A5 m' c5, .string (bs t)] wx (JQ (Bk AT (T.take (j+1))) w wx)):=fun wx hb=>by rw[N];exact NK wx w A5 m' c5 _ t ac kR (AY HB.out.size hb.size) (HS.out.step hb).tt
     obtain⟨R,hR⟩:=iS (Bk AT (T.take (j+1)));rw[<-hR]at DP bn;unfold JQ at DP;have HR:=hid hR;have b0:=HS.out.box.iO 0;clear N ac hR ht;go_upto_region 9 with fail;go_region_with((go_at_call 69;(with_reducible refine(DP.out _ nJ).mono ?_);rintro e w6 ⟨v6,rfl,aU,bc⟩;obtain⟨A6,c6,rfl⟩:=aZ aU;have J:aO wi w6:=eZ bc nJ;have q0:=(HS.out.box.step J).iO 0;have q1:=(HS.out.box.step J).frozen 0))
     all_goals
      have aX:Hid (RS (w6.setCell ⟨xb,0,none⟩ (.slice A6 R.length c6)) w w xb (.slice A6 R.length c6) (.slice none 0 0) R.length 0 (Bk AT (T.take (j+1))) [] (fun _=> [])):=(by show RS _ _ _ _ _ _ _ _ _ _ _;rw[<-HR.out];exact(HS.out.step J).putT aU);have bE:Hid ((w6.setCell ⟨xb,0,none⟩ (.slice A6 R.length c6)).ownsRow w 9 1 (.slice (some ⟨g,0,none⟩) q c4) q (AD T)):=(by have h:w6.ownsRow w 9 1 (.slice (some ⟨g,0,none⟩) q c4) q (AD T):=dZ HO.out (fun y hy=>J.block y (Ae HO.out y hy).2);exact Cu h (fZ h (HS.out.box.step J) iX) _);have bt:Hid (aO w (w6.setCell ⟨xb,0,none⟩ (.slice A6 R.length c6))):=kZ a1 (eZ J HB.out);clear HS HO HB DP b0 ck q0 q1 aU bc J HR;go_wp2_with fail;go_roundw
      case measure=>exact jw
      case rel=>go_light;exact⟨j+1,R.length,_,kR,kR,i5,aX.out,bE.out,bt.out⟩
    ·obtain rfl:j=q:=by omega
     have gj:=iR ((j:Int)<j);have ay:=iR (j<j);have aX:Hid (RS wi w w xb an (.slice none 0 0) m' 0 (AQ ((l.take (k+1)).map mZ)) [] (fun _=> [])):=(by show RS _ _ _ _ _ _ _ _ _ _ _;have h:=HS.out;rw[HQ.out,List.take_length,<-bq.out]at h;exact h);clear HS HQ;go_wp2_with fail;go_roundw
     case measure=>exact jw
     case rel=>go_light;exact⟨k+1,m',an,kR,kR,i5,aX.out,HB.out⟩
  ·obtain rfl:k=n:=by omega
   have gk:=iR ((k:Int)<k);have bp:=iR (k<k);have ar:l.take k=l:=BR lQ;rw[ar]at HS;have af:(l.map mZ).length=k:=(by rw[Cg,HN.out]);have a5:Hid (∀ (i:Nat) r,l[i]? =some r->(l.map mZ)[i]? =some (mZ r)):=fun i r h=>by rw[B0,h];rfl
   obtain⟨TS,aT⟩:=iS (l.map mZ);rw[<-aT]at HS af a5;have aj:=hid aT;have bk:=hid af;clear ar aT af;obtain⟨SS,aR⟩:=iS (AQ TS);rw[<-aR]at HS;have ac:SS.length=m:=(by have h:=HS.out.tt.1;rw[Ob]at h;omega);have ax:=hid ac;have ah:=hid aR;have bX:m<=2000000000:=kR;have be:Hid (RS w0 w w xb vT (.slice none 0 0) m 0 SS [] (BI TS)):=⟨HS.out.res,HS.out.box,HS.out.ne,HS.out.tt,HS.out.ll,fun i v s hv=>by cases hv⟩;have a3:=hid HB.out;obtain⟨A5,c5,rfl⟩:=aZ HS.out.tt;clear ac aR HS HB hm;go_wp2_with fail;go_loopw [7] (fun iv wr=>∃ (k2:Nat) (vL:Value) (vals:List Value),k2<=m/\iv= .int .i64 k2/\Hid (RS wr w w xb (.slice A5 m c5) vL m k2 SS vals (BI TS))/\Hid (aO w wr)) (fun iv _=>m-(intOf iv).toNat)
   case atStart=>exact⟨0,_,_,kR,rfl,be.out,a3.out⟩
   case round=>
    obtain⟨k2,vL,vals,bU,rfl,HS,HB⟩:=hrel;clear be a3;obtain⟨w3,rfl⟩:=iS wr;obtain⟨A8,c8,rfl⟩:=aZ HS.out.ll;by_cases bV:k2<m
    ·have gj:=iQ ((k2:Int)<m);have ay:=iQ (k2<m);have y0:(0:Int)<=(k2:Int):=kR;have y1:(k2:Int)<(m:Int):=kR;obtain⟨t,ht⟩:∃t,SS[k2]? =some t:=⟨_,AE (by have:=ax.out;omega)⟩;obtain⟨g,cg,aW,bP,_⟩:=HS.out.tt.form kR;injection aW with hA1 hA2 hA3;subst hA1 hA3;have bm:Hid (∀wx,aO w3 wx->wx.cell? ⟨xb,0,none⟩=some (.slice (some ⟨g,0,none⟩) m c5)/\wx.cell? ⟨g,k2,none⟩=some (.string (bs t))):=fun wx hb=>by have h:=HS.out.step hb;refine⟨h.box.cell 0,?_⟩;rw[h.tt.cellAt k2 kR];exact GM ht
     have HT:=hid ht;have b0:=HS.out.box.iO 0;have bG:=HB.out.size;clear ht;go_wp2_with fail;go_loopw [8,9] (fun v iv wr=>∃ (i p:Nat),i<=k/\p<=i/\iv= .int .i64 i/\Hid ((DY TS t i).length=p)/\Hid (wr.ownsRow w3 3 1 v p (cZ .i64 (DY TS t i)))/\Hid (aO w3 wr)) (fun _ iv _=>k-(intOf iv).toNat)
     case atStart=>exact⟨0,0,kR,kR,rfl,rfl,Aq _ _ _ _,Ag _ _⟩
     case round=>
      obtain⟨i,p,hi,hp,rfl,HP,HO,E⟩:=hrel;obtain⟨wi,rfl⟩:=iS wr;obtain⟨Av,cv,rfl⟩:=aZ HO.out;by_cases bh:i<k
      ·have gi:=iQ ((i:Int)<k);have bO:=iQ (i<k);have z0:(0:Int)<=(i:Int):=kR;have z1:(i:Int)<(k:Int):=kR;have U:Hid (aO w wi):=eZ E.out HB.out;obtain⟨b,z,r,bu,bM,hg,_⟩:=Row.rec ha HN.out bh;subst bu;have Z:=BP hg;have E1:=hid (fun wx=>D1.out wx r Z);have az:=bf.out r Z;have am:TS[i]? =some (mZ r):=a5.out i r hg;have HK:Hid (∀wx,aO wi wx->(wx.cell? ⟨xb,0,none⟩=some (.slice (some ⟨g,0,none⟩) m c5)/\wx.cell? ⟨g,k2,none⟩=some (.string (bs t)))/\wx.cell? ⟨b,z+i*4,none⟩=some (.int .u64 r.time)/\wx.cell? ⟨b,z+i*4+1,none⟩=some (.int .u8 r.level)/\wx.cell? ⟨b,z+i*4+2,none⟩=some (.string r.source)/\wx.cell? ⟨b,z+i*4+3,none⟩=some (.string r.text)):=fun wx hb=>by refine⟨bm.out wx (eZ hb E.out),?_⟩;obtain⟨b',bS,r',ai,_,al,d⟩:=Row.rec (ha.below (eZ hb U.out)) HN.out bh;injection ai with ai;injection ai with h1 h2;subst h1 h2;rw[hg]at al;injection al with al;subst al;exact d
       obtain⟨k0,k1,a8,k3,k4⟩:=HK.out wi (Ag _ _);clear hg Z;generalize mZ r=T at *;obtain⟨q,hq⟩:=iS T.length;rw[<-hq]at E1 az;by_cases hc:T.contains t=true
       ·skip
        have N:DY TS t (i+1)=DY TS t i++ [i]:=(by rw[QB am,hc];rfl);have Q:=hid N
        have DH:Hid (∀wx A c,Row wx wx A q 1 (Eo T)->Calls prog 70 #[.slice A q c, .string (bs t)] wx (fun e w'=>e= .returned (.bool true)/\w'=wx)):=fun wx A c h=>by
         have:=QI wx A q c T t hq.symm kR h
         rwa [hc]at this
        clear N hc am hq;go_upto_region 17 with fail;go_region_held3 (fun wx=>(wx.cell? ⟨xb,0,none⟩=some (.slice (some ⟨g,0,none⟩) m c5)/\wx.cell? ⟨g,k2,none⟩=some (.string (bs t)))/\wx.cell? ⟨b,z+i*4,none⟩=some (.int .u64 r.time)/\wx.cell? ⟨b,z+i*4+1,none⟩=some (.int .u8 r.level)/\wx.cell? ⟨b,z+i*4+2,none⟩=some (.string r.source)/\wx.cell? ⟨b,z+i*4+3,none⟩=some (.string r.text)) (first|assumption|(refine HK.out _ ?_;(repeat (with_reducible first|exact Ag _ _|assumption|refine Ak ?_ |refine below_drewN ?_ _|refine qZ ?_ |refine bZ ?_ |refine eZ iV ?_ |refine belA ?_ |refine rZ iV ?_)))) (first|(go_at_call 68;(with_reducible refine(E1.out _).mono ?_);rintro e w4 ⟨v4,rfl,G,M⟩;obtain⟨A4,c4,rfl⟩:=aZ G;have bN:aO wi w4:=eZ M nJ)|(go_at_call 70;(with_reducible refine(DH.out _ _ _ (II G)).mono ?_);rintro e w5 ⟨rfl,rfl⟩));have ab:Hid (aO w3 w5):=eZ bN E.out;have ae:Hid (w5.ownsRow w3 3 1 (.slice Av p cv) p (cZ .i64 (DY TS t i))):=dZ HO.out (fun y hy=>bN.block y (Ae HO.out y hy).2);have aq:=ab.out.size;clear M G bN HO E U HK k0 k1 a8 k3 k4 E1 DH;go_wp2_with(at_builtin;refine gZ rfl (.tmp 60) (.tmp 62) 37 rfl w3 3 j0 _ 1 8 underlying37 bJ bR bF bL rfl iX _ _ _ kU (ae.out.alloc _) _ 1 1 [.int .i64 (i:Nat)] kU (Src.of_blk (Blk.made_at _ _ _ mY) 1 1 1 rfl) kw nI kR ni ?_;intro v8 w8 Y ba aY;obtain⟨A6,c6,rfl⟩:=aZ Y;have bC:Hid (aO w3 w8):=(lZ aq ab.out).grown ba ni (fun y hy=>(Ae ae.out y hy).1);have a6:=hid Y;clear Y ba aY);have aS:Hid ((DY TS t (i+1)).length=p+1):=(by show _=_;rw[Q.out,Aj,HP.out];rfl);have aP:Hid (w8.ownsRow w3 3 1 (.slice A6 (p+1) c6) (p+1) (cZ .i64 (DY TS t (i+1)))):=(by show World.ownsRow _ _ _ _ _ _ _;rw[Q.out,show cZ .i64 (DY TS t i++ [i])=cZ .i64 (DY TS t i)++ [.int .i64 (i:Nat)] by simp[cZ]];exact a6.out);clear a6 ae Q HP ab;go_roundw
        case measure=>exact jw
        case rel=>go_light;exact⟨i+1,p+1,kR,kR,i5,aS.out,aP.out,bC.out⟩
       ·have hc:T.contains t=false:=(by simpa using hc);have N:DY TS t (i+1)=DY TS t i++ []:=(by rw[QB am,hc];rfl);have Q:=hid N
        have DH:Hid (∀wx A c,Row wx wx A q 1 (Eo T)->Calls prog 70 #[.slice A q c, .string (bs t)] wx (fun e w'=>e= .returned (.bool false)/\w'=wx)):=fun wx A c h=>by
         have:=QI wx A q c T t hq.symm kR h
         rwa [hc]at this
        clear N hc am hq;go_upto_region 17 with fail;go_region_held3 (fun wx=>(wx.cell? ⟨xb,0,none⟩=some (.slice (some ⟨g,0,none⟩) m c5)/\wx.cell? ⟨g,k2,none⟩=some (.string (bs t)))/\wx.cell? ⟨b,z+i*4,none⟩=some (.int .u64 r.time)/\wx.cell? ⟨b,z+i*4+1,none⟩=some (.int .u8 r.level)/\wx.cell? ⟨b,z+i*4+2,none⟩=some (.string r.source)/\wx.cell? ⟨b,z+i*4+3,none⟩=some (.string r.text)) (first|assumption|(refine HK.out _ ?_;(repeat (with_reducible first|exact Ag _ _|assumption|refine Ak ?_ |refine below_drewN ?_ _|refine qZ ?_ |refine bZ ?_ |refine eZ iV ?_ |refine belA ?_ |refine rZ iV ?_)))) (first|(go_at_call 68;(with_reducible refine(E1.out _).mono ?_);rintro e w4 ⟨v4,rfl,G,M⟩;obtain⟨A4,c4,rfl⟩:=aZ G;have bN:aO wi w4:=eZ M nJ)|(go_at_call 70;(with_reducible refine(DH.out _ _ _ (II G)).mono ?_);rintro e w5 ⟨rfl,rfl⟩));have ab:Hid (aO w3 w5):=eZ bN E.out;have ae:Hid (w5.ownsRow w3 3 1 (.slice Av p cv) p (cZ .i64 (DY TS t i))):=dZ HO.out (fun y hy=>bN.block y (Ae HO.out y hy).2);have aq:=ab.out.size;clear M G bN HO E U HK k0 k1 a8 k3 k4 E1 DH;have aS:Hid ((DY TS t (i+1)).length=p):=(by show _=_;rw[Q.out,Fl,HP.out]);have aP:Hid (w5.ownsRow w3 3 1 (.slice Av p cv) p (cZ .i64 (DY TS t (i+1)))):=(by show World.ownsRow _ _ _ _ _ _ _;rw[Q.out,Fl];exact ae.out);clear ae Q HP;go_wp2_with fail;go_roundw
        case measure=>exact jw
        case rel=>go_light;exact⟨i+1,p,kR,kR,i5,aS.out,aP.out,ab.out⟩
      ·obtain rfl:k=i:=by omega
       have gi:=iR ((k:Int)<k);have bO:=iR (k<k);have L:=hid (HS.out.step E.out);have U:Hid (aO w wi):=eZ E.out HB.out;have bH:=U.out.size;have av:Hid (wi.ownsRow w 3 1 (.slice Av p cv) (BI TS t).length (cZ .i64 (BI TS t))):=(by show World.ownsRow _ _ _ _ _ _ _;have e:BI TS t=DY TS t k:=(by rw[<-WJ,bk.out]);rw[e,HP.out];exact iZ HO.out bG);have e1:=L.out.box.iO 1;clear HS HO HP HB E bm b0;go_wp2_with(at_builtin;refine gZ rfl (.tmp 65) (.tmp 67) 51 rfl w 37 i1 _ 1 24 underlying51 bI bK bB bA rfl iX _ _ _ kU (L.out.ll.alloc _) _ 1 1 [.slice Av p cv] kU (Src.of_blk (Blk.made_at _ _ _ mY) 1 1 1 rfl) kw nI kR ni ?_;intro v9 w9 aa ag a4;obtain⟨A9,c9,rfl⟩:=aZ aa;have a9:=L.out.putL HT.out av.out ag aa;have f9:=((L.out.box.alloc _).grown ag (fun e=>fZ L.out.ll L.out.box iX e.symm)).frozen 1;have e9:=((L.out.box.alloc _).grown ag (fun e=>fZ L.out.ll L.out.box iX e.symm)).cell 1;simp only[List.getElem?_toArray,List.getElem?_cons_zero,List.getElem?_cons_succ]at e9;have bl:Hid (aO w w9):=(lZ bH U.out).grown ag ni (fun y hy=>(Ae L.out.ll y hy).1);have H9:=hid a9;clear a9 aa ag a4);have bQ:Hid (aO w (w9.setCell ⟨xb,1,none⟩ (.slice A9 (k2+1) c9))):=kZ a1 bl.out;clear L U bl av e1;go_roundw
       case measure=>exact jw
       case rel=>go_light;exact⟨k2+1,_,_,kR,i5,H9.out,bQ.out⟩
    ·obtain rfl:m=k2:=by omega
     have gj:=iR ((m:Int)<m);have ay:=iR (m<m);have b0:=HS.out.box.iO 0;have b1:=HS.out.box.iO 1;have r0:=HS.out.res.iO 0;have r1:=HS.out.res.iO 1;have s0:=HS.out.res.frozen 0;have s1:=HS.out.res.frozen 1;go_wp2_with fail;have bj:=HS.out.tt;have bg:=HS.out.ll;have n1:(Value.slice A5 m c5).ownBlock≠some w.heap.size:=fZ bj HS.out.res iX;have n2:(Value.slice A8 m c8).ownBlock≠some w.heap.size:=fZ bg HS.out.res iX;refine AV (v:= .agg #[.slice A5 m c5, .slice A8 m c8]) ?_ rfl ⟨_,_,vals,rfl,⟨?_,?_,?_⟩,?_⟩
     ·have e0:=(HS.out.res.set 0 (.slice A5 m c5)).cell 0;have e1:=((HS.out.res.set 0 (.slice A5 m c5)).set 1 (.slice A8 m c8)).cell 1;simp at e0 e1;simp[results,results23,go_sem,e0,e1]
     ·rw[<-aj.out,<-ah.out,ax.out];exact Cu (Cu bj n1 _) n1 _
     ·rw[<-aj.out,<-ah.out,Cg,ax.out];exact Cu (Cu bg n2 _) n2 _
     ·intro i v bY hv hi;rw[<-aj.out,<-ah.out]at hi;rw[B0]at hi;cases hs:SS[i]? with
      |none=>rw[hs]at hi;cases hi
      |some s=>rw[hs]at hi;injection hi with hi;subst hi;have au:=HS.out.vl i v s hv hs;have hn:=fZ au HS.out.res iX;exact Cu (Cu au hn _) hn _
     ·exact kZ (Ai _) (kZ (Ai _) HB.out)
end Idx
namespace Body
open Recs Idx Opts
open NumPut (tZ Cf)
open Ef (efO Eg J5 Ky JP efW)
open Huff (bytesOf_length)
theorem Wt(hb:bound<=20000)(hm:Eg bound none l=true)(h0:l≠ [])(hn:l.length<=bound):(efO bound l).length<=10+(3*bound+7) / 8:=by
 have h1:1<=l.length:=Iu.2 h0;have hq:1<=bound / l.length:=(Nat.one_le_div_iff kR).2 hn;have hW:l.length*efW bound l.length<=bound:=by have h3:=Ef.Mb (q:=bound / l.length) kR;have h4:efW bound l.length<2 ^ efW bound l.length:=Nat.lt_two_pow_self;unfold efW at h4 ⊢;have h5:l.length*Nat.log2 (bound / l.length)<=l.length*(bound / l.length):=Nat.mul_le_mul_left _ kR;exact AY h5 (Nat.mul_div_le _ _)
 have i:=Ky (efW bound l.length) l;have z:=JP bound l none hm;have hp:=(Nj bound l none hm).1;have j:=No (l.map (·/ 2 ^ efW bound l.length)) 0 bound (Ba _) (fun x hx=>by obtain⟨y,hy,rfl⟩:=ET.1 hx;exact⟨Ba _,AY (Hh _ _) (by have:=z y hy;omega)⟩) (List.Pairwise.map _ (fun a b h=>Nat.div_le_div_right h) hp);rw[Cg]at j;have E:=Cf (x:=l.length) kR;unfold efO;rw[Aa h0,Aj,bytesOf_length];unfold J5;rw[Aj,i];omega
theorem R0{bound C:Nat}:∀ {ls:List (List Nat)},(∀x∈ls,(efO bound x).length<=C)->(Ed bound ls).length<=C*ls.length
 | [],_=>by simp[Ed]
 |x :: t,h=>by have ih:=R0 (ls:=t) (fun y hy=>h y (Fv _ hy));have hx:=h x Fu;unfold Ed at ih ⊢;rw[Iw,Aj,Bu,Nat.mul_add];omega
theorem Sm(ts:List (List Str)):(AQ ts).length<=(ts.map List.length).sum:=by
 have h:∀ (ts:List (List Str)) (i:List Str),(ts.foldl Bk i).length<=i.length+(ts.map List.length).sum:=fun ts=>by
  induction ts with
  |nil=>intro i;simp
  |cons t ts ih=>intro i;have h1:=ih (Bk i t);have h2:=Lr t i;rw[List.foldl_cons,DV,GU];omega
 have:=h ts [];simpa[AQ]using this
theorem Mo:∀l:List Rec,((((l.map mZ).map List.length).sum:Nat):Int)<=CC l
 | []=>by simp[NO]
 |r :: l=>by
  have ih:=Mo l;have e:CC (r :: l)=Gy r+CC l:=m9
  have h:=Nr r.text.data.toList r.source.data.toList;have h1:r.text.data.toList.length=r.text.size:=Array.length_toList;have h2:r.source.data.toList.length=r.source.size:=Array.length_toList;rw[h1,h2]at h;rw[DV,DV,GU,e];have h3:(mZ r).length<=r.text.size+r.source.size:=h;unfold Gy;omega
theorem Wc{o:Opt}{l:List Rec}{n:Nat}(hn:l.length=n)(h1:(n:Int)<=30)(h2:CC l<=1500):(AQ (l.map mZ)).length<=20000/\(Dl o=0->(ixR o l).length<=99000):=by
 have hT:(AQ (l.map mZ)).length<=1500:=by have a:=Sm (l.map mZ);have b:=Mo l;omega
 refine⟨kR,fun ho=> ?_⟩;obtain⟨_,_,y,j⟩:=QF ho;have i:=S9 l;have h:=QO (l:=l) kR;have hs:∀s∈AQ (l.map mZ),s.length<=25:=fun s hs=>(MJ h s hs).2;have a:=LN hs (size:=o.bucket.toNat) kR kR (nCh o.bucket.toNat (AQ (l.map mZ)).length);have b:=KW hs (size:=o.bucket.toNat) kR (nCh o.bucket.toNat (AQ (l.map mZ)).length);have c:=Nc (size:=o.bucket.toNat) (n:=(AQ (l.map mZ)).length) kR;have d:=R0 (bound:=l.length) (C:=22) (ls:=(AQ (l.map mZ)).map (BI (l.map mZ))) (fun x hx=>by have h3:=i.2 x hx;have h4:=Wt (bound:=l.length) (l:=x) kR (Iy.1 i.1 x hx) h3.1 h3.2;omega);rw[Cg]at d;have e:Fs o.bucket.toNat (AQ (l.map mZ))=hdB o.bucket.toNat (AQ (l.map mZ)) (nCh o.bucket.toNat (AQ (l.map mZ)).length)++bdB o.bucket.toNat (AQ (l.map mZ)) (nCh o.bucket.toNat (AQ (l.map mZ)).length):=NF kR _;unfold ixR ixO;rw[Aj,e,Aj];omega
end Body
namespace Body
open Go.RowKit Mem Own Canon
theorem Vz(w:World)(A:Option Addr)(n c:Nat)(ls:List Nat)(hn:ls.length=n)(hN:n<=1000000)(ha:Row w w A n 1 (jZ .i64 ls)):
 Calls prog 192 #[.slice A n c,iT] w fun e w'=>∃r:Int,e= .returned (.int .i64 r)/\(0<=r↔0∈ls)/\w'=w:=by
 have HN:=hid hn;have H0:Hid (0 ∉ ls.take 0):=by simp[Hid]
 clear hn;go_enter func192,ntmps192;go_wp2_with fail;go_loopw [8] (fun iv wx=>∃k:Nat,k<=n/\iv= .int .i64 k/\Hid (0 ∉ ls.take k)/\wx=w) (fun iv _=>n-(intOf iv).toNat)
 case atStart=>exact⟨0,kR,rfl,H0.out,rfl⟩
 case round=>
  obtain⟨k,hk,rfl,HZ,rfl⟩:=hrel;by_cases j:k<n
  ·have gk:=iQ ((k:Int)<n);have y:=iQ (k<n);have x0:(0:Int)<=(k:Int):=kR;have x1:(k:Int)<(n:Int):=kR;obtain⟨b,E,x,rfl,_,hx,ck⟩:=CD ha HN.out j;by_cases i:x=0
   ·have gz:((0:Int)==(x:Int))=true:=(by rw[i];rfl);have HF:Hid (0∈ls):=(by show 0∈ls;rw[<-i];exact BP hx);clear hx i HZ;go_wp2_with fail;go_ret;exact⟨(k:Int),rfl,⟨fun _=>HF.out,fun _=>kR⟩,rfl⟩
   ·have gz:((0:Int)==(x:Int))=false:=by rw[Df];omega
    have z:Hid (0 ∉ ls.take (k+1)):=by
     show ¬_;rw[EG,hx];intro h;rcases BN.1 h with h|h
     ·exact HZ.out h
     ·simp at h;exact i h.symm
    clear hx i HZ;go_wp2_with fail;go_roundw
    case measure=>exact jw
    case rel=>go_light;exact⟨k+1,kR,i5,z.out,i7⟩
  ·obtain rfl:k=n:=by omega
   have gk:=iR ((k:Int)<k);have y:=iR (k<k);have HF:Hid (0 ∉ ls):=(by have h:=HZ.out;rw[BR lQ]at h;exact h);clear HZ j;go_wp2_with fail;go_ret;exact⟨-1,rfl,⟨fun h=>kR,fun h=>absurd h HF.out⟩,rfl⟩
theorem PN(w:World)(A:Option Addr)(n c:Nat)(ls:List Nat)(hn:ls.length=n)(hN:n<=1000000)(ha:Row w w A n 1 (jZ .i64 ls)):
 Calls prog 115 #[.slice A n c,iT] w fun e w'=>e= .returned (.bool (decide (0∈ls)))/\w'=w:=by
 have D:=hid (Vz w A n c ls hn hN ha);clear hn ha;go_enter func115,ntmps115;go_wp2_with fail;refine D.out.mono ?_;rintro e w1 ⟨r,rfl,hr,rfl⟩;have gr:decide ((0:Int)<=r)=decide (0∈ls):=by rw[decide_eq_decide];exact hr
 clear hr;go_wp2_with fail;go_ret;exact⟨rfl,rfl⟩
end Body
namespace Body
open Go.RowKit Mem Own Canon Nums
theorem R8:(prog.info? 3).map (fun i=>(i.zero,i.size,i.bytes))=some (some (.int .i64 0),1,8):=kG
def MZ(w:World)(gb:Nat)(t:TypeId)(rest:List Value)(room:Nat)(ls:List Nat)(e:Ending)(w':World):Prop:=
 e= .returned (.int .i64 (EX room ls))/\Kept (fun x=>x<w.heap.size/\x≠gb) w w'/\(EX room ls=0->∃vc vs,Blk w' gb t (vc :: vs :: .int .i64 (dP ls:Nat) :: .int .i64 (dQ ls:Nat) :: rest).toArray/\w'.ownsRow w 3 1 vc (Bj ls).length (cZ .i64 (Bj ls))/\w'.ownsRow w 3 1 vs (By ls).length (cZ .i64 (By ls))/\(∀y,vc.ownBlock=some y->vs.ownBlock≠some y))
theorem Un(w:World)(gb:Nat)(t:TypeId)(x2 x3:Value)(rest:List Value)(A:Option Addr)(m c Y:Nat)(ls:List Nat)(hB:Blk w gb t (.slice none 0 0 :: .slice none 0 0 :: x2 :: x3 :: rest).toArray)(bJ:3≠t)(cl:5≠t)(hm:ls.length=m)(ca:m<=100000)(h8:∀x∈ls,x<=255)(bq:A=none->m=0/\c=0)(ha:Row w w A m 1 (jZ .u8 ls)):
 Calls prog 57 #[.pointer (some ⟨gb,0,none⟩), .slice A m c, .int .i64 (Y:Nat)] w (MZ w gb t rest Y ls):=by
 obtain⟨j0,ce,ck,b1,cf⟩:=info_parts R8;have D0:=hid (new_any w A m c ls hm ca bq ha);have bm:ls.length<=100000:=kR
 have DI:=hid (fun wx g B d at_ er most (hm:most<=1000000000) h=>GJ wx g w ls B d at_ er most bm h8 hm h);have ax:=hid (fun wx g B d at_ er h=>CJ wx g w ls B d at_ er h);have ay:=hid (fun wx g B d at_ er h=>Sk wx g w ls B d at_ er h);obtain⟨R,hR⟩:=iS (EX Y ls);unfold MZ;rw[<-hR];have az:Co ls<=20000:=CI h8 _ _;have cd:EZ ls<=20000:=AY (CI h8 _ _) az;have ak:Hid (∀ (most a:Nat) (er:Int),zZ most ls a er<=most):=fun most a er=>CI h8 a er;have cj:=KR (rec:=Co ls) (ls:=ls) (EZ ls) (nZ (Co ls) ls (nZ 20000 ls 0 0) (oZ 20000 ls 0 0)) (oZ (Co ls) ls (nZ 20000 ls 0 0) (oZ 20000 ls 0 0)) [] [] rfl;have bT:=Nm (rec:=Co ls) h8 (EZ ls) (nZ (Co ls) ls (nZ 20000 ls 0 0) (oZ 20000 ls 0 0)) (oZ (Co ls) ls (nZ 20000 ls 0 0) (oZ 20000 ls 0 0)) [] [] (fun x hx=>by simp at hx) (fun x hx=>by simp at hx);have ch:=hid cj;have aS:=hid bT;have HR:=hid hR;have b7:=hid hB;have bY:=hB.lt;clear hm h8 bq ha hR hB cj bT ca bm;go_enter func57,ntmps57;go_wp2_with fail;refine D0.out.mono ?_;rintro e w1 ⟨g,B,d,rfl,bL,bu⟩;have bS:=hid bu;have bR:=hid bL;have cr:=bL.lo;have cx:=bu.size;clear bL bu D0;go_wp2_with fail;refine(DI.out _ g B d 0 0 20000 kR bR.out).mono ?_;rintro e w2 ⟨rfl,b4,J⟩;have bU:=hid b4;have bD:Hid (aO w w2):=bS.out.trans (J.below fun b h=>⟨kR,kR⟩);obtain⟨rec,ag⟩:=iS (Co ls);have aa:=hid ag;rw[<-ag]at az;rw[show zZ 20000 ls 0 0=rec from ag.symm];clear b4 J bS bR ag;go_wp2_with fail;refine(DI.out _ g B d _ _ rec kR bU.out).mono ?_;rintro e w3 ⟨rfl,bQ,U⟩;obtain⟨nb,bk⟩:=iS (EZ ls);have co:=hid bk;rw[<-bk]at cd;rw[show zZ rec ls (nZ 20000 ls 0 0) (oZ 20000 ls 0 0)=nb by rw[bk,aa.out];rfl];have bK:Hid (aO w w3):=bD.out.trans (U.below fun b h=>⟨by have:=bD.out.size;omega,kR⟩);have bP:=hid (b7.out.below bK.out bY);have cg:Hid (DrI w w3 gb t (x2 :: x3 :: rest) g ls B d (nZ rec ls (nZ 20000 ls 0 0) (oZ 20000 ls 0 0)) (oZ rec ls (nZ 20000 ls 0 0) (oZ 20000 ls 0 0)) [] [] (.slice none 0 0) (.slice none 0 0)):=⟨bQ,bP.out,Aq _ _ _ _,Aq _ _ _ _,(fun y h=>by cases h),Kept.of_below bK.out (fun x hx=>hx.1),bY,bJ,cl⟩;have bX:Hid (DJ rec ls (nb-0) (nZ rec ls (nZ 20000 ls 0 0) (oZ 20000 ls 0 0)) (oZ rec ls (nZ 20000 ls 0 0) (oZ 20000 ls 0 0)) [] []=Fo ls):=by show _=_;rw[aa.out,co.out];rfl
 generalize nZ rec ls (nZ 20000 ls 0 0) (oZ 20000 ls 0 0)=a0 at *;generalize oZ rec ls (nZ 20000 ls 0 0) (oZ 20000 ls 0 0)=e0 at *;clear bQ U bU bD bK bP b7 bk;go_wp2_with fail;go_loopw [10] (fun iv wr=>∃ (k at_:Nat) (er:Int) (C S:List Nat) (vc vs:Value),k<=nb/\iv= .int .i64 k/\Hid (C.length=k)/\Hid (S.length=k)/\Hid (DrI w wr gb t (x2 :: x3 :: rest) g ls B d at_ er C S vc vs)/\Hid (DJ rec ls (nb-k) at_ er C S=Fo ls)) (fun iv _=>nb-(intOf iv).toNat)
 case atStart=>exact⟨0,a0,e0,[],[],_,_,kR,rfl,rfl,rfl,cg.out,bX.out⟩
 case round=>
  obtain⟨k,at_,er,C,S,vc,vs,hk,rfl,aq,aR,HI,HG⟩:=hrel;clear cg bX;have zr:=HI.out.kept.size;by_cases ba:k<nb/\er=0
  ·obtain⟨bl,rfl⟩:=ba;have gk:=iQ ((k:Int)<nb);have bN:=iQ (k<nb);have hG:=HG.out;rw[show nb-k=(nb-(k+1))+1 by omega,DJ,Aa (show ¬((0:Int)≠0) from fun h=>h rfl)]at hG;have aW:=hid (ax.out _ _ _ _ _ _ HI.out.cur);have cu:=ak.out rec at_ 0;have D1:=hid (fun wx hx=>DI.out wx g B d at_ 0 rec kR hx);have D2:=hid (fun wx hx=>DI.out wx g B d (nZ rec ls at_ 0) (oZ rec ls at_ 0) 8388608 kR hx);have cw:=ak.out 8388608 (nZ rec ls at_ 0) (oZ rec ls at_ 0);generalize zZ 8388608 ls (nZ rec ls at_ 0) (oZ rec ls at_ 0)=s at *;generalize nZ 8388608 ls (nZ rec ls at_ 0) (oZ rec ls at_ 0)=a2 at *;generalize oZ 8388608 ls (nZ rec ls at_ 0) (oZ rec ls at_ 0)=e2 at *;generalize zZ rec ls at_ 0=r at *;generalize nZ rec ls at_ 0=a1 at *;generalize oZ rec ls at_ 0=e1 at *;have cm:=hid hG;have c0:=HI.out.cs.1;obtain⟨Ac,cc,rfl⟩:=aZ HI.out.oc;obtain⟨p,hp⟩:=iS C.length;have b5:p=k:=(by rw[hp,aq.out]);rw[<-hp]at c0;have HP:=hid hp;have i:=HI.out.oc;rw[<-hp]at i;have cp:=hid i;clear hG HG hp i b5;go_wp2_with fail;refine aW.out.mono ?_;rintro e w4 ⟨rfl,rfl⟩;have b5:p<=k:=(by rw[HP.out,aq.out];exact Ai _);go_upto_region 7 with fail;go_region_law(first|(go_simp;go_at_call 112;(with_reducible refine(D1.out _ HI.out.cur.drew).mono ?_);rintro e w5 ⟨rfl,ai,ab⟩;have G:=HI.out.call ai ⟨ab.os,ab.tape,ab.output,ab.size,ab.block⟩;have q0:=G.cs.1;rw[<-HP.out]at q0;have aQ:=G.oc;rw[<-HP.out]at aQ;have z5:=G.kept.size;have q9:=(G.blk.alloc (.cells #[.int .i64 (r:Nat)] 3)).cell 0;simp only[List.getElem?_toArray,List.getElem?_cons_zero,<-HP.out]at q9)|(refine Nv rfl (.tmp 33) (.tmp 37) 37 rfl w 3 j0 _ 1 8 underlying37 ce ck b1 cf rfl iX (.slice Ac p cc) p (cZ .i64 C) kU (by first|exact aQ.alloc _|exact(aQ.alloc _).drew) _ 1 1 [.int .i64 (r:Nat)] kU (Src.of_blk (Blk.made_at _ _ _ mY) 1 1 1 rfl) kw nI kR ni ?_;intro A6 c6 w6 aX bM bp;have b6:=(G.blk.alloc (.cells #[.int .i64 (r:Nat)] 3)).grown bM (by rw[HP.out];exact Br (fZ G.oc G.blk bJ));have r0:=b6.cell 0;have s0:=b6.frozen 0;simp only[List.getElem?_toArray,List.getElem?_cons_zero,<-HP.out]at r0))
   all_goals
    have L:=G.count (x:=r) (bZ (o:= .cells #[.int .i64 (r:Nat)] 3) (Ag w5 w5)) (by rw[<-HP.out];exact bM) (by rw[<-HP.out];exact aX) (by rw[<-HP.out];exact bp);have ae:=hid L;obtain⟨As,cs,rfl⟩:=aZ L.os;obtain⟨p2,a7⟩:=iS S.length;have ct:p2<=k:=(by rw[a7,aR.out];exact Ai _);have a5:=L.os;rw[<-a7]at a5;have bO:=hid a5;have d1:=L.cs.2;rw[<-a7]at d1;have aj:=hid a7;have z6:=L.kept.size;clear G L ai ab aX bM bp b6 r0 s0 q0 q9 aQ a5 a7 HI c0 D1 cp;generalize w6.setCell ⟨gb,0,none⟩ (.slice A6 (p+1) c6)=w7 at *;go_upto_region 8 with fail;go_region_law(first|(go_simp;go_at_call 112;refine(D2.out _ ae.out.cur.drew).mono ?_;rintro e w8 ⟨rfl,bW,aT⟩;have ah:=ae.out.call bW ⟨aT.os,aT.tape,aT.output,aT.size,aT.block⟩;have q0:=ah.cs.2;rw[<-aj.out]at q0;have aP:=ah.os;rw[<-aj.out]at aP;have z8:=ah.kept.size;have q9:=(ah.blk.alloc (.cells #[.int .i64 (s:Nat)] 3)).cell 1;simp only[List.getElem?_toArray,List.getElem?_cons_zero,List.getElem?_cons_succ,<-aj.out]at q9)|(refine Nv rfl (.tmp 45) (.tmp 48) 37 rfl w 3 j0 _ 1 8 underlying37 ce ck b1 cf rfl iX (.slice As p2 cs) p2 (cZ .i64 S) kU (by first|exact aP.alloc _|exact(aP.alloc _).drew) _ 1 1 [.int .i64 (s:Nat)] kU (Src.of_blk (Blk.made_at _ _ _ mY) 1 1 1 rfl) kw nI kR ni ?_;intro A9 c9 w9 bi bt bn;have b9:=(ah.blk.alloc (.cells #[.int .i64 (s:Nat)] 3)).grown bt (by rw[aj.out];exact Br (fZ ah.os ah.blk bJ));have r0:=b9.cell 1;have s0:=b9.frozen 1;simp only[List.getElem?_toArray,List.getElem?_cons_zero,List.getElem?_cons_succ,<-aj.out]at r0))
    all_goals
     have ci:=ah.size (x:=s) (bZ (o:= .cells #[.int .i64 (s:Nat)] 3) (Ag w8 w8)) (by rw[<-aj.out];exact bt) (by rw[<-aj.out];exact bi) (by rw[<-aj.out];exact bn);have cq:=hid ci;have b8:Hid ((C++ [r]).length=k+1):=(by show _=_;rw[Aj,aq.out];rfl);have b0:Hid ((S++ [s]).length=k+1):=(by show _=_;rw[Aj,aR.out];rfl);clear ah ci bW aT bi bt bn b9 r0 s0 q0 q9 aP ae bO d1;generalize w9.setCell ⟨gb,1,none⟩ (.slice A9 (p2+1) c9)=cv at *;go_wp2_with fail;go_roundw
     case measure=>exact jw
     case rel=>go_light;exact⟨k+1,a2,e2,C++ [r],S++ [s], .slice A6 (p+1) c6, .slice A9 (p2+1) c9,kR,i5,b8.out,b0.out,cq.out,cm.out⟩
  ·have ac:Hid (Fo ls=(C,S,at_,er)):=by
    have h:=HG.out;by_cases bl:k<nb
    ·rw[Qp (fun h=>ba ⟨bl,h⟩)]at h;exact h.symm
    ·rw[show nb-k=0 by omega,DJ]at h;exact h.symm
   have aW:=hid (ax.out _ _ _ _ _ _ HI.out.cur);clear HG;by_cases bl:k<nb
   ·have gk:=iQ ((k:Int)<nb);have bN:=iQ (k<nb);have bV:er≠0:=fun h=>ba ⟨bl,h⟩;have gE:(er==0)=false:=(by simpa using bV);clear ba bV;go_wp2_with fail;refine aW.out.mono ?_;rintro e w4 ⟨rfl,rfl⟩;have hP:dP ls=zZ 8388608 ls at_ er:=(by unfold dP;rw[ac.out]);have bd:dPA ls=nZ 8388608 ls at_ er:=(by unfold dPA;rw[ac.out]);have bf:dPE ls=oZ 8388608 ls at_ er:=(by unfold dPE;rw[ac.out]);have hC:Bj ls=C:=(by unfold Bj;rw[ac.out]);have hS:By ls=S:=(by unfold By;rw[ac.out]);have D3:=hid (fun wx hx=>DI.out wx g B d at_ er 8388608 kR hx);rw[<-hP,<-bd,<-bf]at D3;have D4:=hid (fun wx hx=>DI.out wx g B d (dPA ls) (dPE ls) 8388608 kR hx);rw[show zZ 8388608 ls (dPA ls) (dPE ls)=dQ ls from rfl]at D4;have D5:=hid (fun wx hx=>ay.out wx g B d (nZ 8388608 ls (dPA ls) (dPE ls)) (oZ 8388608 ls (dPA ls) (dPE ls)) hx);rw[show Fb ls (nZ 8388608 ls (dPA ls) (dPE ls)) (oZ 8388608 ls (dPA ls) (dPE ls))=dE ls from rfl]at D5;have bF:dP ls<=8388608:=(by rw[hP];exact ak.out _ _ _);have bA:dQ ls<=8388608:=ak.out _ _ _;have hr:=HR.out;unfold EX at hr;rw[hC,hS]at hr;have bG:=hid hC;have bC:=hid hS;have a3:∀x∈C,x<=rec:=fun x hx=>by have h:=aS.out.1 x (show x∈Bj ls by rw[hC];exact hx);rw[aa.out];exact h
    have aU:∀x∈S,x<=8388608:=fun x hx=>aS.out.2 x (show x∈By ls by rw[hS];exact hx);have aV:C.length<=20000:=(by rw[aq.out];omega);have bg:S.length<=20000:=(by rw[aR.out];omega);have bh:C.sum<=1000000000000000:=AY (J9 C rec a3) (AY (GT aV az) iX);have bH:S.sum<=500000000000000:=AY (J9 S 8388608 aU) (AY (Fk _ bg) iX);rw[<-aa.out]at hr;obtain⟨P,am⟩:=iS (dP ls);obtain⟨Q,au⟩:=iS (dQ ls);obtain⟨E,hE2⟩:=iS (dE ls);rw[<-am]at D3 bF hr;rw[<-au]at D4 bA hr;have bB:=hid am.symm;have bE:=hid au.symm;rw[<-hE2]at D5 hr;generalize dPA ls=pa at *;generalize dPE ls=pe at *;generalize nZ 8388608 ls pa pe=qa at *;generalize oZ 8388608 ls pa pe=qe at *;obtain⟨k2,J⟩:=iS C.length;obtain⟨k3,U⟩:=iS S.length;have i:=HI.out.oc;have N:=HI.out.os;rw[<-J]at i aV;rw[<-U]at N bg;obtain⟨Ac,cc,rfl⟩:=aZ i;obtain⟨As,cs,rfl⟩:=aZ N;have be:=hid J;have bj:=hid U;have M:=hid hr;have aY:=hid (fun wx (h:wx.ownsRow w 3 1 (.slice Ac k2 cc) k2 (cZ .i64 C))=>PN wx Ac k2 cc C J.symm kR (Hq h J.symm));have av:=hid (fun wx (h:wx.ownsRow w 3 1 (.slice Ac k2 cc) k2 (cZ .i64 C))=>Ke wx Ac k2 cc C J.symm kR bh (Hq h J.symm));have al:=hid (fun wx (h:wx.ownsRow w 3 1 (.slice As k3 cs) k3 (cZ .i64 S))=>Ke wx As k3 cs S U.symm kR kR (Hq h U.symm));obtain⟨CS,ar⟩:=iS C.sum;obtain⟨SS,an⟩:=iS S.sum;rw[<-ar]at av bh;rw[<-an]at al bH;have a4:=hid ar;have bb:=hid an;clear hP bd bf hC hS hr HR ac a3 aU am au hE2 J U ar an i N ch aS aa ak DI ay ax aW aq aR;go_wp2_with fail;refine(D3.out _ HI.out.cur).mono ?_;rintro e w5 ⟨rfl,ai,ab⟩;have G:=HI.out.call ai ab;have b2:=G.blk.iO 2;have f2:=G.blk.frozen 2;have aw:Hid (DrI w (w5.setCell ⟨gb,2,none⟩ (.int .i64 (P:Nat))) gb t (.int .i64 (P:Nat) :: x3 :: rest) g ls B d pa pe C S (.slice Ac C.length cc) (.slice As S.length cs)):=(by rw[<-be.out,<-bj.out];exact G.third);clear ai ab G D3 HI;go_wp2_with fail;refine(D4.out _ aw.out.cur).mono ?_;rintro e w6 ⟨rfl,bc,a6⟩;have L:=aw.out.call bc a6;have b3:=L.blk.iO 3;have f3:=L.blk.frozen 3;have ae:=hid (L.fourth (u:= .int .i64 (Q:Nat)));clear bc a6 L D4 aw b2 f2;go_wp2_with fail;refine(D5.out _ ae.out.cur).mono ?_;rintro e w7 ⟨rfl,a8,Z⟩;have j:=ae.out.call a8 ⟨Z.os,Z.tape,Z.output,Z.size,fun x hx=>Z.block x hx.2⟩;have z:=hid j;clear a8 Z D5 ae b3 f3;by_cases hE:E=0
    ·subst hE;have hr:=M.out;rw[Aa (show ¬((0:Int)≠0) from fun h=>h rfl)]at hr;have c0:=j.blk.iO 0;have c1:=j.blk.iO 1;have c2:=j.blk.iO 2;have c3:=j.blk.iO 3;have i:=j.oc;have N:=j.os;rw[<-be.out]at i c0;rw[<-bj.out]at N c1;have E0:Hid (∀q,Calls prog 115 #[.slice Ac k2 cc,iT] (w7.drewN q) fun e w'=>e= .returned (.bool (decide (0∈C)))/\w'=w7.drewN q):=fun q=>aY.out _ (dZ i (fun y _=>rfl));have E1:Hid (∀q,Calls prog 64 #[.slice Ac k2 cc] (w7.drewN q) fun e w'=>e= .returned (.int .i64 (CS:Nat))/\w'=w7.drewN q):=fun q=>av.out _ (dZ i (fun y _=>rfl));have E2:Hid (∀q,Calls prog 64 #[.slice As k3 cs] (w7.drewN q) fun e w'=>e= .returned (.int .i64 (SS:Nat))/\w'=w7.drewN q):=fun q=>al.out _ (dZ N (fun y _=>rfl));clear j i N aY av al;by_cases hz:0∈C
     ·have HF:Hid (R=2):=(by rw[Ab (.inl hz)]at hr;exact hr);rw[Aw hz]at E0;clear hz hr M;go_wp2_with fail;go_quiet (first|(go_at_call 115;(with_reducible exact Cq (E0.out _)))|(go_at_call 64;first|(with_reducible exact Cq (E1.out _))|(with_reducible exact Cq (E2.out _))));go_wp2_with fail;go_ret;rw[HF.out];exact⟨rfl,z.out.kept.drewN _,fun h=>absurd h iX⟩
     ·rw[Az hz]at E0;by_cases h2:CS=rec
      ·have gn:((CS:Int) != (rec:Int))=false:=(by rw[h2];simp);have s1:IntKind.i64.wrap ((SS:Int)+(P:Int))=((SS+P:Nat):Int):=lD;have s2:IntKind.i64.wrap (((SS+P:Nat):Int)+(Q:Int))=((SS+P+Q:Nat):Int):=lD;have a9:IntKind.i64.wrap ((SS:Int)+(P:Int)+(Q:Int))=((SS+P+Q:Nat):Int):=lD;by_cases h3:SS+P+Q=Y
       ·have g3:(((SS+P+Q:Nat):Int) != (Y:Int))=false:=by rw[h3];simp
        have HF:Hid (R=0):=by
         rw[Aa (fun h=>by
          rcases h with h|h|h
          ·exact hz h
          ·exact h lc
          ·exact h ld)]at hr
         exact hr
        obtain⟨TT,af⟩:=iS (SS+P+Q);rw[<-af]at s2 a9 g3;clear hz h2 h3 af hr M;go_wp2_with fail;go_quiet (first|(go_at_call 115;(with_reducible exact Cq (E0.out _)))|(go_at_call 64;first|(with_reducible exact Cq (E1.out _))|(with_reducible exact Cq (E2.out _))));go_wp2_with fail;go_ret;rw[HF.out,bB.out,bE.out,bG.out,bC.out];exact⟨rfl,z.out.kept.drewN _,fun _=>⟨_,_,z.out.blk.drewN _,dZ z.out.oc (fun y _=>rfl),dZ z.out.os (fun y _=>rfl),z.out.ap⟩⟩
       ·have g3:(((SS+P+Q:Nat):Int) != (Y:Int))=true:=l7;have HF:Hid (R=2):=lq;obtain⟨TT,af⟩:=iS (SS+P+Q);rw[<-af]at s2 a9 g3;clear hz h2 h3 af hr M;go_wp2_with fail;go_quiet (first|(go_at_call 115;(with_reducible exact Cq (E0.out _)))|(go_at_call 64;first|(with_reducible exact Cq (E1.out _))|(with_reducible exact Cq (E2.out _))));go_wp2_with fail;go_ret;rw[HF.out];exact⟨rfl,z.out.kept.drewN _,fun h=>absurd h iX⟩
      ·have gn:((CS:Int) != (rec:Int))=true:=l7;have HF:Hid (R=2):=lp;clear hz h2 hr M;go_wp2_with fail;go_quiet (first|(go_at_call 115;(with_reducible exact Cq (E0.out _)))|(go_at_call 64;first|(with_reducible exact Cq (E1.out _))|(with_reducible exact Cq (E2.out _))));go_wp2_with fail;go_ret;rw[HF.out];exact⟨rfl,z.out.kept.drewN _,fun h=>absurd h iX⟩
    ·have gE:(E != 0)=true:=(by simpa using hE);have HF:Hid (R=E):=(by have h:=M.out;rw[Ab hE]at h;exact h);have bI:=hid hE;clear hE M j;go_wp2_with fail;go_ret;rw[HF.out];exact⟨rfl,z.out.kept,fun h=>absurd h bI.out⟩
   ·have gk:=iR ((k:Int)<nb);have bN:=iR (k<nb);clear ba;obtain⟨w4,rfl⟩:=iS wr;have hP:dP ls=zZ 8388608 ls at_ er:=(by unfold dP;rw[ac.out]);have bd:dPA ls=nZ 8388608 ls at_ er:=(by unfold dPA;rw[ac.out]);have bf:dPE ls=oZ 8388608 ls at_ er:=(by unfold dPE;rw[ac.out]);have hC:Bj ls=C:=(by unfold Bj;rw[ac.out]);have hS:By ls=S:=(by unfold By;rw[ac.out]);have D3:=hid (fun wx hx=>DI.out wx g B d at_ er 8388608 kR hx);rw[<-hP,<-bd,<-bf]at D3;have D4:=hid (fun wx hx=>DI.out wx g B d (dPA ls) (dPE ls) 8388608 kR hx);rw[show zZ 8388608 ls (dPA ls) (dPE ls)=dQ ls from rfl]at D4;have D5:=hid (fun wx hx=>ay.out wx g B d (nZ 8388608 ls (dPA ls) (dPE ls)) (oZ 8388608 ls (dPA ls) (dPE ls)) hx);rw[show Fb ls (nZ 8388608 ls (dPA ls) (dPE ls)) (oZ 8388608 ls (dPA ls) (dPE ls))=dE ls from rfl]at D5;have bF:dP ls<=8388608:=(by rw[hP];exact ak.out _ _ _);have bA:dQ ls<=8388608:=ak.out _ _ _;have hr:=HR.out;unfold EX at hr;rw[hC,hS]at hr;have bG:=hid hC;have bC:=hid hS;have a3:∀x∈C,x<=rec:=fun x hx=>by have h:=aS.out.1 x (show x∈Bj ls by rw[hC];exact hx);rw[aa.out];exact h
    have aU:∀x∈S,x<=8388608:=fun x hx=>aS.out.2 x (show x∈By ls by rw[hS];exact hx);have aV:C.length<=20000:=(by rw[aq.out];omega);have bg:S.length<=20000:=(by rw[aR.out];omega);have bh:C.sum<=1000000000000000:=AY (J9 C rec a3) (AY (GT aV az) iX);have bH:S.sum<=500000000000000:=AY (J9 S 8388608 aU) (AY (Fk _ bg) iX);rw[<-aa.out]at hr;obtain⟨P,am⟩:=iS (dP ls);obtain⟨Q,au⟩:=iS (dQ ls);obtain⟨E,hE2⟩:=iS (dE ls);rw[<-am]at D3 bF hr;rw[<-au]at D4 bA hr;have bB:=hid am.symm;have bE:=hid au.symm;rw[<-hE2]at D5 hr;generalize dPA ls=pa at *;generalize dPE ls=pe at *;generalize nZ 8388608 ls pa pe=qa at *;generalize oZ 8388608 ls pa pe=qe at *;obtain⟨k2,J⟩:=iS C.length;obtain⟨k3,U⟩:=iS S.length;have i:=HI.out.oc;have N:=HI.out.os;rw[<-J]at i aV;rw[<-U]at N bg;obtain⟨Ac,cc,rfl⟩:=aZ i;obtain⟨As,cs,rfl⟩:=aZ N;have be:=hid J;have bj:=hid U;have M:=hid hr;have aY:=hid (fun wx (h:wx.ownsRow w 3 1 (.slice Ac k2 cc) k2 (cZ .i64 C))=>PN wx Ac k2 cc C J.symm kR (Hq h J.symm));have av:=hid (fun wx (h:wx.ownsRow w 3 1 (.slice Ac k2 cc) k2 (cZ .i64 C))=>Ke wx Ac k2 cc C J.symm kR bh (Hq h J.symm));have al:=hid (fun wx (h:wx.ownsRow w 3 1 (.slice As k3 cs) k3 (cZ .i64 S))=>Ke wx As k3 cs S U.symm kR kR (Hq h U.symm));obtain⟨CS,ar⟩:=iS C.sum;obtain⟨SS,an⟩:=iS S.sum;rw[<-ar]at av bh;rw[<-an]at al bH;have a4:=hid ar;have bb:=hid an;clear hP bd bf hC hS hr HR ac a3 aU am au hE2 J U ar an i N ch aS aa ak DI ay ax aW aq aR;go_wp2_with fail;refine(D3.out _ HI.out.cur).mono ?_;rintro e w5 ⟨rfl,ai,ab⟩;have G:=HI.out.call ai ab;have b2:=G.blk.iO 2;have f2:=G.blk.frozen 2;have aw:Hid (DrI w (w5.setCell ⟨gb,2,none⟩ (.int .i64 (P:Nat))) gb t (.int .i64 (P:Nat) :: x3 :: rest) g ls B d pa pe C S (.slice Ac C.length cc) (.slice As S.length cs)):=(by rw[<-be.out,<-bj.out];exact G.third);clear ai ab G D3 HI;go_wp2_with fail;refine(D4.out _ aw.out.cur).mono ?_;rintro e w6 ⟨rfl,bc,a6⟩;have L:=aw.out.call bc a6;have b3:=L.blk.iO 3;have f3:=L.blk.frozen 3;have ae:=hid (L.fourth (u:= .int .i64 (Q:Nat)));clear bc a6 L D4 aw b2 f2;go_wp2_with fail;refine(D5.out _ ae.out.cur).mono ?_;rintro e w7 ⟨rfl,a8,Z⟩;have j:=ae.out.call a8 ⟨Z.os,Z.tape,Z.output,Z.size,fun x hx=>Z.block x hx.2⟩;have z:=hid j;clear a8 Z D5 ae b3 f3;by_cases hE:E=0
    ·subst hE;have hr:=M.out;rw[Aa (show ¬((0:Int)≠0) from fun h=>h rfl)]at hr;have c0:=j.blk.iO 0;have c1:=j.blk.iO 1;have c2:=j.blk.iO 2;have c3:=j.blk.iO 3;have i:=j.oc;have N:=j.os;rw[<-be.out]at i c0;rw[<-bj.out]at N c1;have E0:Hid (∀q,Calls prog 115 #[.slice Ac k2 cc,iT] (w7.drewN q) fun e w'=>e= .returned (.bool (decide (0∈C)))/\w'=w7.drewN q):=fun q=>aY.out _ (dZ i (fun y _=>rfl));have E1:Hid (∀q,Calls prog 64 #[.slice Ac k2 cc] (w7.drewN q) fun e w'=>e= .returned (.int .i64 (CS:Nat))/\w'=w7.drewN q):=fun q=>av.out _ (dZ i (fun y _=>rfl));have E2:Hid (∀q,Calls prog 64 #[.slice As k3 cs] (w7.drewN q) fun e w'=>e= .returned (.int .i64 (SS:Nat))/\w'=w7.drewN q):=fun q=>al.out _ (dZ N (fun y _=>rfl));clear j i N aY av al;by_cases hz:0∈C
     ·have HF:Hid (R=2):=(by rw[Ab (.inl hz)]at hr;exact hr);rw[Aw hz]at E0;clear hz hr M;go_wp2_with fail;go_quiet (first|(go_at_call 115;(with_reducible exact Cq (E0.out _)))|(go_at_call 64;first|(with_reducible exact Cq (E1.out _))|(with_reducible exact Cq (E2.out _))));go_wp2_with fail;go_ret;rw[HF.out];exact⟨rfl,z.out.kept.drewN _,fun h=>absurd h iX⟩
     ·rw[Az hz]at E0;by_cases h2:CS=rec
      ·have gn:((CS:Int) != (rec:Int))=false:=(by rw[h2];simp);have s1:IntKind.i64.wrap ((SS:Int)+(P:Int))=((SS+P:Nat):Int):=lD;have s2:IntKind.i64.wrap (((SS+P:Nat):Int)+(Q:Int))=((SS+P+Q:Nat):Int):=lD;have a9:IntKind.i64.wrap ((SS:Int)+(P:Int)+(Q:Int))=((SS+P+Q:Nat):Int):=lD;by_cases h3:SS+P+Q=Y
       ·have g3:(((SS+P+Q:Nat):Int) != (Y:Int))=false:=by rw[h3];simp
        have HF:Hid (R=0):=by
         rw[Aa (fun h=>by
          rcases h with h|h|h
          ·exact hz h
          ·exact h lc
          ·exact h ld)]at hr
         exact hr
        obtain⟨TT,af⟩:=iS (SS+P+Q);rw[<-af]at s2 a9 g3;clear hz h2 h3 af hr M;go_wp2_with fail;go_quiet (first|(go_at_call 115;(with_reducible exact Cq (E0.out _)))|(go_at_call 64;first|(with_reducible exact Cq (E1.out _))|(with_reducible exact Cq (E2.out _))));go_wp2_with fail;go_ret;rw[HF.out,bB.out,bE.out,bG.out,bC.out];exact⟨rfl,z.out.kept.drewN _,fun _=>⟨_,_,z.out.blk.drewN _,dZ z.out.oc (fun y _=>rfl),dZ z.out.os (fun y _=>rfl),z.out.ap⟩⟩
       ·have g3:(((SS+P+Q:Nat):Int) != (Y:Int))=true:=l7;have HF:Hid (R=2):=lq;obtain⟨TT,af⟩:=iS (SS+P+Q);rw[<-af]at s2 a9 g3;clear hz h2 h3 af hr M;go_wp2_with fail;go_quiet (first|(go_at_call 115;(with_reducible exact Cq (E0.out _)))|(go_at_call 64;first|(with_reducible exact Cq (E1.out _))|(with_reducible exact Cq (E2.out _))));go_wp2_with fail;go_ret;rw[HF.out];exact⟨rfl,z.out.kept.drewN _,fun h=>absurd h iX⟩
      ·have gn:((CS:Int) != (rec:Int))=true:=l7;have HF:Hid (R=2):=lp;clear hz h2 hr M;go_wp2_with fail;go_quiet (first|(go_at_call 115;(with_reducible exact Cq (E0.out _)))|(go_at_call 64;first|(with_reducible exact Cq (E1.out _))|(with_reducible exact Cq (E2.out _))));go_wp2_with fail;go_ret;rw[HF.out];exact⟨rfl,z.out.kept.drewN _,fun h=>absurd h iX⟩
    ·have gE:(E != 0)=true:=(by simpa using hE);have HF:Hid (R=E):=(by have h:=M.out;rw[Ab hE]at h;exact h);have bI:=hid hE;clear hE M j;go_wp2_with fail;go_ret;rw[HF.out];exact⟨rfl,z.out.kept,fun h=>absurd h bI.out⟩
end Body
namespace Body
open Go.RowKit Mem Own Canon
theorem RV(w:World)(gb n c:Nat)(A:Option Addr)(ls:List Nat)(hc:w.cell? ⟨gb,0,none⟩=some (.slice A n c))(hn:ls.length=n)(hN:n<=1000000)(hs:ls.sum<=1000000000)(ha:Row w w A n 1 (jZ .i64 ls)):
 Calls prog 18 #[.pointer (some ⟨gb,0,none⟩)] w fun e w'=>e= .returned (.int .i64 (ls.sum:Nat))/\w'=w:=by
 have D:=hid (sum_any w A n c ls hn hN hs ha);generalize ls.sum=S at *;clear hn ha;go_enter func18,ntmps18;go_wp2_with fail;refine D.out.mono ?_;rintro e w1 ⟨rfl,rfl⟩;go_wp2_with fail;go_ret;exact⟨rfl,rfl⟩
end Body
end Go.Proofs.YtfgdoknipbpfhaaGreatDoor
