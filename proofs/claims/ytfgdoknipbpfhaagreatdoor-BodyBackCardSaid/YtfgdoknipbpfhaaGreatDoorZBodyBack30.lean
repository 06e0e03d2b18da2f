/- The index of a log:  -/
import Derived.Test.YtfgdoknipbpfhaaGreatDoorZBodyBack29
import Derived.Test.YtfgdoknipbpfhaaGreatDoorZBodyBack28
namespace Go.Proofs.YtfgdoknipbpfhaaGreatDoor
open Go.Proofs.Tryz
open Go.Lib (hid)
set_option maxHeartbeats 8000000
set_option maxRecDepth 100000
variable{w w':World}{base bound i k n s:Nat}{e:TypeId}{vals xs:List Value}{l x:List Nat}{ls:List (List Nat)}{vL vT:Value}
namespace Idx
open Go.RowKit Go.Maps Mem Own Canon Sift
open Recs
def kZ(r:Rec):List Str:=FV r.text.data.toList r.source.data.toList
structure IxAt (w:World) (base:Nat) (vT vL:Value) (vals:List Value) (ts:List Str) (ls:List (List Nat)):Prop where
 t:w.ownsRow base 9 1 vT ts.length (zZ ts)
 l:w.ownsRow base 37 1 vL ls.length vals
 r:∀ (i:Nat) v ids,vals[i]? =some v->ls[i]? =some ids->w.ownsRow base 3 1 v ids.length (cZ .i64 ids)
def IE(ts:List (List Str))(w:World)(e:Ending)(w':World):Prop:=
 ∃vT vL vals,e= .returned (.agg #[vT,vL])/\IxAt w' w vT vL vals (AQ ts) ((AQ ts).map (BK ts))/\Below w w w'
theorem Ra:(prog.info? 3).map (fun i=>(i.zero,i.size,i.bytes))=some (some (.int .i64 0),1,8):=my
theorem QU:(prog.info? 37).map (fun i=>(i.zero,i.size,i.bytes))=some (some (.slice none 0 0),1,24):=my
theorem U4{r:Rec}{s:Str}(h:s∈kZ r):1<=s.length/\s.length<=25:=by
 unfold kZ at h;rw[eD]at h;unfold GY at h;rcases BQ.1 h with h|h
 ·have:=Pn _ s h;omega
 ·obtain⟨x,hx,rfl⟩:=Co.1 h;have:=Pn _ x hx;simp only[List.length_cons];omega
theorem Qa(t s:List UInt8):(FV t s).length<=t.length+s.length:=by have h1:=NT (GY t s) [];have h2:=Kl t;have h3:=Kl s;unfold FV;unfold GY at h1;rw[Ag,Bc]at h1;unfold GY;simp only[List.length_nil]at h1;omega
theorem Mw(ts:List (List Str))(u:Str):(BK ts u).length<=ts.length:=by unfold BK;exact AN (List.length_filter_le _ _) qT
theorem Km{s' n':Nat}{e':TypeId}{v v':Value}{z:List Value}(h:w.ownsRow base e s v n xs)(ho:w.ownsRow i e' s' v' n' z)(j:e≠e')(hg:w.grownBy w' v'.ownBlock):w'.ownsRow base e s v n xs:=
 eZ h (fun y hy=>hg.block y (Aj h y hy).2 (fun e=>by
  rcases EY h ho j with h0|h0
  ·rw[h0]at hy;cases hy
  ·exact h0 (hy.trans e)))
section
variable {H:Type} {P:Program} {kt:TypeId} {R:Value->Option (DataW H×List MemPlace)} {w w':World} {mb m:Nat} {D:DataW H}
theorem eT{v:Value}(hm:w.ownsMap P kt R mb m D)(ho:w.ownsRow base e s v n xs)(hg:w.grownBy w' (some mb)):w'.ownsRow base e s v n xs:=
 eZ ho fun b hb=>hg.block b (Aj ho b hb).2 fun he=>by
  injection he with he;subst he;obtain⟨es,h,h1,_⟩:=hm;rcases ho.2 with ⟨hv,_⟩|⟨g',j,cur,hv,_,h2,_⟩
  ·rw[hv]at hb;cases hb
  ·rw[hv]at hb;have i:g'=b:=(by simpa[Value.ownBlock]using hb);rw[i,h1]at h2;cases h2
theorem dR{g:Nat}{t:TypeId}{cs:Array Value}(hm:w.ownsMap P kt R mb m D)(h:Blk w g t cs)(hg:w.grownBy w' (some mb)):Blk w' g t cs:=
 h.grown hg fun he=>by injection he with he;subst he;obtain⟨es,i,h1,_⟩:=hm;have h2:w.heap[g]? =some (.cells cs t):=h;rw[h1]at h2;cases h2
end
def Gi(ts:List (List Str))(T:List Str)(j:Nat)(s:Str):List Nat:=BK ts s++(if s∈T.take j then [ts.length]else [])
theorem fK(ts:List (List Str))(T:List Str):Gi ts T 0=BK ts:=by funext s;simp[Gi]
theorem Y9(ts:List (List Str))(T:List Str):Gi ts T T.length=BK (ts++ [T]):=by
 funext s
 rw[bV];unfold Gi;rw[List.take_length];simp
theorem eC{ts:List (List Str)}{T:List Str}(hT:Fa T){j:Nat}{t:Str}(h:T[j]? =some t):(fun s=>if s=t then Gi ts T j s++ [ts.length]else Gi ts T j s)=Gi ts T (j+1):=by
 have y:t ∉ T.take j:=fun hm=>by obtain⟨i,hi,e⟩:=List.getElem_of_mem hm;rw[Ba]at hi;rw[List.getElem_take]at e;obtain⟨hj,e2⟩:=BW.1 h;have:=List.pairwise_iff_getElem.1 hT i j nj hj nj;rw[e,e2]at this;exact Iq t this
 funext s
 unfold Gi;rw[BN,h];by_cases hs:s=t
 ·subst hs;rw[Ab rfl,Aa y];simp
 ·rw[Aa hs];simp[hs]
theorem Od(ts:List (List Str))(s:Str):s∈AQ ts↔BK ts s≠ []:=by
 rw[Ty];unfold BK;rw[ne_eq,List.filter_eq_nil_iff];constructor
 ·rintro⟨t,ht,hs⟩ h;obtain⟨i,hi,rfl⟩:=List.getElem_of_mem ht;have:=h i (FN.2 hi);rw[Am,Aw hi]at this;simp at this;exact this hs
 ·intro h;refine KA fun hn=>h fun i hi=> ?_;rw[FN]at hi;rw[Am,Aw hi];simp only[Option.getD_some,List.contains_iff_mem];exact fun hm=>hn ⟨_,FC hi,hm⟩
theorem YR{H:Type}{P:Program}{kt:TypeId}{R:Value->Option (DataW H×List MemPlace)}{mb m:Nat}{D:DataW H}(h:w.ownsMap P kt R mb m D):Maps.size D<=m:=by obtain⟨es,i,_,_,hs,rfl⟩:=h;show(List.foldr DataW.insert [] _).length<=m;rw[length_sorted,Bc];simpa using hs
structure St3 (w:World) (mb m base rb bo B2:Nat) (D:DataW Value) (I:Str->List Nat) (V:Str->Value) (vS vT vL:Value) (q nT nL:Nat) (SS:List Str):Prop where
 mi:MI w mb m base D I V
 res:Blk w rb 53 #[(),()]
 box:Blk w bo 53 #[vT,vL]
 ne:rb≠bo
 tt:w.ownsRow B2 9 1 vT nT (zZ (SS.take nT))
 ll:w.ownsRow B2 37 1 vL nL ((SS.take nL).map V)
 ss:w.ownsRow base 9 1 vS q (zZ SS)
 sg:∀g,vS.ownBlock=some g->g<B2
 b2:base<=B2
 bz:B2<=w.heap.size
section
variable {w w4:World} {mb m base rb bo B2 q nT nL:Nat} {D:DataW Value} {I:Str->List Nat} {V:Str->Value} {vS vT vL v4:Value} {SS:List Str} {o:Obj}
theorem St3.putT(h:St3 w mb m base rb bo B2 D I V vS vT vL q nT nL SS)(hg:(w.alloc o).grownBy w4 vT.ownBlock)(j:w4.ownsRow B2 9 1 v4 (nT+1) (zZ (SS.take (nT+1)))):
 St3 (w4.setCell ⟨bo,0,none⟩ v4) mb m base rb bo B2 D I V vS v4 vL q (nT+1) nL SS:=by
 have i:Blk w4 bo 53 #[vT,vL]:=(h.box.alloc o).grown hg (fun e=>fZ h.tt h.box ip e.symm);have G:w4.heap[mb]? =w.heap[mb]? :=(hg.block mb ml (fun e=>Kk h.mi h.tt e.symm rfl)).trans (Ej w o mb h.mi.map.lt)
 have y:MI w4 mb m base D I V:=(h.mi.step (aZ (Ae _ _) (o:=o))).kept (hg.block mb ml (fun e=>Kk h.mi h.tt e.symm rfl)) fun s b hb=>by
  refine hg.block b (by have:=(Aj (h.mi.row s) b hb).2;simp;omega) fun e=> ?_;rcases EY (h.mi.row s) h.tt ip with h0|h0
  ·rw[h0]at hb;cases hb
  ·exact h0 (hb.trans e)
 have E:mb≠bo:=fun e=>na
 refine⟨y.kept (AY w4 _ _ mb E) fun s b hb=>AY w4 _ _ b (fun e=>fZ (y.row s) i ip (hb.trans (Az some e))),?_,?_,h.ne,?_,?_,?_,h.sg,h.b2,?_⟩
 ·exact((h.res.alloc o).grown hg (fun e=>fZ h.tt h.res ip e.symm)).far h.ne _
 ·exact i.set 0 v4
 ·exact CQ j (fZ j i ip) _
 ·have:=Km (h.ll.alloc o) (h.tt.alloc o) ip hg;exact CQ this (fZ this i ip) _
 ·have:w4.ownsRow base 9 1 vS q (zZ SS):=eZ h.ss fun b hb=>(hg.block b (by have:=(Aj h.ss b hb).2;simp;omega) (fun e=>by have h1:=h.sg b hb;have h2:=(Aj h.tt b e.symm).1;omega)).trans (Ej w o b (Aj h.ss b hb).2);exact CQ this (fZ this i ip) _
 ·have h1:=hg.size;have h2:=h.bz;simp at h1 ⊢;omega
theorem St3.putL(h:St3 w mb m base rb bo B2 D I V vS vT vL q nT nL SS)(hg:(w.alloc o).grownBy w4 vL.ownBlock)(j:w4.ownsRow B2 37 1 v4 (nL+1) ((SS.take (nL+1)).map V)):
 St3 (w4.setCell ⟨bo,1,none⟩ v4) mb m base rb bo B2 D I V vS vT v4 q nT (nL+1) SS:=by
 have i:Blk w4 bo 53 #[vT,vL]:=(h.box.alloc o).grown hg (fun e=>fZ h.ll h.box ip e.symm)
 have y:MI w4 mb m base D I V:=(h.mi.step (aZ (Ae _ _) (o:=o))).kept (hg.block mb ml (fun e=>Kk h.mi h.ll e.symm rfl)) fun s b hb=>by
  refine hg.block b (by have:=(Aj (h.mi.row s) b hb).2;simp;omega) fun e=> ?_;rcases EY (h.mi.row s) h.ll ip with h0|h0
  ·rw[h0]at hb;cases hb
  ·exact h0 (hb.trans e)
 have E:mb≠bo:=fun e=>na
 refine⟨y.kept (AY w4 _ _ mb E) fun s b hb=>AY w4 _ _ b (fun e=>fZ (y.row s) i ip (hb.trans (Az some e))),?_,?_,h.ne,?_,?_,?_,h.sg,h.b2,?_⟩
 ·exact((h.res.alloc o).grown hg (fun e=>fZ h.ll h.res ip e.symm)).far h.ne _
 ·exact i.set 1 v4
 ·have:=Km (h.tt.alloc o) (h.ll.alloc o) ip hg;exact CQ this (fZ this i ip) _
 ·exact CQ j (fZ j i ip) _
 ·have:=Km (h.ss.alloc o) (h.ll.alloc o) ip hg;exact CQ this (fZ this i ip) _
 ·have h1:=hg.size;have h2:=h.bz;simp at h1 ⊢;omega
end
theorem PY(w:World)(A:Option Addr)(n c:Nat)(l:List Rec)(hn:l.length=n)(hN:n<=20000)(aq:∀r∈l,r.source.size<=50000/\r.text.size<=50000)(ha:Row w w A n 4 (By l)):
 Calls prog 52 #[.slice A n c] w (IE (l.map kZ) w):=by
 obtain⟨j0,dk,dj,cF,dl⟩:=info_parts Ra;have HN:=hid hn;have D1:Hid (∀wx r,r∈l->Calls prog 106 #[.agg #[.int .u64 r.time, .int .u8 r.level, .string r.source, .string r.text]] wx (IZ (kZ r) wx)):=fun wx r hr=>dK wx r.time r.level r.source r.text (aq r hr).1 (aq r hr).2;have ak:Hid (∀r∈l,(kZ r).length<=100000):=fun r hr=>by have:=Qa r.text.data.toList r.source.data.toList;have h1:=Lib.size_eq r.text;have h2:=Lib.size_eq r.source;have:=aq r hr;unfold kZ;omega
 have ba:=@run_makeMap prog;unfold IZ at D1;unfold IE;clear hn aq;go_enter func52,ntmps52;go_wp2_with fail;have ac:Blk (w.alloc (.cells #[(),()] 53)) w 53 #[(),()]:=Blk.made _ _ _;have bg:Below w w (w.alloc (.cells #[(),()] 53)):=aZ (Ae _ _);have b4:(w.alloc (.cells #[(),()] 53)).heap.size=w.heap.size+1:=qT
 generalize w.alloc (.cells #[(),()] 53)=w1 at *;rw[<-b4];have bl:Hid (MI (w1.alloc (.map #[] 0)) w1 0 w (.map []) (fun _=> []) (fun _=> .slice none 0 0)):=MI.start w1 w;have b6:=hid (ac.alloc (.map #[] 0));have bt:Hid (Below w w (w1.alloc (.map #[] 0))):=aZ bg;obtain⟨mb,bm⟩:=ii w1.heap.size;rw[<-bm]at bl ⊢;have de:Hid (w.heap.size<=mb):=by show _<=_;rw[bm];exact bg.size
 generalize w1.alloc (.map #[] 0)=w2 at *;clear ac bg b4 bm ba;go_loopw [14] (fun iv wr=>∃ (k m:Nat) (D:DataW Value) (V:Str->Value),k<=n/\m<=100000*k/\iv= .int .i64 k/\Hid (MI wr mb m w D (BK ((l.take k).map kZ)) V)/\Hid (Blk wr w 53 #[(),()])/\Hid (Below w w wr)) (fun iv _=>n-(intOf iv).toNat)
 case atStart=>exact⟨0,0, .map [],fun _=> .slice none 0 0,nj,nj,rfl,bl.out,b6.out,bt.out⟩
 case round=>
  obtain⟨k,m,D,V,hk,hm,rfl,HM,HX,HB⟩:=hrel;clear bl b6 bt;obtain⟨w0,rfl⟩:=ii wr;by_cases dn:k<n
  ·have gk:=ic ((k:Int)<n);have cA:=ic (k<n);have x0:(0:Int)<=(k:Int):=nj;have x1:(k:Int)<(n:Int):=nj;obtain⟨b,dz,r,rfl,dw,hg,c0,c1,c2,c3⟩:=Row.rec (ha.below HB.out) HN.out dn;have bp:=Be hg;have E1:=hid (fun wx=>D1.out wx r bp);have cG:=ak.out r bp;have co:Fa (kZ r):=bH _ _;have ab:∀s∈kZ r,1<=s.length/\s.length<=25:=fun s hs=>U4 hs;have bb:(l.take (k+1)).map kZ=(l.take k).map kZ++ [kZ r]:=(by rw[BN,hg,EW];rfl);have an:((l.take k).map kZ).length=k:=(by rw[Bc,Ba,HN.out];omega);obtain⟨TS,a1⟩:=ii ((l.take k).map kZ);rw[<-a1]at bb an HM;have ar:=hid bb;have cd:=hid an;have cC:=hid co;have dr:=hid ab;clear hg bp co ab bb an a1;generalize kZ r=T at *;obtain⟨q,hq⟩:=ii T.length;rw[<-hq]at E1 cG;have HQ:=hid hq;clear hq;go_wp2_with fail;have ax:Below w0 w0 (w0.alloc (.cells #[.int .u64 r.time, .int .u8 r.level, .string r.source, .string r.text] 43)):=aZ (Ae _ _);generalize w0.alloc (.cells #[.int .u64 r.time, .int .u8 r.level, .string r.source, .string r.text] 43)=w3 at *;have L:=hid (HM.out.step ax);have ag:=hid (HX.out.step ax);have U:Hid (Below w w w3):=dZ ax HB.out;clear ax HM HX HB c0 c1 c2 c3;refine(E1.out _).mono ?_;rintro e w4 ⟨v4,rfl,bj,ae⟩;obtain⟨A4,c4,rfl⟩:=bZ bj;have cm:=hid (L.out.step ae);have b8:=hid (ag.out.step ae);have bh:Hid (Below w w w4):=dZ ae U.out;have ca:=hid bj;have cj:=ae.size;have dp:=bh.out.size;clear ae bj E1 L ag U;go_wp2_with fail;go_loopw [22] (fun jv wr=>∃ (j m':Nat) (D':DataW Value) (V':Str->Value),j<=q/\m'<=m+j/\jv= .int .i64 j/\Hid (MI wr mb m' w D' (Gi TS T j) V')/\Hid (wr.ownsRow w3 9 1 (.slice A4 q c4) q (zZ T))/\Hid (Blk wr w 53 #[(),()])/\Hid (Below w w wr)) (fun jv _=>q-(intOf jv).toNat)
   case atStart=>exact⟨0,m,D,V,nj,nj,rfl,(by show MI _ _ _ _ _ _ _;rw[fK];exact cm.out),ca.out,b8.out,bh.out⟩
   case round=>
    obtain⟨j,m',D',V',hj,du,rfl,HM,HO,HX,HB⟩:=hrel;clear cm ca b8 bh cj dp;obtain⟨wi,rfl⟩:=ii wr;by_cases dy:j<q
    ·have gj:=ic ((j:Int)<q);have bn:=ic (j<q);have y0:(0:Int)<=(j:Int):=nj;have y1:(j:Int)<(q:Int):=nj;obtain⟨t,ht⟩:∃t,T[j]? =some t:=⟨_,Aw mg⟩;obtain⟨g,cg,bd,cX,_⟩:=HO.out.form nj;injection bd with hA1 hA2 hA3;subst hA1 hA3;have ck:wi.cell? ⟨g,j,none⟩=some (.string (bs t)):=(by rw[HO.out.cellAt j nj];exact Ii ht);have b9:=dr.out t (Be ht);have bk:=eC (ts:=TS) cC.out ht;rw[cd.out]at bk;have cp:=hid bk;obtain⟨A5,c5,hV⟩:=bZ (HM.out.row t);have av:=HM.out.look t rE;have Z:=HM.out.row t;rw[hV]at av Z
     have di:(Gi TS T j t).length<=20001:=by
      have h1:=Mw TS t;have h2:=cd.out;unfold Gi;rw[Ag];split
      ·simp only[List.length_singleton];omega
      ·simp only[List.length_nil];omega
     obtain⟨p,hp⟩:=ii ((Gi TS T j t).length);have dc:=hid hp;rw[<-hp]at av Z di hV;have J:=hid Z;have HV:=hid hV;have a0:=hid b9;have cu:=HB.out.size;have ba:m'<maxLen:=rE;clear ht b9 bk hV Z hp HQ;go_wp2_with(at_builtin;refine iZ rfl (.tmp 30) (.tmp 32) 37 rfl w 3 j0 _ 1 8 underlying37 dk dj cF dl rfl ip _ _ _ nm (J.out.alloc _) _ 1 1 [.int .i64 (k:Nat)] nm (Src.of_blk (Blk.made _ _ _) 1 1 1 rfl) mq rE nj rg ?_;intro v6 w6 z E aa;have bq:(some mb:Option Nat)≠(Value.slice A5 p c5).ownBlock:=(fun e=>Kk HM.out J.out e.symm rfl);have a6:=(HM.out.map.alloc (.cells #[.int .i64 (k:Nat)] 3)).kept E bq;obtain⟨w7,ds,bu,bS⟩:=a6.update (string_keyed underlying9) underlying153 ba (PN t (by have:=a0.out;unfold maxLen;omega)) (show zX v6=some (.held v6,[]) from rfl);have H6:=hid (And.intro z (And.intro E (And.intro aa a6)));have H7:=hid (And.intro bu bS);clear z E aa bq a6 bu bS);have bi:Hid (MI w7 mb (m'+1) w (D'.put (.string t) (.held v6)) (Gi TS T (j+1)) (fun s=>if s=t then v6 else V' s)):=(by show MI _ _ _ _ _ _ _;rw[<-cp.out];exact MI.put HM.out a0.out.2 (aZ (Ae _ _)) (by rw[HV.out];exact H6.out.2.1) (by rw[<-dc.out];exact H6.out.1) (by rw[HV.out];exact H6.out.2.2.1.imp_right fun e=>⟨_,e,Ak _⟩) H7.out.1 H7.out.2);have dh:Hid (w7.ownsRow w3 9 1 (.slice (some ⟨g,0,none⟩) q c4) q (zZ T)):=eT H6.out.2.2.2 (Km (HO.out.alloc _) (J.out.alloc _) ip H6.out.2.1) H7.out.2;have cy:Hid (Blk w7 w 53 #[(),()]):=dR H6.out.2.2.2 ((HX.out.alloc _).grown H6.out.2.1 (fun e=>fZ J.out HX.out ip e.symm)) H7.out.2;have dg:Hid (Below w w w7):=((mZ cu HB.out).grown H6.out.2.1 rg (fun y hy=>(Aj J.out y hy).1)).grown H7.out.2 (by have:=(mZ (o:= .cells #[.int .i64 (k:Nat)] 3) cu HB.out).size;have:=H6.out.2.1.size;omega) (fun y hy=>by injection hy with hy;rw[<-hy];exact de.out);clear H6 H7 HM HO HX HB J HV cp;go_roundw
     case measure=>exact jq
     case rel=>go_light;exact⟨j+1,m'+1,_,_,nj,nj,iw,bi.out,dh.out,cy.out,dg.out⟩
    ·obtain rfl:j=q:=by omega
     have gj:=ig ((j:Int)<j);have bn:=ig (j<j);have bi:Hid (MI wi mb m' w D' (BK ((l.take (k+1)).map kZ)) V'):=(by show MI _ _ _ _ _ _ _;rw[ar.out,<-Y9,<-HQ.out];exact HM.out);clear HM HQ;go_wp2_with fail;go_roundw
     case measure=>exact jq
     case rel=>go_light;exact⟨k+1,m',D',V',nj,nj,iw,bi.out,HX.out,HB.out⟩
  ·obtain rfl:k=n:=by omega
   have gk:=ig ((k:Int)<k);have cA:=ig (k<k);have ay:l.take k=l:=Bw pu;rw[ay]at HM;have af:(l.map kZ).length=k:=(by rw[Bc,HN.out]);obtain⟨TS,ab⟩:=ii (l.map kZ);rw[<-ab]at HM af;have ah:=hid ab;have b5:=hid af;clear ay ab af D1 ak ha;have ac:Blk (w0.alloc (.cells #[(),()] 53)) w0 53 #[(),()]:=Blk.made _ _ _;have au:Below w0 w0 (w0.alloc (.cells #[(),()] 53)):=aZ (Ae _ _);obtain⟨bo,bc⟩:=ii w0.heap.size;go_wp2_with fail;rw[<-bc]at ac ⊢;have cv:w.heap.size<bo:=(by rw[bc];exact HX.out.lt);generalize w0.alloc (.cells #[(),()] 53)=w3 at *;have L:=hid (HM.out.step au);have ag:=hid (HX.out.step au);have U:Hid (Below w w w3):=dZ au HB.out;have a3:=hid ac;have ct:=YR L.out.map;have cr:m<=2000000000:=nj;have DK:=hid (callsIn_wide.1 (Tryz.maps_Keys_108 (some mb) w3));have DS:=hid (callsIn_wide.1 (Tryz.slices_Sorted_keys_107_108 mb m D zX w3 L.out.map rE nj));clear au ac HM HX HB bc;refine DK.out.mono ?_;rintro e w4 ⟨rfl,rfl⟩;clear DK;go_wp2_with fail;refine DS.out.mono ?_;rintro e w5 ⟨vS,ss,rfl,M,ai,b3,bN⟩;have Q:=L.out.keys M (TU TS) (Od TS);have a4:ss.length=(AQ TS).length:=(by rw[<-Q];exact(List.length_mergeSort ss).symm);rw[a4,show ss.mergeSort (fun x y=>decide (x<=y))=AQ TS from Q,Yz]at ai;have G:Below w3 w3 w5:=dZ bN (aZ (Ae _ _));have h:w5.ownsRow w 9 1 vS (AQ TS).length (zZ (AQ TS)):=lZ ai (by have:=U.out.size;simp;omega);obtain⟨SS,aw⟩:=ii (AQ TS);rw[<-aw]at h;have df:SS.length<=2000000000:=(by rw[aw,<-a4,M.length_eq];refine AN ?_ (AN ct cr);unfold strKeys Maps.size;cases D<;>simp);obtain⟨q,hq⟩:=ii SS.length;rw[<-hq]at h df;obtain⟨AS,cS,rfl⟩:=bZ h
   have bf:Hid (St3 w5 mb m w w bo w5 D (BK TS) V (.slice AS q cS) (.slice none 0 0) (.slice none 0 0) q 0 0 SS):=
    ⟨L.out.step G,ag.out.step G,a3.out.step G,nj,AE _ _ _ _,AE _ _ _ _,h,fun g hg=>(Aj h g hg).2,by have:=U.out.size;have:=G.size;omega,Ak _⟩
   have ci:Hid (Below w w w5):=dZ G U.out;have HQ:=hid hq;have Y:=hid aw;have dm:Hid (∀s∈SS,s.length<=25):=fun s hs=>L.out.long s ((Od TS s).1 (by rw[<-Y.out];exact hs));have dv:Hid (∀s,(BK TS s).length<=20000):=fun s=>by have h1:=Mw TS s;have h2:=b5.out;omega
   obtain⟨B2,cf⟩:=ii w5.heap.size;rw[<-cf]at bf;clear M ai b3 bN Q a4 G h hq aw DS L ag a3 U cf ct cr;obtain⟨i0,cB,cT,cz,cx⟩:=info_parts KO;obtain⟨i1,da,cH,cE,dq⟩:=info_parts QU;go_wp2_with fail;go_loopw [40] (fun iv wr=>∃ (k2:Nat) (vT vL:Value),k2<=q/\iv= .int .i64 k2/\Hid (St3 wr mb m w w bo B2 D (BK TS) V (.slice AS q cS) vT vL q k2 k2 SS)/\Hid (Below w w wr)) (fun iv _=>q-(intOf iv).toNat)
   case atStart=>exact⟨0,_,_,nj,rfl,bf.out,ci.out⟩
   case round=>
    obtain⟨k2,vT,vL,dC,rfl,HS,HB⟩:=hrel;clear bf ci;by_cases an:k2<q
    ·have gj:=ic ((k2:Int)<q);have bn:=ic (k2<q);have y0:(0:Int)<=(k2:Int):=nj;have y1:(k2:Int)<(q:Int):=nj;obtain⟨t,ht⟩:∃t,SS[k2]? =some t:=⟨_,Aw mg⟩;obtain⟨g,cg,bd,cX,_⟩:=HS.out.ss.form nj;injection bd with hA1 hA2 hA3;subst hA1 hA3;have ck:wr.cell? ⟨g,k2,none⟩=some (.string (bs t)):=(by rw[HS.out.ss.cellAt k2 nj];exact Ii ht);have bC:SS.take (k2+1)=SS.take k2++ [t]:=(by rw[BN,ht];rfl);have ar:=hid bC;have cw:=dm.out t (Be ht);have ak:=hid cw;obtain⟨A5,c5,rfl⟩:=bZ HS.out.tt;obtain⟨A8,c8,rfl⟩:=bZ HS.out.ll;obtain⟨A7,c7,hV⟩:=bZ (HS.out.mi.row t);have HV:=hid hV;have b0:=HS.out.box.ia 0;have cL:=HB.out.size;have dt:=HS.out.bz;have az:=HS.out.b2;obtain⟨p,hp⟩:=ii ((BK TS t).length);rw[<-hp]at HV;clear ht bC cw hV hp;go_wp2_with(first|(at_builtin;refine iZ rfl (.tmp 45) (.tmp 47) 50 rfl B2 9 i0 _ 1 16 underlying50 cB cT cz cx rfl ip _ _ _ nm (HS.out.tt.alloc _) _ 1 1 [.string (bs t)] nm (Src.of_blk (Blk.made _ _ _) 1 1 1 rfl) mq rE nj rg ?_;intro v6 w6 z E aa;obtain⟨A6,c6,rfl⟩:=bZ z;have al:=HS.out.putT E (by rw[ar.out,Oe];exact z);have av:=al.mi.look t (by have:=ak.out;unfold maxLen;omega);rw[HV.out]at av;have f6:=((HS.out.box.alloc _).grown E (fun e=>fZ HS.out.tt HS.out.box ip e.symm)).frozen 0;have e6:=((HS.out.box.alloc _).grown E (fun e=>fZ HS.out.tt HS.out.box ip e.symm)).cell 0;have dd:=((HS.out.box.alloc _).grown E (fun e=>fZ HS.out.tt HS.out.box ip e.symm)).cell 1;simp only[List.getElem?_toArray,List.getElem?_cons_zero,List.getElem?_cons_succ]at e6 dd;have am:Hid (Below w w w6):=(mZ cL HB.out).grown E rg (fun y hy=>AN az (Aj HS.out.tt y hy).1);have H6:=hid al;have cl:=al.bz;clear al z E aa)|(at_builtin;refine iZ rfl (.tmp 51) (.tmp 55) 51 rfl B2 37 i1 _ 1 24 underlying51 da cH cE dq rfl ip _ _ _ nm (H6.out.ll.alloc _) _ 1 1 [.slice A7 p c7] nm (Src.of_blk (Blk.made_at _ _ _ qT) 1 1 1 rfl) mq rE nj (by simp at cl ⊢;omega) ?_;intro v9 w9 N aj b7;obtain⟨A9,c9,rfl⟩:=bZ N;have ce:=H6.out.putL aj (by rw[ar.out,EW,List.map_singleton,HV.out];exact N);have f9:=((H6.out.box.alloc _).grown aj (fun e=>fZ H6.out.ll H6.out.box ip e.symm)).frozen 1;have e9:=((H6.out.box.alloc _).grown aj (fun e=>fZ H6.out.ll H6.out.box ip e.symm)).cell 1;simp only[List.getElem?_toArray,List.getElem?_cons_zero,List.getElem?_cons_succ]at e9;have cq:Hid (Below w w w9):=(mZ (by have:=am.out.size;simp;omega) (BF (Nat.le_of_lt cv) am.out)).grown aj (by have:=am.out.size;simp;omega) (fun y hy=>AN az (Aj H6.out.ll y hy).1);have H9:=hid ce;clear ce N aj b7));have cP:Hid (Below w w (w9.setCell ⟨bo,1,none⟩ (.slice A9 (k2+1) c9))):=BF (Nat.le_of_lt cv) cq.out;clear H6 am cq HS HB;go_roundw
     case measure=>exact jq
     case rel=>go_light;exact⟨k2+1,_,_,nj,iw,H9.out,cP.out⟩
    ·obtain rfl:k2=q:=by omega
     have gj:=ig ((k2:Int)<k2);have bn:=ig (k2<k2);obtain⟨A5,c5,rfl⟩:=bZ HS.out.tt;obtain⟨A8,c8,rfl⟩:=bZ HS.out.ll;have b0:=HS.out.box.ia 0;have b1:=HS.out.box.ia 1;have r0:=HS.out.res.ia 0;have r1:=HS.out.res.ia 1;have s0:=HS.out.res.frozen 0;have s1:=HS.out.res.frozen 1;go_wp2_with fail;have a5:SS.take k2=SS:=Bw (by rw[<-HQ.out];exact Ak _);have be:=HS.out.tt;have a9:=HS.out.ll;rw[a5]at be a9;have cc:=HS.out.b2;have n1:(Value.slice A5 k2 c5).ownBlock≠some w.heap.size:=fZ be HS.out.res ip;have n2:(Value.slice A8 k2 c8).ownBlock≠some w.heap.size:=fZ a9 HS.out.res ip;refine CF (v:= .agg #[.slice A5 k2 c5, .slice A8 k2 c8]) ?_ rfl ⟨_,_,SS.map V,rfl,⟨?_,?_,?_⟩,?_⟩
     ·have e0:=(HS.out.res.set 0 (.slice A5 k2 c5)).cell 0;have e1:=((HS.out.res.set 0 (.slice A5 k2 c5)).set 1 (.slice A8 k2 c8)).cell 1;simp at e0 e1;simp[results,results52,go_sem,e0,e1]
     ·rw[<-ah.out,<-Y.out,<-HQ.out];exact CQ (CQ (lZ be cc) n1 _) n1 _
     ·rw[<-ah.out,<-Y.out,Bc,<-HQ.out];exact CQ (CQ (lZ a9 cc) n2 _) n2 _
     ·intro i v dx hv hi;rw[<-ah.out,<-Y.out]at hi;rw[BI]at hv hi;cases hs:SS[i]? with
      |none=>rw[hs]at hv;cases hv
      |some s=>rw[hs]at hv hi;injection hv with hv;injection hi with hi;subst hv hi;have hn:=fZ (HS.out.mi.row s) HS.out.res ip;exact CQ (CQ (HS.out.mi.row s) hn _) hn _
     ·exact BF (Ak _) (BF (Ak _) HB.out)
end Idx
namespace Idx
open Go.RowKit Mem Own Canon
open NumPut (gZ sZ CZ)
open Ef (efO Cj FH Dj Ew Hh unary Kv Hs L7 efW)
open Huff (bytesOf bytesOf_length)
def Dl(bound:Nat)(ls:List (List Nat)):List Nat:=ls.flatMap (efO bound)
def ixO(size bound:Nat)(ts:List Str)(ls:List (List Nat)):List Nat:=Dh size ts++Dl bound ls
theorem WR(bound:Nat)(ls:List (List Nat))(k:Nat)(x:List Nat)(h:ls[k]? =some x):Dl bound (ls.take (k+1))=Dl bound (ls.take k)++efO bound x:=by unfold Dl;rw[BN,h];simp
theorem NL:∀ (l:List Nat) (i B:Nat),i<=B->(∀x∈l,i<=x/\x<=B)->l.Pairwise (·<= ·)->(Ew i l).length+i<=B+l.length
 | [],i,B,hw,_,_=>by simp[Ew];exact hw
 |x :: t,i,B,hw,h,hp=>by rw[FM]at hp;have hx:=h x CG;have ih:=NL t x B hx.2 (fun y hy=>⟨hp.1 y hy,(h y (Ce _ hy)).2⟩) hp.2;rw[Ew,Ag,Kv,AD];omega
theorem NI:∀ (bound:Nat) (l:List Nat) (u:Option Nat),Cj bound u l=true->l.Pairwise (·<= ·)/\∀y,u=some y->∀x∈l,y<=x
 |_,[],_,_=>⟨List.Pairwise.nil,fun _ _ _ hx=>by cases hx⟩
 |bound,a :: t,u,h=>by
  rw[Cj,Cf]at h;have ih:=NI bound t (some a) h.2;have ha:∀y,u=some y->y<=a:=fun y hy=>by have h1:=h.1;unfold Ef.Hy at h1;rw[hy,Cf]at h1;have:=h1.2;simp at this;omega
  refine⟨FM.2 ⟨fun x hx=>ih.2 a rfl x hx,ih.1⟩,fun y hy x hx=> ?_⟩;rcases AV.1 hx with rfl|hx
  ·exact ha y hy
  ·exact AN (ha y hy) (ih.2 a rfl x hx)
theorem lC(hb:bound<=20000)(hm:Cj bound none l=true)(hn:l.length<=bound):(efO bound l).length<=45010:=by
 unfold efO;split
 ·have:=sZ (x:=0) nj;omega
 ·rename_i h0;have h1:1<=l.length:=FP.2 h0;have hq:1<=bound / l.length:=(Nat.one_le_div_iff nj).2 hn;have hW:efW bound l.length<=14:=by refine KA fun h=> ?_;have h2:2 ^ 15<=2 ^ efW bound l.length:=Cn nj nj;have h3:=Ef.KI (q:=bound / l.length) nj;have h4:bound / l.length<=bound:=Hw _ _;unfold efW at h2;omega
  have E:=sZ (x:=l.length) nj;have i:=Hh (efW bound l.length) l;have G:l.length*efW bound l.length<=20000*14:=Hv nj hW;have z:=Hs bound l none hm;have hp:=(NI bound l none hm).1;have j:=NL (l.map (·/ 2 ^ efW bound l.length)) 0 bound nj (fun x hx=>by obtain⟨y,hy,rfl⟩:=Co.1 hx;exact⟨CA _,AN (Hw _ _) (by have:=z y hy;omega)⟩) (List.Pairwise.map _ (fun a b h=>Nat.div_le_div_right h) hp);rw[Bc]at j;rw[Ag,bytesOf_length];unfold FH;rw[Ag,i];omega
theorem T3:∀ (bound:Nat) (l:List Nat) (u:Option Nat),Cj bound u l=true->l.length+(match u with|none=>0|some y=>y+1)<=bound∨l= []
 |_,[],_,_=> .inr rfl
 |bound,a :: t,u,h=>by
  have h':=h;rw[Cj,Cf]at h';have i:=Hs bound (a :: t) u h a CG;have h1:=h'.1;unfold Ef.Hy at h1;rw[Cf]at h1;refine .inl ?_;rcases T3 bound t (some a) h'.2 with ih|ih
  ·simp only at ih;cases u with
   |none=>simp only[List.length_cons];omega
   |some y=>have:=h1.2;simp at this;simp only[List.length_cons];omega
  ·subst ih;cases u with
   |none=>simp only[List.length_cons,List.length_nil];omega
   |some y=>have:=h1.2;simp at this;simp only[List.length_cons,List.length_nil];omega
theorem Qb(h:Cj bound none l=true)(h0:l≠ []):1<=l.length/\l.length<=bound:=by
 have h1:1<=l.length:=FP.2 h0;rcases T3 bound l none h with h2|h2
 ·exact⟨h1,ry⟩
 ·exact absurd h2 h0
def Ho(bound:Nat)(ls:List (List Nat)):Bool:=ls.all (Cj bound none)
theorem WB(h:Ho bound ls=true)(hx:ls[k]? =some x):Cj bound none x=true:=Gh.1 h x (Be hx)
theorem Xe(hb:bound<=20000)(h0:∀l∈ls,l≠ [])(hm:Ho bound ls=true):(Dl bound ls).length<=45010*ls.length:=by
 induction ls with
 |nil=>simp[Dl]
 |cons x t ih=>unfold Ho at hm ih;rw[List.all_cons,Cf]at hm;have ih:=ih (fun l hl=>h0 l (Ce _ hl)) hm.2;have hx:=lC hb hm.1 (Qb hm.1 (h0 x CG)).2;unfold Dl at ih ⊢;rw[Cu,Ag,AD];omega
theorem dG{size:Nat}{l:List Str}(hm:Gn l=true)(h1:1<=size)(h2:size<=64)(hN:l.length<=20000):(Dh size l).length<=820010:=by have hs:∀s∈l,s.length<=25:=fun s hs=>(Jv hm s hs).2;have a:=ME hs h2 nj (nCh size l.length);have b:=NN hs h1 (nCh size l.length);have c:=NE (n:=l.length) h1;have e:Dh size l=hdB size l (nCh size l.length)++bdB size l (nCh size l.length):=QA h1 l;rw[e,Ag];omega
theorem IxAt.step{ts:List Str}(h:IxAt w base vT vL vals ts ls)(hb:Below w w w'):IxAt w' base vT vL vals ts ls:=
 ⟨eZ h.t fun y hy=>hb.block y (Aj h.t y hy).2,eZ h.l fun y hy=>hb.block y (Aj h.l y hy).2,fun i v ids hv hi=>eZ (h.r i v ids hv hi) fun y hy=>hb.block y (Aj (h.r i v ids hv hi) y hy).2⟩
theorem IxAt.len{ts:List Str}(h:IxAt w base vT vL vals ts ls):vals.length=ls.length:=by have:=h.l.1;omega
end Idx
namespace Body
open Recs Opts Crc Idx
open NumPut (gZ sZ CZ)
open Block (Br)
open Go.Proofs.YtfgdoknipbpfhaaGreatDoor.One (O1 L8 OV Ow)
def Cv(wh pl:Bool):List Nat->List Rec->List (List Nat)
 | [],_=> []
 |c :: t,l=>Br (wZ wh (l.take c)) pl :: Cv wh pl t (l.drop c)
def Cb(o:Opt)(l:List Rec):List Nat:=Ht o.block.toNat (EQ false l)
def Bf:List Nat->List Nat->List Nat
 |a :: g,b :: s=>gZ a++(gZ b++Bf g s)
 |_,_=> []
def AW(b:List Nat):List Nat:=b++CW (Cq b)
def Em(n:Nat)(G S:List Nat)(x y:Nat):List Nat:=gZ n++(gZ G.length++(Bf G S++(gZ x++gZ y)))
def zY(n:Nat)(G:List Nat)(FS:List (List Nat))(cols idx:List Nat):List Nat:=
 FS.flatten++(AW cols++(AW idx++(AW (Em n G (FS.map List.length) (AW cols).length (AW idx).length)++CR (AW (Em n G (FS.map List.length) (AW cols).length (AW idx).length)).length)))
def ixR(o:Opt)(l:List Rec):List Nat:=ixO o.bucket.toNat l.length (AQ (l.map kZ)) ((AQ (l.map kZ)).map (BK (l.map kZ)))
def Cy(o:Opt)(l:List Rec):List Nat:=zY l.length (Cb o l) (Cv false o.plain (Cb o l) l) (Di l) (ixR o l)
theorem Dx(b:List Nat):(AW b).length=b.length+4:=by unfold AW;rw[Ag];rfl
theorem N8{b:List Nat}(h:∀x∈b,x<=255):∀x∈AW b,x<=255:=fun x hx=>by
 rcases BQ.1 hx with hx|hx
 ·exact h x hx
 ·have:=Vf _ x hx;omega
theorem SB:∀ (g s:List Nat) (a b:Nat),g.length=s.length->Bf (g++ [a]) (s++ [b])=Bf g s++(gZ a++gZ b)
 | [],[],a,b,_=>by simp[Bf]
 |x :: g,y :: s,a,b,h=>by rw[Ei,Ei,Bf,SB g s a b ru,Bf];simp only[List.append_assoc]
 | [],_ :: _,_,_,h=>qU
 |_ :: _,[],_,_,h=>qU
theorem Sn{g s:List Nat}{a b:Nat}(ha:g[k]? =some a)(hb:s[k]? =some b):Bf (g.take (k+1)) (s.take (k+1))=Bf (g.take k) (s.take k)++(gZ a++gZ b):=by obtain⟨hk,_⟩:=BW.1 ha;obtain⟨h,_⟩:=BW.1 hb;rw[BN,ha,BN,hb];exact SB _ _ a b (by rw[Ba,Ba];omega)
theorem US:∀ (g s:List Nat),(∀x∈g,x<18446744073709551616)->(∀x∈s,x<18446744073709551616)->(Bf g s).length<=20*g.length
 | [],_,_,_=>by simp[Bf]
 |_ :: _,[],_,_=>by simp[Bf]
 |x :: g,y :: s,h1,h2=>by have a:=sZ (h1 x CG);have b:=sZ (h2 y CG);have c:=US g s (fun z hz=>h1 z (Ce _ hz)) (fun z hz=>h2 z (Ce _ hz));rw[Bf,Ag,Ag,AD];omega
theorem Wn:∀ (g s:List Nat),∀x∈Bf g s,x<=255
 | [],_,x,h=>by simp[Bf]at h
 |_ :: _,[],x,h=>by simp[Bf]at h
 |a :: g,b :: s,x,h=>by
  rw[Bf]at h;rcases BQ.1 h with h|h
  ·exact CZ _ x h
  ·rcases BQ.1 h with h|h
   ·exact CZ _ x h
   ·exact Wn g s x h
theorem QK(n:Nat)(G S:List Nat)(x y:Nat):∀z∈Em n G S x y,z<=255:=fun z h=>by
 unfold Em at h;simp only[List.mem_append]at h;rcases h with h|h|h|h|h
 ·exact CZ _ z h
 ·exact CZ _ z h
 ·exact Wn _ _ z h
 ·exact CZ _ z h
 ·exact CZ _ z h
theorem Qe{G S:List Nat}{x y:Nat}(hn:n<=1000000000)(hg:G.length<=1000000000)(h1:∀z∈G,z<=1000000000)(h2:∀z∈S,z<=1000000000)(hx:x<=1000000000)(hy:y<=1000000000):(Em n G S x y).length<=40+20*G.length:=by have a:=sZ (x:=n) nj;have b:=sZ (x:=G.length) nj;have c:=sZ (x:=x) nj;have d:=sZ (x:=y) nj;have e:=US G S (fun z hz=>by have:=h1 z hz;omega) (fun z hz=>by have:=h2 z hz;omega);unfold Em;simp only[List.length_append];omega
theorem LD(wh pl:Bool):∀ (cs:List Nat) (l:List Rec),(Cv wh pl cs l).length=cs.length
 | [],_=>rfl
 |c :: t,l=>by rw[Cv,AD,LD wh pl t,AD]
theorem Lo(wh pl:Bool):∀ (cs:List Nat) (l:List Rec),(wZ wh l).length<=16000->(Cv wh pl cs l).flatten.length<=(wZ wh l).length+25*cs.length
 | [],_,_=>by simp[Cv]
 |c :: t,l,h=>by have hs:=One.L9 wh l c;have ih:=Lo wh pl t (l.drop c) nj;have hf:=One.UQ (bs:=wZ wh (l.take c)) pl nj;rw[Cv,List.flatten_cons,Ag,AD];omega
theorem Lk(o:Opt)(l:List Rec):(Cb o l).sum=l.length:=by unfold Cb;rw[O1,Ow]
theorem MN(o:Opt)(l:List Rec):(Cb o l).length<=l.length:=by have:=OV (L8 o.block.toNat (EQ false l));rw[O1,Ow]at this;exact this
theorem I8:∀ {l:List Nat} {x:Nat},x∈l->x<=l.sum
 |y :: t,x,h=>by
  rw[GU];rcases AV.1 h with rfl|h
  ·omega
  ·have:=I8 h;omega
end Body
namespace Body
open Go.RowKit Mem Own Canon Recs
open NumPut
open Block (nZ)
theorem TL{x:Nat}(h:l[k]? =some x):(l.take (k+1)).sum=(l.take k).sum+x:=by rw[BN,h];simp
theorem Lg(l:List Nat)(k:Nat):(l.take k).sum<=l.sum:=by
 conv=>rhs;rw[<-EV k l]
 rw[N3];omega
theorem Lq(w:World)(A:Option Addr)(n c:Nat)(ls:List Nat)(hn:ls.length=n)(hN:n<=1000000)(hs:ls.sum<=1000000000000000)(ha:Row w w A n 1 (jZ .i64 ls)):
 Calls prog 64 #[.slice A n c] w fun e w'=>e= .returned (.int .i64 (ls.sum:Nat))/\w'=w:=by
 have HN:=hid hn;obtain⟨R,hR⟩:=ii ls.sum;have HR:=hid hR;rw[<-hR]at hs ⊢;clear hn hR;go_enter func64,ntmps64;go_wp2_with fail;go_loopw [3,8] (fun sv iv wx=>∃k s:Nat,k<=n/\s<=R/\iv= .int .i64 k/\sv= .int .i64 s/\Hid (s=(ls.take k).sum)/\wx=w) (fun _ iv _=>n-(intOf iv).toNat)
 case atStart=>exact⟨0,0,nj,nj,rfl,rfl,rfl,rfl⟩
 case round=>
  obtain⟨k,s,hk,G,rfl,rfl,HS,rfl⟩:=hrel;by_cases i:k<n
  ·have gk:=ic ((k:Int)<n);have E:=ic (k<n);have x0:(0:Int)<=(k:Int):=nj;have x1:(k:Int)<(n:Int):=nj;obtain⟨b,J,x,rfl,_,hx,ck⟩:=CH ha HN.out i;have h:=TL hx;have j:=Lg ls (k+1);rw[h,<-HS.out,<-HR.out]at j;have y:Hid (s+x=(ls.take (k+1)).sum):=(by show _=_;rw[h,HS.out]);have s1:IntKind.i64.wrap ((s:Int)+(x:Int))=((s+x:Nat):Int):=pi;clear h hx HS;go_wp2_with fail;go_roundw
   case measure=>exact jq
   case rel=>go_light;exact⟨k+1,s+x,nj,j,iw,iw,y.out,iz⟩
  ·obtain rfl:k=n:=by omega
   have gk:=ig ((k:Int)<k);have E:=ig (k<k);have z:s=R:=(by rw[HS.out,HR.out,Bw pu]);subst z;clear HS HR i;go_wp2_with fail;go_ret;exact⟨rfl,rfl⟩
theorem sum_any(w:World)(A:Option Addr)(n c:Nat)(ls:List Nat)(hn:ls.length=n)(hN:n<=1000000)(hs:ls.sum<=1000000000)(ha:Row w w A n 1 (jZ .i64 ls)):
 Calls prog 64 #[.slice A n c] w fun e w'=>e= .returned (.int .i64 (ls.sum:Nat))/\w'=w:=Lq w A n c ls hn hN nj ha
theorem aN(w:World)(db g cG cS x y base:Nat)(AG AS:Option Addr)(G S:List Nat)(hg:G.length=g)(hs:S.length=g)(bh:g<=20000)(hG:G.sum<=1000000000)(hS:∀z∈S,z<=1000000000)(hx:x<=1000000000)(hy:y<=1000000000)
 (hb:Blk w db 87 #[.slice AG g cG, .slice AS g cS, .int .i64 (x:Nat), .int .i64 (y:Nat)])(ai:Row w base AG g 1 (jZ .i64 G))(ar:Row w base AS g 1 (jZ .i64 S))(N:base<=w.heap.size):
 Calls prog 53 #[.pointer (some ⟨db,0,none⟩)] w fun e w'=>∃v,e= .returned v/\w'.ownsRow w 5 1 v (Em G.sum G S x y).length (cZ .u8 (Em G.sum G S x y))/\Below w w w':=by
 have DS:=hid (fun wx (h:Below w w wx)=>sum_any wx AG g cG G hg nj hG (((ai.mono N).below h).mono h.size));have D1:=hid (fun wx=>Gu wx G.sum nj);have D2:=hid (fun wx=>Gu wx g nj);have l1:=sZ (x:=G.sum) nj;have l2:=sZ (x:=g) nj;have ag:Em G.sum G S x y=gZ G.sum++(gZ g++(Bf G S++(gZ x++gZ y))):=by unfold Em;rw[hg]
 obtain⟨s,ae⟩:=ii G.sum;rw[<-ae]at DS D1 l1 hG ag ⊢;have am:=hid ag;have u1:IntKind.u64.wrap (s:Int)=(s:Int):=pk
 have u2:IntKind.u64.wrap (g:Int)=(g:Int):=pk
 have al:∀z∈G,z<=1000000000:=fun z hz=>AN (I8 hz) nj;have ba:=hid al;have bb:=hid hS;have HG:=hid hg;have HS:=hid hs;have bc:Hid (Row w base AG g 1 (jZ .i64 G)):=ai;have ay:Hid (Row w base AS g 1 (jZ .i64 S)):=ar;have ab:=hid hb;have HC:Hid (∀wx,Below w w wx->wx.cell? ⟨db,0,none⟩=some (.slice AG g cG)):=fun wx h=>(hb.step h).cell 0;have bj:=hid ae;have c0:=hb.ia 0;have bi:=hb.lt;clear hg hs hS ag hb ai ar al ae;generalize gZ s=N1 at *;generalize gZ g=N2 at *;have az:∀a1 a2 a3 a4,BV [(⟨a1,a2,N1⟩:Part),⟨a3,a4,N2⟩]<=1000000:=fun _ _ _ _=>rh
 go_enter func53,ntmps53;go_upto_region 1 with fail;go_cut [3] (fun v wx=>Hid (wx.ownsRow w 5 1 v (N1.length+N2.length) (cZ .u8 (N1++N2)))/\Hid (Below w w wx))
 case first=>
  go_region_held3 (fun wx=>wx.cell? ⟨db,0,none⟩=some (.slice AG g cG)) (first|exact HC.out _ ((Ae _ _).drew)|(refine HC.out _ ?_;(repeat (with_reducible first|exact Ae _ _|assumption|refine Aq ?_ |refine below_drewN ?_ _|refine oZ ?_ |refine aZ ?_ |refine dZ im ?_ |refine belA ?_ |refine pZ im ?_)))) (first|(go_at_call 64;(with_reducible refine(DS.out _ rF).mono ?_);rintro e wF ⟨rfl,rfl⟩)|(go_at_call 99;first|((with_reducible refine(D1.out _).mono ?_);rintro e wA ⟨vA,rfl,j,Z⟩;obtain⟨AA,cA,rfl⟩:=bZ j;have PA:Part.Ok (⟨AA,cA,N1⟩:Part) wA:=nZ j rfl)|((with_reducible refine(D2.out _).mono ?_);rintro e wB ⟨vB,rfl,J,Y⟩;obtain⟨AB,cB,rfl⟩:=bZ J;have PB:Part.Ok (⟨AB,cB,N2⟩:Part) wB:=nZ J rfl))|(go_at_call 55;(refine(FZ _ _ 2 [(⟨AA,cA,N1⟩:Part),(⟨AB,cB,N2⟩:Part)] rfl nj (az _ _ _ _) (fun p hp=>by{rcases AV.1 hp with rfl|hp;exact PA.step rF;rcases AV.1 hp with rfl|hp;exact PB.step rF;cases hp}) ir).mono ?_);rintro e w7 ⟨v7,rfl,E,M⟩;obtain⟨A7,c7,rfl⟩:=bZ E;have B7:Below w w w7:=dZ M rF))
  all_goals
   have U:Hid (w7.ownsRow w 5 1 (.slice A7 (N1.length+N2.length) c7) (N1.length+N2.length) (cZ .u8 (N1++N2))):=(by have h:=lZ E (show w.heap.size<=_ from Below.size rF);simp only[List.flatMap_cons,List.flatMap_nil,List.append_nil,List.length_append]at h;exact h);have Q:=hid B7;go_wp2_with fail;go_meet
   case rel=>go_light;exact⟨U.out,Q.out⟩
 case rest=>
  obtain⟨ak,ah⟩:=hcut;have bd:=HC.out _ ah.out;clear c0;go_wp2_with fail;have aj:Hid (wc.ownsRow w 5 1 u3 (N1++N2++Bf (G.take 0) (S.take 0)).length (cZ .u8 (N1++N2++Bf (G.take 0) (S.take 0)))):=by have e:N1++N2++Bf (G.take 0) (S.take 0)=N1++N2:=(by simp[Bf]);show World.ownsRow _ _ _ _ _ _ _;rw[e,Ag];exact ak.out
  have an:Hid ((N1++N2++Bf (G.take 0) (S.take 0)).length<=20+20*0):=by show _<=_;simp[Bf];omega
  clear bd ak;go_loopw [3,27] (fun ov iv wr=>∃k:Nat,k<=g/\iv= .int .i64 k/\Hid (wr.ownsRow w 5 1 ov (N1++N2++Bf (G.take k) (S.take k)).length (cZ .u8 (N1++N2++Bf (G.take k) (S.take k))))/\Hid ((N1++N2++Bf (G.take k) (S.take k)).length<=20+20*k)/\Hid (Below w w wr)) (fun _ iv _=>g-(intOf iv).toNat)
  case atStart=>exact⟨0,nj,rfl,aj.out,an.out,ah.out⟩
  case round=>
   obtain⟨k,hk,rfl,HO,HL,HB⟩:=hrel;clear aj an ah;obtain⟨wi,rfl⟩:=ii wr;have hz:=HB.out.size;by_cases au:k<g
   ·have gk:=ic ((k:Int)<g);have ax:=ic (k<g);obtain⟨A3,c3,rfl⟩:=bZ HO.out;have x0:(0:Int)<=(k:Int):=nj;have x1:(k:Int)<(g:Int):=nj;obtain⟨bg,og,n,rfl,bf,hn,cn⟩:=CH (bc.out.keep fun p hp=>HB.out.cell (p:=p) (EE hp N)) HG.out au;obtain⟨bs,os,z,rfl,be,af,cz⟩:=CH (ay.out.keep fun p hp=>HB.out.cell (p:=p) (EE hp N)) HS.out au;have a0:=ba.out n (Be hn);have av:=bb.out z (Be af);have aq:=Sn hn af;have DA:=hid (fun wx=>Gu wx n nj);have DB:=hid (fun wx=>Gu wx z nj);have u3:IntKind.u64.wrap (n:Int)=(n:Int):=pk;have u4:IntKind.u64.wrap (z:Int)=(z:Int):=pk;have la:=sZ (x:=n) nj;have lb:=sZ (x:=z) nj;have L:Hid (∀wx,Below wi wi wx->wx.cell? ⟨db,1,none⟩=some (.slice (some ⟨bs,os,none⟩) g cS)/\wx.cell? ⟨bs,os+k,none⟩=some (.int .i64 (z:Nat))):=fun wx h=>⟨((ab.out.step HB.out).step h).cell 1,(h.cell (p:=⟨bs,os+k,none⟩) (by show bs<_;omega)).trans cz⟩;have PO:Hid (∀wx,Below wi wi wx->Part.Ok (⟨A3,c3,N1++N2++Bf (G.take k) (S.take k)⟩:Part) wx):=fun wx hb=>(nZ HO.out rfl).step hb;generalize gZ n=NA at *;generalize gZ z=NB at *;have aa:Hid (N1++N2++Bf (G.take (k+1)) (S.take (k+1))=N1++N2++Bf (G.take k) (S.take k)++(NA++NB)):=(by show _=_;rw[aq];simp only[List.append_assoc]);have aw:=HL.out;generalize N1++N2++Bf (G.take k) (S.take k)=i at *;have ac:∀a1 a2 a3 a4 a5 a6,BV [(⟨a1,a2,i⟩:Part),⟨a3,a4,NA⟩,⟨a5,a6,NB⟩]<=1000000:=fun _ _ _ _ _ _=>by simp[BV];omega
    have c1:=(L.out wi (Ae _ _)).1;clear hn af aq a0 av;go_upto_region 5 with fail;go_region_held3 (fun wx=>wx.cell? ⟨db,1,none⟩=some (.slice (some ⟨bs,os,none⟩) g cS)/\wx.cell? ⟨bs,os+k,none⟩=some (.int .i64 (z:Nat))) (first|exact L.out _ ((Ae _ _).drew)|(refine L.out _ ?_;(repeat (with_reducible first|exact Ae _ _|assumption|refine Aq ?_ |refine below_drewN ?_ _|refine oZ ?_ |refine aZ ?_ |refine dZ im ?_ |refine belA ?_ |refine pZ im ?_)))) (first|(go_at_call 99;first|((with_reducible refine(DA.out _).mono ?_);rintro e wA ⟨vA,rfl,j,Z⟩;obtain⟨AA,cA,rfl⟩:=bZ j;have PA:Part.Ok (⟨AA,cA,NA⟩:Part) wA:=nZ j rfl)|((with_reducible refine(DB.out _).mono ?_);rintro e wB ⟨vB,rfl,J,Y⟩;obtain⟨AB,cB,rfl⟩:=bZ J;have PB:Part.Ok (⟨AB,cB,NB⟩:Part) wB:=nZ J rfl))|(go_at_call 55;(refine(FZ _ _ 3 [(⟨A3,c3,i⟩:Part),(⟨AA,cA,NA⟩:Part),(⟨AB,cB,NB⟩:Part)] rfl nj (ac _ _ _ _ _ _) (fun p hp=>by{rcases AV.1 hp with rfl|hp;exact PO.out _ rF;rcases AV.1 hp with rfl|hp;exact PA.step rF;rcases AV.1 hp with rfl|hp;exact PB.step rF;cases hp}) ir).mono ?_);rintro e w7 ⟨v7,rfl,E,M⟩;obtain⟨A7,c7,rfl⟩:=bZ E;have B7:Below wi wi w7:=dZ M rF))
    all_goals
     have U:Hid (w7.ownsRow w 5 1 (.slice A7 (i.length+(NA.length+NB.length)) c7) (i.length+(NA.length+NB.length)) (cZ .u8 (i++(NA++NB)))):=(by have h:=lZ E (show w.heap.size<=_ from AN hz (Below.size rF));simp only[List.flatMap_cons,List.flatMap_nil,List.append_nil,List.length_append]at h;exact h);have Q:Hid (Below w w w7):=uZ B7 hz HB.out;have a9:Hid ((i++(NA++NB)).length<=20+20*(k+1)):=(by show _<=_;rw[Ag,Ag];omega);clear E M PA PB B7 HO HB HL PO j J Z Y L cn cz c1;go_wp2_with fail;go_roundw
     case measure=>exact jq
     case rel=>go_light;exact⟨k+1,nj,iw,by rw[aa.out,Ag,Ag];exact U.out,by rw[aa.out];exact a9.out,Q.out⟩
   ·obtain rfl:k=g:=by omega
    have gk:=ig ((k:Int)<k);have ax:=ig (k<k);have eG:G.take k=G:=Bw (by rw[HG.out];exact Ak _);have eS:S.take k=S:=Bw (by rw[HS.out];exact Ak _);rw[eG,eS]at HO HL;obtain⟨A3,c3,rfl⟩:=bZ HO.out;have DA:=hid (fun wx=>Gu wx x nj);have DB:=hid (fun wx=>Gu wx y nj);have u3:IntKind.u64.wrap (x:Int)=(x:Int):=pk;have u4:IntKind.u64.wrap (y:Int)=(y:Int):=pk;have la:=sZ (x:=x) nj;have lb:=sZ (x:=y) nj;have L:Hid (∀wx,Below wi wi wx->wx.cell? ⟨db,2,none⟩=some (.int .i64 (x:Nat))/\wx.cell? ⟨db,3,none⟩=some (.int .i64 (y:Nat))):=fun wx h=>⟨((ab.out.step HB.out).step h).cell 2,((ab.out.step HB.out).step h).cell 3⟩;have PO:Hid (∀wx,Below wi wi wx->Part.Ok (⟨A3,c3,N1++N2++Bf G S⟩:Part) wx):=fun wx hb=>(nZ HO.out rfl).step hb;generalize gZ x=NA at *;generalize gZ y=NB at *;have aw:=HL.out;have aa:Hid (Em s G S x y=N1++N2++Bf G S++(NA++NB)):=(by show _=_;rw[am.out];simp only[List.append_assoc]);generalize N1++N2++Bf G S=i at *;have ac:∀a1 a2 a3 a4 a5 a6,BV [(⟨a1,a2,i⟩:Part),⟨a3,a4,NA⟩,⟨a5,a6,NB⟩]<=1000000:=fun _ _ _ _ _ _=>rh
    clear eG eS am;go_upto_region 7 with fail;go_region_held3 (fun wx=>wx.cell? ⟨db,2,none⟩=some (.int .i64 (x:Nat))/\wx.cell? ⟨db,3,none⟩=some (.int .i64 (y:Nat))) (first|exact L.out _ ((Ae _ _).drew)|(refine L.out _ ?_;(repeat (with_reducible first|exact Ae _ _|assumption|refine Aq ?_ |refine below_drewN ?_ _|refine oZ ?_ |refine aZ ?_ |refine dZ im ?_ |refine belA ?_ |refine pZ im ?_)))) (first|(go_at_call 99;first|((with_reducible refine(DA.out _).mono ?_);rintro e wA ⟨vA,rfl,j,Z⟩;obtain⟨AA,cA,rfl⟩:=bZ j;have PA:Part.Ok (⟨AA,cA,NA⟩:Part) wA:=nZ j rfl)|((with_reducible refine(DB.out _).mono ?_);rintro e wB ⟨vB,rfl,J,Y⟩;obtain⟨AB,cB,rfl⟩:=bZ J;have PB:Part.Ok (⟨AB,cB,NB⟩:Part) wB:=nZ J rfl))|(go_at_call 55;(refine(FZ _ _ 3 [(⟨A3,c3,i⟩:Part),(⟨AA,cA,NA⟩:Part),(⟨AB,cB,NB⟩:Part)] rfl nj (ac _ _ _ _ _ _) (fun p hp=>by{rcases AV.1 hp with rfl|hp;exact PO.out _ rF;rcases AV.1 hp with rfl|hp;exact PA.step rF;rcases AV.1 hp with rfl|hp;exact PB.step rF;cases hp}) ir).mono ?_);rintro e w7 ⟨v7,rfl,E,M⟩;obtain⟨A7,c7,rfl⟩:=bZ E;have B7:Below wi wi w7:=dZ M rF))
    all_goals
     have U:Hid (w7.ownsRow w 5 1 (.slice A7 (i.length+(NA.length+NB.length)) c7) (i.length+(NA.length+NB.length)) (cZ .u8 (i++(NA++NB)))):=(by have h:=lZ E (show w.heap.size<=_ from AN hz (Below.size rF));simp only[List.flatMap_cons,List.flatMap_nil,List.append_nil,List.length_append]at h;exact h);have Q:Hid (Below w w w7):=uZ B7 hz HB.out;clear E M PA PB B7 HO HB HL PO j J Z Y L;go_wp2_with fail;go_ret;exact⟨.slice A7 (i.length+(NA.length+NB.length)) c7,rfl,by rw[aa.out,Ag,Ag];exact U.out,Q.out⟩
end Body
namespace Body
open Go.RowKit Mem Own Canon
theorem WO(w:World)(A:Option Addr)(n c:Nat)(ls:List Nat)(hn:ls.length=n)(hN:n<=1000000)(ha:Row w w A n 1 (jZ .i64 ls)):
 Calls prog 192 #[.slice A n c,ij] w fun e w'=>∃r:Int,e= .returned (.int .i64 r)/\(0<=r↔0∈ls)/\w'=w:=by
 have HN:=hid hn;have H0:Hid (0 ∉ ls.take 0):=by simp[Hid]
 clear hn;go_enter func192,ntmps192;go_wp2_with fail;go_loopw [8] (fun iv wx=>∃k:Nat,k<=n/\iv= .int .i64 k/\Hid (0 ∉ ls.take k)/\wx=w) (fun iv _=>n-(intOf iv).toNat)
 case atStart=>exact⟨0,nj,rfl,H0.out,rfl⟩
 case round=>
  obtain⟨k,hk,rfl,HZ,rfl⟩:=hrel;by_cases j:k<n
  ·have gk:=ic ((k:Int)<n);have y:=ic (k<n);have x0:(0:Int)<=(k:Int):=nj;have x1:(k:Int)<(n:Int):=nj;obtain⟨b,E,x,rfl,_,hx,ck⟩:=CH ha HN.out j;by_cases i:x=0
   ·have gz:((0:Int)==(x:Int))=true:=(by rw[i];rfl);have HF:Hid (0∈ls):=(by show 0∈ls;rw[<-i];exact Be hx);clear hx i HZ;go_wp2_with fail;go_ret;exact⟨(k:Int),rfl,⟨fun _=>HF.out,fun _=>nj⟩,rfl⟩
   ·have gz:((0:Int)==(x:Int))=false:=by rw[Ga];omega
    have z:Hid (0 ∉ ls.take (k+1)):=by
     show ¬_;rw[BN,hx];intro h;rcases BQ.1 h with h|h
     ·exact HZ.out h
     ·simp at h;exact i h.symm
    clear hx i HZ;go_wp2_with fail;go_roundw
    case measure=>exact jq
    case rel=>go_light;exact⟨k+1,nj,iw,z.out,iz⟩
  ·obtain rfl:k=n:=by omega
   have gk:=ig ((k:Int)<k);have y:=ig (k<k);have HF:Hid (0 ∉ ls):=(by have h:=HZ.out;rw[Bw pu]at h;exact h);clear HZ j;go_wp2_with fail;go_ret;exact⟨-1,rfl,⟨fun h=>nj,fun h=>absurd h HF.out⟩,rfl⟩
theorem We(w:World)(A:Option Addr)(n c:Nat)(ls:List Nat)(hn:ls.length=n)(hN:n<=1000000)(ha:Row w w A n 1 (jZ .i64 ls)):
 Calls prog 115 #[.slice A n c,ij] w fun e w'=>e= .returned (.bool (decide (0∈ls)))/\w'=w:=by
 have D:=hid (WO w A n c ls hn hN ha);clear hn ha;go_enter func115,ntmps115;go_wp2_with fail;refine D.out.mono ?_;rintro e w1 ⟨r,rfl,hr,rfl⟩;have gr:decide ((0:Int)<=r)=decide (0∈ls):=by rw[decide_eq_decide];exact hr
 clear hr;go_wp2_with fail;go_ret;exact⟨rfl,rfl⟩
end Body
namespace Body
open Go.RowKit Mem Own Canon Nums
theorem Yy:(prog.info? 3).map (fun i=>(i.zero,i.size,i.bytes))=some (some (.int .i64 0),1,8):=my
def QF(w:World)(gb:Nat)(t:TypeId)(rest:List Value)(room:Nat)(ls:List Nat)(e:Ending)(w':World):Prop:=
 e= .returned (.int .i64 (Gl room ls))/\Kept (fun x=>x<w.heap.size/\x≠gb) w w'/\(Gl room ls=0->∃vc vs,Blk w' gb t (vc :: vs :: .int .i64 (dP ls:Nat) :: .int .i64 (dQ ls:Nat) :: rest).toArray/\w'.ownsRow w 3 1 vc (Do ls).length (cZ .i64 (Do ls))/\w'.ownsRow w 3 1 vs (Ed ls).length (cZ .i64 (Ed ls))/\(∀y,vc.ownBlock=some y->vs.ownBlock≠some y))
theorem pG(w:World)(gb:Nat)(t:TypeId)(x2 x3:Value)(rest:List Value)(A:Option Addr)(m c U:Nat)(ls:List Nat)(hB:Blk w gb t (.slice none 0 0 :: .slice none 0 0 :: x2 :: x3 :: rest).toArray)(cg:3≠t)(dj:5≠t)(hm:ls.length=m)(cL:m<=100000)(h8:∀x∈ls,x<=255)(b5:A=none->m=0/\c=0)(ha:Row w w A m 1 (jZ .u8 ls)):
 Calls prog 57 #[.pointer (some ⟨gb,0,none⟩), .slice A m c, .int .i64 (U:Nat)] w (QF w gb t rest U ls):=by
 obtain⟨j0,dd,dc,cE,de⟩:=info_parts Yy;have D0:=hid (new_any w A m c ls hm cL b5 ha);have b8:ls.length<=100000:=nj
 have DI:=hid (fun wx g B d at_ er most (hm:most<=1000000000) h=>Jd wx g w ls B d at_ er most b8 h8 hm h);have az:=hid (fun wx g B d at_ er h=>Dt wx g w ls B d at_ er h);have a3:=hid (fun wx g B d at_ er h=>TJ wx g w ls B d at_ er h);obtain⟨R,hR⟩:=ii (Gl U ls);unfold QF;rw[<-hR];have a4:En ls<=20000:=Gp h8 _ _;have cB:Hl ls<=20000:=AN (Gp h8 _ _) a4;have ai:Hid (∀ (most a:Nat) (er:Int),Bd most ls a er<=most):=fun most a er=>Gp h8 a er;have c8:=QL (rec:=En ls) (ls:=ls) (Hl ls) (AJ (En ls) ls (AJ 20000 ls 0 0) (AM 20000 ls 0 0)) (AM (En ls) ls (AJ 20000 ls 0 0) (AM 20000 ls 0 0)) [] [] rfl;have dh:=RP (rec:=En ls) h8 (Hl ls) (AJ (En ls) ls (AJ 20000 ls 0 0) (AM 20000 ls 0 0)) (AM (En ls) ls (AJ 20000 ls 0 0) (AM 20000 ls 0 0)) [] [] (fun x hx=>by simp at hx) (fun x hx=>by simp at hx);have c5:=hid c8;have a6:=hid dh;have HR:=hid hR;have cA:=hid hB;have cH:=hB.lt;clear hm h8 b5 ha hR hB c8 dh cL b8;go_enter func57,ntmps57;go_wp2_with fail;refine D0.out.mono ?_;rintro e w1 ⟨g,B,d,rfl,cl,cu⟩;have c7:=hid cu;have cX:=hid cl;have dn:=cl.lo;have dt:=cu.size;clear cl cu D0;go_wp2_with fail;refine(DI.out _ g B d 0 0 20000 nj cX.out).mono ?_;rintro e w2 ⟨rfl,cx,J⟩;have df:=hid cx;have ce:Hid (Below w w w2):=c7.out.trans (J.below fun b h=>⟨nj,nj⟩);obtain⟨rec,ag⟩:=ii (En ls);have aa:=hid ag;rw[<-ag]at a4;rw[show Bd 20000 ls 0 0=rec from ag.symm];clear cx J c7 cX ag;go_wp2_with fail;refine(DI.out _ g B d _ _ rec nj df.out).mono ?_;rintro e w3 ⟨rfl,c4,Y⟩;obtain⟨nb,b4⟩:=ii (Hl ls);have dm:=hid b4;rw[<-b4]at cB;rw[show Bd rec ls (AJ 20000 ls 0 0) (AM 20000 ls 0 0)=nb by rw[b4,aa.out];rfl];have cp:Hid (Below w w w3):=ce.out.trans (Y.below fun b h=>⟨by have:=ce.out.size;omega,nj⟩);have cP:=hid (cA.out.below cp.out cH);have cT:Hid (DrI w w3 gb t (x2 :: x3 :: rest) g ls B d (AJ rec ls (AJ 20000 ls 0 0) (AM 20000 ls 0 0)) (AM rec ls (AJ 20000 ls 0 0) (AM 20000 ls 0 0)) [] [] (.slice none 0 0) (.slice none 0 0)):=⟨c4,cP.out,AE _ _ _ _,AE _ _ _ _,(fun y h=>by cases h),Kept.of_below cp.out (fun x hx=>hx.1),cH,cg,dj⟩;have cC:Hid (EM rec ls (nb-0) (AJ rec ls (AJ 20000 ls 0 0) (AM 20000 ls 0 0)) (AM rec ls (AJ 20000 ls 0 0) (AM 20000 ls 0 0)) [] []=Gm ls):=by show _=_;rw[aa.out,dm.out];rfl
 generalize AJ rec ls (AJ 20000 ls 0 0) (AM 20000 ls 0 0)=a0 at *;generalize AM rec ls (AJ 20000 ls 0 0) (AM 20000 ls 0 0)=e0 at *;clear c4 Y df ce cp cP cA b4;go_wp2_with fail;go_loopw [10] (fun iv wr=>∃ (k at_:Nat) (er:Int) (C S:List Nat) (vc vs:Value),k<=nb/\iv= .int .i64 k/\Hid (C.length=k)/\Hid (S.length=k)/\Hid (DrI w wr gb t (x2 :: x3 :: rest) g ls B d at_ er C S vc vs)/\Hid (EM rec ls (nb-k) at_ er C S=Gm ls)) (fun iv _=>nb-(intOf iv).toNat)
 case atStart=>exact⟨0,a0,e0,[],[],_,_,nj,rfl,rfl,rfl,cT.out,cC.out⟩
 case round=>
  obtain⟨k,at_,er,C,S,vc,vs,hk,rfl,ar,a9,HI,HG⟩:=hrel;clear cT cC;have zr:=HI.out.kept.size;by_cases bn:k<nb/\er=0
  ·obtain⟨b1,rfl⟩:=bn;have gk:=ic ((k:Int)<nb);have cy:=ic (k<nb);have hG:=HG.out;rw[show nb-k=(nb-(k+1))+1 by omega,EM,Aa (show ¬((0:Int)≠0) from fun h=>h rfl)]at hG;have ba:=hid (az.out _ _ _ _ _ _ HI.out.cur);have ds:=ai.out rec at_ 0;have D1:=hid (fun wx hx=>DI.out wx g B d at_ 0 rec nj hx);have D2:=hid (fun wx hx=>DI.out wx g B d (AJ rec ls at_ 0) (AM rec ls at_ 0) 8388608 nj hx);have dr:=ai.out 8388608 (AJ rec ls at_ 0) (AM rec ls at_ 0);generalize Bd 8388608 ls (AJ rec ls at_ 0) (AM rec ls at_ 0)=s at *;generalize AJ 8388608 ls (AJ rec ls at_ 0) (AM rec ls at_ 0)=a2 at *;generalize AM 8388608 ls (AJ rec ls at_ 0) (AM rec ls at_ 0)=e2 at *;generalize Bd rec ls at_ 0=r at *;generalize AJ rec ls at_ 0=a1 at *;generalize AM rec ls at_ 0=e1 at *;have di:=hid hG;have c0:=HI.out.cs.1;obtain⟨Ac,cc,rfl⟩:=bZ HI.out.oc;obtain⟨p,hp⟩:=ii C.length;have dg:p=k:=(by rw[hp,ar.out]);rw[<-hp]at c0;have HP:=hid hp;have i:=HI.out.oc;rw[<-hp]at i;have dk:=hid i;clear hG HG hp i dg;go_wp2_with fail;refine ba.out.mono ?_;rintro e w4 ⟨rfl,rfl⟩;have dg:p<=k:=(by rw[HP.out,ar.out];exact Ak _);go_upto_region 7 with fail;go_region_law(first|(go_simp;go_at_call 112;(with_reducible refine(D1.out _ HI.out.cur.drew).mono ?_);rintro e w5 ⟨rfl,aj,ab⟩;have z:=HI.out.call aj ⟨ab.os,ab.tape,ab.output,ab.size,ab.block⟩;have q0:=z.cs.1;rw[<-HP.out]at q0;have ay:=z.oc;rw[<-HP.out]at ay;have z5:=z.kept.size;have q9:=(z.blk.alloc (.cells #[.int .i64 (r:Nat)] 3)).cell 0;simp only[List.getElem?_toArray,List.getElem?_cons_zero,<-HP.out]at q9)|(refine Qp rfl (.tmp 33) (.tmp 37) 37 rfl w 3 j0 _ 1 8 underlying37 dd dc cE de rfl ip (.slice Ac p cc) p (cZ .i64 C) nm (by first|exact ay.alloc _|exact(ay.alloc _).drew) _ 1 1 [.int .i64 (r:Nat)] nm (Src.of_blk (Blk.made_at _ _ _ qT) 1 1 1 rfl) mq rE nj rg ?_;intro A6 c6 w6 bf co ca;have b6:=(z.blk.alloc (.cells #[.int .i64 (r:Nat)] 3)).grown co (by rw[HP.out];exact AZ (fZ z.oc z.blk cg));have r0:=b6.cell 0;have s0:=b6.frozen 0;simp only[List.getElem?_toArray,List.getElem?_cons_zero,<-HP.out]at r0))
   all_goals
    have L:=z.count (x:=r) (aZ (o:= .cells #[.int .i64 (r:Nat)] 3) (Ae w5 w5)) (by rw[<-HP.out];exact co) (by rw[<-HP.out];exact bf) (by rw[<-HP.out];exact ca);have af:=hid L;obtain⟨As,cs,rfl⟩:=bZ L.os;obtain⟨p2,bk⟩:=ii S.length;have dp:p2<=k:=(by rw[bk,a9.out];exact Ak _);have bq:=L.os;rw[<-bk]at bq;have da:=hid bq;have d1:=L.cs.2;rw[<-bk]at d1;have ak:=hid bk;have z6:=L.kept.size;clear z L aj ab bf co ca b6 r0 s0 q0 q9 ay bq bk HI c0 D1 dk;generalize w6.setCell ⟨gb,0,none⟩ (.slice A6 (p+1) c6)=w7 at *;go_upto_region 8 with fail;go_region_law(first|(go_simp;go_at_call 112;refine(D2.out _ af.out.cur.drew).mono ?_;rintro e w8 ⟨rfl,cz,a5⟩;have ah:=af.out.call cz ⟨a5.os,a5.tape,a5.output,a5.size,a5.block⟩;have q0:=ah.cs.2;rw[<-ak.out]at q0;have ax:=ah.os;rw[<-ak.out]at ax;have z8:=ah.kept.size;have q9:=(ah.blk.alloc (.cells #[.int .i64 (s:Nat)] 3)).cell 1;simp only[List.getElem?_toArray,List.getElem?_cons_zero,List.getElem?_cons_succ,<-ak.out]at q9)|(refine Qp rfl (.tmp 45) (.tmp 48) 37 rfl w 3 j0 _ 1 8 underlying37 dd dc cE de rfl ip (.slice As p2 cs) p2 (cZ .i64 S) nm (by first|exact ax.alloc _|exact(ax.alloc _).drew) _ 1 1 [.int .i64 (s:Nat)] nm (Src.of_blk (Blk.made_at _ _ _ qT) 1 1 1 rfl) mq rE nj rg ?_;intro A9 c9 w9 bh cf b7;have b9:=(ah.blk.alloc (.cells #[.int .i64 (s:Nat)] 3)).grown cf (by rw[ak.out];exact AZ (fZ ah.os ah.blk cg));have r0:=b9.cell 1;have s0:=b9.frozen 1;simp only[List.getElem?_toArray,List.getElem?_cons_zero,List.getElem?_cons_succ,<-ak.out]at r0))
    all_goals
     have cF:=ah.size (x:=s) (aZ (o:= .cells #[.int .i64 (s:Nat)] 3) (Ae w8 w8)) (by rw[<-ak.out];exact cf) (by rw[<-ak.out];exact bh) (by rw[<-ak.out];exact b7);have dl:=hid cF;have cS:Hid ((C++ [r]).length=k+1):=(by show _=_;rw[Ag,ar.out];rfl);have cG:Hid ((S++ [s]).length=k+1):=(by show _=_;rw[Ag,a9.out];rfl);clear ah cF cz a5 bh cf b7 b9 r0 s0 q0 q9 ax af da d1;generalize w9.setCell ⟨gb,1,none⟩ (.slice A9 (p2+1) c9)=dq at *;go_wp2_with fail;go_roundw
     case measure=>exact jq
     case rel=>go_light;exact⟨k+1,a2,e2,C++ [r],S++ [s], .slice A6 (p+1) c6, .slice A9 (p2+1) c9,nj,iw,cS.out,cG.out,dl.out,di.out⟩
  ·have ac:Hid (Gm ls=(C,S,at_,er)):=by
    have h:=HG.out;by_cases b1:k<nb
    ·rw[oV (fun h=>bn ⟨b1,h⟩)]at h;exact h.symm
    ·rw[show nb-k=0 by omega,EM]at h;exact h.symm
   have ba:=hid (az.out _ _ _ _ _ _ HI.out.cur);clear HG;by_cases b1:k<nb
   ·have gk:=ic ((k:Int)<nb);have cy:=ic (k<nb);have cw:er≠0:=fun h=>bn ⟨b1,h⟩;have gE:(er==0)=false:=(by simpa using cw);clear bn cw;go_wp2_with fail;refine ba.out.mono ?_;rintro e w4 ⟨rfl,rfl⟩;have hP:dP ls=Bd 8388608 ls at_ er:=(by unfold dP;rw[ac.out]);have bb:dPA ls=AJ 8388608 ls at_ er:=(by unfold dPA;rw[ac.out]);have bj:dPE ls=AM 8388608 ls at_ er:=(by unfold dPE;rw[ac.out]);have hC:Do ls=C:=(by unfold Do;rw[ac.out]);have hS:Ed ls=S:=(by unfold Ed;rw[ac.out]);have D3:=hid (fun wx hx=>DI.out wx g B d at_ er 8388608 nj hx);rw[<-hP,<-bb,<-bj]at D3;have D4:=hid (fun wx hx=>DI.out wx g B d (dPA ls) (dPE ls) 8388608 nj hx);rw[show Bd 8388608 ls (dPA ls) (dPE ls)=dQ ls from rfl]at D4;have D5:=hid (fun wx hx=>a3.out wx g B d (AJ 8388608 ls (dPA ls) (dPE ls)) (AM 8388608 ls (dPA ls) (dPE ls)) hx);rw[show GL ls (AJ 8388608 ls (dPA ls) (dPE ls)) (AM 8388608 ls (dPA ls) (dPE ls))=dE ls from rfl]at D5;have cm:dP ls<=8388608:=(by rw[hP];exact ai.out _ _ _);have cv:dQ ls<=8388608:=ai.out _ _ _;have hr:=HR.out;unfold Gl at hr;rw[hC,hS]at hr;have ct:=hid hC;have cq:=hid hS;have bt:∀x∈C,x<=rec:=fun x hx=>by have h:=a6.out.1 x (show x∈Do ls by rw[hC];exact hx);rw[aa.out];exact h
    have bu:∀x∈S,x<=8388608:=fun x hx=>a6.out.2 x (show x∈Ed ls by rw[hS];exact hx);have bm:C.length<=20000:=(by rw[ar.out];omega);have bC:S.length<=20000:=(by rw[a9.out];omega);have bp:C.sum<=1000000000000000:=AN (LR C rec bt) (AN (Hv bm a4) ip);have ci:S.sum<=500000000000000:=AN (LR S 8388608 bu) (AN (GA _ bC) ip);rw[<-aa.out]at hr;obtain⟨P,au⟩:=ii (dP ls);obtain⟨Q,aq⟩:=ii (dQ ls);obtain⟨E,hE2⟩:=ii (dE ls);rw[<-au]at D3 cm hr;rw[<-aq]at D4 cv hr;have cj:=hid au.symm;have cd:=hid aq.symm;rw[<-hE2]at D5 hr;generalize dPA ls=pa at *;generalize dPE ls=pe at *;generalize AJ 8388608 ls pa pe=qa at *;generalize AM 8388608 ls pa pe=qe at *;obtain⟨k2,J⟩:=ii C.length;obtain⟨k3,Y⟩:=ii S.length;have i:=HI.out.oc;have M:=HI.out.os;rw[<-J]at i bm;rw[<-Y]at M bC;obtain⟨Ac,cc,rfl⟩:=bZ i;obtain⟨As,cs,rfl⟩:=bZ M;have bi:=hid J;have bd:=hid Y;have N:=hid hr;have bc:=hid (fun wx (h:wx.ownsRow w 3 1 (.slice Ac k2 cc) k2 (cZ .i64 C))=>We wx Ac k2 cc C J.symm nj (own_ints h J.symm));have an:=hid (fun wx (h:wx.ownsRow w 3 1 (.slice Ac k2 cc) k2 (cZ .i64 C))=>Lq wx Ac k2 cc C J.symm nj bp (own_ints h J.symm));have am:=hid (fun wx (h:wx.ownsRow w 3 1 (.slice As k3 cs) k3 (cZ .i64 S))=>Lq wx As k3 cs S Y.symm nj nj (own_ints h Y.symm));obtain⟨CS,al⟩:=ii C.sum;obtain⟨SS,av⟩:=ii S.sum;rw[<-al]at an bp;rw[<-av]at am ci;have be:=hid al;have bS:=hid av;clear hP bb bj hC hS hr HR ac bt bu au aq hE2 J Y al av i M c5 a6 aa ai DI a3 az ba ar a9;go_wp2_with fail;refine(D3.out _ HI.out.cur).mono ?_;rintro e w5 ⟨rfl,aj,ab⟩;have z:=HI.out.call aj ab;have b2:=z.blk.ia 2;have f2:=z.blk.frozen 2;have aw:Hid (DrI w (w5.setCell ⟨gb,2,none⟩ (.int .i64 (P:Nat))) gb t (.int .i64 (P:Nat) :: x3 :: rest) g ls B d pa pe C S (.slice Ac C.length cc) (.slice As S.length cs)):=(by rw[<-bi.out,<-bd.out];exact z.third);clear aj ab z D3 HI;go_wp2_with fail;refine(D4.out _ aw.out.cur).mono ?_;rintro e w6 ⟨rfl,bl,bg⟩;have L:=aw.out.call bl bg;have b3:=L.blk.ia 3;have f3:=L.blk.frozen 3;have af:=hid (L.fourth (u:= .int .i64 (Q:Nat)));clear bl bg L D4 aw b2 f2;go_wp2_with fail;refine(D5.out _ af.out.cur).mono ?_;rintro e w7 ⟨rfl,bN,Z⟩;have G:=af.out.call bN ⟨Z.os,Z.tape,Z.output,Z.size,fun x hx=>Z.block x hx.2⟩;have j:=hid G;clear bN Z D5 af b3 f3;by_cases hE:E=0
    ·subst hE;have hr:=N.out;rw[Aa (show ¬((0:Int)≠0) from fun h=>h rfl)]at hr;have c0:=G.blk.ia 0;have c1:=G.blk.ia 1;have c2:=G.blk.ia 2;have c3:=G.blk.ia 3;have i:=G.oc;have M:=G.os;rw[<-bi.out]at i c0;rw[<-bd.out]at M c1;have E0:Hid (∀q,Calls prog 115 #[.slice Ac k2 cc,ij] (w7.drewN q) fun e w'=>e= .returned (.bool (decide (0∈C)))/\w'=w7.drewN q):=fun q=>bc.out _ (eZ i (fun y _=>rfl));have E1:Hid (∀q,Calls prog 64 #[.slice Ac k2 cc] (w7.drewN q) fun e w'=>e= .returned (.int .i64 (CS:Nat))/\w'=w7.drewN q):=fun q=>an.out _ (eZ i (fun y _=>rfl));have E2:Hid (∀q,Calls prog 64 #[.slice As k3 cs] (w7.drewN q) fun e w'=>e= .returned (.int .i64 (SS:Nat))/\w'=w7.drewN q):=fun q=>am.out _ (eZ M (fun y _=>rfl));clear G i M bc an am;by_cases hz:0∈C
     ·have HF:Hid (R=2):=(by rw[Ab (.inl hz)]at hr;exact hr);rw[AK hz]at E0;clear hz hr N;go_wp2_with fail;go_quiet (first|(go_at_call 115;(with_reducible exact CT (E0.out _)))|(go_at_call 64;first|(with_reducible exact CT (E1.out _))|(with_reducible exact CT (E2.out _))));go_wp2_with fail;go_ret;rw[HF.out];exact⟨rfl,j.out.kept.drewN _,fun h=>absurd h ip⟩
     ·rw[AU hz]at E0;by_cases h2:CS=rec
      ·have gn:((CS:Int) != (rec:Int))=false:=(by rw[h2];simp);have s1:IntKind.i64.wrap ((SS:Int)+(P:Int))=((SS+P:Nat):Int):=pi;have s2:IntKind.i64.wrap (((SS+P:Nat):Int)+(Q:Int))=((SS+P+Q:Nat):Int):=pi;have b0:IntKind.i64.wrap ((SS:Int)+(P:Int)+(Q:Int))=((SS+P+Q:Nat):Int):=pi;by_cases h3:SS+P+Q=U
       ·have g3:(((SS+P+Q:Nat):Int) != (U:Int))=false:=by rw[h3];simp
        have HF:Hid (R=0):=by
         rw[Aa (fun h=>by
          rcases h with h|h|h
          ·exact hz h
          ·exact h ny
          ·exact h nx)]at hr
         exact hr
        obtain⟨TT,ae⟩:=ii (SS+P+Q);rw[<-ae]at s2 b0 g3;clear hz h2 h3 ae hr N;go_wp2_with fail;go_quiet (first|(go_at_call 115;(with_reducible exact CT (E0.out _)))|(go_at_call 64;first|(with_reducible exact CT (E1.out _))|(with_reducible exact CT (E2.out _))));go_wp2_with fail;go_ret;rw[HF.out,cj.out,cd.out,ct.out,cq.out];exact⟨rfl,j.out.kept.drewN _,fun _=>⟨_,_,j.out.blk.drewN _,eZ j.out.oc (fun y _=>rfl),eZ j.out.os (fun y _=>rfl),j.out.ap⟩⟩
       ·have g3:(((SS+P+Q:Nat):Int) != (U:Int))=true:=qg;have HF:Hid (R=2):=ow;obtain⟨TT,ae⟩:=ii (SS+P+Q);rw[<-ae]at s2 b0 g3;clear hz h2 h3 ae hr N;go_wp2_with fail;go_quiet (first|(go_at_call 115;(with_reducible exact CT (E0.out _)))|(go_at_call 64;first|(with_reducible exact CT (E1.out _))|(with_reducible exact CT (E2.out _))));go_wp2_with fail;go_ret;rw[HF.out];exact⟨rfl,j.out.kept.drewN _,fun h=>absurd h ip⟩
      ·have gn:((CS:Int) != (rec:Int))=true:=qg;have HF:Hid (R=2):=ou;clear hz h2 hr N;go_wp2_with fail;go_quiet (first|(go_at_call 115;(with_reducible exact CT (E0.out _)))|(go_at_call 64;first|(with_reducible exact CT (E1.out _))|(with_reducible exact CT (E2.out _))));go_wp2_with fail;go_ret;rw[HF.out];exact⟨rfl,j.out.kept.drewN _,fun h=>absurd h ip⟩
    ·have gE:(E != 0)=true:=(by simpa using hE);have HF:Hid (R=E):=(by have h:=N.out;rw[Ab hE]at h;exact h);have cr:=hid hE;clear hE N G;go_wp2_with fail;go_ret;rw[HF.out];exact⟨rfl,j.out.kept,fun h=>absurd h cr.out⟩
   ·have gk:=ig ((k:Int)<nb);have cy:=ig (k<nb);clear bn;obtain⟨w4,rfl⟩:=ii wr;have hP:dP ls=Bd 8388608 ls at_ er:=(by unfold dP;rw[ac.out]);have bb:dPA ls=AJ 8388608 ls at_ er:=(by unfold dPA;rw[ac.out]);have bj:dPE ls=AM 8388608 ls at_ er:=(by unfold dPE;rw[ac.out]);have hC:Do ls=C:=(by unfold Do;rw[ac.out]);have hS:Ed ls=S:=(by unfold Ed;rw[ac.out]);have D3:=hid (fun wx hx=>DI.out wx g B d at_ er 8388608 nj hx);rw[<-hP,<-bb,<-bj]at D3;have D4:=hid (fun wx hx=>DI.out wx g B d (dPA ls) (dPE ls) 8388608 nj hx);rw[show Bd 8388608 ls (dPA ls) (dPE ls)=dQ ls from rfl]at D4;have D5:=hid (fun wx hx=>a3.out wx g B d (AJ 8388608 ls (dPA ls) (dPE ls)) (AM 8388608 ls (dPA ls) (dPE ls)) hx);rw[show GL ls (AJ 8388608 ls (dPA ls) (dPE ls)) (AM 8388608 ls (dPA ls) (dPE ls))=dE ls from rfl]at D5;have cm:dP ls<=8388608:=(by rw[hP];exact ai.out _ _ _);have cv:dQ ls<=8388608:=ai.out _ _ _;have hr:=HR.out;unfold Gl at hr;rw[hC,hS]at hr;have ct:=hid hC;have cq:=hid hS;have bt:∀x∈C,x<=rec:=fun x hx=>by have h:=a6.out.1 x (show x∈Do ls by rw[hC];exact hx);rw[aa.out];exact h
    have bu:∀x∈S,x<=8388608:=fun x hx=>a6.out.2 x (show x∈Ed ls by rw[hS];exact hx);have bm:C.length<=20000:=(by rw[ar.out];omega);have bC:S.length<=20000:=(by rw[a9.out];omega);have bp:C.sum<=1000000000000000:=AN (LR C rec bt) (AN (Hv bm a4) ip);have ci:S.sum<=500000000000000:=AN (LR S 8388608 bu) (AN (GA _ bC) ip);rw[<-aa.out]at hr;obtain⟨P,au⟩:=ii (dP ls);obtain⟨Q,aq⟩:=ii (dQ ls);obtain⟨E,hE2⟩:=ii (dE ls);rw[<-au]at D3 cm hr;rw[<-aq]at D4 cv hr;have cj:=hid au.symm;have cd:=hid aq.symm;rw[<-hE2]at D5 hr;generalize dPA ls=pa at *;generalize dPE ls=pe at *;generalize AJ 8388608 ls pa pe=qa at *;generalize AM 8388608 ls pa pe=qe at *;obtain⟨k2,J⟩:=ii C.length;obtain⟨k3,Y⟩:=ii S.length;have i:=HI.out.oc;have M:=HI.out.os;rw[<-J]at i bm;rw[<-Y]at M bC;obtain⟨Ac,cc,rfl⟩:=bZ i;obtain⟨As,cs,rfl⟩:=bZ M;have bi:=hid J;have bd:=hid Y;have N:=hid hr;have bc:=hid (fun wx (h:wx.ownsRow w 3 1 (.slice Ac k2 cc) k2 (cZ .i64 C))=>We wx Ac k2 cc C J.symm nj (own_ints h J.symm));have an:=hid (fun wx (h:wx.ownsRow w 3 1 (.slice Ac k2 cc) k2 (cZ .i64 C))=>Lq wx Ac k2 cc C J.symm nj bp (own_ints h J.symm));have am:=hid (fun wx (h:wx.ownsRow w 3 1 (.slice As k3 cs) k3 (cZ .i64 S))=>Lq wx As k3 cs S Y.symm nj nj (own_ints h Y.symm));obtain⟨CS,al⟩:=ii C.sum;obtain⟨SS,av⟩:=ii S.sum;rw[<-al]at an bp;rw[<-av]at am ci;have be:=hid al;have bS:=hid av;clear hP bb bj hC hS hr HR ac bt bu au aq hE2 J Y al av i M c5 a6 aa ai DI a3 az ba ar a9;go_wp2_with fail;refine(D3.out _ HI.out.cur).mono ?_;rintro e w5 ⟨rfl,aj,ab⟩;have z:=HI.out.call aj ab;have b2:=z.blk.ia 2;have f2:=z.blk.frozen 2;have aw:Hid (DrI w (w5.setCell ⟨gb,2,none⟩ (.int .i64 (P:Nat))) gb t (.int .i64 (P:Nat) :: x3 :: rest) g ls B d pa pe C S (.slice Ac C.length cc) (.slice As S.length cs)):=(by rw[<-bi.out,<-bd.out];exact z.third);clear aj ab z D3 HI;go_wp2_with fail;refine(D4.out _ aw.out.cur).mono ?_;rintro e w6 ⟨rfl,bl,bg⟩;have L:=aw.out.call bl bg;have b3:=L.blk.ia 3;have f3:=L.blk.frozen 3;have af:=hid (L.fourth (u:= .int .i64 (Q:Nat)));clear bl bg L D4 aw b2 f2;go_wp2_with fail;refine(D5.out _ af.out.cur).mono ?_;rintro e w7 ⟨rfl,bN,Z⟩;have G:=af.out.call bN ⟨Z.os,Z.tape,Z.output,Z.size,fun x hx=>Z.block x hx.2⟩;have j:=hid G;clear bN Z D5 af b3 f3;by_cases hE:E=0
    ·subst hE;have hr:=N.out;rw[Aa (show ¬((0:Int)≠0) from fun h=>h rfl)]at hr;have c0:=G.blk.ia 0;have c1:=G.blk.ia 1;have c2:=G.blk.ia 2;have c3:=G.blk.ia 3;have i:=G.oc;have M:=G.os;rw[<-bi.out]at i c0;rw[<-bd.out]at M c1;have E0:Hid (∀q,Calls prog 115 #[.slice Ac k2 cc,ij] (w7.drewN q) fun e w'=>e= .returned (.bool (decide (0∈C)))/\w'=w7.drewN q):=fun q=>bc.out _ (eZ i (fun y _=>rfl));have E1:Hid (∀q,Calls prog 64 #[.slice Ac k2 cc] (w7.drewN q) fun e w'=>e= .returned (.int .i64 (CS:Nat))/\w'=w7.drewN q):=fun q=>an.out _ (eZ i (fun y _=>rfl));have E2:Hid (∀q,Calls prog 64 #[.slice As k3 cs] (w7.drewN q) fun e w'=>e= .returned (.int .i64 (SS:Nat))/\w'=w7.drewN q):=fun q=>am.out _ (eZ M (fun y _=>rfl));clear G i M bc an am;by_cases hz:0∈C
     ·have HF:Hid (R=2):=(by rw[Ab (.inl hz)]at hr;exact hr);rw[AK hz]at E0;clear hz hr N;go_wp2_with fail;go_quiet (first|(go_at_call 115;(with_reducible exact CT (E0.out _)))|(go_at_call 64;first|(with_reducible exact CT (E1.out _))|(with_reducible exact CT (E2.out _))));go_wp2_with fail;go_ret;rw[HF.out];exact⟨rfl,j.out.kept.drewN _,fun h=>absurd h ip⟩
     ·rw[AU hz]at E0;by_cases h2:CS=rec
      ·have gn:((CS:Int) != (rec:Int))=false:=(by rw[h2];simp);have s1:IntKind.i64.wrap ((SS:Int)+(P:Int))=((SS+P:Nat):Int):=pi;have s2:IntKind.i64.wrap (((SS+P:Nat):Int)+(Q:Int))=((SS+P+Q:Nat):Int):=pi;have b0:IntKind.i64.wrap ((SS:Int)+(P:Int)+(Q:Int))=((SS+P+Q:Nat):Int):=pi;by_cases h3:SS+P+Q=U
       ·have g3:(((SS+P+Q:Nat):Int) != (U:Int))=false:=by rw[h3];simp
        have HF:Hid (R=0):=by
         rw[Aa (fun h=>by
          rcases h with h|h|h
          ·exact hz h
          ·exact h ny
          ·exact h nx)]at hr
         exact hr
        obtain⟨TT,ae⟩:=ii (SS+P+Q);rw[<-ae]at s2 b0 g3;clear hz h2 h3 ae hr N;go_wp2_with fail;go_quiet (first|(go_at_call 115;(with_reducible exact CT (E0.out _)))|(go_at_call 64;first|(with_reducible exact CT (E1.out _))|(with_reducible exact CT (E2.out _))));go_wp2_with fail;go_ret;rw[HF.out,cj.out,cd.out,ct.out,cq.out];exact⟨rfl,j.out.kept.drewN _,fun _=>⟨_,_,j.out.blk.drewN _,eZ j.out.oc (fun y _=>rfl),eZ j.out.os (fun y _=>rfl),j.out.ap⟩⟩
       ·have g3:(((SS+P+Q:Nat):Int) != (U:Int))=true:=qg;have HF:Hid (R=2):=ow;obtain⟨TT,ae⟩:=ii (SS+P+Q);rw[<-ae]at s2 b0 g3;clear hz h2 h3 ae hr N;go_wp2_with fail;go_quiet (first|(go_at_call 115;(with_reducible exact CT (E0.out _)))|(go_at_call 64;first|(with_reducible exact CT (E1.out _))|(with_reducible exact CT (E2.out _))));go_wp2_with fail;go_ret;rw[HF.out];exact⟨rfl,j.out.kept.drewN _,fun h=>absurd h ip⟩
      ·have gn:((CS:Int) != (rec:Int))=true:=qg;have HF:Hid (R=2):=ou;clear hz h2 hr N;go_wp2_with fail;go_quiet (first|(go_at_call 115;(with_reducible exact CT (E0.out _)))|(go_at_call 64;first|(with_reducible exact CT (E1.out _))|(with_reducible exact CT (E2.out _))));go_wp2_with fail;go_ret;rw[HF.out];exact⟨rfl,j.out.kept.drewN _,fun h=>absurd h ip⟩
    ·have gE:(E != 0)=true:=(by simpa using hE);have HF:Hid (R=E):=(by have h:=N.out;rw[Ab hE]at h;exact h);have cr:=hid hE;clear hE N G;go_wp2_with fail;go_ret;rw[HF.out];exact⟨rfl,j.out.kept,fun h=>absurd h cr.out⟩
end Body
namespace Body
open Go.RowKit Mem Own Canon Recs Idx
open Go.Proofs.YtfgdoknipbpfhaaGreatDoor.One (FrsAt FrsAt.step FrsAt.grown FrsAt.snoc Gb)
open NumPut
open Ef (Cj N6)
structure MSt (base db:Nat) (vG pv vS:Value) (ps:List Part) (W:World):Prop where
 dir:Blk W db 87 #[vG,vS,ij,ij]
 pr:W.ownsRow base 28 1 pv ps.length (ps.map Part.v)
 fr:FrsAt W base ps
 sr:W.ownsRow base 3 1 vS ps.length (cZ .i64 (ps.map fun p=>p.ls.length))
 gb:base<=db
section
variable {base db:Nat} {vG pv vS pv' vS':Value} {ps:List Part} {W w' w8 w9:World} {p:Part} {o1 o2:Obj}
theorem MSt.step(h:MSt base db vG pv vS ps W)(b:Below W W w'):MSt base db vG pv vS ps w':=
 ⟨h.dir.step b,eZ h.pr fun y hy=>b.block y (Aj h.pr y hy).2,h.fr.step b,eZ h.sr fun y hy=>b.block y (Aj h.sr y hy).2,h.gb⟩
theorem MSt.mid(h:MSt base db vG pv vS ps W)(g8:(W.alloc o1).grownBy w8 pv.ownBlock):Blk w8 db 87 #[vG,vS,ij,ij]/\w8.ownsRow base 3 1 vS ps.length (cZ .i64 (ps.map fun p=>p.ls.length)):=
 ⟨(h.dir.alloc o1).grown g8 (AZ (fZ h.pr h.dir ip)),Gb (h.sr.alloc o1) (h.pr.alloc o1) ip g8⟩
theorem MSt.round(h:MSt base db vG pv vS ps W)(hp:W.ownsRow base 5 1 p.v p.ls.length (cZ .u8 p.ls))(g8:(W.alloc o1).grownBy w8 pv.ownBlock)(o8:w8.ownsRow base 28 1 pv' (ps.length+1) (ps.map Part.v++ [p.v]))
 (g9:(w8.alloc o2).grownBy w9 vS.ownBlock)(o9:w9.ownsRow base 3 1 vS' (ps.length+1) (cZ .i64 (ps.map fun p=>p.ls.length)++ [.int .i64 (p.ls.length:Nat)])):
 MSt base db vG pv' vS' (ps++ [p]) (w9.setCell ⟨db,1,none⟩ vS')/\Below base W (w9.setCell ⟨db,1,none⟩ vS'):=by
 obtain⟨d8,s8⟩:=h.mid g8;have d9:Blk w9 db 87 #[vG,vS,ij,ij]:=(d8.alloc o2).grown g9 (AZ (fZ s8 d8 ip));have E:=Gb (hp.alloc o1) (h.pr.alloc o1) ip g8;have i:=Gb (E.alloc o2) (s8.alloc o2) ip g9;have f8:FrsAt w8 base ps:=(h.fr.step (aZ (Ae _ _))).grown (h.pr.alloc o1) g8;have f9:FrsAt w9 base ps:=fun q hq=>Gb ((f8 q hq).alloc o2) (s8.alloc o2) ip g9;have z:=Gb (o8.alloc o2) (s8.alloc o2) ip g9;have hB:base<=W.heap.size:=by have:=h.dir.lt;have:=h.gb;omega
 have far:∀ {s n:Nat} {e:TypeId} {v:Value} {xs:List Value},w9.ownsRow base e s v n xs->e≠87->(w9.setCell ⟨db,1,none⟩ vS').ownsRow base e s v n xs:=fun ho hne=>eZ ho fun y hy=>AY _ _ _ y fun e=>fZ ho d9 hne qs;refine⟨⟨by simpa using d9.set 1 vS',?_,fun q hq=> ?_,?_,h.gb⟩,?_⟩
 ·rw[Ag,EW];exact far z ip
 ·rcases BQ.1 hq with hq|hq
  ·exact far (f9 q hq) ip
  ·rw[Ex.1 hq];exact far i ip
 ·have e1:cZ .i64 ((ps++ [p]).map fun p=>p.ls.length)=cZ .i64 (ps.map fun p=>p.ls.length)++ [.int .i64 (p.ls.length:Nat)]:=by simp[cZ]
  rw[Ag,e1];exact far o9 ip
 ·have j:base<=w8.heap.size:=AN hB (AN qT g8.size);exact((((Ae base W).alloc hB _).grown g8 rg fun y hy=>(Aj h.pr y hy).1).alloc j _ |>.grown g9 rg fun y hy=>(Aj s8 y hy).1).setCell (p:=⟨db,1,none⟩) h.gb _
theorem MSt.stores(h:MSt base db vG pv vS ps W)(x y:Value):
 Blk ((W.setCell ⟨db,2,none⟩ x).setCell ⟨db,3,none⟩ y) db 87 #[vG,vS,x,y]/\Below base W ((W.setCell ⟨db,2,none⟩ x).setCell ⟨db,3,none⟩ y)/\
  ∀ {b s n:Nat} {e:TypeId} {v:Value} {xs:List Value},W.ownsRow b e s v n xs->e≠87->((W.setCell ⟨db,2,none⟩ x).setCell ⟨db,3,none⟩ y).ownsRow b e s v n xs:=by
 refine⟨by simpa using (h.dir.set 2 x).set 3 y,((Ae base W).setCell (p:=⟨db,2,none⟩) h.gb _).setCell (p:=⟨db,3,none⟩) h.gb _,fun ho hne=> ?_⟩;refine eZ ho fun z hz=> ?_;have hd:z≠db:=fun e=>fZ ho h.dir hne (by rw[hz,e]);exact(AY _ _ _ z hd).trans (AY _ _ _ z hd)
end
theorem V7:∀ (l:List Str) (i:Str),(∀s∈l,i<s)->(∀s∈l,1<=s.length/\s.length<=25)->Fa l->Dd i l=true
 | [],_,_,_,_=>rfl
 |s :: t,i,h,hs,hr=>by obtain⟨h1,h2⟩:=FM.1 hr;rw[Dd,Cf];refine⟨?_,V7 t s h1 (fun x hx=>hs x (Ce _ hx)) h2⟩;unfold Eo;rw[Cf,Cf,decide_eq_true_iff,decide_eq_true_iff,decide_eq_true_iff];exact⟨(hs s CG).1,(hs s CG).2,h s CG⟩
theorem VY{l:List Rec}{s:Str}(h:s∈AQ (l.map kZ)):1<=s.length/\s.length<=25:=by obtain⟨t,ht,hs⟩:=(Ty s _).1 h;obtain⟨r,_,rfl⟩:=Co.1 ht;exact U4 hs
theorem Lm{l:List Rec}(h:(AQ (l.map kZ)).length<=1048576):Gn (AQ (l.map kZ))=true:=by
 unfold Gn;rw[Cf];refine⟨V7 _ _ (fun s hs=> ?_) (fun s hs=>VY hs) (TU _),AK h⟩;have:=(VY hs).1;cases s with
 |nil=>simp at this
 |cons x t=>exact List.nil_lt_cons x t
theorem kE(ts:List (List Str))(u:Str):Cj ts.length none (BK ts u)=true:=by
 refine N6 _ _ none (fun x hx=> ?_) ?_ (fun y hy=>by cases hy)
 ·unfold BK at hx;exact FN.1 (List.mem_filter.1 hx).1
 ·unfold BK;exact List.Pairwise.filter _ List.pairwise_lt_range
theorem Lu(l:List Rec):Ho l.length ((AQ (l.map kZ)).map (BK (l.map kZ)))=true/\∀x∈(AQ (l.map kZ)).map (BK (l.map kZ)),x≠ []/\x.length<=l.length:=by
 refine⟨Gh.2 fun x hx=> ?_,fun x hx=> ?_⟩
 ·obtain⟨u,_,rfl⟩:=Co.1 hx;have:=kE (l.map kZ) u;rw[Bc]at this;exact this
 ·obtain⟨u,hu,rfl⟩:=Co.1 hx;have h2:=Mw (l.map kZ) u;rw[Bc]at h2;exact⟨(Od _ u).1 hu,h2⟩
theorem Tm(s:Str):∀x∈De s,x<=255:=fun x h=>by
 unfold De Hn at h;rcases BQ.1 h with h|h
 ·exact CZ _ x h
 ·obtain⟨c,_,rfl⟩:=Co.1 h;have:=c.toNat_lt;omega
theorem SW:∀ (t:List Str) (i:Str),∀x∈El i t,x<=255
 | [],_,x,h=>by simp[El]at h
 |s :: t,i,x,h=>by
  rw[El]at h;simp only[List.mem_append]at h;rcases h with (h|h)|h
  ·exact CZ _ x h
  ·exact Tm _ x h
  ·exact SW t s x h
theorem pD(l:List Str):∀x∈tZ l,x<=255:=fun x h=>by
 cases l with
 |nil=>simp[tZ]at h
 |cons s t=>
  rw[tZ]at h;rcases BQ.1 h with h|h
  ·exact Tm _ x h
  ·exact SW t s x h
theorem Ye(size:Nat)(l:List Str):∀x∈Dh size l,x<=255:=fun x h=>by
 unfold Dh at h;simp only[List.mem_append,List.mem_flatMap]at h;rcases h with (h|⟨c,_,h⟩)|⟨c,_,h⟩
 ·exact CZ _ x h
 ·exact CZ _ x h
 ·exact pD _ x h
theorem oP(bound:Nat)(l:List Nat):∀x∈Ef.efO bound l,x<=255:=fun x h=>by
 unfold Ef.efO at h;split at h
 ·exact CZ _ x h
 ·rcases BQ.1 h with h|h
  ·exact CZ _ x h
  ·obtain⟨k,_,rfl⟩:=Co.1 h;exact Huff.KV _ k
theorem TV(o:Opts.Opt)(l:List Rec):∀x∈ixR o l,x<=255:=fun x h=>by
 unfold ixR ixO Dl at h;rcases BQ.1 h with h|h
 ·exact Ye _ _ x h
 ·obtain⟨c,_,h⟩:=List.mem_flatMap.1 h;exact oP _ _ x h
theorem Ms{o:Opts.Opt}(h:Opts.CI o=0):16<=o.block/\o.block<=32768/\1<=o.bucket/\o.bucket<=64:=by
 unfold Opts.CI Opts.GI at h;split at h
 ·rename_i hc;exact⟨hc.1.1,hc.1.2,hc.2.1.1,hc.2.1.2⟩
 ·cases h
end Body
namespace Body
open Recs Idx Opts
open NumPut (gZ sZ)
open Ef (efO Cj FH Hh Hs efW)
open Huff (bytesOf_length)
theorem SF(hb:bound<=20000)(hm:Cj bound none l=true)(h0:l≠ [])(hn:l.length<=bound):(efO bound l).length<=10+(3*bound+7) / 8:=by
 have h1:1<=l.length:=FP.2 h0;have hq:1<=bound / l.length:=(Nat.one_le_div_iff nj).2 hn;have hW:l.length*efW bound l.length<=bound:=jz
 have i:=Hh (efW bound l.length) l;have z:=Hs bound l none hm;have hp:=(NI bound l none hm).1;have j:=NL (l.map (·/ 2 ^ efW bound l.length)) 0 bound (CA _) (fun x hx=>by obtain⟨y,hy,rfl⟩:=Co.1 hx;exact⟨CA _,AN (Hw _ _) (by have:=z y hy;omega)⟩) (List.Pairwise.map _ (fun a b h=>Nat.div_le_div_right h) hp);rw[Bc]at j;have E:=sZ (x:=l.length) nj;unfold efO;rw[Aa h0,Ag,bytesOf_length];unfold FH;rw[Ag,i];omega
theorem ON{bound C:Nat}:∀ {ls:List (List Nat)},(∀x∈ls,(efO bound x).length<=C)->(Dl bound ls).length<=C*ls.length
 | [],_=>by simp[Dl]
 |x :: t,h=>by have ih:=ON (ls:=t) (fun y hy=>h y (Ce _ hy));have hx:=h x CG;unfold Dl at ih ⊢;rw[Cu,Ag,AD,Nat.mul_add];omega
theorem Nq(ts:List (List Str)):(AQ ts).length<=(ts.map List.length).sum:=by
 have h:∀ (ts:List (List Str)) (i:List Str),(ts.foldl xZ i).length<=i.length+(ts.map List.length).sum:=fun ts=>by
  induction ts with
  |nil=>intro i;simp
  |cons t ts ih=>intro i;have h1:=ih (xZ i t);have h2:=NT t i;rw[List.foldl_cons,Cp,GU];omega
 have:=h ts [];simpa[AQ]using this
theorem K8:∀l:List Rec,((((l.map kZ).map List.length).sum:Nat):Int)<=Bm l
 | []=>by simp[J3]
 |r :: l=>by
  have ih:=K8 l;have e:Bm (r :: l)=weigh r+Bm l:=qX
  have h:=Qa r.text.data.toList r.source.data.toList;have h1:r.text.data.toList.length=r.text.size:=Array.length_toList;have h2:r.source.data.toList.length=r.source.size:=Array.length_toList;rw[h1,h2]at h;rw[Cp,Cp,GU,e];have h3:(kZ r).length<=r.text.size+r.source.size:=h;unfold weigh;omega
theorem XQ{o:Opt}{l:List Rec}{n:Nat}(hn:l.length=n)(h1:(n:Int)<=30)(h2:Bm l<=1500):(AQ (l.map kZ)).length<=20000/\(CI o=0->(ixR o l).length<=99000):=by
 have hT:(AQ (l.map kZ)).length<=1500:=by have a:=Nq (l.map kZ);have b:=K8 l;omega
 refine⟨nj,fun ho=> ?_⟩;obtain⟨_,_,y,j⟩:=Ms ho;have h:=Lu l;have i:=Lm (l:=l) nj;have hs:∀s∈AQ (l.map kZ),s.length<=25:=fun s hs=>(Jv i s hs).2;have a:=ME hs (size:=o.bucket.toNat) nj nj (nCh o.bucket.toNat (AQ (l.map kZ)).length);have b:=NN hs (size:=o.bucket.toNat) nj (nCh o.bucket.toNat (AQ (l.map kZ)).length);have c:=NE (size:=o.bucket.toNat) (n:=(AQ (l.map kZ)).length) nj;have d:=ON (bound:=l.length) (C:=22) (ls:=(AQ (l.map kZ)).map (BK (l.map kZ))) (fun x hx=>by have h3:=h.2 x hx;have h4:=SF (bound:=l.length) (l:=x) nj (Gh.1 h.1 x hx) h3.1 h3.2;omega);rw[Bc]at d;have e:Dh o.bucket.toNat (AQ (l.map kZ))=hdB o.bucket.toNat (AQ (l.map kZ)) (nCh o.bucket.toNat (AQ (l.map kZ)).length)++bdB o.bucket.toNat (AQ (l.map kZ)) (nCh o.bucket.toNat (AQ (l.map kZ)).length):=QA nj _;unfold ixR ixO;rw[Ag,e,Ag];omega
end Body
namespace Body
open Go.RowKit Mem Own Canon NumPut Crc
open Recs Idx
open Block (nZ)
open Go.Proofs.YtfgdoknipbpfhaaGreatDoor.One (FrsAt FrsAt.step)
structure JS (base:Nat) (O D:List Nat) (vo vd:Value) (W:World):Prop where
 oo:W.ownsRow base 5 1 vo O.length (cZ .u8 O)
 od:W.ownsRow base 5 1 vd D.length (cZ .u8 D)
 ap:Apt vo vd
section
variable {base:Nat} {O D X:List Nat} {vo vd v':Value} {W w':World}
theorem JS.step(h:JS base O D vo vd W)(b:Below W W w'):JS base O D vo vd w':=
 ⟨eZ h.oo fun y hy=>b.block y (Aj h.oo y hy).2,eZ h.od fun y hy=>b.block y (Aj h.od y hy).2,h.ap⟩
theorem JS.dirA(h:JS base O D vo vd W)(hB:base<=W.heap.size)(g:W.grownBy w' vd.ownBlock)(o:w'.ownsRow base 5 1 v' (D.length+X.length) (cZ .u8 D++cZ .u8 X))(t:v'.ownBlock=vd.ownBlock∨v'.ownBlock=some W.heap.size):
 JS base O (D++X) vo v' w'/\Below base W w':=by
 obtain⟨a,b⟩:=G8 h.oo h.ap.symm g t;refine⟨⟨a,?_,b.symm⟩,(Ae base W).grown g hB fun y hy=>(Aj h.od y hy).1⟩;rw[Ag,show cZ .u8 (D++X)=cZ .u8 D++cZ .u8 X by simp[cZ]];exact o
theorem JS.outA(h:JS base O D vo vd W)(hB:base<=W.heap.size)(g:W.grownBy w' vo.ownBlock)(o:w'.ownsRow base 5 1 v' (O.length+X.length) (cZ .u8 O++cZ .u8 X))(t:v'.ownBlock=vo.ownBlock∨v'.ownBlock=some W.heap.size):
 JS base (O++X) D v' vd w'/\Below base W w':=by
 obtain⟨a,b⟩:=G8 h.od h.ap g t;refine⟨⟨?_,a,b⟩,(Ae base W).grown g hB fun y hy=>(Aj h.oo y hy).1⟩;rw[Ag,show cZ .u8 (O++X)=cZ .u8 O++cZ .u8 X by simp[cZ]];exact o
end
structure JE (base:Nat) (vo vd u:Value) (m:Nat) (ys:List Value) (W:World):Prop where
 own:W.ownsRow base 5 1 u m ys
 ao:Apt vo u
 ad:Apt vd u
section
variable {base m:Nat} {O D X:List Nat} {vo vd v' u:Value} {ys:List Value} {W w':World}
theorem JE.new(h:JS base O D vo vd W)(hB:base<=W.heap.size)(o:w'.ownsRow W 5 1 u m ys):JE base vo vd u m ys w':=
 ⟨lZ o hB,(Jr o (Ak _) fun x hx=>(Aj h.oo x hx).2).symm,(Jr o (Ak _) fun x hx=>(Aj h.od x hx).2).symm⟩
theorem JE.step(h:JE base vo vd u m ys W)(b:Below W W w'):JE base vo vd u m ys w':=⟨eZ h.own fun y hy=>b.block y (Aj h.own y hy).2,h.ao,h.ad⟩
theorem JE.dirA(h:JE base vo vd u m ys W)(g:W.grownBy w' vd.ownBlock)(t:v'.ownBlock=vd.ownBlock∨v'.ownBlock=some W.heap.size):JE base vo v' u m ys w':=by obtain⟨a,b⟩:=G8 h.own h.ad g t;exact⟨a,h.ao,b⟩
theorem JE.outA(h:JE base vo vd u m ys W)(g:W.grownBy w' vo.ownBlock)(t:v'.ownBlock=vo.ownBlock∨v'.ownBlock=some W.heap.size):JE base v' vd u m ys w':=by obtain⟨a,b⟩:=G8 h.own h.ao g t;exact⟨a,b,h.ad⟩
end
theorem src_part{p:Part}(h:p.Ok w):Src w p.A p.ls.length p.c 1 (cZ .u8 p.ls):=by
 refine⟨rk,?_⟩;by_cases h0:0<p.ls.length
 ·obtain⟨b,z,hA,_,hc⟩:=h.row h0;refine .inr ⟨_,hA,fun j u hu=> ?_⟩;have hj:j<p.ls.length:=by refine KA fun hn=> ?_;have y:(cZ .u8 p.ls).length<=j:=(by simp[cZ];omega);rw[Fk y]at hu;cases hu
  have i:=hc j 0 hj nj;rw[CO,Bi]at i;rw[add_none,i,<-hu];have hg:=Huff.numL_get (k:= .u8) hj;rw[CO,Bi]at hg;rw[hg]
 ·cases hA:p.A with
  |none=>exact .inl ⟨rfl,(h.nil hA).1,(h.nil hA).2⟩
  |some a=>refine .inr ⟨a,rfl,fun j u hu=> ?_⟩;have h1:(cZ .u8 p.ls).length=0:=(by rw[show(cZ .u8 p.ls).length=p.ls.length by simp[cZ]];omega);rw[Fk (by rw[h1];exact CA _)]at hu;cases hu
theorem oL(w:World)(n g base cF cG cc cx:Nat)(AF AG AC AX:Option Addr)(ps:List Part)(G CB IX:List Nat)(hn:n<=1000000)(hg:g<=20000)(ea:ps.length=g)(dw:G.length=g)(fo:∀z∈G,z<=1000000)(e9:(ps.map Part.ls).flatten.length<=500000)(ht:CB.length<=900000)(hc:IX.length<=900000)(e5:∀x∈CB,x<=255)(e4:∀x∈IX,x<=255)
 (ho:w.ownsRow base 28 1 (.slice AF g cF) g (ps.map Part.v))(fj:FrsAt w base ps)(hG:Row w w AG g 1 (jZ .i64 G))(hC:Part.Ok (⟨AC,cc,CB⟩:Part) w)(hX:Part.Ok (⟨AX,cx,IX⟩:Part) w):
 Calls prog 27 #[.int .i64 (n:Nat), .slice AF g cF, .slice AG g cG, .slice AC CB.length cc, .slice AX IX.length cx] w fun e w'=>∃v,e= .returned v/\w'.ownsRow w 5 1 v (zY n G (ps.map Part.ls) CB IX).length (cZ .u8 (zY n G (ps.map Part.ls) CB IX))/\Below w w w':=by
 obtain⟨j0,N,M,L,Q⟩:=info_parts Eg;have D1:=hid (fun wx=>Kx wx n nj);have D2:=hid (fun wx=>Kx wx g nj);have l1:=sZ (x:=n) nj;have l2:=sZ (x:=g) nj;have u1:IntKind.u64.wrap (n:Int)=(n:Int):=pk
 have u2:IntKind.u64.wrap (g:Int)=(g:Int):=pk
 obtain⟨SZ,cE⟩:=ii ((ps.map Part.ls).map List.length);have fu:SZ.length=g:=by rw[cE,Bc,Bc];exact ea
 have eg:Hid (zY n G (ps.map Part.ls) CB IX=(ps.map Part.ls).flatten++(AW CB++(AW IX++(AW (Em n G SZ (AW CB).length (AW IX).length)++CR (AW (Em n G SZ (AW CB).length (AW IX).length)).length)))):=by show _=_;unfold zY;rw[cE]
 have f0:Hid (∀x y,Em n G SZ x y=gZ n++gZ g++Bf G SZ++(gZ x++gZ y)):=fun x y=>by unfold Em;rw[dw];simp only[List.append_assoc]
 have fq:=hid ea;have f3:=hid dw;have gB:=hid fu;have gC:=hid fo;have ef:=hid e9;have gv:=hid e5;have gz:=hid e4;have HO:=hid ho;have gg:=hid fj;have g2:Hid (Row w w AG g 1 (jZ .i64 G)):=hG;have HC:=hid hC;have HX:=hid hX;have fc:=hid cE;clear ea dw fu fo e9 e5 e4 ho fj hG hC hX cE;go_enter func27,ntmps27;go_wp2_with fail;refine(D1.out _).mono ?_;rintro e w1 ⟨v1,rfl,d8,eX⟩;have fw:Hid (JS w [] (gZ n) (.slice none 0 0) v1 w1):=⟨AE _ _ _ _,d8,fun _ h=>by cases h⟩;obtain⟨A1,c1,rfl⟩:=bZ d8;have HB:=hid eX;clear d8 eX D1;obtain⟨NA,ay⟩:=ii (gZ g);rw[<-ay]at D2 l2;have a3:=hid D2.out;have HJ:=hid fw.out;have gy:=hid ay;clear D2 fw ay;go_wp2_with fail;refine(a3.out _).mono ?_;rintro e wA ⟨vA,rfl,ag,ak⟩;obtain⟨AA,cA,rfl⟩:=bZ ag;have b9:Hid (Src wA AA NA.length cA 1 (cZ .u8 NA)):=Dy ag;have ae:=hid (HJ.out.step ak);have aj:Hid (Below w w wA):=uZ ak HB.out.size HB.out;have a0:=aj.out.size;clear ag ak a3 HJ HB;go_wp2_with(at_builtin;refine iZ rfl (.tmp 21) (.tmp 25) 28 rfl w 5 j0 _ 1 1 underlying28 N M L Q rfl ip _ _ _ nm ae.out.od _ _ _ _ nm b9.out (Ct _ _) rE nj a0 ?_;intro v2 w2 i a9 ac;have q:=ae.out.dirA a0 a9 i ac;obtain⟨A2,c2,rfl⟩:=bZ i;have az:=hid q.1;have aa:Hid (Below w w w2):=aj.out.trans q.2;clear q i a9 ac ae b9 aj);have al:Hid (gZ n++NA=gZ n++gZ g++Bf (G.take 0) (SZ.take 0)):=by show _=_;rw[gy.out];simp[Bf]
 rw[al.out]at az;have bi:Hid (JS w ((ps.take 0).map Part.ls).flatten (gZ n++gZ g++Bf (G.take 0) (SZ.take 0)) (.slice none 0 0) (.slice A2 ((gZ n).length+NA.length) c2) w2):=az.out;have ds:Hid ((gZ n++gZ g++Bf (G.take 0) (SZ.take 0)).length<=20+20*0):=by show _<=_;rw[<-al.out,Ag];omega
 clear az;go_wp2_with fail;go_loopw [11,12,13] (fun ov dv iv wr=>∃k:Nat,k<=g/\iv= .int .i64 k/\Hid (JS w ((ps.take k).map Part.ls).flatten (gZ n++gZ g++Bf (G.take k) (SZ.take k)) ov dv wr)/\Hid ((gZ n++gZ g++Bf (G.take k) (SZ.take k)).length<=20+20*k)/\Hid (Below w w wr)) (fun _ _ iv _=>g-(intOf iv).toNat)
 case atStart=>exact⟨0,nj,rfl,bi.out,ds.out,aa.out⟩
 case round=>
  obtain⟨k,hk,rfl,HJ,b8,HB⟩:=hrel;clear bi ds aa al;obtain⟨wi,rfl⟩:=ii wr;have hz:=HB.out.size;by_cases d3:k<g
  ·have gk:=ic ((k:Int)<g);have f9:=ic (k<g);have x0:(0:Int)<=(k:Int):=nj;have x1:(k:Int)<(g:Int):=nj;obtain⟨bg,og,m,rfl,ha,hm,cm⟩:=CH (g2.out.below HB.out) f3.out d3;have cj:k<ps.length:=(by rw[fq.out];exact d3);obtain⟨P,hP⟩:=ii (ps[k]);have cp:ps[k]? =some P:=(by rw[hP];exact Aw cj);have eB:wi.ownsRow base 28 1 (.slice AF g cF) g (ps.map Part.v):=eZ HO.out fun y hy=>HB.out.block y (Aj HO.out y hy).2;obtain⟨gf,gc,gF,_,_⟩:=eB.form nj;injection gF with e1 e2 e3;subst e1 e3;have gE:gf<w.heap.size:=(Aj HO.out gf rfl).2;have cf:w.cell? ⟨gf,k,none⟩=some P.v:=(Lz.own_cells HO.out d3).1.trans (by rw[BI,cp];rfl);have cu:Hid (∀wx,Below w w wx->wx.cell? ⟨gf,k,none⟩=some P.v):=fun wx h=>(h.cell (p:=⟨gf,k,none⟩) gE).trans cf;have eV:Hid (∀wx,Below w w wx->Part.Ok P wx):=fun wx h=>(nZ (gg.out P (by rw[hP];exact FC cj)) rfl).step h;have g0:=gC.out m (Be hm);have ec:SZ[k]? =some P.ls.length:=(by rw[fc.out,BI,BI,cp];rfl);have ff:P.ls.length<=500000:=AN (One.Ti (Co.2 ⟨P,by rw[hP];exact FC cj,rfl⟩)) ef.out;have dC:=Sn hm ec;have eh:((ps.take (k+1)).map Part.ls).flatten=((ps.take k).map Part.ls).flatten++P.ls:=by rw[BN,cp];simp
   have f8:((ps.take k).map Part.ls).flatten.length<=500000:=by
    refine AN ?_ ef.out
    conv=>rhs;rw[<-EV k ps]
    rw[EW,List.flatten_append,Ag];omega
   have a3:=hid (fun wx=>Kx wx m nj);have cw:=hid (fun wx=>Kx wx P.ls.length nj);have la:=sZ (x:=m) nj;have lb:=sZ (x:=P.ls.length) nj;have u3:IntKind.u64.wrap (m:Int)=(m:Int):=pk;obtain⟨pA,pc,ah⟩:=P;simp only[Part.v]at cu eh dC ff ec lb cw eV;have u4:IntKind.u64.wrap (ah.length:Int)=(ah.length:Int):=pk;have ct:Hid (gZ n++gZ g++Bf (G.take (k+1)) (SZ.take (k+1))=gZ n++gZ g++Bf (G.take k) (SZ.take k)++gZ m++gZ ah.length):=(by show _=_;rw[dC];simp only[List.append_assoc]);obtain⟨NB,f4⟩:=ii (gZ ah.length);rw[<-f4]at ct cw lb;obtain⟨NA,ay⟩:=ii (gZ m);rw[<-ay]at ct a3 la;have ga:Hid (((ps.take (k+1)).map Part.ls).flatten=((ps.take k).map Part.ls).flatten++ah):=eh;have gu:=b8.out;generalize gZ n++gZ g++Bf (G.take k) (SZ.take k)=DI at *;generalize ((ps.take k).map Part.ls).flatten=OU at *;obtain⟨Ao,co,rfl⟩:=bZ HJ.out.oo;obtain⟨Ad,cd,rfl⟩:=bZ HJ.out.od;clear hm cj hP cp eB cf g0 ec dC eh ay f4 b8;go_wp2_with fail;refine(a3.out _).mono ?_;rintro e wA ⟨vA,rfl,ag,ak⟩;obtain⟨AA,cA,rfl⟩:=bZ ag;have b9:Hid (Src wA AA NA.length cA 1 (cZ .u8 NA)):=Dy ag;have ae:=hid (HJ.out.step ak);have aj:Hid (Below w w wA):=uZ ak HB.out.size HB.out;have a0:=aj.out.size;clear ag ak a3 HJ HB;go_wp2_with(at_builtin;refine iZ rfl (.tmp 33) (.tmp 39) 28 rfl w 5 j0 _ 1 1 underlying28 N M L Q rfl ip _ _ _ nm ae.out.od _ _ _ _ nm b9.out (Ct _ _) rE nj a0 ?_;intro v2 w2 i a9 ac;have q2:=ae.out.dirA a0 a9 i ac;obtain⟨A2,c2,rfl⟩:=bZ i;have az:=hid q2.1;have aa:Hid (Below w w w2):=aj.out.trans q2.2;have hr:=aa.out.size;clear q2 i a9 ac;have hq:=cu.out w2 aa.out);clear ae b9 aj a0;have hB:(DI++NA).length<=30+20*k:=pd;refine(cw.out _).mono ?_;rintro e wB ⟨vB,rfl,ey,dy⟩;obtain⟨AB,cB,rfl⟩:=bZ ey;have gr:Hid (Src wB AB NB.length cB 1 (cZ .u8 NB)):=Dy ey;have fy:=hid (az.out.step dy);have d0:Hid (Below w w wB):=uZ dy aa.out.size aa.out;have eO:=d0.out.size;clear ey dy cw az aa;have hw:=cu.out wB d0.out;go_wp2_with(first|(at_builtin;refine iZ rfl (.tmp 41) (.tmp 48) 28 rfl w 5 j0 _ 1 1 underlying28 N M L Q rfl ip _ _ _ nm fy.out.od _ _ _ _ nm gr.out (Ct _ _) rE nj eO ?_;intro v3 w3 af e0 cL;have q3:=fy.out.dirA eO e0 af cL;obtain⟨A3,c3,rfl⟩:=bZ af;have bi:=hid q3.1;have ci:Hid (Below w w w3):=d0.out.trans q3.2;have eE:=ci.out.size;clear q3 af e0 cL;have hh:=cu.out w3 ci.out;have gw:Src w3 pA ah.length pc 1 (cZ .u8 ah):=src_part (eV.out w3 ci.out))|(at_builtin;refine iZ rfl (.tmp 50) (.tmp 54) 28 rfl w 5 j0 _ 1 1 underlying28 N M L Q rfl ip _ _ _ nm bi.out.oo _ _ _ _ nm gw (Ct _ _) rE nj eE ?_;intro v4 w4 ai fd dj;have q4:=bi.out.outA eE fd ai dj;obtain⟨A4,c4,rfl⟩:=bZ ai;have gn:=hid q4.1;have fl:Hid (Below w w w4):=ci.out.trans q4.2;have hD:=fl.out.size;clear q4 ai fd dj;skip));have dx:=gn.out;simp only[List.length_append]at dx;have bd:=hid dx;clear dx;have e7:Hid ((DI++NA++NB).length<=20+20*(k+1)):=(by show _<=_;rw[Ag];omega);go_roundw
   case measure=>exact jq
   case rel=>go_light;exact⟨k+1,nj,iw,by rw[ct.out,ga.out];exact bd.out,by rw[ct.out];exact e7.out,fl.out⟩
  ·obtain rfl:k=g:=by omega
   have gk:=ig ((k:Int)<k);have f9:=ig (k<k);have eG:G.take k=G:=Bw (by rw[f3.out];exact Ak _);have eS:SZ.take k=SZ:=Bw (by rw[gB.out];exact Ak _);have eP:ps.take k=ps:=Bw (by rw[fq.out];exact Ak _);rw[eG,eS]at HJ b8;rw[eP]at HJ;have gu:=b8.out;have f8:=ef.out;have bq:=hid (f0.out (AW CB).length (AW IX).length);have fB:=QK n G SZ (AW CB).length (AW IX).length;rw[Dx CB,Dx IX]at bq fB eg;generalize Em n G SZ (CB.length+4) (IX.length+4)=DD at *;generalize gZ n++gZ k++Bf G SZ=DI at *;generalize (ps.map Part.ls).flatten=OU at *;obtain⟨Ao,co,rfl⟩:=bZ HJ.out.oo;obtain⟨Ad,cd,rfl⟩:=bZ HJ.out.od;have gm:=hid (HC.out);have E1:=hid (Qi wi AC CB.length cc CB rfl nj HC.out.nil gv.out ((HC.out.row.below HB.out).mono hz));have E2:=hid (fun wx (h:Below w w wx)=>Qi wx AX IX.length cx IX rfl nj HX.out.nil gz.out ((HX.out.row.below h).mono h.size));unfold IA at E1 E2;obtain⟨cl,bC⟩:=ii (CB.length+4);obtain⟨il,bu⟩:=ii (IX.length+4);rw[<-bC]at E1 bq;rw[<-bu]at E2 bq;have g5:cl<=900004:=nj;have g7:il<=900004:=nj;have dm:=hid bC;have dn:=hid bu;clear eG eS eP b8 bC bu f0 fc gm;go_wp2_with fail;refine E1.out.mono ?_;rintro e w5 ⟨v5,rfl,cr,ed⟩;obtain⟨A5,c5,rfl⟩:=bZ cr;have ce:Hid (Below w w w5):=uZ ed hz HB.out;have bd:=hid (HJ.out.step ed);have gp:Hid (w5.ownsRow w 5 1 (.slice A5 cl c5) cl (cZ .u8 (AW CB))):=lZ cr hz;have eK:Hid (JE w (.slice Ao OU.length co) (.slice Ad DI.length cd) (.slice A5 cl c5) cl (cZ .u8 (AW CB)) w5):=JE.new HJ.out hz cr;have ez:=hid (E2.out w5 ce.out);have d4:=ce.out.size;clear cr ed E1 E2 HJ HB gp hz;go_wp2_with fail;refine ez.out.mono ?_;rintro e w6 ⟨v6,rfl,eo,cy⟩;obtain⟨A6,c6,rfl⟩:=bZ eo;have d9:Hid (Below w w w6):=uZ cy d4 ce.out;have fm:Hid (JE w (.slice Ao OU.length co) (.slice Ad DI.length cd) (.slice A6 il c6) il (cZ .u8 (AW IX)) w6):=JE.new bd.out d4 eo;have dc:=hid (eK.out.step cy);have fA:=hid (bd.out.step cy);have eA:=d9.out.size;have fa:=hid (fun wx=>Kx wx cl nj);have eH:=hid (fun wx=>Kx wx il nj);have la:=sZ (x:=cl) nj;have lb:=sZ (x:=il) nj;have u3:IntKind.u64.wrap (cl:Int)=(cl:Int):=pk;have u4:IntKind.u64.wrap (il:Int)=(il:Int):=pk;generalize gZ cl=N1 at *;generalize gZ il=N2 at *;clear eo cy ez bd ce eK d4;go_wp2_with fail;refine(fa.out _).mono ?_;rintro e w7 ⟨v7,rfl,em,b4⟩;obtain⟨A7,c7,rfl⟩:=bZ em;have bf:Hid (Src w7 A7 N1.length c7 1 (cZ .u8 N1)):=Dy em;have du:=hid (fA.out.step b4);have dh:=hid (dc.out.step b4);have dr:=hid (fm.out.step b4);have et:Hid (Below w w w7):=uZ b4 eA d9.out;have en:=et.out.size;clear em b4 fa fA dc fm d9 eA;go_wp2_with(at_builtin;refine iZ rfl (.tmp 60) (.tmp 64) 28 rfl w 5 j0 _ 1 1 underlying28 N M L Q rfl ip _ _ _ nm du.out.od _ _ _ _ nm bf.out (Ct _ _) rE nj en ?_;intro v8 w8 an cC aq;have cX:=hid (dh.out.dirA cC aq);have df:=hid (dr.out.dirA cC aq);have q8:=du.out.dirA en cC an aq;obtain⟨A8,c8,rfl⟩:=bZ an;have f1:=hid q8.1;have ew:Hid (Below w w w8):=et.out.trans q8.2;have fk:=ew.out.size;clear q8 an cC aq;skip);have g6:(DI++N1).length<=400030:=pd;clear bf du dh dr et en;refine(eH.out _).mono ?_;rintro e w9 ⟨v9,rfl,el,bt⟩;obtain⟨A9,c9,rfl⟩:=bZ el;have fi:Hid (Src w9 A9 N2.length c9 1 (cZ .u8 N2)):=Dy el;have ek:=hid (f1.out.step bt);have de:=hid (cX.out.step bt);have dg:=hid (df.out.step bt);have dF:Hid (Below w w w9):=uZ bt fk ew.out;have dz:=dF.out.size;clear el bt eH f1 cX df ew fk;go_wp2_with(at_builtin;refine iZ rfl (.tmp 66) (.tmp 70) 28 rfl w 5 j0 _ 1 1 underlying28 N M L Q rfl ip _ _ _ nm ek.out.od _ _ _ _ nm fi.out (Ct _ _) rE nj dz ?_;intro hu ep Z aw U;have b3:=hid (de.out.dirA aw U);have a5:=hid (dg.out.dirA aw U);have ej:=ek.out.dirA dz aw Z U;obtain⟨cv,cq,rfl⟩:=bZ Z;have ax:=hid ej.1;have bh:Hid (Below w w ep):=dF.out.trans ej.2;have bl:=bh.out.size;clear ej Z aw U;skip);clear fi ek de dg dF dz;have ex:DD=DI++N1++N2:=(by rw[bq.out,AI]);have a1:DD.length=DI.length+N1.length+N2.length:=(by rw[ex,Ag,Ag]);have od:=ax.out.od;rw[<-ex]at od;have cH:=od;rw[a1]at cH;simp only[List.length_append]at cH;have es:Part.Ok (⟨cv,cq,DD⟩:Part) ep:=(by have h:=nZ (A:=cv) (c:=cq) (ls:=DD) (n:=DI.length+N1.length+N2.length) cH a1;exact h);have cz:=hid (Qi ep cv (DI.length+N1.length+N2.length) cq DD a1 nj (fun e=>by have h:=es.nil e;exact⟨by rw[<-a1];exact h.1,h.2⟩) fB (by have h:=es.row;simp only[a1]at h;exact h));unfold IA at cz;obtain⟨dl,a6⟩:=ii (DD.length+4);rw[<-a6]at cz;have g4:dl<=400060:=nj;have dd:=hid a6;clear ex a1 od cH es a6 bq;refine cz.out.mono ?_;rintro e eu ⟨hl,rfl,bp,ab⟩;obtain⟨fe,fz,rfl⟩:=bZ bp;have cP:Hid (JE w (.slice Ao OU.length co) (.slice cv ((DI++N1).length+N2.length) cq) (.slice fe dl fz) dl (cZ .u8 (AW DD)) eu):=JE.new ax.out bl bp;have be:=hid (b3.out.step ab);have bj:=hid (a5.out.step ab);have b6:=hid (ax.out.step ab);have b1:Hid (Below w w eu):=uZ ab bl bh.out;have cS:=b1.out.size;have e8:Hid (Src eu A5 cl c5 1 (cZ .u8 (AW CB))):=Dy be.out.own;have hj:(OU++AW CB).length<=1500000:=(by rw[Ag,Dx,<-dm.out];omega);have g8:(OU++AW CB++AW IX).length<=2500000:=(by rw[Ag,Dx,<-dn.out];omega);have hi:(OU++AW CB++AW IX++AW DD).length<=3000000:=(by rw[Ag,Dx,<-dd.out];omega);have f5:(AW CB).length=cl:=(by rw[Dx,dm.out]);have f6:(AW IX).length=il:=(by rw[Dx,dn.out]);have f7:(AW DD).length=dl:=(by rw[Dx,dd.out]);have go:=hid f5;have gx:=hid f6;have fg:=hid f7;generalize AW CB=KC at *;generalize AW IX=KX at *;generalize AW DD=KD at *;clear bp ab cz ax b3 a5 bh bl f5 f6 f7;go_wp2_with(first|(at_builtin;refine iZ rfl (.tmp 73) (.tmp 74) 28 rfl w 5 j0 _ 1 1 underlying28 N M L Q rfl ip _ _ _ nm b6.out.oo _ _ _ _ nm e8.out (Ct _ _) rE nj cS ?_;intro hA ft E au Y;rw[<-go.out]at E;have bS:=hid (bj.out.outA au Y);have ar:=hid (cP.out.outA au Y);have f2:Src ft A6 il c6 1 (cZ .u8 KX):=Dy bS.out.own;have ev:=b6.out.outA cS au E Y;obtain⟨g9,hx,rfl⟩:=bZ E;have a4:=ev.1;(try simp only[List.length_append]at a4);have bn:=hid a4;clear a4;have b0:Hid (Below w w ft):=b1.out.trans ev.2;have di:=b0.out.size;clear ev E au Y;skip)|(at_builtin;refine iZ rfl (.tmp 76) (.tmp 77) 28 rfl w 5 j0 _ 1 1 underlying28 N M L Q rfl ip _ _ _ nm bn.out.oo _ _ _ _ nm f2 (Ct _ _) rE nj di ?_;intro hv fh J bk am;rw[<-gx.out]at J;have av:=hid (ar.out.outA bk am);have bf:Src fh fe dl fz 1 (cZ .u8 KD):=Dy av.out.own;have eb:=bn.out.outA di bk J am;obtain⟨hd,hf,rfl⟩:=bZ J;have b7:=eb.1;(try simp only[List.length_append]at b7);have bm:=hid b7;clear b7;have ba:Hid (Below w w fh):=b0.out.trans eb.2;have cT:=ba.out.size;clear eb J bk am;skip)|(at_builtin;refine iZ rfl (.tmp 79) (.tmp 80) 28 rfl w 5 j0 _ 1 1 underlying28 N M L Q rfl ip _ _ _ nm bm.out.oo _ _ _ _ nm bf (Ct _ _) rE nj cT ?_;intro hp fx j dq bb;rw[<-fg.out]at j;have ei:=bm.out.outA cT dq j bb;obtain⟨gi,gq,rfl⟩:=bZ j;have b5:=ei.1;(try simp only[List.length_append]at b5);have dp:=hid b5;clear b5;have ca:Hid (Below w w fx):=ba.out.trans ei.2;have e6:=ca.out.size;clear ei j dq bb;skip));have g1:Hid (zY n G (ps.map Part.ls) CB IX=OU++KC++KX++KD++CR dl):=(by show _=_;rw[eg.out,fg.out];simp only[List.append_assoc]);have fH:=hid (X5 fx dl nj);have u5:IntKind.u64.wrap (dl:Int)=(dl:Int):=pk;clear b6 bn bm b1 b0 ba cP be bj bS ar av e8 f2 bf eg;refine fH.out.mono ?_;rintro e ee ⟨he,rfl,bc,bN⟩;obtain⟨gl,gj,rfl⟩:=bZ bc;have fp:Hid (Src ee gl 4 gj 1 (cZ .u8 (CR dl))):=Dy bc;have c0:=hid (dp.out.step bN);have da:Hid (Below w w ee):=uZ bN e6 ca.out;have dt:=da.out.size;clear bc bN fH dp ca;have dk:Hid (ee.ownsRow w 5 1 (.slice gi (OU.length+(KC.length+KX.length)+KD.length) gq) (OU++KC++KX++KD).length (cZ .u8 (OU++KC++KX++KD))):=(by have h:=c0.out.oo;show World.ownsRow _ _ _ _ _ _ _;rw[show OU.length+(KC.length+KX.length)+KD.length=OU.length+KC.length+KX.length+KD.length by omega];exact h);clear c0;go_wp2_with(at_builtin;refine iZ rfl (.tmp 89) (.tmp 90) 28 rfl w 5 j0 _ 1 1 underlying28 N M L Q rfl ip _ _ _ nm dk.out _ _ _ _ nm fp.out (Ct _ _) rE nj dt ?_;intro gs g3 cg fn gh);have fs:Hid (Below w w g3):=da.out.grown fn dt (fun y hy=>(Aj dk.out y hy).1);go_ret;refine⟨gs,rfl,?_,fs.out⟩;rw[g1.out];have e1:(OU++KC++KX++KD++CR dl).length=(OU++KC++KX++KD).length+4:=(by rw[Ag];rfl);have e2:cZ .u8 (OU++KC++KX++KD++CR dl)=cZ .u8 (OU++KC++KX++KD)++cZ .u8 (CR dl):=rk;rw[e1,e2];exact cg
end Body
namespace Idx
open Go.RowKit Mem Own Canon Sift
open NumPut Recs
open Ef (Cj efO)
open Huff (numL_get)
theorem nQ{ts:List Str}(h:IxAt w base vT vL vals ts ls)(hx:ls[k]? =some x):
 ∃A c,vals[k]? =some (.slice A x.length c)/\Row w w A x.length 1 (jZ .i64 x):=by
 obtain⟨hk,_⟩:=BW.1 hx;have y:k<vals.length:=by rw[h.len];exact hk
 have hv:vals[k]? =some vals[k]:=Aw y;have ho:=h.r k _ x hv hx;obtain⟨A,c,e⟩:=bZ ho;rw[e]at hv ho;exact⟨A,c,hv,Row.of_own ho rfl (fun i j hi hj=>by have e0:j=0:=nj;subst e0;exact numL_get nj)⟩
end Idx
namespace Idx
open Go.RowKit Go.Maps Mem Own Canon Sift
open Recs
structure RS (w:World) (base rb xb:Nat) (vT vL:Value) (q k:Nat) (SS:List Str) (vals:List Value) (I:Str->List Nat):Prop where
 res:Blk w rb 53 #[(),()]
 box:Blk w xb 53 #[vT,vL]
 ne:rb≠xb
 tt:w.ownsRow base 9 1 vT q (zZ SS)
 ll:w.ownsRow base 37 1 vL k vals
 vl:∀ (i:Nat) v s,vals[i]? =some v->SS[i]? =some s->w.ownsRow base 3 1 v (I s).length (cZ .i64 (I s))
section
variable {w w4:World} {base rb xb q k q':Nat} {SS SS':List Str} {vals:List Value} {vT vL v4 v:Value} {I I':Str->List Nat} {o:Obj}
theorem RS.step(h:RS w base rb xb vT vL q k SS vals I)(hb:Below w w w4):RS w4 base rb xb vT vL q k SS vals I:=
 ⟨h.res.step hb,h.box.step hb,h.ne,eZ h.tt (fun b hy=>hb.block b (Aj h.tt b hy).2),eZ h.ll (fun b hy=>hb.block b (Aj h.ll b hy).2),
  fun i v s hv hs=>eZ (h.vl i v s hv hs) (fun b hy=>hb.block b (Aj (h.vl i v s hv hs) b hy).2)⟩
theorem RS.putT(h:RS w base rb xb vT vL q 0 SS [] I)(j:w.ownsRow base 9 1 v4 q' (zZ SS')):RS (w.setCell ⟨xb,0,none⟩ v4) base rb xb v4 vL q' 0 SS' [] I':=
 ⟨h.res.far h.ne _,h.box.set 0 v4,h.ne,CQ j (fZ j h.box ip) _,CQ h.ll (fZ h.ll h.box ip) _,fun i v s hv=>by cases hv⟩
theorem RS.putL{s:Str}(h:RS w base rb xb vT vL q k SS vals I)(hs:SS[k]? =some s)(hv:w.ownsRow base 3 1 v (I s).length (cZ .i64 (I s)))(hg:(w.alloc o).grownBy w4 vL.ownBlock)(y:w4.ownsRow base 37 1 v4 (k+1) (vals++ [v])):
 RS (w4.setCell ⟨xb,1,none⟩ v4) base rb xb vT v4 q (k+1) SS (vals++ [v]) I:=by
 have j:Blk w4 xb 53 #[vT,vL]:=(h.box.alloc o).grown hg (fun e=>fZ h.ll h.box ip e.symm);have G:=h.ll;have hk:vals.length=k:=by have:=h.ll.1;omega
 refine⟨((h.res.alloc o).grown hg (fun e=>fZ h.ll h.res ip e.symm)).far h.ne _,j.set 1 v4,h.ne,?_,CQ y (fZ y j ip) _,fun i u t hu ht=> ?_⟩
 ·have:=Km (h.tt.alloc o) (h.ll.alloc o) ip hg;exact CQ this (fZ this j ip) _
 ·have z:w.ownsRow base 3 1 u (I t).length (cZ .i64 (I t)):=by
   by_cases hi:i<k
   ·rw[GW nj]at hu;exact h.vl i u t hu ht
   ·have E:=(BW.1 hu).1;rw[Ag,JM]at E;obtain rfl:i=k:=nj;rw[II nj,hk,Gf]at hu;rw[hs]at ht;injection ht with ht;injection hu with hu;rw[<-ht,<-hu];exact hv
  have:=Km (z.alloc o) (h.ll.alloc o) ip hg;exact CQ this (fZ this j ip) _
end
def EH(ts:List (List Str))(u:Str)(i:Nat):List Nat:=(List.range i).filter fun i=>(ts.getD i []).contains u
theorem Xr(ts:List (List Str))(u:Str):EH ts u ts.length=BK ts u:=rfl
theorem VO{ts:List (List Str)}{T:List Str}{u:Str}(h:ts[i]? =some T):EH ts u (i+1)=EH ts u i++(if T.contains u then [i]else []):=by unfold EH;rw[GV,List.filter_append];congr 1;rw[List.filter_cons,List.filter_nil,Am,h];rfl
theorem UH(w:World)(A:Option Addr)(n c:Nat)(l:List Rec)(hn:l.length=n)(hN:n<=20000)(an:∀r∈l,r.source.size<=50000/\r.text.size<=50000)(ha:Row w w A n 4 (By l)):
 Calls prog 23 #[.slice A n c] w (IE (l.map kZ) w):=by
 obtain⟨j0,cu,cr,cc,cw⟩:=info_parts Ra;obtain⟨i1,cj,cd,ca,cz⟩:=info_parts QU;have HN:=hid hn;have D1:Hid (∀wx r,r∈l->Calls prog 68 #[.agg #[.int .u64 r.time, .int .u8 r.level, .string r.source, .string r.text]] wx (IZ (kZ r) wx)):=fun wx r hr=>bY wx r.time r.level r.source r.text (an r hr).1 (an r hr).2;have bg:Hid (∀r∈l,(kZ r).length<=100000):=fun r hr=>by have:=Qa r.text.data.toList r.source.data.toList;have h1:=Lib.size_eq r.text;have h2:=Lib.size_eq r.source;have:=an r hr;unfold kZ;omega
 unfold IZ at D1;unfold IE;clear hn an;go_enter func23,ntmps23;go_wp2_with fail
 have ba:Hid (RS ((w.alloc (.cells #[(),()] 53)).alloc (.cells #[(),()] 53)) w w (w.heap.size+1) (.slice none 0 0) (.slice none 0 0) 0 0 [] [] (fun _=> [])):=
  ⟨(Blk.made _ _ _).alloc _,Blk.made_at _ _ _ qT,nj,AE _ _ _ _,AE _ _ _ _,fun i v s hv=>by cases hv⟩
 have bi:Hid (Below w w ((w.alloc (.cells #[(),()] 53)).alloc (.cells #[(),()] 53))):=aZ (aZ (Ae _ _));obtain⟨xb,be⟩:=ii (w.heap.size+1);rw[<-be]at ba ⊢;have bu:w.heap.size<=xb:=nj
 generalize (w.alloc (.cells #[(),()] 53)).alloc (.cells #[(),()] 53)=w1 at *;clear be;go_loopw [4] (fun iv wr=>∃ (k m:Nat) (vT:Value),k<=n/\m<=100000*k/\iv= .int .i64 k/\Hid (RS wr w w xb vT (.slice none 0 0) m 0 (AQ ((l.take k).map kZ)) [] (fun _=> []))/\Hid (Below w w wr)) (fun iv _=>n-(intOf iv).toNat)
 case atStart=>exact⟨0,0,_,nj,nj,rfl,ba.out,bi.out⟩
 case round=>
  obtain⟨k,m,vT,hk,hm,rfl,HS,HB⟩:=hrel;clear ba bi;obtain⟨w0,rfl⟩:=ii wr;by_cases cy:k<n
  ·have gk:=ic ((k:Int)<n);have b9:=ic (k<n);have x0:(0:Int)<=(k:Int):=nj;have x1:(k:Int)<(n:Int):=nj;obtain⟨b,z,r,rfl,cp,hg,c0,c1,c2,c3⟩:=Row.rec (ha.below HB.out) HN.out cy;have Z:=Be hg;have E1:=hid (fun wx=>D1.out wx r Z);have a0:=bg.out r Z;have bk:(l.take (k+1)).map kZ=(l.take k).map kZ++ [kZ r]:=(by rw[BN,hg,EW];rfl);have a5:AQ ((l.take (k+1)).map kZ)=xZ (AQ ((l.take k).map kZ)) (kZ r):=(by rw[bk,dH]);obtain⟨AT,au⟩:=ii (AQ ((l.take k).map kZ));rw[<-au]at a5 HS;have co:=hid a5;clear hg Z bk a5 au;generalize kZ r=T at *;obtain⟨q,hq⟩:=ii T.length;rw[<-hq]at E1 a0;have HQ:=hid hq;clear hq;go_wp2_with fail;refine(E1.out _).mono ?_;rintro e w4 ⟨v4,rfl,L,M⟩;obtain⟨A4,c4,rfl⟩:=bZ L;have bq:=hid (HS.out.step M);have E:Hid (Below w w w4):=dZ M HB.out;have bn:=hid (lZ L HB.out.size);clear M L E1 HS HB c0 c1 c2 c3;go_wp2_with fail;go_loopw [6] (fun jv wr=>∃ (j m':Nat) (ak:Value),j<=q/\m'<=m+j/\jv= .int .i64 j/\Hid (RS wr w w xb ak (.slice none 0 0) m' 0 (xZ AT (T.take j)) [] (fun _=> []))/\Hid (wr.ownsRow w 9 1 (.slice A4 q c4) q (zZ T))/\Hid (Below w w wr)) (fun jv _=>q-(intOf jv).toNat)
   case atStart=>exact⟨0,m,vT,nj,nj,rfl,(by show RS _ _ _ _ _ _ _ _ _ _ _;rw[List.take_zero];exact bq.out),bn.out,E.out⟩
   case round=>
    obtain⟨j,m',ak,hj,cC,rfl,HS,HO,HB⟩:=hrel;clear bq bn E;obtain⟨wi,rfl⟩:=ii wr;by_cases cH:j<q
    ·have gj:=ic ((j:Int)<q);have a6:=ic (j<q);have y0:(0:Int)<=(j:Int):=nj;have y1:(j:Int)<(q:Int):=nj;obtain⟨t,ht⟩:∃t,T[j]? =some t:=⟨_,Aw mg⟩;obtain⟨g,cg,a3,ci,_⟩:=HO.out.form nj;injection a3 with hA1 hA2 hA3;subst hA1 hA3;have ck:wi.cell? ⟨g,j,none⟩=some (.string (bs t)):=(by rw[HO.out.cellAt j nj];exact Ii ht);have N:=Pu AT ht;have bd:=KM t (xZ AT (T.take j));have ab:(xZ AT (T.take j)).length=m':=(by have h:=HS.out.tt.1;rw[N9]at h;omega);rw[<-N,ab]at bd;obtain⟨A5,c5,rfl⟩:=bZ HS.out.tt;have DP:Hid (∀wx,Below wi wi wx->Calls prog 69 #[.slice A5 m' c5, .string (bs t)] wx (Kf (xZ AT (T.take (j+1))) w wx)):=fun wx hb=>by rw[N];exact Oa wx w A5 m' c5 _ t ab nj (AN HB.out.size hb.size) (HS.out.step hb).tt
     obtain⟨R,hR⟩:=ii (xZ AT (T.take (j+1)));rw[<-hR]at DP bd;unfold Kf at DP;have HR:=hid hR;have b0:=HS.out.box.ia 0;clear N ab hR ht;go_upto_region 9 with fail;go_region_with((go_at_call 69;(with_reducible refine(DP.out _ rF).mono ?_);rintro e w6 ⟨v6,rfl,ay,bS⟩;obtain⟨A6,c6,rfl⟩:=bZ ay;have J:Below wi wi w6:=dZ bS rF;have q0:=(HS.out.box.step J).ia 0;have q1:=(HS.out.box.step J).frozen 0))
     all_goals
      have a1:Hid (RS (w6.setCell ⟨xb,0,none⟩ (.slice A6 R.length c6)) w w xb (.slice A6 R.length c6) (.slice none 0 0) R.length 0 (xZ AT (T.take (j+1))) [] (fun _=> [])):=(by show RS _ _ _ _ _ _ _ _ _ _ _;rw[<-HR.out];exact(HS.out.step J).putT ay);have cm:Hid ((w6.setCell ⟨xb,0,none⟩ (.slice A6 R.length c6)).ownsRow w 9 1 (.slice (some ⟨g,0,none⟩) q c4) q (zZ T)):=(by have h:w6.ownsRow w 9 1 (.slice (some ⟨g,0,none⟩) q c4) q (zZ T):=eZ HO.out (fun y hy=>J.block y (Aj HO.out y hy).2);exact CQ h (fZ h (HS.out.box.step J) ip) _);have cl:Hid (Below w w (w6.setCell ⟨xb,0,none⟩ (.slice A6 R.length c6))):=BF bu (dZ J HB.out);clear HS HO HB DP b0 ck q0 q1 ay bS J HR;go_wp2_with fail;go_roundw
      case measure=>exact jq
      case rel=>go_light;exact⟨j+1,R.length,_,nj,nj,iw,a1.out,cm.out,cl.out⟩
    ·obtain rfl:j=q:=by omega
     have gj:=ig ((j:Int)<j);have a6:=ig (j<j);have a1:Hid (RS wi w w xb ak (.slice none 0 0) m' 0 (AQ ((l.take (k+1)).map kZ)) [] (fun _=> [])):=(by show RS _ _ _ _ _ _ _ _ _ _ _;have h:=HS.out;rw[HQ.out,List.take_length,<-co.out]at h;exact h);clear HS HQ;go_wp2_with fail;go_roundw
     case measure=>exact jq
     case rel=>go_light;exact⟨k+1,m',ak,nj,nj,iw,a1.out,HB.out⟩
  ·obtain rfl:k=n:=by omega
   have gk:=ig ((k:Int)<k);have b9:=ig (k<k);have aq:l.take k=l:=Bw pu;rw[aq]at HS;have af:(l.map kZ).length=k:=(by rw[Bc,HN.out]);have bj:Hid (∀ (i:Nat) r,l[i]? =some r->(l.map kZ)[i]? =some (kZ r)):=fun i r h=>by rw[BI,h];rfl
   obtain⟨TS,a4⟩:=ii (l.map kZ);rw[<-a4]at HS af bj;have ah:=hid a4;have bl:=hid af;clear aq a4 af;obtain⟨SS,a9⟩:=ii (AQ TS);rw[<-a9]at HS;have ab:SS.length=m:=(by have h:=HS.out.tt.1;rw[N9]at h;omega);have az:=hid ab;have ai:=hid a9;have cF:m<=2000000000:=nj;have b7:Hid (RS w0 w w xb vT (.slice none 0 0) m 0 SS [] (BK TS)):=⟨HS.out.res,HS.out.box,HS.out.ne,HS.out.tt,HS.out.ll,fun i v s hv=>by cases hv⟩;have b6:=hid HB.out;obtain⟨A5,c5,rfl⟩:=bZ HS.out.tt;clear ab a9 HS HB hm;go_wp2_with fail;go_loopw [7] (fun iv wr=>∃ (k2:Nat) (vL:Value) (vals:List Value),k2<=m/\iv= .int .i64 k2/\Hid (RS wr w w xb (.slice A5 m c5) vL m k2 SS vals (BK TS))/\Hid (Below w w wr)) (fun iv _=>m-(intOf iv).toNat)
   case atStart=>exact⟨0,_,_,nj,rfl,b7.out,b6.out⟩
   case round=>
    obtain⟨k2,vL,vals,cL,rfl,HS,HB⟩:=hrel;clear b7 b6;obtain⟨w3,rfl⟩:=ii wr;obtain⟨A8,c8,rfl⟩:=bZ HS.out.ll;by_cases cE:k2<m
    ·have gj:=ic ((k2:Int)<m);have a6:=ic (k2<m);have y0:(0:Int)<=(k2:Int):=nj;have y1:(k2:Int)<(m:Int):=nj;obtain⟨t,ht⟩:∃t,SS[k2]? =some t:=⟨_,Aw (by have:=az.out;omega)⟩;obtain⟨g,cg,a3,ci,_⟩:=HS.out.tt.form nj;injection a3 with hA1 hA2 hA3;subst hA1 hA3;have bC:Hid (∀wx,Below w3 w3 wx->wx.cell? ⟨xb,0,none⟩=some (.slice (some ⟨g,0,none⟩) m c5)/\wx.cell? ⟨g,k2,none⟩=some (.string (bs t))):=fun wx hb=>by have h:=HS.out.step hb;refine⟨h.box.cell 0,?_⟩;rw[h.tt.cellAt k2 nj];exact Ii ht
     have HT:=hid ht;have b0:=HS.out.box.ia 0;have ce:=HB.out.size;clear ht;go_wp2_with fail;go_loopw [8,9] (fun v iv wr=>∃ (i p:Nat),i<=k/\p<=i/\iv= .int .i64 i/\Hid ((EH TS t i).length=p)/\Hid (wr.ownsRow w3 3 1 v p (cZ .i64 (EH TS t i)))/\Hid (Below w3 w3 wr)) (fun _ iv _=>k-(intOf iv).toNat)
     case atStart=>exact⟨0,0,nj,nj,rfl,rfl,AE _ _ _ _,Ae _ _⟩
     case round=>
      obtain⟨i,p,hi,hp,rfl,HP,HO,E⟩:=hrel;obtain⟨wi,rfl⟩:=ii wr;obtain⟨Av,cv,rfl⟩:=bZ HO.out;by_cases bf:i<k
      ·have gi:=ic ((i:Int)<k);have ct:=ic (i<k);have z0:(0:Int)<=(i:Int):=nj;have z1:(i:Int)<(k:Int):=nj;have U:Hid (Below w w wi):=dZ E.out HB.out;obtain⟨b,z,r,cA,cp,hg,_⟩:=Row.rec ha HN.out bf;subst cA;have Z:=Be hg;have E1:=hid (fun wx=>D1.out wx r Z);have a0:=bg.out r Z;have al:TS[i]? =some (kZ r):=bj.out i r hg;have HK:Hid (∀wx,Below wi wi wx->(wx.cell? ⟨xb,0,none⟩=some (.slice (some ⟨g,0,none⟩) m c5)/\wx.cell? ⟨g,k2,none⟩=some (.string (bs t)))/\wx.cell? ⟨b,z+i*4,none⟩=some (.int .u64 r.time)/\wx.cell? ⟨b,z+i*4+1,none⟩=some (.int .u8 r.level)/\wx.cell? ⟨b,z+i*4+2,none⟩=some (.string r.source)/\wx.cell? ⟨b,z+i*4+3,none⟩=some (.string r.text)):=fun wx hb=>by refine⟨bC.out wx (dZ hb E.out),?_⟩;obtain⟨b',cB,r',aj,_,am,d⟩:=Row.rec (ha.below (dZ hb U.out)) HN.out bf;injection aj with aj;injection aj with h1 h2;subst h1 h2;rw[hg]at am;injection am with am;subst am;exact d
       obtain⟨k0,k1,b4,k3,k4⟩:=HK.out wi (Ae _ _);clear hg Z;generalize kZ r=T at *;obtain⟨q,hq⟩:=ii T.length;rw[<-hq]at E1 a0;by_cases hc:T.contains t=true
       ·skip
        have N:EH TS t (i+1)=EH TS t i++ [i]:=(by rw[VO al,hc];rfl);have Y:=hid N
        have DH:Hid (∀wx A c,Row wx wx A q 1 (Ee T)->Calls prog 70 #[.slice A q c, .string (bs t)] wx (fun e w'=>e= .returned (.bool true)/\w'=wx)):=fun wx A c h=>by
         have:=QR wx A q c T t hq.symm nj h
         rwa [hc]at this
        clear N hc al hq;go_upto_region 17 with fail;go_region_held3 (fun wx=>(wx.cell? ⟨xb,0,none⟩=some (.slice (some ⟨g,0,none⟩) m c5)/\wx.cell? ⟨g,k2,none⟩=some (.string (bs t)))/\wx.cell? ⟨b,z+i*4,none⟩=some (.int .u64 r.time)/\wx.cell? ⟨b,z+i*4+1,none⟩=some (.int .u8 r.level)/\wx.cell? ⟨b,z+i*4+2,none⟩=some (.string r.source)/\wx.cell? ⟨b,z+i*4+3,none⟩=some (.string r.text)) (first|assumption|(refine HK.out _ ?_;(repeat (with_reducible first|exact Ae _ _|assumption|refine Aq ?_ |refine below_drewN ?_ _|refine oZ ?_ |refine aZ ?_ |refine dZ im ?_ |refine belA ?_ |refine pZ im ?_)))) (first|(go_at_call 68;(with_reducible refine(E1.out _).mono ?_);rintro e w4 ⟨v4,rfl,L,M⟩;obtain⟨A4,c4,rfl⟩:=bZ L;have bN:Below wi wi w4:=dZ M rF)|(go_at_call 70;(with_reducible refine(DH.out _ _ _ (Jo L)).mono ?_);rintro e w5 ⟨rfl,rfl⟩));have ae:Hid (Below w3 w3 w5):=dZ bN E.out;have ac:Hid (w5.ownsRow w3 3 1 (.slice Av p cv) p (cZ .i64 (EH TS t i))):=eZ HO.out (fun y hy=>bN.block y (Aj HO.out y hy).2);have ar:=ae.out.size;clear M L bN HO E U HK k0 k1 b4 k3 k4 E1 DH;go_wp2_with(at_builtin;refine iZ rfl (.tmp 60) (.tmp 62) 37 rfl w3 3 j0 _ 1 8 underlying37 cu cr cc cw rfl ip _ _ _ nm (ac.out.alloc _) _ 1 1 [.int .i64 (i:Nat)] nm (Src.of_blk (Blk.made_at _ _ _ qT) 1 1 1 rfl) mq rE nj rg ?_;intro v8 w8 aa b8 b3;obtain⟨A6,c6,rfl⟩:=bZ aa;have cx:Hid (Below w3 w3 w8):=(mZ ar ae.out).grown b8 rg (fun y hy=>(Aj ac.out y hy).1);have bc:=hid aa;clear aa b8 b3);have bb:Hid ((EH TS t (i+1)).length=p+1):=(by show _=_;rw[Y.out,Ag,HP.out];rfl);have ax:Hid (w8.ownsRow w3 3 1 (.slice A6 (p+1) c6) (p+1) (cZ .i64 (EH TS t (i+1)))):=(by show World.ownsRow _ _ _ _ _ _ _;rw[Y.out,show cZ .i64 (EH TS t i++ [i])=cZ .i64 (EH TS t i)++ [.int .i64 (i:Nat)] by simp[cZ]];exact bc.out);clear bc ac Y HP ae;go_roundw
        case measure=>exact jq
        case rel=>go_light;exact⟨i+1,p+1,nj,nj,iw,bb.out,ax.out,cx.out⟩
       ·have hc:T.contains t=false:=(by simpa using hc);have N:EH TS t (i+1)=EH TS t i++ []:=(by rw[VO al,hc];rfl);have Y:=hid N
        have DH:Hid (∀wx A c,Row wx wx A q 1 (Ee T)->Calls prog 70 #[.slice A q c, .string (bs t)] wx (fun e w'=>e= .returned (.bool false)/\w'=wx)):=fun wx A c h=>by
         have:=QR wx A q c T t hq.symm nj h
         rwa [hc]at this
        clear N hc al hq;go_upto_region 17 with fail;go_region_held3 (fun wx=>(wx.cell? ⟨xb,0,none⟩=some (.slice (some ⟨g,0,none⟩) m c5)/\wx.cell? ⟨g,k2,none⟩=some (.string (bs t)))/\wx.cell? ⟨b,z+i*4,none⟩=some (.int .u64 r.time)/\wx.cell? ⟨b,z+i*4+1,none⟩=some (.int .u8 r.level)/\wx.cell? ⟨b,z+i*4+2,none⟩=some (.string r.source)/\wx.cell? ⟨b,z+i*4+3,none⟩=some (.string r.text)) (first|assumption|(refine HK.out _ ?_;(repeat (with_reducible first|exact Ae _ _|assumption|refine Aq ?_ |refine below_drewN ?_ _|refine oZ ?_ |refine aZ ?_ |refine dZ im ?_ |refine belA ?_ |refine pZ im ?_)))) (first|(go_at_call 68;(with_reducible refine(E1.out _).mono ?_);rintro e w4 ⟨v4,rfl,L,M⟩;obtain⟨A4,c4,rfl⟩:=bZ L;have bN:Below wi wi w4:=dZ M rF)|(go_at_call 70;(with_reducible refine(DH.out _ _ _ (Jo L)).mono ?_);rintro e w5 ⟨rfl,rfl⟩));have ae:Hid (Below w3 w3 w5):=dZ bN E.out;have ac:Hid (w5.ownsRow w3 3 1 (.slice Av p cv) p (cZ .i64 (EH TS t i))):=eZ HO.out (fun y hy=>bN.block y (Aj HO.out y hy).2);have ar:=ae.out.size;clear M L bN HO E U HK k0 k1 b4 k3 k4 E1 DH;have bb:Hid ((EH TS t (i+1)).length=p):=(by show _=_;rw[Y.out,BX,HP.out]);have ax:Hid (w5.ownsRow w3 3 1 (.slice Av p cv) p (cZ .i64 (EH TS t (i+1)))):=(by show World.ownsRow _ _ _ _ _ _ _;rw[Y.out,BX];exact ac.out);clear ac Y HP;go_wp2_with fail;go_roundw
        case measure=>exact jq
        case rel=>go_light;exact⟨i+1,p,nj,nj,iw,bb.out,ax.out,ae.out⟩
      ·obtain rfl:k=i:=by omega
       have gi:=ig ((k:Int)<k);have ct:=ig (k<k);have G:=hid (HS.out.step E.out);have U:Hid (Below w w wi):=dZ E.out HB.out;have cq:=U.out.size;have aw:Hid (wi.ownsRow w 3 1 (.slice Av p cv) (BK TS t).length (cZ .i64 (BK TS t))):=(by show World.ownsRow _ _ _ _ _ _ _;have e:BK TS t=EH TS t k:=(by rw[<-Xr,bl.out]);rw[e,HP.out];exact lZ HO.out ce);have e1:=G.out.box.ia 1;clear HS HO HP HB E bC b0;go_wp2_with(at_builtin;refine iZ rfl (.tmp 65) (.tmp 67) 51 rfl w 37 i1 _ 1 24 underlying51 cj cd ca cz rfl ip _ _ _ nm (G.out.ll.alloc _) _ 1 1 [.slice Av p cv] nm (Src.of_blk (Blk.made_at _ _ _ qT) 1 1 1 rfl) mq rE nj rg ?_;intro v9 w9 Q ag bm;obtain⟨A9,c9,rfl⟩:=bZ Q;have bt:=G.out.putL HT.out aw.out ag Q;have f9:=((G.out.box.alloc _).grown ag (fun e=>fZ G.out.ll G.out.box ip e.symm)).frozen 1;have e9:=((G.out.box.alloc _).grown ag (fun e=>fZ G.out.ll G.out.box ip e.symm)).cell 1;simp only[List.getElem?_toArray,List.getElem?_cons_zero,List.getElem?_cons_succ]at e9;have b5:Hid (Below w w w9):=(mZ cq U.out).grown ag rg (fun y hy=>(Aj G.out.ll y hy).1);have H9:=hid bt;clear bt Q ag bm);have cf:Hid (Below w w (w9.setCell ⟨xb,1,none⟩ (.slice A9 (k2+1) c9))):=BF bu b5.out;clear G U b5 aw e1;go_roundw
       case measure=>exact jq
       case rel=>go_light;exact⟨k2+1,_,_,nj,iw,H9.out,cf.out⟩
    ·obtain rfl:m=k2:=by omega
     have gj:=ig ((m:Int)<m);have a6:=ig (m<m);have b0:=HS.out.box.ia 0;have b1:=HS.out.box.ia 1;have r0:=HS.out.res.ia 0;have r1:=HS.out.res.ia 1;have s0:=HS.out.res.frozen 0;have s1:=HS.out.res.frozen 1;go_wp2_with fail;have bp:=HS.out.tt;have bh:=HS.out.ll;have n1:(Value.slice A5 m c5).ownBlock≠some w.heap.size:=fZ bp HS.out.res ip;have n2:(Value.slice A8 m c8).ownBlock≠some w.heap.size:=fZ bh HS.out.res ip;refine CF (v:= .agg #[.slice A5 m c5, .slice A8 m c8]) ?_ rfl ⟨_,_,vals,rfl,⟨?_,?_,?_⟩,?_⟩
     ·have e0:=(HS.out.res.set 0 (.slice A5 m c5)).cell 0;have e1:=((HS.out.res.set 0 (.slice A5 m c5)).set 1 (.slice A8 m c8)).cell 1;simp at e0 e1;simp[results,results23,go_sem,e0,e1]
     ·rw[<-ah.out,<-ai.out,az.out];exact CQ (CQ bp n1 _) n1 _
     ·rw[<-ah.out,<-ai.out,Bc,az.out];exact CQ (CQ bh n2 _) n2 _
     ·intro i v cG hv hi;rw[<-ah.out,<-ai.out]at hi;rw[BI]at hi;cases hs:SS[i]? with
      |none=>rw[hs]at hi;cases hi
      |some s=>rw[hs]at hi;injection hi with hi;subst hi;have av:=HS.out.vl i v s hv hs;have hn:=fZ av HS.out.res ip;exact CQ (CQ av hn _) hn _
     ·exact BF (Ak _) (BF (Ak _) HB.out)
end Idx
namespace Body
open Go.RowKit Mem Own Canon
theorem P7(w:World)(gb n c:Nat)(A:Option Addr)(ls:List Nat)(hc:w.cell? ⟨gb,0,none⟩=some (.slice A n c))(hn:ls.length=n)(hN:n<=1000000)(hs:ls.sum<=1000000000)(ha:Row w w A n 1 (jZ .i64 ls)):
 Calls prog 18 #[.pointer (some ⟨gb,0,none⟩)] w fun e w'=>e= .returned (.int .i64 (ls.sum:Nat))/\w'=w:=by
 have D:=hid (sum_any w A n c ls hn hN hs ha);generalize ls.sum=S at *;clear hn ha;go_enter func18,ntmps18;go_wp2_with fail;refine D.out.mono ?_;rintro e w1 ⟨rfl,rfl⟩;go_wp2_with fail;go_ret;exact⟨rfl,rfl⟩
end Body
end Go.Proofs.YtfgdoknipbpfhaaGreatDoor
