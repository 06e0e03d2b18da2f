/- The index of a log:  -/
import Derived.Test.YtfgdoknipbpfhaaGreatDoorZBodyBlocks27
import Derived.Test.YtfgdoknipbpfhaaGreatDoorZBodyBlocks26
namespace Go.Proofs.YtfgdoknipbpfhaaGreatDoor
open Go.Proofs.Tryz
open Go.Lib (hid)
set_option maxHeartbeats 8000000
set_option maxRecDepth 100000
variable{w w':World}{base bound k n s:Nat}{e:TypeId}{vals xs:List Value}{l x:List Nat}{ls:List (List Nat)}{vL vT:Value}
namespace Idx
open Go.RowKit Go.Maps Mem Own Canon Sift
open Recs
def mZ(r:Rec):List Str:=G9 r.text.data.toList r.source.data.toList
structure IxAt (w:World) (base:Nat) (vT vL:Value) (vals:List Value) (ts:List Str) (ls:List (List Nat)):Prop where
 t:w.ownsRow base 9 1 vT ts.length (Ba ts)
 l:w.ownsRow base 37 1 vL ls.length vals
 r:∀ (i:Nat) v ids,vals[i]? =some v->ls[i]? =some ids->w.ownsRow base 3 1 v ids.length (cZ .i64 ids)
def LM(ts:List (List Str))(w:World)(e:Ending)(w':World):Prop:=
 ∃vT vL vals,e= .returned (.agg #[vT,vL])/\IxAt w' w vT vL vals (AV ts) ((AV ts).map (Cn ts))/\Below w w w'
theorem Z4:(prog.info? 3).map (fun i=>(i.zero,i.size,i.bytes))=some (some (.int .i64 0),1,8):=mr
theorem ZH:(prog.info? 37).map (fun i=>(i.zero,i.size,i.bytes))=some (some (.slice none 0 0),1,24):=mr
theorem QI{r:Rec}{s:Str}(h:s∈mZ r):1<=s.length/\s.length<=25:=by
 unfold mZ at h;rw[Xi]at h;unfold G1 at h;rcases BF.1 h with h|h
 ·have:=Va _ s h;omega
 ·obtain⟨x,hx,rfl⟩:=Ck.1 h;have:=Va _ x hx;simp only[List.length_cons];omega
theorem zV(t s:List UInt8):(G9 t s).length<=t.length+s.length:=by have h1:=NJ (G1 t s) [];have h2:=LP t;have h3:=LP s;unfold G9;unfold G1 at h1;rw[Ae,Bb]at h1;unfold G1;simp only[List.length_nil]at h1;omega
theorem OM(ts:List (List Str))(u:Str):(Cn ts u).length<=ts.length:=by unfold Cn;exact AK (List.length_filter_le _ _) oK
theorem M9{i s' n':Nat}{e':TypeId}{v v':Value}{j:List Value}(h:w.ownsRow base e s v n xs)(ho:w.ownsRow i e' s' v' n' j)(z:e≠e')(hg:w.grownBy w' v'.ownBlock):w'.ownsRow base e s v n xs:=
 eZ h (fun y hy=>hg.block y (Aj h y hy).2 (fun e=>by
  rcases ER h ho z with h0|h0
  ·rw[h0]at hy;cases hy
  ·exact h0 (hy.trans e)))
section
variable {H:Type} {P:Program} {kt:TypeId} {R:Value->Option (DataW H×List MemPlace)} {w w':World} {mb m:Nat} {D:DataW H}
theorem cI{v:Value}(hm:w.ownsMap P kt R mb m D)(ho:w.ownsRow base e s v n xs)(hg:w.grownBy w' (some mb)):w'.ownsRow base e s v n xs:=
 eZ ho fun b hb=>hg.block b (Aj ho b hb).2 fun he=>by
  injection he with he;subst he;obtain⟨es,h,h1,_⟩:=hm;rcases ho.2 with ⟨hv,_⟩|⟨g',j,cur,hv,_,h2,_⟩
  ·rw[hv]at hb;cases hb
  ·rw[hv]at hb;have i:g'=b:=(by simpa[Value.ownBlock]using hb);rw[i,h1]at h2;cases h2
theorem bA{g:Nat}{t:TypeId}{cs:Array Value}(hm:w.ownsMap P kt R mb m D)(h:Blk w g t cs)(hg:w.grownBy w' (some mb)):Blk w' g t cs:=
 h.grown hg fun he=>by injection he with he;subst he;obtain⟨es,i,h1,_⟩:=hm;have h2:w.heap[g]? =some (.cells cs t):=h;rw[h1]at h2;cases h2
end
def Ga(ts:List (List Str))(T:List Str)(j:Nat)(s:Str):List Nat:=Cn ts s++(if s∈T.take j then [ts.length]else [])
theorem Zk(ts:List (List Str))(T:List Str):Ga ts T 0=Cn ts:=by funext s;simp[Ga]
theorem mK(ts:List (List Str))(T:List Str):Ga ts T T.length=Cn (ts++ [T]):=by
 funext s
 rw[WW];unfold Ga;rw[List.take_length];simp
theorem YZ{ts:List (List Str)}{T:List Str}(hT:EJ T){j:Nat}{t:Str}(h:T[j]? =some t):(fun s=>if s=t then Ga ts T j s++ [ts.length]else Ga ts T j s)=Ga ts T (j+1):=by
 have y:t ∉ T.take j:=fun hm=>by obtain⟨i,hi,e⟩:=List.getElem_of_mem hm;rw[AZ]at hi;rw[List.getElem_take]at e;obtain⟨hj,e2⟩:=Cv.1 h;have:=List.pairwise_iff_getElem.1 hT i j mw hj mw;rw[e,e2]at this;exact Ig t this
 funext s
 unfold Ga;rw[Cj,h];by_cases hs:s=t
 ·subst hs;rw[Ab rfl,Aa y];simp
 ·rw[Aa hs];simp[hs]
theorem OI(ts:List (List Str))(s:Str):s∈AV ts↔Cn ts s≠ []:=by
 rw[Qu];unfold Cn;rw[ne_eq,List.filter_eq_nil_iff];constructor
 ·rintro⟨t,ht,hs⟩ h;obtain⟨i,hi,rfl⟩:=List.getElem_of_mem ht;have:=h i (Fs.2 hi);rw[Am,Az hi]at this;simp at this;exact this hs
 ·intro h;refine Jk fun hn=>h fun i hi=> ?_;rw[Fs]at hi;rw[Am,Az hi];simp only[Option.getD_some,List.contains_iff_mem];exact fun hm=>hn ⟨_,Fe hi,hm⟩
theorem lQ{H:Type}{P:Program}{kt:TypeId}{R:Value->Option (DataW H×List MemPlace)}{mb m:Nat}{D:DataW H}(h:w.ownsMap P kt R mb m D):Maps.size D<=m:=by obtain⟨es,i,_,_,hs,rfl⟩:=h;show(List.foldr DataW.insert [] _).length<=m;rw[length_sorted,Bb];simpa using hs
structure St3 (w:World) (mb m base rb bo B2:Nat) (D:DataW Value) (I:Str->List Nat) (V:Str->Value) (vS vT vL:Value) (q nT nL:Nat) (SS:List Str):Prop where
 mi:MI w mb m base D I V
 res:Blk w rb 53 #[(),()]
 box:Blk w bo 53 #[vT,vL]
 ne:rb≠bo
 tt:w.ownsRow B2 9 1 vT nT (Ba (SS.take nT))
 ll:w.ownsRow B2 37 1 vL nL ((SS.take nL).map V)
 ss:w.ownsRow base 9 1 vS q (Ba SS)
 sg:∀g,vS.ownBlock=some g->g<B2
 b2:base<=B2
 bz:B2<=w.heap.size
section
variable {w w4:World} {mb m base rb bo B2 q nT nL:Nat} {D:DataW Value} {I:Str->List Nat} {V:Str->Value} {vS vT vL v4:Value} {SS:List Str} {o:Obj}
theorem St3.putT(h:St3 w mb m base rb bo B2 D I V vS vT vL q nT nL SS)(hg:(w.alloc o).grownBy w4 vT.ownBlock)(j:w4.ownsRow B2 9 1 v4 (nT+1) (Ba (SS.take (nT+1)))):
 St3 (w4.setCell ⟨bo,0,none⟩ v4) mb m base rb bo B2 D I V vS v4 vL q (nT+1) nL SS:=by
 have i:Blk w4 bo 53 #[vT,vL]:=(h.box.alloc o).grown hg (fun e=>gZ h.tt h.box ip e.symm);have G:w4.heap[mb]? =w.heap[mb]? :=(hg.block mb md (fun e=>J2 h.mi h.tt e.symm rfl)).trans (DJ w o mb h.mi.map.lt)
 have y:MI w4 mb m base D I V:=(h.mi.step (aZ (Ag _ _) (o:=o))).kept (hg.block mb md (fun e=>J2 h.mi h.tt e.symm rfl)) fun s b hb=>by
  refine hg.block b (by have:=(Aj (h.mi.row s) b hb).2;simp;omega) fun e=> ?_;rcases ER (h.mi.row s) h.tt ip with h0|h0
  ·rw[h0]at hb;cases hb
  ·exact h0 (hb.trans e)
 have E:mb≠bo:=fun e=>mt
 refine⟨y.kept (AR w4 _ _ mb E) fun s b hb=>AR w4 _ _ b (fun e=>gZ (y.row s) i ip (hb.trans (Aw some e))),?_,?_,h.ne,?_,?_,?_,h.sg,h.b2,?_⟩
 ·exact((h.res.alloc o).grown hg (fun e=>gZ h.tt h.res ip e.symm)).far h.ne _
 ·exact i.set 0 v4
 ·exact EX j (gZ j i ip) _
 ·have:=M9 (h.ll.alloc o) (h.tt.alloc o) ip hg;exact EX this (gZ this i ip) _
 ·have:w4.ownsRow base 9 1 vS q (Ba SS):=eZ h.ss fun b hb=>(hg.block b (by have:=(Aj h.ss b hb).2;simp;omega) (fun e=>by have h1:=h.sg b hb;have h2:=(Aj h.tt b e.symm).1;omega)).trans (DJ w o b (Aj h.ss b hb).2);exact EX this (gZ this i ip) _
 ·have h1:=hg.size;have h2:=h.bz;simp at h1 ⊢;omega
theorem St3.putL(h:St3 w mb m base rb bo B2 D I V vS vT vL q nT nL SS)(hg:(w.alloc o).grownBy w4 vL.ownBlock)(j:w4.ownsRow B2 37 1 v4 (nL+1) ((SS.take (nL+1)).map V)):
 St3 (w4.setCell ⟨bo,1,none⟩ v4) mb m base rb bo B2 D I V vS vT v4 q nT (nL+1) SS:=by
 have i:Blk w4 bo 53 #[vT,vL]:=(h.box.alloc o).grown hg (fun e=>gZ h.ll h.box ip e.symm)
 have y:MI w4 mb m base D I V:=(h.mi.step (aZ (Ag _ _) (o:=o))).kept (hg.block mb md (fun e=>J2 h.mi h.ll e.symm rfl)) fun s b hb=>by
  refine hg.block b (by have:=(Aj (h.mi.row s) b hb).2;simp;omega) fun e=> ?_;rcases ER (h.mi.row s) h.ll ip with h0|h0
  ·rw[h0]at hb;cases hb
  ·exact h0 (hb.trans e)
 have E:mb≠bo:=fun e=>mt
 refine⟨y.kept (AR w4 _ _ mb E) fun s b hb=>AR w4 _ _ b (fun e=>gZ (y.row s) i ip (hb.trans (Aw some e))),?_,?_,h.ne,?_,?_,?_,h.sg,h.b2,?_⟩
 ·exact((h.res.alloc o).grown hg (fun e=>gZ h.ll h.res ip e.symm)).far h.ne _
 ·exact i.set 1 v4
 ·have:=M9 (h.tt.alloc o) (h.ll.alloc o) ip hg;exact EX this (gZ this i ip) _
 ·exact EX j (gZ j i ip) _
 ·have:=M9 (h.ss.alloc o) (h.ll.alloc o) ip hg;exact EX this (gZ this i ip) _
 ·have h1:=hg.size;have h2:=h.bz;simp at h1 ⊢;omega
end
theorem YG(w:World)(A:Option Addr)(n c:Nat)(l:List Rec)(hn:l.length=n)(hN:n<=20000)(av:∀r∈l,r.source.size<=50000/\r.text.size<=50000)(ha:Row w w A n 4 (BP l)):
 Calls prog 52 #[.slice A n c] w (LM (l.map mZ) w):=by
 obtain⟨j0,cw,dc,cy,dh⟩:=info_parts Z4;have HN:=hid hn;have D1:Hid (∀wx r,r∈l->Calls prog 106 #[.agg #[.int .u64 r.time, .int .u8 r.level, .string r.source, .string r.text]] wx (LV (mZ r) wx)):=fun wx r hr=>l6 wx r.time r.level r.source r.text (av r hr).1 (av r hr).2;have an:Hid (∀r∈l,(mZ r).length<=100000):=fun r hr=>by have:=zV r.text.data.toList r.source.data.toList;have h1:=Lib.size_eq r.text;have h2:=Lib.size_eq r.source;have:=av r hr;unfold mZ;omega
 have a6:=@run_makeMap prog;unfold LV at D1;unfold LM;clear hn av;go_enter func52,ntmps52;go_wp2_with fail;have ac:Blk (w.alloc (.cells #[(),()] 53)) w 53 #[(),()]:=Blk.made _ _ _;have a9:Below w w (w.alloc (.cells #[(),()] 53)):=aZ (Ag _ _);have b9:(w.alloc (.cells #[(),()] 53)).heap.size=w.heap.size+1:=oK
 generalize w.alloc (.cells #[(),()] 53)=w1 at *;rw[<-b9];have bn:Hid (MI (w1.alloc (.map #[] 0)) w1 0 w (.map []) (fun _=> []) (fun _=> .slice none 0 0)):=MI.start w1 w;have cq:=hid (ac.alloc (.map #[] 0));have bx:Hid (Below w w (w1.alloc (.map #[] 0))):=aZ a9;obtain⟨mb,be⟩:=ii w1.heap.size;rw[<-be]at bn ⊢;have cx:Hid (w.heap.size<=mb):=by show _<=_;rw[be];exact a9.size
 generalize w1.alloc (.map #[] 0)=w2 at *;clear ac a9 b9 be a6;go_loopw [14] (fun iv wr=>∃ (k m:Nat) (D:DataW Value) (V:Str->Value),k<=n/\m<=100000*k/\iv= .int .i64 k/\Hid (MI wr mb m w D (Cn ((l.take k).map mZ)) V)/\Hid (Blk wr w 53 #[(),()])/\Hid (Below w w wr)) (fun iv _=>n-(intOf iv).toNat)
 case atStart=>exact⟨0,0, .map [],fun _=> .slice none 0 0,mw,mw,rfl,bn.out,cq.out,bx.out⟩
 case round=>
  obtain⟨k,m,D,V,hk,hm,rfl,HM,HX,HB⟩:=hrel;clear bn cq bx;obtain⟨w0,rfl⟩:=ii wr;by_cases cT:k<n
  ·have gk:=ic ((k:Int)<n);have dj:=ic (k<n);have x0:(0:Int)<=(k:Int):=mw;have x1:(k:Int)<(n:Int):=mw;obtain⟨b,dy,r,rfl,dx,hg,c0,c1,c2,c3⟩:=Row.rec (ha.below HB.out) HN.out cT;have bb:=Be hg;have E1:=hid (fun wx=>D1.out wx r bb);have dp:=an.out r bb;have cj:EJ (mZ r):=WI _ _;have ab:∀s∈mZ r,1<=s.length/\s.length<=25:=fun s hs=>QI hs;have bd:(l.take (k+1)).map mZ=(l.take k).map mZ++ [mZ r]:=(by rw[Cj,hg,EP];rfl);have ak:((l.take k).map mZ).length=k:=(by rw[Bb,AZ,HN.out];omega);obtain⟨TS,a3⟩:=ii ((l.take k).map mZ);rw[<-a3]at bd ak HM;have au:=hid bd;have b5:=hid ak;have cE:=hid cj;have dg:=hid ab;clear hg bb cj ab bd ak a3;generalize mZ r=T at *;obtain⟨q,hq⟩:=ii T.length;rw[<-hq]at E1 dp;have HQ:=hid hq;clear hq;go_wp2_with fail;have aq:Below w0 w0 (w0.alloc (.cells #[.int .u64 r.time, .int .u8 r.level, .string r.source, .string r.text] 43)):=aZ (Ag _ _);generalize w0.alloc (.cells #[.int .u64 r.time, .int .u8 r.level, .string r.source, .string r.text] 43)=w3 at *;have L:=hid (HM.out.step aq);have ah:=hid (HX.out.step aq);have U:Hid (Below w w w3):=dZ aq HB.out;clear aq HM HX HB c0 c1 c2 c3;refine(E1.out _).mono ?_;rintro e w4 ⟨v4,rfl,a5,ag⟩;obtain⟨A4,c4,rfl⟩:=bZ a5;have b6:=hid (L.out.step ag);have co:=hid (ah.out.step ag);have bj:Hid (Below w w w4):=dZ ag U.out;have cv:=hid a5;have cu:=ag.size;have dq:=bj.out.size;clear ag a5 E1 L ah U;go_wp2_with fail;go_loopw [22] (fun jv wr=>∃ (j m':Nat) (D':DataW Value) (V':Str->Value),j<=q/\m'<=m+j/\jv= .int .i64 j/\Hid (MI wr mb m' w D' (Ga TS T j) V')/\Hid (wr.ownsRow w3 9 1 (.slice A4 q c4) q (Ba T))/\Hid (Blk wr w 53 #[(),()])/\Hid (Below w w wr)) (fun jv _=>q-(intOf jv).toNat)
   case atStart=>exact⟨0,m,D,V,mw,mw,rfl,(by show MI _ _ _ _ _ _ _;rw[Zk];exact b6.out),cv.out,co.out,bj.out⟩
   case round=>
    obtain⟨j,m',D',V',hj,dv,rfl,HM,HO,HX,HB⟩:=hrel;clear b6 cv co bj cu dq;obtain⟨wi,rfl⟩:=ii wr;by_cases dt:j<q
    ·have gj:=ic ((j:Int)<q);have bh:=ic (j<q);have y0:(0:Int)<=(j:Int):=mw;have y1:(j:Int)<(q:Int):=mw;obtain⟨t,ht⟩:∃t,T[j]? =some t:=⟨_,Az lx⟩;obtain⟨g,cg,bl,cF,_⟩:=HO.out.form mw;injection bl with hA1 hA2 hA3;subst hA1 hA3;have ck:wi.cell? ⟨g,j,none⟩=some (.string (bs t)):=(by rw[HO.out.cellAt j mw];exact LH ht);have cr:=dg.out t (Be ht);have bg:=YZ (ts:=TS) cE.out ht;rw[b5.out]at bg;have cd:=hid bg;obtain⟨A5,c5,hV⟩:=bZ (HM.out.row t);have ar:=HM.out.look t pm;have Z:=HM.out.row t;rw[hV]at ar Z
     have cH:(Ga TS T j t).length<=20001:=by
      have h1:=OM TS t;have h2:=b5.out;unfold Ga;rw[Ae];split
      ·simp only[List.length_singleton];omega
      ·simp only[List.length_nil];omega
     obtain⟨p,hp⟩:=ii ((Ga TS T j t).length);have dl:=hid hp;rw[<-hp]at ar Z cH hV;have J:=hid Z;have HV:=hid hV;have az:=hid cr;have bu:=HB.out.size;have a6:m'<maxLen:=pm;clear ht cr bg hV Z hp HQ;go_wp2_with(at_builtin;refine iZ rfl (.tmp 30) (.tmp 32) 37 rfl w 3 j0 _ 1 8 underlying37 cw dc cy dh rfl ip _ _ _ mz (J.out.alloc _) _ 1 1 [.int .i64 (k:Nat)] mz (Src.of_blk (Blk.made _ _ _) 1 1 1 rfl) mj pm mw oT ?_;intro v6 w6 h E Y;have b7:(some mb:Option Nat)≠(Value.slice A5 p c5).ownBlock:=(fun e=>J2 HM.out J.out e.symm rfl);have bc:=(HM.out.map.alloc (.cells #[.int .i64 (k:Nat)] 3)).kept E b7;obtain⟨w7,ds,bN,b4⟩:=bc.update (string_keyed underlying9) underlying153 a6 (OX t (by have:=az.out;unfold maxLen;omega)) (show Km v6=some (.held v6,[]) from rfl);have H6:=hid (And.intro h (And.intro E (And.intro Y bc)));have H7:=hid (And.intro bN b4);clear h E Y b7 bc bN b4);have ba:Hid (MI w7 mb (m'+1) w (D'.put (.string t) (.held v6)) (Ga TS T (j+1)) (fun s=>if s=t then v6 else V' s)):=(by show MI _ _ _ _ _ _ _;rw[<-cd.out];exact MI.put HM.out az.out.2 (aZ (Ag _ _)) (by rw[HV.out];exact H6.out.2.1) (by rw[<-dl.out];exact H6.out.1) (by rw[HV.out];exact H6.out.2.2.1.imp_right fun e=>⟨_,e,Ak _⟩) H7.out.1 H7.out.2);have cL:Hid (w7.ownsRow w3 9 1 (.slice (some ⟨g,0,none⟩) q c4) q (Ba T)):=cI H6.out.2.2.2 (M9 (HO.out.alloc _) (J.out.alloc _) ip H6.out.2.1) H7.out.2;have df:Hid (Blk w7 w 53 #[(),()]):=bA H6.out.2.2.2 ((HX.out.alloc _).grown H6.out.2.1 (fun e=>gZ J.out HX.out ip e.symm)) H7.out.2;have cz:Hid (Below w w w7):=((nZ bu HB.out).grown H6.out.2.1 oT (fun y hy=>(Aj J.out y hy).1)).grown H7.out.2 (by have:=(nZ (o:= .cells #[.int .i64 (k:Nat)] 3) bu HB.out).size;have:=H6.out.2.1.size;omega) (fun y hy=>by injection hy with hy;rw[<-hy];exact cx.out);clear H6 H7 HM HO HX HB J HV cd;go_roundw
     case measure=>exact jo
     case rel=>go_light;exact⟨j+1,m'+1,_,_,mw,mw,iu,ba.out,cL.out,df.out,cz.out⟩
    ·obtain rfl:j=q:=by omega
     have gj:=ig ((j:Int)<j);have bh:=ig (j<j);have ba:Hid (MI wi mb m' w D' (Cn ((l.take (k+1)).map mZ)) V'):=(by show MI _ _ _ _ _ _ _;rw[au.out,<-mK,<-HQ.out];exact HM.out);clear HM HQ;go_wp2_with fail;go_roundw
     case measure=>exact jo
     case rel=>go_light;exact⟨k+1,m',D',V',mw,mw,iu,ba.out,HX.out,HB.out⟩
  ·obtain rfl:k=n:=by omega
   have gk:=ig ((k:Int)<k);have dj:=ig (k<k);have a1:l.take k=l:=BQ nm;rw[a1]at HM;have ae:(l.map mZ).length=k:=(by rw[Bb,HN.out]);obtain⟨TS,ab⟩:=ii (l.map mZ);rw[<-ab]at HM ae;have af:=hid ab;have bS:=hid ae;clear a1 ab ae D1 an ha;have ac:Blk (w0.alloc (.cells #[(),()] 53)) w0 53 #[(),()]:=Blk.made _ _ _;have ax:Below w0 w0 (w0.alloc (.cells #[(),()] 53)):=aZ (Ag _ _);obtain⟨bo,bp⟩:=ii w0.heap.size;go_wp2_with fail;rw[<-bp]at ac ⊢;have cm:w.heap.size<bo:=(by rw[bp];exact HX.out.lt);generalize w0.alloc (.cells #[(),()] 53)=w3 at *;have L:=hid (HM.out.step ax);have ah:=hid (HX.out.step ax);have U:Hid (Below w w w3):=dZ ax HB.out;have ay:=hid ac;have b8:=lQ L.out.map;have bC:m<=2000000000:=mw;have DK:=hid (callsIn_wide.1 (Tryz.maps_Keys_108 (some mb) w3));have DS:=hid (callsIn_wide.1 (Tryz.slices_Sorted_keys_107_108 mb m D Km w3 L.out.map pm mw));clear ax ac HM HX HB bp;refine DK.out.mono ?_;rintro e w4 ⟨rfl,rfl⟩;clear DK;go_wp2_with fail;refine DS.out.mono ?_;rintro e w5 ⟨vS,ss,rfl,Q,ai,cp,cc⟩;have N:=L.out.keys Q (Vk TS) (OI TS);have bk:ss.length=(AV TS).length:=(by rw[<-N];exact(List.length_mergeSort ss).symm);rw[bk,show ss.mergeSort (fun x y=>decide (x<=y))=AV TS from N,iS]at ai;have G:Below w3 w3 w5:=dZ cc (aZ (Ag _ _));have z:w5.ownsRow w 9 1 vS (AV TS).length (Ba (AV TS)):=kZ ai (by have:=U.out.size;simp;omega);obtain⟨SS,aw⟩:=ii (AV TS);rw[<-aw]at z;have di:SS.length<=2000000000:=(by rw[aw,<-bk,Q.length_eq];refine AK ?_ (AK b8 bC);unfold strKeys Maps.size;cases D<;>simp);obtain⟨q,hq⟩:=ii SS.length;rw[<-hq]at z di;obtain⟨AS,cS,rfl⟩:=bZ z
   have bf:Hid (St3 w5 mb m w w bo w5 D (Cn TS) V (.slice AS q cS) (.slice none 0 0) (.slice none 0 0) q 0 0 SS):=
    ⟨L.out.step G,ah.out.step G,ay.out.step G,mw,AI _ _ _ _,AI _ _ _ _,z,fun g hg=>(Aj z g hg).2,by have:=U.out.size;have:=G.size;omega,Ak _⟩
   have cl:Hid (Below w w w5):=dZ G U.out;have HQ:=hid hq;have aa:=hid aw;have da:Hid (∀s∈SS,s.length<=25):=fun s hs=>L.out.long s ((OI TS s).1 (by rw[<-aa.out];exact hs));have du:Hid (∀s,(Cn TS s).length<=20000):=fun s=>by have h1:=OM TS s;have h2:=bS.out;omega
   obtain⟨B2,bt⟩:=ii w5.heap.size;rw[<-bt]at bf;clear Q ai cp cc N bk G z hq aw DS L ah ay U bt b8 bC;obtain⟨i0,cX,dm,de,cC⟩:=info_parts OS;obtain⟨i1,cP,cA,dd,cG⟩:=info_parts ZH;go_wp2_with fail;go_loopw [40] (fun iv wr=>∃ (k2:Nat) (vT vL:Value),k2<=q/\iv= .int .i64 k2/\Hid (St3 wr mb m w w bo B2 D (Cn TS) V (.slice AS q cS) vT vL q k2 k2 SS)/\Hid (Below w w wr)) (fun iv _=>q-(intOf iv).toNat)
   case atStart=>exact⟨0,_,_,mw,rfl,bf.out,cl.out⟩
   case round=>
    obtain⟨k2,vT,vL,dz,rfl,HS,HB⟩:=hrel;clear bf cl;by_cases ak:k2<q
    ·have gj:=ic ((k2:Int)<q);have bh:=ic (k2<q);have y0:(0:Int)<=(k2:Int):=mw;have y1:(k2:Int)<(q:Int):=mw;obtain⟨t,ht⟩:∃t,SS[k2]? =some t:=⟨_,Az lx⟩;obtain⟨g,cg,bl,cF,_⟩:=HS.out.ss.form mw;injection bl with hA1 hA2 hA3;subst hA1 hA3;have ck:wr.cell? ⟨g,k2,none⟩=some (.string (bs t)):=(by rw[HS.out.ss.cellAt k2 mw];exact LH ht);have ca:SS.take (k2+1)=SS.take k2++ [t]:=(by rw[Cj,ht];rfl);have au:=hid ca;have bq:=da.out t (Be ht);have an:=hid bq;obtain⟨A5,c5,rfl⟩:=bZ HS.out.tt;obtain⟨A8,c8,rfl⟩:=bZ HS.out.ll;obtain⟨A7,c7,hV⟩:=bZ (HS.out.mi.row t);have HV:=hid hV;have b0:=HS.out.box.ia 0;have dk:=HB.out.size;have dr:=HS.out.bz;have a0:=HS.out.b2;obtain⟨p,hp⟩:=ii ((Cn TS t).length);rw[<-hp]at HV;clear ht ca bq hV hp;go_wp2_with(first|(at_builtin;refine iZ rfl (.tmp 45) (.tmp 47) 50 rfl B2 9 i0 _ 1 16 underlying50 cX dm de cC rfl ip _ _ _ mz (HS.out.tt.alloc _) _ 1 1 [.string (bs t)] mz (Src.of_blk (Blk.made _ _ _) 1 1 1 rfl) mj pm mw oT ?_;intro v6 w6 h E Y;obtain⟨A6,c6,rfl⟩:=bZ h;have am:=HS.out.putT E (by rw[au.out,OG];exact h);have ar:=am.mi.look t (by have:=an.out;unfold maxLen;omega);rw[HV.out]at ar;have f6:=((HS.out.box.alloc _).grown E (fun e=>gZ HS.out.tt HS.out.box ip e.symm)).frozen 0;have e6:=((HS.out.box.alloc _).grown E (fun e=>gZ HS.out.tt HS.out.box ip e.symm)).cell 0;have dn:=((HS.out.box.alloc _).grown E (fun e=>gZ HS.out.tt HS.out.box ip e.symm)).cell 1;simp only[List.getElem?_toArray,List.getElem?_cons_zero,List.getElem?_cons_succ]at e6 dn;have al:Hid (Below w w w6):=(nZ dk HB.out).grown E oT (fun y hy=>AK a0 (Aj HS.out.tt y hy).1);have H6:=hid am;have ci:=am.bz;clear am h E Y)|(at_builtin;refine iZ rfl (.tmp 51) (.tmp 55) 51 rfl B2 37 i1 _ 1 24 underlying51 cP cA dd cG rfl ip _ _ _ mz (H6.out.ll.alloc _) _ 1 1 [.slice A7 p c7] mz (Src.of_blk (Blk.made_at _ _ _ oK) 1 1 1 rfl) mj pm mw (by simp at ci ⊢;omega) ?_;intro v9 w9 M aj cf;obtain⟨A9,c9,rfl⟩:=bZ M;have ct:=H6.out.putL aj (by rw[au.out,EP,List.map_singleton,HV.out];exact M);have f9:=((H6.out.box.alloc _).grown aj (fun e=>gZ H6.out.ll H6.out.box ip e.symm)).frozen 1;have e9:=((H6.out.box.alloc _).grown aj (fun e=>gZ H6.out.ll H6.out.box ip e.symm)).cell 1;simp only[List.getElem?_toArray,List.getElem?_cons_zero,List.getElem?_cons_succ]at e9;have ce:Hid (Below w w w9):=(nZ (by have:=al.out.size;simp;omega) (BW (Nat.le_of_lt cm) al.out)).grown aj (by have:=al.out.size;simp;omega) (fun y hy=>AK a0 (Aj H6.out.ll y hy).1);have H9:=hid ct;clear ct M aj cf));have cB:Hid (Below w w (w9.setCell ⟨bo,1,none⟩ (.slice A9 (k2+1) c9))):=BW (Nat.le_of_lt cm) ce.out;clear H6 al ce HS HB;go_roundw
     case measure=>exact jo
     case rel=>go_light;exact⟨k2+1,_,_,mw,iu,H9.out,cB.out⟩
    ·obtain rfl:k2=q:=by omega
     have gj:=ig ((k2:Int)<k2);have bh:=ig (k2<k2);obtain⟨A5,c5,rfl⟩:=bZ HS.out.tt;obtain⟨A8,c8,rfl⟩:=bZ HS.out.ll;have b0:=HS.out.box.ia 0;have b1:=HS.out.box.ia 1;have r0:=HS.out.res.ia 0;have r1:=HS.out.res.ia 1;have s0:=HS.out.res.frozen 0;have s1:=HS.out.res.frozen 1;go_wp2_with fail;have a4:SS.take k2=SS:=BQ (by rw[<-HQ.out];exact Ak _);have bm:=HS.out.tt;have bi:=HS.out.ll;rw[a4]at bm bi;have b3:=HS.out.b2;have n1:(Value.slice A5 k2 c5).ownBlock≠some w.heap.size:=gZ bm HS.out.res ip;have n2:(Value.slice A8 k2 c8).ownBlock≠some w.heap.size:=gZ bi HS.out.res ip;refine Cz (v:= .agg #[.slice A5 k2 c5, .slice A8 k2 c8]) ?_ rfl ⟨_,_,SS.map V,rfl,⟨?_,?_,?_⟩,?_⟩
     ·have e0:=(HS.out.res.set 0 (.slice A5 k2 c5)).cell 0;have e1:=((HS.out.res.set 0 (.slice A5 k2 c5)).set 1 (.slice A8 k2 c8)).cell 1;simp at e0 e1;simp[results,results52,go_sem,e0,e1]
     ·rw[<-af.out,<-aa.out,<-HQ.out];exact EX (EX (kZ bm b3) n1 _) n1 _
     ·rw[<-af.out,<-aa.out,Bb,<-HQ.out];exact EX (EX (kZ bi b3) n2 _) n2 _
     ·intro i v dw hv hi;rw[<-af.out,<-aa.out]at hi;rw[BG]at hv hi;cases hs:SS[i]? with
      |none=>rw[hs]at hv;cases hv
      |some s=>rw[hs]at hv hi;injection hv with hv;injection hi with hi;subst hv hi;have hn:=gZ (HS.out.mi.row s) HS.out.res ip;exact EX (EX (HS.out.mi.row s) hn _) hn _
     ·exact BW (Ak _) (BW (Ak _) HB.out)
end Idx
namespace Idx
open Go.RowKit Mem Own Canon
open NumPut (fZ qZ CU)
open Ef (efO BX Fh Da DQ G7 unary Jv G0 LJ efW)
open Huff (bytesOf bytesOf_length)
def Dd(bound:Nat)(ls:List (List Nat)):List Nat:=ls.flatMap (efO bound)
def ixO(size bound:Nat)(ts:List Str)(ls:List (List Nat)):List Nat:=C8 size ts++Dd bound ls
theorem XI(bound:Nat)(ls:List (List Nat))(k:Nat)(x:List Nat)(h:ls[k]? =some x):Dd bound (ls.take (k+1))=Dd bound (ls.take k)++efO bound x:=by unfold Dd;rw[Cj,h];simp
theorem Ln:∀ (l:List Nat) (i B:Nat),i<=B->(∀x∈l,i<=x/\x<=B)->l.Pairwise (·<= ·)->(DQ i l).length+i<=B+l.length
 | [],i,B,hw,_,_=>by simp[DQ];exact hw
 |x :: t,i,B,hw,h,hp=>by rw[Fp]at hp;have hx:=h x Cu;have ih:=Ln t x B hx.2 (fun y hy=>⟨hp.1 y hy,(h y (BR _ hy)).2⟩) hp.2;rw[DQ,Ae,Jv,AD];omega
theorem Nh:∀ (bound:Nat) (l:List Nat) (u:Option Nat),BX bound u l=true->l.Pairwise (·<= ·)/\∀y,u=some y->∀x∈l,y<=x
 |_,[],_,_=>⟨List.Pairwise.nil,fun _ _ _ hx=>by cases hx⟩
 |bound,a :: t,u,h=>by
  rw[BX,BV]at h;have ih:=Nh bound t (some a) h.2;have ha:∀y,u=some y->y<=a:=fun y hy=>by have h1:=h.1;unfold Ef.Hh at h1;rw[hy,BV]at h1;have:=h1.2;simp at this;omega
  refine⟨Fp.2 ⟨fun x hx=>ih.2 a rfl x hx,ih.1⟩,fun y hy x hx=> ?_⟩;rcases AM.1 hx with rfl|hx
  ·exact ha y hy
  ·exact AK (ha y hy) (ih.2 a rfl x hx)
theorem Zb(hb:bound<=20000)(hm:BX bound none l=true)(hn:l.length<=bound):(efO bound l).length<=45010:=by
 unfold efO;split
 ·have:=qZ (x:=0) mw;omega
 ·rename_i h0;have h1:1<=l.length:=Fv.2 h0;have hq:1<=bound / l.length:=(Nat.one_le_div_iff mw).2 hn;have hW:efW bound l.length<=14:=by refine Jk fun h=> ?_;have h2:2 ^ 15<=2 ^ efW bound l.length:=Cc mw mw;have h3:=Ef.Ke (q:=bound / l.length) mw;have h4:bound / l.length<=bound:=Hc _ _;unfold efW at h2;omega
  have G:=qZ (x:=l.length) mw;have i:=G7 (efW bound l.length) l;have E:l.length*efW bound l.length<=20000*14:=Hb mw hW;have z:=G0 bound l none hm;have hp:=(Nh bound l none hm).1;have j:=Ln (l.map (·/ 2 ^ efW bound l.length)) 0 bound mw (fun x hx=>by obtain⟨y,hy,rfl⟩:=Ck.1 hx;exact⟨Cr _,AK (Hc _ _) (by have:=z y hy;omega)⟩) (List.Pairwise.map _ (fun a b h=>Nat.div_le_div_right h) hp);rw[Bb]at j;rw[Ae,bytesOf_length];unfold Fh;rw[Ae,i];omega
theorem SP:∀ (bound:Nat) (l:List Nat) (u:Option Nat),BX bound u l=true->l.length+(match u with|none=>0|some y=>y+1)<=bound∨l= []
 |_,[],_,_=> .inr rfl
 |bound,a :: t,u,h=>by
  have h':=h;rw[BX,BV]at h';have i:=G0 bound (a :: t) u h a Cu;have h1:=h'.1;unfold Ef.Hh at h1;rw[BV]at h1;refine .inl ?_;rcases SP bound t (some a) h'.2 with ih|ih
  ·simp only at ih;cases u with
   |none=>simp only[List.length_cons];omega
   |some y=>have:=h1.2;simp at this;simp only[List.length_cons];omega
  ·subst ih;cases u with
   |none=>simp only[List.length_cons,List.length_nil];omega
   |some y=>have:=h1.2;simp at this;simp only[List.length_cons,List.length_nil];omega
theorem PC(h:BX bound none l=true)(h0:l≠ []):1<=l.length/\l.length<=bound:=by
 have h1:1<=l.length:=Fv.2 h0;rcases SP bound l none h with h2|h2
 ·exact⟨h1,pg⟩
 ·exact absurd h2 h0
def GU(bound:Nat)(ls:List (List Nat)):Bool:=ls.all (BX bound none)
theorem SJ(h:GU bound ls=true)(hx:ls[k]? =some x):BX bound none x=true:=FJ.1 h x (Be hx)
theorem gM(hb:bound<=20000)(h0:∀l∈ls,l≠ [])(hm:GU bound ls=true):(Dd bound ls).length<=45010*ls.length:=by
 induction ls with
 |nil=>simp[Dd]
 |cons x t ih=>unfold GU at hm ih;rw[List.all_cons,BV]at hm;have ih:=ih (fun l hl=>h0 l (BR _ hl)) hm.2;have hx:=Zb hb hm.1 (PC hm.1 (h0 x Cu)).2;unfold Dd at ih ⊢;rw[Cm,Ae,AD];omega
theorem Yk{size:Nat}{l:List Str}(hm:FM l=true)(h1:1<=size)(h2:size<=64)(hN:l.length<=20000):(C8 size l).length<=820010:=by have hs:∀s∈l,s.length<=25:=fun s hs=>(Jc hm s hs).2;have a:=MS hs h2 mw (nCh size l.length);have b:=Nf hs h1 (nCh size l.length);have c:=LX (n:=l.length) h1;have e:C8 size l=hdB size l (nCh size l.length)++bdB size l (nCh size l.length):=Of h1 l;rw[e,Ae];omega
theorem IxAt.step{ts:List Str}(h:IxAt w base vT vL vals ts ls)(hb:Below w w w'):IxAt w' base vT vL vals ts ls:=
 ⟨eZ h.t fun y hy=>hb.block y (Aj h.t y hy).2,eZ h.l fun y hy=>hb.block y (Aj h.l y hy).2,fun i v ids hv hi=>eZ (h.r i v ids hv hi) fun y hy=>hb.block y (Aj (h.r i v ids hv hi) y hy).2⟩
theorem IxAt.len{ts:List Str}(h:IxAt w base vT vL vals ts ls):vals.length=ls.length:=by have:=h.l.1;omega
end Idx
namespace Body
open Recs Opts Crc Idx
open NumPut (fZ qZ CU)
open Block (Bm)
open Go.Proofs.YtfgdoknipbpfhaaGreatDoor.One (Ot Ly Oh Oa)
def CE(wh pl:Bool):List Nat->List Rec->List (List Nat)
 | [],_=> []
 |c :: t,l=>Bm (xZ wh (l.take c)) pl :: CE wh pl t (l.drop c)
def vZ(o:Opt)(l:List Rec):List Nat:=G2 o.block.toNat (Eo false l)
def A0:List Nat->List Nat->List Nat
 |a :: g,b :: s=>fZ a++(fZ b++A0 g s)
 |_,_=> []
def AN(b:List Nat):List Nat:=b++CJ (Ce b)
def Ea(n:Nat)(G S:List Nat)(x y:Nat):List Nat:=fZ n++(fZ G.length++(A0 G S++(fZ x++fZ y)))
def EC(n:Nat)(G:List Nat)(FS:List (List Nat))(cols idx:List Nat):List Nat:=
 FS.flatten++(AN cols++(AN idx++(AN (Ea n G (FS.map List.length) (AN cols).length (AN idx).length)++CD (AN (Ea n G (FS.map List.length) (AN cols).length (AN idx).length)).length)))
def ixR(o:Opt)(l:List Rec):List Nat:=ixO o.bucket.toNat l.length (AV (l.map mZ)) ((AV (l.map mZ)).map (Cn (l.map mZ)))
def Co(o:Opt)(l:List Rec):List Nat:=EC l.length (vZ o l) (CE false o.plain (vZ o l) l) (C9 l) (ixR o l)
theorem Dp(b:List Nat):(AN b).length=b.length+4:=by unfold AN;rw[Ae];rfl
theorem OF{b:List Nat}(h:∀x∈b,x<=255):∀x∈AN b,x<=255:=fun x hx=>by
 rcases BF.1 hx with hx|hx
 ·exact h x hx
 ·have:=Qf _ x hx;omega
theorem Uy:∀ (g s:List Nat) (a b:Nat),g.length=s.length->A0 (g++ [a]) (s++ [b])=A0 g s++(fZ a++fZ b)
 | [],[],a,b,_=>by simp[A0]
 |x :: g,y :: s,a,b,h=>by rw[DH,DH,A0,Uy g s a b pf,A0];simp only[List.append_assoc]
 | [],_ :: _,_,_,h=>oL
 |_ :: _,[],_,_,h=>oL
theorem Uk{g s:List Nat}{a b:Nat}(ha:g[k]? =some a)(hb:s[k]? =some b):A0 (g.take (k+1)) (s.take (k+1))=A0 (g.take k) (s.take k)++(fZ a++fZ b):=by obtain⟨hk,_⟩:=Cv.1 ha;obtain⟨h,_⟩:=Cv.1 hb;rw[Cj,ha,Cj,hb];exact Uy _ _ a b (by rw[AZ,AZ];omega)
theorem Qx:∀ (g s:List Nat),(∀x∈g,x<18446744073709551616)->(∀x∈s,x<18446744073709551616)->(A0 g s).length<=20*g.length
 | [],_,_,_=>by simp[A0]
 |_ :: _,[],_,_=>by simp[A0]
 |x :: g,y :: s,h1,h2=>by have a:=qZ (h1 x Cu);have b:=qZ (h2 y Cu);have c:=Qx g s (fun z hz=>h1 z (BR _ hz)) (fun z hz=>h2 z (BR _ hz));rw[A0,Ae,Ae,AD];omega
theorem Sy:∀ (g s:List Nat),∀x∈A0 g s,x<=255
 | [],_,x,h=>by simp[A0]at h
 |_ :: _,[],x,h=>by simp[A0]at h
 |a :: g,b :: s,x,h=>by
  rw[A0]at h;rcases BF.1 h with h|h
  ·exact CU _ x h
  ·rcases BF.1 h with h|h
   ·exact CU _ x h
   ·exact Sy g s x h
theorem OC(n:Nat)(G S:List Nat)(x y:Nat):∀z∈Ea n G S x y,z<=255:=fun z h=>by
 unfold Ea at h;simp only[List.mem_append]at h;rcases h with h|h|h|h|h
 ·exact CU _ z h
 ·exact CU _ z h
 ·exact Sy _ _ z h
 ·exact CU _ z h
 ·exact CU _ z h
theorem NX{G S:List Nat}{x y:Nat}(hn:n<=1000000000)(hg:G.length<=1000000000)(h1:∀z∈G,z<=1000000000)(h2:∀z∈S,z<=1000000000)(hx:x<=1000000000)(hy:y<=1000000000):(Ea n G S x y).length<=40+20*G.length:=by have a:=qZ (x:=n) mw;have b:=qZ (x:=G.length) mw;have c:=qZ (x:=x) mw;have d:=qZ (x:=y) mw;have e:=Qx G S (fun z hz=>by have:=h1 z hz;omega) (fun z hz=>by have:=h2 z hz;omega);unfold Ea;simp only[List.length_append];omega
theorem PK(wh pl:Bool):∀ (cs:List Nat) (l:List Rec),(CE wh pl cs l).length=cs.length
 | [],_=>rfl
 |c :: t,l=>by rw[CE,AD,PK wh pl t,AD]
theorem Kn(wh pl:Bool):∀ (cs:List Nat) (l:List Rec),(xZ wh l).length<=16000->(CE wh pl cs l).flatten.length<=(xZ wh l).length+25*cs.length
 | [],_,_=>by simp[CE]
 |c :: t,l,h=>by have hs:=One.MY wh l c;have ih:=Kn wh pl t (l.drop c) mw;have hf:=One.U5 (bs:=xZ wh (l.take c)) pl mw;rw[CE,List.flatten_cons,Ae,AD];omega
theorem JK(o:Opt)(l:List Rec):(vZ o l).sum=l.length:=by unfold vZ;rw[Ot,Oa]
theorem Kk(o:Opt)(l:List Rec):(vZ o l).length<=l.length:=by have:=Oh (Ly o.block.toNat (Eo false l));rw[Ot,Oa]at this;exact this
theorem IJ:∀ {l:List Nat} {x:Nat},x∈l->x<=l.sum
 |y :: t,x,h=>by
  rw[Fo];rcases AM.1 h with rfl|h
  ·omega
  ·have:=IJ h;omega
end Body
namespace Body
open Go.RowKit Mem Own Canon Recs
open NumPut
open Block (lZ)
theorem SG{x:Nat}(h:l[k]? =some x):(l.take (k+1)).sum=(l.take k).sum+x:=by rw[Cj,h];simp
theorem JD(l:List Nat)(k:Nat):(l.take k).sum<=l.sum:=by
 conv=>rhs;rw[<-EA k l]
 rw[Nm];omega
theorem KR(w:World)(A:Option Addr)(n c:Nat)(ls:List Nat)(hn:ls.length=n)(hN:n<=1000000)(hs:ls.sum<=1000000000000000)(ha:Row w w A n 1 (jZ .i64 ls)):
 Calls prog 64 #[.slice A n c] w fun e w'=>e= .returned (.int .i64 (ls.sum:Nat))/\w'=w:=by
 have HN:=hid hn;obtain⟨R,hR⟩:=ii ls.sum;have HR:=hid hR;rw[<-hR]at hs ⊢;clear hn hR;go_enter func64,ntmps64;go_wp2_with fail;go_loopw [3,8] (fun sv iv wx=>∃k s:Nat,k<=n/\s<=R/\iv= .int .i64 k/\sv= .int .i64 s/\Hid (s=(ls.take k).sum)/\wx=w) (fun _ iv _=>n-(intOf iv).toNat)
 case atStart=>exact⟨0,0,mw,mw,rfl,rfl,rfl,rfl⟩
 case round=>
  obtain⟨k,s,hk,G,rfl,rfl,HS,rfl⟩:=hrel;by_cases j:k<n
  ·have gk:=ic ((k:Int)<n);have E:=ic (k<n);have x0:(0:Int)<=(k:Int):=mw;have x1:(k:Int)<(n:Int):=mw;obtain⟨b,J,x,rfl,_,hx,ck⟩:=Cx ha HN.out j;have h:=SG hx;have i:=JD ls (k+1);rw[h,<-HS.out,<-HR.out]at i;have z:Hid (s+x=(ls.take (k+1)).sum):=(by show _=_;rw[h,HS.out]);have s1:IntKind.i64.wrap ((s:Int)+(x:Int))=((s+x:Nat):Int):=m8;clear h hx HS;go_wp2_with fail;go_roundw
   case measure=>exact jo
   case rel=>go_light;exact⟨k+1,s+x,mw,i,iu,iu,z.out,ix⟩
  ·obtain rfl:k=n:=by omega
   have gk:=ig ((k:Int)<k);have E:=ig (k<k);have y:s=R:=(by rw[HS.out,HR.out,BQ nm]);subst y;clear HS HR j;go_wp2_with fail;go_ret;exact⟨rfl,rfl⟩
theorem sum_any(w:World)(A:Option Addr)(n c:Nat)(ls:List Nat)(hn:ls.length=n)(hN:n<=1000000)(hs:ls.sum<=1000000000)(ha:Row w w A n 1 (jZ .i64 ls)):
 Calls prog 64 #[.slice A n c] w fun e w'=>e= .returned (.int .i64 (ls.sum:Nat))/\w'=w:=KR w A n c ls hn hN mw ha
theorem Zt(w:World)(db g cG cS x y base:Nat)(AG AS:Option Addr)(G S:List Nat)(hg:G.length=g)(hs:S.length=g)(be:g<=20000)(hG:G.sum<=1000000000)(hS:∀z∈S,z<=1000000000)(hx:x<=1000000000)(hy:y<=1000000000)
 (hb:Blk w db 87 #[.slice AG g cG, .slice AS g cS, .int .i64 (x:Nat), .int .i64 (y:Nat)])(ab:Row w base AG g 1 (jZ .i64 G))(aj:Row w base AS g 1 (jZ .i64 S))(M:base<=w.heap.size):
 Calls prog 53 #[.pointer (some ⟨db,0,none⟩)] w fun e w'=>∃v,e= .returned v/\w'.ownsRow w 5 1 v (Ea G.sum G S x y).length (cZ .u8 (Ea G.sum G S x y))/\Below w w w':=by
 have DS:=hid (fun wx (h:Below w w wx)=>sum_any wx AG g cG G hg mw hG (((ab.mono M).below h).mono h.size));have D1:=hid (fun wx=>FW wx G.sum mw);have D2:=hid (fun wx=>FW wx g mw);have l1:=qZ (x:=G.sum) mw;have l2:=qZ (x:=g) mw;have ae:Ea G.sum G S x y=fZ G.sum++(fZ g++(A0 G S++(fZ x++fZ y))):=by unfold Ea;rw[hg]
 obtain⟨s,ai⟩:=ii G.sum;rw[<-ai]at DS D1 l1 hG ae ⊢;have ar:=hid ae;have u1:IntKind.u64.wrap (s:Int)=(s:Int):=m9
 have u2:IntKind.u64.wrap (g:Int)=(g:Int):=m9
 have au:∀z∈G,z<=1000000000:=fun z hz=>AK (IJ hz) mw;have aw:=hid au;have av:=hid hS;have HG:=hid hg;have HS:=hid hs;have az:Hid (Row w base AG g 1 (jZ .i64 G)):=ab;have bc:Hid (Row w base AS g 1 (jZ .i64 S)):=aj;have ac:=hid hb;have HC:Hid (∀wx,Below w w wx->wx.cell? ⟨db,0,none⟩=some (.slice AG g cG)):=fun wx h=>(hb.step h).cell 0;have bh:=hid ai;have c0:=hb.ia 0;have bj:=hb.lt;clear hg hs hS ae hb ab aj au ai;generalize fZ s=N1 at *;generalize fZ g=N2 at *;have a9:∀a1 a2 a3 a4,BI [(⟨a1,a2,N1⟩:Part),⟨a3,a4,N2⟩]<=1000000:=fun _ _ _ _=>oU
 go_enter func53,ntmps53;go_upto_region 1 with fail;go_cut [3] (fun v wx=>Hid (wx.ownsRow w 5 1 v (N1.length+N2.length) (cZ .u8 (N1++N2)))/\Hid (Below w w wx))
 case first=>
  go_region_held3 (fun wx=>wx.cell? ⟨db,0,none⟩=some (.slice AG g cG)) (first|exact HC.out _ ((Ag _ _).drew)|(refine HC.out _ ?_;(repeat (with_reducible first|exact Ag _ _|assumption|refine Ar ?_ |refine below_drewN ?_ _|refine sZ ?_ |refine aZ ?_ |refine dZ im ?_ |refine belA ?_ |refine tZ im ?_)))) (first|(go_at_call 64;(with_reducible refine(DS.out _ pn).mono ?_);rintro e wF ⟨rfl,rfl⟩)|(go_at_call 99;first|((with_reducible refine(D1.out _).mono ?_);rintro e wA ⟨vA,rfl,E,Y⟩;obtain⟨AA,cA,rfl⟩:=bZ E;have PA:Part.Ok (⟨AA,cA,N1⟩:Part) wA:=lZ E rfl)|((with_reducible refine(D2.out _).mono ?_);rintro e wB ⟨vB,rfl,J,Z⟩;obtain⟨AB,cB,rfl⟩:=bZ J;have PB:Part.Ok (⟨AB,cB,N2⟩:Part) wB:=lZ J rfl))|(go_at_call 55;(refine(Fz _ _ 2 [(⟨AA,cA,N1⟩:Part),(⟨AB,cB,N2⟩:Part)] rfl mw (a9 _ _ _ _) (fun p hp=>by{rcases AM.1 hp with rfl|hp;exact PA.step pn;rcases AM.1 hp with rfl|hp;exact PB.step pn;cases hp}) ir).mono ?_);rintro e w7 ⟨v7,rfl,j,N⟩;obtain⟨A7,c7,rfl⟩:=bZ j;have B7:Below w w w7:=dZ N pn))
  all_goals
   have U:Hid (w7.ownsRow w 5 1 (.slice A7 (N1.length+N2.length) c7) (N1.length+N2.length) (cZ .u8 (N1++N2))):=(by have h:=kZ j (show w.heap.size<=_ from Below.size pn);simp only[List.flatMap_cons,List.flatMap_nil,List.append_nil,List.length_append]at h;exact h);have Q:=hid B7;go_wp2_with fail;go_meet
   case rel=>go_light;exact⟨U.out,Q.out⟩
 case rest=>
  obtain⟨aq,ag⟩:=hcut;have ax:=HC.out _ ag.out;clear c0;go_wp2_with fail;have an:Hid (wc.ownsRow w 5 1 u3 (N1++N2++A0 (G.take 0) (S.take 0)).length (cZ .u8 (N1++N2++A0 (G.take 0) (S.take 0)))):=by have e:N1++N2++A0 (G.take 0) (S.take 0)=N1++N2:=(by simp[A0]);show World.ownsRow _ _ _ _ _ _ _;rw[e,Ae];exact aq.out
  have al:Hid ((N1++N2++A0 (G.take 0) (S.take 0)).length<=20+20*0):=by show _<=_;simp[A0];omega
  clear ax aq;go_loopw [3,27] (fun ov iv wr=>∃k:Nat,k<=g/\iv= .int .i64 k/\Hid (wr.ownsRow w 5 1 ov (N1++N2++A0 (G.take k) (S.take k)).length (cZ .u8 (N1++N2++A0 (G.take k) (S.take k))))/\Hid ((N1++N2++A0 (G.take k) (S.take k)).length<=20+20*k)/\Hid (Below w w wr)) (fun _ iv _=>g-(intOf iv).toNat)
  case atStart=>exact⟨0,mw,rfl,an.out,al.out,ag.out⟩
  case round=>
   obtain⟨k,hk,rfl,HO,HL,HB⟩:=hrel;clear an al ag;obtain⟨wi,rfl⟩:=ii wr;have hz:=HB.out.size;by_cases am:k<g
   ·have gk:=ic ((k:Int)<g);have bb:=ic (k<g);obtain⟨A3,c3,rfl⟩:=bZ HO.out;have x0:(0:Int)<=(k:Int):=mw;have x1:(k:Int)<(g:Int):=mw;obtain⟨bg,og,n,rfl,bf,hn,cn⟩:=Cx (az.out.keep fun p hp=>HB.out.cell (p:=p) (Eh hp M)) HG.out am;obtain⟨bs,os,z,rfl,bi,af,cz⟩:=Cx (bc.out.keep fun p hp=>HB.out.cell (p:=p) (Eh hp M)) HS.out am;have ay:=aw.out n (Be hn);have ba:=av.out z (Be af);have ak:=Uk hn af;have DA:=hid (fun wx=>FW wx n mw);have DB:=hid (fun wx=>FW wx z mw);have u3:IntKind.u64.wrap (n:Int)=(n:Int):=m9;have u4:IntKind.u64.wrap (z:Int)=(z:Int):=m9;have la:=qZ (x:=n) mw;have lb:=qZ (x:=z) mw;have L:Hid (∀wx,Below wi wi wx->wx.cell? ⟨db,1,none⟩=some (.slice (some ⟨bs,os,none⟩) g cS)/\wx.cell? ⟨bs,os+k,none⟩=some (.int .i64 (z:Nat))):=fun wx h=>⟨((ac.out.step HB.out).step h).cell 1,(h.cell (p:=⟨bs,os+k,none⟩) (by show bs<_;omega)).trans cz⟩;have PO:Hid (∀wx,Below wi wi wx->Part.Ok (⟨A3,c3,N1++N2++A0 (G.take k) (S.take k)⟩:Part) wx):=fun wx hb=>(lZ HO.out rfl).step hb;generalize fZ n=NA at *;generalize fZ z=NB at *;have aa:Hid (N1++N2++A0 (G.take (k+1)) (S.take (k+1))=N1++N2++A0 (G.take k) (S.take k)++(NA++NB)):=(by show _=_;rw[ak];simp only[List.append_assoc]);have a0:=HL.out;generalize N1++N2++A0 (G.take k) (S.take k)=i at *;have ah:∀a1 a2 a3 a4 a5 a6,BI [(⟨a1,a2,i⟩:Part),⟨a3,a4,NA⟩,⟨a5,a6,NB⟩]<=1000000:=fun _ _ _ _ _ _=>by simp[BI];omega
    have c1:=(L.out wi (Ag _ _)).1;clear hn af ak ay ba;go_upto_region 5 with fail;go_region_held3 (fun wx=>wx.cell? ⟨db,1,none⟩=some (.slice (some ⟨bs,os,none⟩) g cS)/\wx.cell? ⟨bs,os+k,none⟩=some (.int .i64 (z:Nat))) (first|exact L.out _ ((Ag _ _).drew)|(refine L.out _ ?_;(repeat (with_reducible first|exact Ag _ _|assumption|refine Ar ?_ |refine below_drewN ?_ _|refine sZ ?_ |refine aZ ?_ |refine dZ im ?_ |refine belA ?_ |refine tZ im ?_)))) (first|(go_at_call 99;first|((with_reducible refine(DA.out _).mono ?_);rintro e wA ⟨vA,rfl,E,Y⟩;obtain⟨AA,cA,rfl⟩:=bZ E;have PA:Part.Ok (⟨AA,cA,NA⟩:Part) wA:=lZ E rfl)|((with_reducible refine(DB.out _).mono ?_);rintro e wB ⟨vB,rfl,J,Z⟩;obtain⟨AB,cB,rfl⟩:=bZ J;have PB:Part.Ok (⟨AB,cB,NB⟩:Part) wB:=lZ J rfl))|(go_at_call 55;(refine(Fz _ _ 3 [(⟨A3,c3,i⟩:Part),(⟨AA,cA,NA⟩:Part),(⟨AB,cB,NB⟩:Part)] rfl mw (ah _ _ _ _ _ _) (fun p hp=>by{rcases AM.1 hp with rfl|hp;exact PO.out _ pn;rcases AM.1 hp with rfl|hp;exact PA.step pn;rcases AM.1 hp with rfl|hp;exact PB.step pn;cases hp}) ir).mono ?_);rintro e w7 ⟨v7,rfl,j,N⟩;obtain⟨A7,c7,rfl⟩:=bZ j;have B7:Below wi wi w7:=dZ N pn))
    all_goals
     have U:Hid (w7.ownsRow w 5 1 (.slice A7 (i.length+(NA.length+NB.length)) c7) (i.length+(NA.length+NB.length)) (cZ .u8 (i++(NA++NB)))):=(by have h:=kZ j (show w.heap.size<=_ from AK hz (Below.size pn));simp only[List.flatMap_cons,List.flatMap_nil,List.append_nil,List.length_append]at h;exact h);have Q:Hid (Below w w w7):=uZ B7 hz HB.out;have bd:Hid ((i++(NA++NB)).length<=20+20*(k+1)):=(by show _<=_;rw[Ae,Ae];omega);clear j N PA PB B7 HO HB HL PO E J Y Z L cn cz c1;go_wp2_with fail;go_roundw
     case measure=>exact jo
     case rel=>go_light;exact⟨k+1,mw,iu,by rw[aa.out,Ae,Ae];exact U.out,by rw[aa.out];exact bd.out,Q.out⟩
   ·obtain rfl:k=g:=by omega
    have gk:=ig ((k:Int)<k);have bb:=ig (k<k);have eG:G.take k=G:=BQ (by rw[HG.out];exact Ak _);have eS:S.take k=S:=BQ (by rw[HS.out];exact Ak _);rw[eG,eS]at HO HL;obtain⟨A3,c3,rfl⟩:=bZ HO.out;have DA:=hid (fun wx=>FW wx x mw);have DB:=hid (fun wx=>FW wx y mw);have u3:IntKind.u64.wrap (x:Int)=(x:Int):=m9;have u4:IntKind.u64.wrap (y:Int)=(y:Int):=m9;have la:=qZ (x:=x) mw;have lb:=qZ (x:=y) mw;have L:Hid (∀wx,Below wi wi wx->wx.cell? ⟨db,2,none⟩=some (.int .i64 (x:Nat))/\wx.cell? ⟨db,3,none⟩=some (.int .i64 (y:Nat))):=fun wx h=>⟨((ac.out.step HB.out).step h).cell 2,((ac.out.step HB.out).step h).cell 3⟩;have PO:Hid (∀wx,Below wi wi wx->Part.Ok (⟨A3,c3,N1++N2++A0 G S⟩:Part) wx):=fun wx hb=>(lZ HO.out rfl).step hb;generalize fZ x=NA at *;generalize fZ y=NB at *;have a0:=HL.out;have aa:Hid (Ea s G S x y=N1++N2++A0 G S++(NA++NB)):=(by show _=_;rw[ar.out];simp only[List.append_assoc]);generalize N1++N2++A0 G S=i at *;have ah:∀a1 a2 a3 a4 a5 a6,BI [(⟨a1,a2,i⟩:Part),⟨a3,a4,NA⟩,⟨a5,a6,NB⟩]<=1000000:=fun _ _ _ _ _ _=>oU
    clear eG eS ar;go_upto_region 7 with fail;go_region_held3 (fun wx=>wx.cell? ⟨db,2,none⟩=some (.int .i64 (x:Nat))/\wx.cell? ⟨db,3,none⟩=some (.int .i64 (y:Nat))) (first|exact L.out _ ((Ag _ _).drew)|(refine L.out _ ?_;(repeat (with_reducible first|exact Ag _ _|assumption|refine Ar ?_ |refine below_drewN ?_ _|refine sZ ?_ |refine aZ ?_ |refine dZ im ?_ |refine belA ?_ |refine tZ im ?_)))) (first|(go_at_call 99;first|((with_reducible refine(DA.out _).mono ?_);rintro e wA ⟨vA,rfl,E,Y⟩;obtain⟨AA,cA,rfl⟩:=bZ E;have PA:Part.Ok (⟨AA,cA,NA⟩:Part) wA:=lZ E rfl)|((with_reducible refine(DB.out _).mono ?_);rintro e wB ⟨vB,rfl,J,Z⟩;obtain⟨AB,cB,rfl⟩:=bZ J;have PB:Part.Ok (⟨AB,cB,NB⟩:Part) wB:=lZ J rfl))|(go_at_call 55;(refine(Fz _ _ 3 [(⟨A3,c3,i⟩:Part),(⟨AA,cA,NA⟩:Part),(⟨AB,cB,NB⟩:Part)] rfl mw (ah _ _ _ _ _ _) (fun p hp=>by{rcases AM.1 hp with rfl|hp;exact PO.out _ pn;rcases AM.1 hp with rfl|hp;exact PA.step pn;rcases AM.1 hp with rfl|hp;exact PB.step pn;cases hp}) ir).mono ?_);rintro e w7 ⟨v7,rfl,j,N⟩;obtain⟨A7,c7,rfl⟩:=bZ j;have B7:Below wi wi w7:=dZ N pn))
    all_goals
     have U:Hid (w7.ownsRow w 5 1 (.slice A7 (i.length+(NA.length+NB.length)) c7) (i.length+(NA.length+NB.length)) (cZ .u8 (i++(NA++NB)))):=(by have h:=kZ j (show w.heap.size<=_ from AK hz (Below.size pn));simp only[List.flatMap_cons,List.flatMap_nil,List.append_nil,List.length_append]at h;exact h);have Q:Hid (Below w w w7):=uZ B7 hz HB.out;clear j N PA PB B7 HO HB HL PO E J Y Z L;go_wp2_with fail;go_ret;exact⟨.slice A7 (i.length+(NA.length+NB.length)) c7,rfl,by rw[aa.out,Ae,Ae];exact U.out,Q.out⟩
end Body
namespace Body
open Go.RowKit Mem Own Canon
theorem fN(w:World)(A:Option Addr)(n c:Nat)(ls:List Nat)(hn:ls.length=n)(hN:n<=1000000)(ha:Row w w A n 1 (jZ .i64 ls)):
 Calls prog 192 #[.slice A n c,ij] w fun e w'=>∃r:Int,e= .returned (.int .i64 r)/\(0<=r↔0∈ls)/\w'=w:=by
 have HN:=hid hn;have H0:Hid (0 ∉ ls.take 0):=by simp[Hid]
 clear hn;go_enter func192,ntmps192;go_wp2_with fail;go_loopw [8] (fun iv wx=>∃k:Nat,k<=n/\iv= .int .i64 k/\Hid (0 ∉ ls.take k)/\wx=w) (fun iv _=>n-(intOf iv).toNat)
 case atStart=>exact⟨0,mw,rfl,H0.out,rfl⟩
 case round=>
  obtain⟨k,hk,rfl,HZ,rfl⟩:=hrel;by_cases j:k<n
  ·have gk:=ic ((k:Int)<n);have z:=ic (k<n);have x0:(0:Int)<=(k:Int):=mw;have x1:(k:Int)<(n:Int):=mw;obtain⟨b,E,x,rfl,_,hx,ck⟩:=Cx ha HN.out j;by_cases i:x=0
   ·have gz:((0:Int)==(x:Int))=true:=(by rw[i];rfl);have HF:Hid (0∈ls):=(by show 0∈ls;rw[<-i];exact Be hx);clear hx i HZ;go_wp2_with fail;go_ret;exact⟨(k:Int),rfl,⟨fun _=>HF.out,fun _=>mw⟩,rfl⟩
   ·have gz:((0:Int)==(x:Int))=false:=by rw[FG];omega
    have y:Hid (0 ∉ ls.take (k+1)):=by
     show ¬_;rw[Cj,hx];intro h;rcases BF.1 h with h|h
     ·exact HZ.out h
     ·simp at h;exact i h.symm
    clear hx i HZ;go_wp2_with fail;go_roundw
    case measure=>exact jo
    case rel=>go_light;exact⟨k+1,mw,iu,y.out,ix⟩
  ·obtain rfl:k=n:=by omega
   have gk:=ig ((k:Int)<k);have z:=ig (k<k);have HF:Hid (0 ∉ ls):=(by have h:=HZ.out;rw[BQ nm]at h;exact h);clear HZ j;go_wp2_with fail;go_ret;exact⟨-1,rfl,⟨fun h=>mw,fun h=>absurd h HF.out⟩,rfl⟩
theorem QZ(w:World)(A:Option Addr)(n c:Nat)(ls:List Nat)(hn:ls.length=n)(hN:n<=1000000)(ha:Row w w A n 1 (jZ .i64 ls)):
 Calls prog 115 #[.slice A n c,ij] w fun e w'=>e= .returned (.bool (decide (0∈ls)))/\w'=w:=by
 have D:=hid (fN w A n c ls hn hN ha);clear hn ha;go_enter func115,ntmps115;go_wp2_with fail;refine D.out.mono ?_;rintro e w1 ⟨r,rfl,hr,rfl⟩;have gr:decide ((0:Int)<=r)=decide (0∈ls):=by rw[decide_eq_decide];exact hr
 clear hr;go_wp2_with fail;go_ret;exact⟨rfl,rfl⟩
end Body
namespace Body
open Go.RowKit Mem Own Canon Nums
theorem kY:(prog.info? 3).map (fun i=>(i.zero,i.size,i.bytes))=some (some (.int .i64 0),1,8):=mr
def Ow(w:World)(gb:Nat)(t:TypeId)(rest:List Value)(room:Nat)(ls:List Nat)(e:Ending)(w':World):Prop:=
 e= .returned (.int .i64 (FK room ls))/\Kept (fun x=>x<w.heap.size/\x≠gb) w w'/\(FK room ls=0->∃vc vs,Blk w' gb t (vc :: vs :: .int .i64 (dP ls:Nat) :: .int .i64 (dQ ls:Nat) :: rest).toArray/\w'.ownsRow w 3 1 vc (Dh ls).length (cZ .i64 (Dh ls))/\w'.ownsRow w 3 1 vs (Ds ls).length (cZ .i64 (Ds ls))/\(∀y,vc.ownBlock=some y->vs.ownBlock≠some y))
theorem Xo(w:World)(gb:Nat)(t:TypeId)(x2 x3:Value)(rest:List Value)(A:Option Addr)(m c U:Nat)(ls:List Nat)(hB:Blk w gb t (.slice none 0 0 :: .slice none 0 0 :: x2 :: x3 :: rest).toArray)(cd:3≠t)(dk:5≠t)(hm:ls.length=m)(cB:m<=100000)(h8:∀x∈ls,x<=255)(b8:A=none->m=0/\c=0)(ha:Row w w A m 1 (jZ .u8 ls)):
 Calls prog 57 #[.pointer (some ⟨gb,0,none⟩), .slice A m c, .int .i64 (U:Nat)] w (Ow w gb t rest U ls):=by
 obtain⟨j0,cv,c5,cG,c7⟩:=info_parts kY;have D0:=hid (new_any w A m c ls hm cB b8 ha);have b5:ls.length<=100000:=mw
 have DI:=hid (fun wx g B d at_ er most (hm:most<=1000000000) h=>ID wx g w ls B d at_ er most b5 h8 hm h);have ay:=hid (fun wx g B d at_ er h=>Dl wx g w ls B d at_ er h);have a3:=hid (fun wx g B d at_ er h=>Tc wx g w ls B d at_ er h);obtain⟨R,hR⟩:=ii (FK U ls);unfold Ow;rw[<-hR];have a4:Eb ls<=20000:=FQ h8 _ _;have c4:GW ls<=20000:=AK (FQ h8 _ _) a4;have ak:Hid (∀ (most a:Nat) (er:Int),AY most ls a er<=most):=fun most a er=>FQ h8 a er;have cL:=Ox (rec:=Eb ls) (ls:=ls) (GW ls) (zZ (Eb ls) ls (zZ 20000 ls 0 0) (AJ 20000 ls 0 0)) (AJ (Eb ls) ls (zZ 20000 ls 0 0) (AJ 20000 ls 0 0)) [] [] rfl;have cA:=St (rec:=Eb ls) h8 (GW ls) (zZ (Eb ls) ls (zZ 20000 ls 0 0) (AJ 20000 ls 0 0)) (AJ (Eb ls) ls (zZ 20000 ls 0 0) (AJ 20000 ls 0 0)) [] [] (fun x hx=>by simp at hx) (fun x hx=>by simp at hx);have cE:=hid cL;have a6:=hid cA;have HR:=hid hR;have cy:=hid hB;have c8:=hB.lt;clear hm h8 b8 ha hR hB cL cA cB b5;go_enter func57,ntmps57;go_wp2_with fail;refine D0.out.mono ?_;rintro e w1 ⟨g,B,d,rfl,cu,cr⟩;have dg:=hid cr;have cH:=hid cu;have dm:=cu.lo;have ds:=cr.size;clear cu cr D0;go_wp2_with fail;refine(DI.out _ g B d 0 0 20000 mw cH.out).mono ?_;rintro e w2 ⟨rfl,cS,J⟩;have cF:=hid cS;have ca:Hid (Below w w w2):=dg.out.trans (J.below fun b h=>⟨mw,mw⟩);obtain⟨rec,ag⟩:=ii (Eb ls);have aa:=hid ag;rw[<-ag]at a4;rw[show AY 20000 ls 0 0=rec from ag.symm];clear cS J dg cH ag;go_wp2_with fail;refine(DI.out _ g B d _ _ rec mw cF.out).mono ?_;rintro e w3 ⟨rfl,df,Y⟩;obtain⟨nb,b0⟩:=ii (GW ls);have di:=hid b0;rw[<-b0]at c4;rw[show AY rec ls (zZ 20000 ls 0 0) (AJ 20000 ls 0 0)=nb by rw[b0,aa.out];rfl];have cm:Hid (Below w w w3):=ca.out.trans (Y.below fun b h=>⟨by have:=ca.out.size;omega,mw⟩);have dd:=hid (cy.out.below cm.out c8);have cx:Hid (DrI w w3 gb t (x2 :: x3 :: rest) g ls B d (zZ rec ls (zZ 20000 ls 0 0) (AJ 20000 ls 0 0)) (AJ rec ls (zZ 20000 ls 0 0) (AJ 20000 ls 0 0)) [] [] (.slice none 0 0) (.slice none 0 0)):=⟨df,dd.out,AI _ _ _ _,AI _ _ _ _,(fun y h=>by cases h),Kept.of_below cm.out (fun x hx=>hx.1),c8,cd,dk⟩;have cC:Hid (Ew rec ls (nb-0) (zZ rec ls (zZ 20000 ls 0 0) (AJ 20000 ls 0 0)) (AJ rec ls (zZ 20000 ls 0 0) (AJ 20000 ls 0 0)) [] []=FL ls):=by show _=_;rw[aa.out,di.out];rfl
 generalize zZ rec ls (zZ 20000 ls 0 0) (AJ 20000 ls 0 0)=a0 at *;generalize AJ rec ls (zZ 20000 ls 0 0) (AJ 20000 ls 0 0)=e0 at *;clear df Y cF ca cm dd cy b0;go_wp2_with fail;go_loopw [10] (fun iv wr=>∃ (k at_:Nat) (er:Int) (C S:List Nat) (vc vs:Value),k<=nb/\iv= .int .i64 k/\Hid (C.length=k)/\Hid (S.length=k)/\Hid (DrI w wr gb t (x2 :: x3 :: rest) g ls B d at_ er C S vc vs)/\Hid (Ew rec ls (nb-k) at_ er C S=FL ls)) (fun iv _=>nb-(intOf iv).toNat)
 case atStart=>exact⟨0,a0,e0,[],[],_,_,mw,rfl,rfl,rfl,cx.out,cC.out⟩
 case round=>
  obtain⟨k,at_,er,C,S,vc,vs,hk,rfl,al,a5,HI,HG⟩:=hrel;clear cx cC;have zr:=HI.out.kept.size;by_cases bC:k<nb/\er=0
  ·obtain⟨b1,rfl⟩:=bC;have gk:=ic ((k:Int)<nb);have da:=ic (k<nb);have hG:=HG.out;rw[show nb-k=(nb-(k+1))+1 by omega,Ew,Aa (show ¬((0:Int)≠0) from fun h=>h rfl)]at hG;have bN:=hid (ay.out _ _ _ _ _ _ HI.out.cur);have dp:=ak.out rec at_ 0;have D1:=hid (fun wx hx=>DI.out wx g B d at_ 0 rec mw hx);have D2:=hid (fun wx hx=>DI.out wx g B d (zZ rec ls at_ 0) (AJ rec ls at_ 0) 8388608 mw hx);have dq:=ak.out 8388608 (zZ rec ls at_ 0) (AJ rec ls at_ 0);generalize AY 8388608 ls (zZ rec ls at_ 0) (AJ rec ls at_ 0)=s at *;generalize zZ 8388608 ls (zZ rec ls at_ 0) (AJ rec ls at_ 0)=a2 at *;generalize AJ 8388608 ls (zZ rec ls at_ 0) (AJ rec ls at_ 0)=e2 at *;generalize AY rec ls at_ 0=r at *;generalize zZ rec ls at_ 0=a1 at *;generalize AJ rec ls at_ 0=e1 at *;have dl:=hid hG;have c0:=HI.out.cs.1;obtain⟨Ac,cc,rfl⟩:=bZ HI.out.oc;obtain⟨p,hp⟩:=ii C.length;have cw:p=k:=(by rw[hp,al.out]);rw[<-hp]at c0;have HP:=hid hp;have i:=HI.out.oc;rw[<-hp]at i;have dh:=hid i;clear hG HG hp i cw;go_wp2_with fail;refine bN.out.mono ?_;rintro e w4 ⟨rfl,rfl⟩;have cw:p<=k:=(by rw[HP.out,al.out];exact Ak _);go_upto_region 7 with fail;go_region_law(first|(go_simp;go_at_call 112;(with_reducible refine(D1.out _ HI.out.cur.drew).mono ?_);rintro e w5 ⟨rfl,ai,ac⟩;have j:=HI.out.call ai ⟨ac.os,ac.tape,ac.output,ac.size,ac.block⟩;have q0:=j.cs.1;rw[<-HP.out]at q0;have az:=j.oc;rw[<-HP.out]at az;have z5:=j.kept.size;have q9:=(j.blk.alloc (.cells #[.int .i64 (r:Nat)] 3)).cell 0;simp only[List.getElem?_toArray,List.getElem?_cons_zero,<-HP.out]at q9)|(refine TC rfl (.tmp 33) (.tmp 37) 37 rfl w 3 j0 _ 1 8 underlying37 cv c5 cG c7 rfl ip (.slice Ac p cc) p (cZ .i64 C) mz (by first|exact az.alloc _|exact(az.alloc _).drew) _ 1 1 [.int .i64 (r:Nat)] mz (Src.of_blk (Blk.made_at _ _ _ oK) 1 1 1 rfl) mj pm mw oT ?_;intro A6 c6 w6 bc cg b4;have b6:=(j.blk.alloc (.cells #[.int .i64 (r:Nat)] 3)).grown cg (by rw[HP.out];exact AU (gZ j.oc j.blk cd));have r0:=b6.cell 0;have s0:=b6.frozen 0;simp only[List.getElem?_toArray,List.getElem?_cons_zero,<-HP.out]at r0))
   all_goals
    have L:=j.count (x:=r) (aZ (o:= .cells #[.int .i64 (r:Nat)] 3) (Ag w5 w5)) (by rw[<-HP.out];exact cg) (by rw[<-HP.out];exact bc) (by rw[<-HP.out];exact b4);have ae:=hid L;obtain⟨As,cs,rfl⟩:=bZ L.os;obtain⟨p2,bl⟩:=ii S.length;have dn:p2<=k:=(by rw[bl,a5.out];exact Ak _);have bn:=L.os;rw[<-bl]at bn;have cX:=hid bn;have d1:=L.cs.2;rw[<-bl]at d1;have aj:=hid bl;have z6:=L.kept.size;clear j L ai ac bc cg b4 b6 r0 s0 q0 q9 az bn bl HI c0 D1 dh;generalize w6.setCell ⟨gb,0,none⟩ (.slice A6 (p+1) c6)=w7 at *;go_upto_region 8 with fail;go_region_law(first|(go_simp;go_at_call 112;refine(D2.out _ ae.out.cur.drew).mono ?_;rintro e w8 ⟨rfl,cP,a9⟩;have ah:=ae.out.call cP ⟨a9.os,a9.tape,a9.output,a9.size,a9.block⟩;have q0:=ah.cs.2;rw[<-aj.out]at q0;have ax:=ah.os;rw[<-aj.out]at ax;have z8:=ah.kept.size;have q9:=(ah.blk.alloc (.cells #[.int .i64 (s:Nat)] 3)).cell 1;simp only[List.getElem?_toArray,List.getElem?_cons_zero,List.getElem?_cons_succ,<-aj.out]at q9)|(refine TC rfl (.tmp 45) (.tmp 48) 37 rfl w 3 j0 _ 1 8 underlying37 cv c5 cG c7 rfl ip (.slice As p2 cs) p2 (cZ .i64 S) mz (by first|exact ax.alloc _|exact(ax.alloc _).drew) _ 1 1 [.int .i64 (s:Nat)] mz (Src.of_blk (Blk.made_at _ _ _ oK) 1 1 1 rfl) mj pm mw oT ?_;intro A9 c9 w9 bg ct b7;have b9:=(ah.blk.alloc (.cells #[.int .i64 (s:Nat)] 3)).grown ct (by rw[aj.out];exact AU (gZ ah.os ah.blk cd));have r0:=b9.cell 1;have s0:=b9.frozen 1;simp only[List.getElem?_toArray,List.getElem?_cons_zero,List.getElem?_cons_succ,<-aj.out]at r0))
    all_goals
     have dc:=ah.size (x:=s) (aZ (o:= .cells #[.int .i64 (s:Nat)] 3) (Ag w8 w8)) (by rw[<-aj.out];exact ct) (by rw[<-aj.out];exact bg) (by rw[<-aj.out];exact b7);have dj:=hid dc;have cz:Hid ((C++ [r]).length=k+1):=(by show _=_;rw[Ae,al.out];rfl);have de:Hid ((S++ [s]).length=k+1):=(by show _=_;rw[Ae,a5.out];rfl);clear ah dc cP a9 bg ct b7 b9 r0 s0 q0 q9 ax ae cX d1;generalize w9.setCell ⟨gb,1,none⟩ (.slice A9 (p2+1) c9)=dr at *;go_wp2_with fail;go_roundw
     case measure=>exact jo
     case rel=>go_light;exact⟨k+1,a2,e2,C++ [r],S++ [s], .slice A6 (p+1) c6, .slice A9 (p2+1) c9,mw,iu,cz.out,de.out,dj.out,dl.out⟩
  ·have ab:Hid (FL ls=(C,S,at_,er)):=by
    have h:=HG.out;by_cases b1:k<nb
    ·rw[Zf (fun h=>bC ⟨b1,h⟩)]at h;exact h.symm
    ·rw[show nb-k=0 by omega,Ew]at h;exact h.symm
   have bN:=hid (ay.out _ _ _ _ _ _ HI.out.cur);clear HG;by_cases b1:k<nb
   ·have gk:=ic ((k:Int)<nb);have da:=ic (k<nb);have cT:er≠0:=fun h=>bC ⟨b1,h⟩;have gE:(er==0)=false:=(by simpa using cT);clear bC cT;go_wp2_with fail;refine bN.out.mono ?_;rintro e w4 ⟨rfl,rfl⟩;have hP:dP ls=AY 8388608 ls at_ er:=(by unfold dP;rw[ab.out]);have bd:dPA ls=zZ 8388608 ls at_ er:=(by unfold dPA;rw[ab.out]);have bt:dPE ls=AJ 8388608 ls at_ er:=(by unfold dPE;rw[ab.out]);have hC:Dh ls=C:=(by unfold Dh;rw[ab.out]);have hS:Ds ls=S:=(by unfold Ds;rw[ab.out]);have D3:=hid (fun wx hx=>DI.out wx g B d at_ er 8388608 mw hx);rw[<-hP,<-bd,<-bt]at D3;have D4:=hid (fun wx hx=>DI.out wx g B d (dPA ls) (dPE ls) 8388608 mw hx);rw[show AY 8388608 ls (dPA ls) (dPE ls)=dQ ls from rfl]at D4;have D5:=hid (fun wx hx=>a3.out wx g B d (zZ 8388608 ls (dPA ls) (dPE ls)) (AJ 8388608 ls (dPA ls) (dPE ls)) hx);rw[show Gn ls (zZ 8388608 ls (dPA ls) (dPE ls)) (AJ 8388608 ls (dPA ls) (dPE ls))=dE ls from rfl]at D5;have cf:dP ls<=8388608:=(by rw[hP];exact ak.out _ _ _);have ci:dQ ls<=8388608:=ak.out _ _ _;have hr:=HR.out;unfold FK at hr;rw[hC,hS]at hr;have cp:=hid hC;have ce:=hid hS;have ba:∀x∈C,x<=rec:=fun x hx=>by have h:=a6.out.1 x (show x∈Dh ls by rw[hC];exact hx);rw[aa.out];exact h
    have bq:∀x∈S,x<=8388608:=fun x hx=>a6.out.2 x (show x∈Ds ls by rw[hS];exact hx);have bp:C.length<=20000:=(by rw[al.out];omega);have bb:S.length<=20000:=(by rw[a5.out];omega);have be:C.sum<=1000000000000000:=AK (KT C rec ba) (AK (Hb bp a4) ip);have cq:S.sum<=500000000000000:=AK (KT S 8388608 bq) (AK (Gc _ bb) ip);rw[<-aa.out]at hr;obtain⟨P,an⟩:=ii (dP ls);obtain⟨Q,av⟩:=ii (dQ ls);obtain⟨E,hE2⟩:=ii (dE ls);rw[<-an]at D3 cf hr;rw[<-av]at D4 ci hr;have cj:=hid an.symm;have cl:=hid av.symm;rw[<-hE2]at D5 hr;generalize dPA ls=pa at *;generalize dPE ls=pe at *;generalize zZ 8388608 ls pa pe=qa at *;generalize AJ 8388608 ls pa pe=qe at *;obtain⟨k2,J⟩:=ii C.length;obtain⟨k3,Y⟩:=ii S.length;have i:=HI.out.oc;have N:=HI.out.os;rw[<-J]at i bp;rw[<-Y]at N bb;obtain⟨Ac,cc,rfl⟩:=bZ i;obtain⟨As,cs,rfl⟩:=bZ N;have bf:=hid J;have bu:=hid Y;have M:=hid hr;have bS:=hid (fun wx (h:wx.ownsRow w 3 1 (.slice Ac k2 cc) k2 (cZ .i64 C))=>QZ wx Ac k2 cc C J.symm mw (own_ints h J.symm));have aq:=hid (fun wx (h:wx.ownsRow w 3 1 (.slice Ac k2 cc) k2 (cZ .i64 C))=>KR wx Ac k2 cc C J.symm mw be (own_ints h J.symm));have am:=hid (fun wx (h:wx.ownsRow w 3 1 (.slice As k3 cs) k3 (cZ .i64 S))=>KR wx As k3 cs S Y.symm mw mw (own_ints h Y.symm));obtain⟨CS,au⟩:=ii C.sum;obtain⟨SS,aw⟩:=ii S.sum;rw[<-au]at aq be;rw[<-aw]at am cq;have bx:=hid au;have bh:=hid aw;clear hP bd bt hC hS hr HR ab ba bq an av hE2 J Y au aw i N cE a6 aa ak DI a3 ay bN al a5;go_wp2_with fail;refine(D3.out _ HI.out.cur).mono ?_;rintro e w5 ⟨rfl,ai,ac⟩;have j:=HI.out.call ai ac;have b2:=j.blk.ia 2;have f2:=j.blk.frozen 2;have ar:Hid (DrI w (w5.setCell ⟨gb,2,none⟩ (.int .i64 (P:Nat))) gb t (.int .i64 (P:Nat) :: x3 :: rest) g ls B d pa pe C S (.slice Ac C.length cc) (.slice As S.length cs)):=(by rw[<-bf.out,<-bu.out];exact j.third);clear ai ac j D3 HI;go_wp2_with fail;refine(D4.out _ ar.out.cur).mono ?_;rintro e w6 ⟨rfl,bj,bi⟩;have L:=ar.out.call bj bi;have b3:=L.blk.ia 3;have f3:=L.blk.frozen 3;have ae:=hid (L.fourth (u:= .int .i64 (Q:Nat)));clear bj bi L D4 ar b2 f2;go_wp2_with fail;refine(D5.out _ ae.out.cur).mono ?_;rintro e w7 ⟨rfl,bk,Z⟩;have z:=ae.out.call bk ⟨Z.os,Z.tape,Z.output,Z.size,fun x hx=>Z.block x hx.2⟩;have G:=hid z;clear bk Z D5 ae b3 f3;by_cases hE:E=0
    ·subst hE;have hr:=M.out;rw[Aa (show ¬((0:Int)≠0) from fun h=>h rfl)]at hr;have c0:=z.blk.ia 0;have c1:=z.blk.ia 1;have c2:=z.blk.ia 2;have c3:=z.blk.ia 3;have i:=z.oc;have N:=z.os;rw[<-bf.out]at i c0;rw[<-bu.out]at N c1;have E0:Hid (∀q,Calls prog 115 #[.slice Ac k2 cc,ij] (w7.drewN q) fun e w'=>e= .returned (.bool (decide (0∈C)))/\w'=w7.drewN q):=fun q=>bS.out _ (eZ i (fun y _=>rfl));have E1:Hid (∀q,Calls prog 64 #[.slice Ac k2 cc] (w7.drewN q) fun e w'=>e= .returned (.int .i64 (CS:Nat))/\w'=w7.drewN q):=fun q=>aq.out _ (eZ i (fun y _=>rfl));have E2:Hid (∀q,Calls prog 64 #[.slice As k3 cs] (w7.drewN q) fun e w'=>e= .returned (.int .i64 (SS:Nat))/\w'=w7.drewN q):=fun q=>am.out _ (eZ N (fun y _=>rfl));clear z i N bS aq am;by_cases hz:0∈C
     ·have HF:Hid (R=2):=(by rw[Ab (.inl hz)]at hr;exact hr);rw[Bc hz]at E0;clear hz hr M;go_wp2_with fail;go_quiet (first|(go_at_call 115;(with_reducible exact CG (E0.out _)))|(go_at_call 64;first|(with_reducible exact CG (E1.out _))|(with_reducible exact CG (E2.out _))));go_wp2_with fail;go_ret;rw[HF.out];exact⟨rfl,G.out.kept.drewN _,fun h=>absurd h ip⟩
     ·rw[Bt hz]at E0;by_cases h2:CS=rec
      ·have gn:((CS:Int) != (rec:Int))=false:=(by rw[h2];simp);have s1:IntKind.i64.wrap ((SS:Int)+(P:Int))=((SS+P:Nat):Int):=m8;have s2:IntKind.i64.wrap (((SS+P:Nat):Int)+(Q:Int))=((SS+P+Q:Nat):Int):=m8;have bm:IntKind.i64.wrap ((SS:Int)+(P:Int)+(Q:Int))=((SS+P+Q:Nat):Int):=m8;by_cases h3:SS+P+Q=U
       ·have g3:(((SS+P+Q:Nat):Int) != (U:Int))=false:=by rw[h3];simp
        have HF:Hid (R=0):=by
         rw[Aa (fun h=>by
          rcases h with h|h|h
          ·exact hz h
          ·exact h mN
          ·exact h mM)]at hr
         exact hr
        obtain⟨TT,af⟩:=ii (SS+P+Q);rw[<-af]at s2 bm g3;clear hz h2 h3 af hr M;go_wp2_with fail;go_quiet (first|(go_at_call 115;(with_reducible exact CG (E0.out _)))|(go_at_call 64;first|(with_reducible exact CG (E1.out _))|(with_reducible exact CG (E2.out _))));go_wp2_with fail;go_ret;rw[HF.out,cj.out,cl.out,cp.out,ce.out];exact⟨rfl,G.out.kept.drewN _,fun _=>⟨_,_,G.out.blk.drewN _,eZ G.out.oc (fun y _=>rfl),eZ G.out.os (fun y _=>rfl),G.out.ap⟩⟩
       ·have g3:(((SS+P+Q:Nat):Int) != (U:Int))=true:=nG;have HF:Hid (R=2):=mT;obtain⟨TT,af⟩:=ii (SS+P+Q);rw[<-af]at s2 bm g3;clear hz h2 h3 af hr M;go_wp2_with fail;go_quiet (first|(go_at_call 115;(with_reducible exact CG (E0.out _)))|(go_at_call 64;first|(with_reducible exact CG (E1.out _))|(with_reducible exact CG (E2.out _))));go_wp2_with fail;go_ret;rw[HF.out];exact⟨rfl,G.out.kept.drewN _,fun h=>absurd h ip⟩
      ·have gn:((CS:Int) != (rec:Int))=true:=nG;have HF:Hid (R=2):=mS;clear hz h2 hr M;go_wp2_with fail;go_quiet (first|(go_at_call 115;(with_reducible exact CG (E0.out _)))|(go_at_call 64;first|(with_reducible exact CG (E1.out _))|(with_reducible exact CG (E2.out _))));go_wp2_with fail;go_ret;rw[HF.out];exact⟨rfl,G.out.kept.drewN _,fun h=>absurd h ip⟩
    ·have gE:(E != 0)=true:=(by simpa using hE);have HF:Hid (R=E):=(by have h:=M.out;rw[Ab hE]at h;exact h);have co:=hid hE;clear hE M z;go_wp2_with fail;go_ret;rw[HF.out];exact⟨rfl,G.out.kept,fun h=>absurd h co.out⟩
   ·have gk:=ig ((k:Int)<nb);have da:=ig (k<nb);clear bC;obtain⟨w4,rfl⟩:=ii wr;have hP:dP ls=AY 8388608 ls at_ er:=(by unfold dP;rw[ab.out]);have bd:dPA ls=zZ 8388608 ls at_ er:=(by unfold dPA;rw[ab.out]);have bt:dPE ls=AJ 8388608 ls at_ er:=(by unfold dPE;rw[ab.out]);have hC:Dh ls=C:=(by unfold Dh;rw[ab.out]);have hS:Ds ls=S:=(by unfold Ds;rw[ab.out]);have D3:=hid (fun wx hx=>DI.out wx g B d at_ er 8388608 mw hx);rw[<-hP,<-bd,<-bt]at D3;have D4:=hid (fun wx hx=>DI.out wx g B d (dPA ls) (dPE ls) 8388608 mw hx);rw[show AY 8388608 ls (dPA ls) (dPE ls)=dQ ls from rfl]at D4;have D5:=hid (fun wx hx=>a3.out wx g B d (zZ 8388608 ls (dPA ls) (dPE ls)) (AJ 8388608 ls (dPA ls) (dPE ls)) hx);rw[show Gn ls (zZ 8388608 ls (dPA ls) (dPE ls)) (AJ 8388608 ls (dPA ls) (dPE ls))=dE ls from rfl]at D5;have cf:dP ls<=8388608:=(by rw[hP];exact ak.out _ _ _);have ci:dQ ls<=8388608:=ak.out _ _ _;have hr:=HR.out;unfold FK at hr;rw[hC,hS]at hr;have cp:=hid hC;have ce:=hid hS;have ba:∀x∈C,x<=rec:=fun x hx=>by have h:=a6.out.1 x (show x∈Dh ls by rw[hC];exact hx);rw[aa.out];exact h
    have bq:∀x∈S,x<=8388608:=fun x hx=>a6.out.2 x (show x∈Ds ls by rw[hS];exact hx);have bp:C.length<=20000:=(by rw[al.out];omega);have bb:S.length<=20000:=(by rw[a5.out];omega);have be:C.sum<=1000000000000000:=AK (KT C rec ba) (AK (Hb bp a4) ip);have cq:S.sum<=500000000000000:=AK (KT S 8388608 bq) (AK (Gc _ bb) ip);rw[<-aa.out]at hr;obtain⟨P,an⟩:=ii (dP ls);obtain⟨Q,av⟩:=ii (dQ ls);obtain⟨E,hE2⟩:=ii (dE ls);rw[<-an]at D3 cf hr;rw[<-av]at D4 ci hr;have cj:=hid an.symm;have cl:=hid av.symm;rw[<-hE2]at D5 hr;generalize dPA ls=pa at *;generalize dPE ls=pe at *;generalize zZ 8388608 ls pa pe=qa at *;generalize AJ 8388608 ls pa pe=qe at *;obtain⟨k2,J⟩:=ii C.length;obtain⟨k3,Y⟩:=ii S.length;have i:=HI.out.oc;have N:=HI.out.os;rw[<-J]at i bp;rw[<-Y]at N bb;obtain⟨Ac,cc,rfl⟩:=bZ i;obtain⟨As,cs,rfl⟩:=bZ N;have bf:=hid J;have bu:=hid Y;have M:=hid hr;have bS:=hid (fun wx (h:wx.ownsRow w 3 1 (.slice Ac k2 cc) k2 (cZ .i64 C))=>QZ wx Ac k2 cc C J.symm mw (own_ints h J.symm));have aq:=hid (fun wx (h:wx.ownsRow w 3 1 (.slice Ac k2 cc) k2 (cZ .i64 C))=>KR wx Ac k2 cc C J.symm mw be (own_ints h J.symm));have am:=hid (fun wx (h:wx.ownsRow w 3 1 (.slice As k3 cs) k3 (cZ .i64 S))=>KR wx As k3 cs S Y.symm mw mw (own_ints h Y.symm));obtain⟨CS,au⟩:=ii C.sum;obtain⟨SS,aw⟩:=ii S.sum;rw[<-au]at aq be;rw[<-aw]at am cq;have bx:=hid au;have bh:=hid aw;clear hP bd bt hC hS hr HR ab ba bq an av hE2 J Y au aw i N cE a6 aa ak DI a3 ay bN al a5;go_wp2_with fail;refine(D3.out _ HI.out.cur).mono ?_;rintro e w5 ⟨rfl,ai,ac⟩;have j:=HI.out.call ai ac;have b2:=j.blk.ia 2;have f2:=j.blk.frozen 2;have ar:Hid (DrI w (w5.setCell ⟨gb,2,none⟩ (.int .i64 (P:Nat))) gb t (.int .i64 (P:Nat) :: x3 :: rest) g ls B d pa pe C S (.slice Ac C.length cc) (.slice As S.length cs)):=(by rw[<-bf.out,<-bu.out];exact j.third);clear ai ac j D3 HI;go_wp2_with fail;refine(D4.out _ ar.out.cur).mono ?_;rintro e w6 ⟨rfl,bj,bi⟩;have L:=ar.out.call bj bi;have b3:=L.blk.ia 3;have f3:=L.blk.frozen 3;have ae:=hid (L.fourth (u:= .int .i64 (Q:Nat)));clear bj bi L D4 ar b2 f2;go_wp2_with fail;refine(D5.out _ ae.out.cur).mono ?_;rintro e w7 ⟨rfl,bk,Z⟩;have z:=ae.out.call bk ⟨Z.os,Z.tape,Z.output,Z.size,fun x hx=>Z.block x hx.2⟩;have G:=hid z;clear bk Z D5 ae b3 f3;by_cases hE:E=0
    ·subst hE;have hr:=M.out;rw[Aa (show ¬((0:Int)≠0) from fun h=>h rfl)]at hr;have c0:=z.blk.ia 0;have c1:=z.blk.ia 1;have c2:=z.blk.ia 2;have c3:=z.blk.ia 3;have i:=z.oc;have N:=z.os;rw[<-bf.out]at i c0;rw[<-bu.out]at N c1;have E0:Hid (∀q,Calls prog 115 #[.slice Ac k2 cc,ij] (w7.drewN q) fun e w'=>e= .returned (.bool (decide (0∈C)))/\w'=w7.drewN q):=fun q=>bS.out _ (eZ i (fun y _=>rfl));have E1:Hid (∀q,Calls prog 64 #[.slice Ac k2 cc] (w7.drewN q) fun e w'=>e= .returned (.int .i64 (CS:Nat))/\w'=w7.drewN q):=fun q=>aq.out _ (eZ i (fun y _=>rfl));have E2:Hid (∀q,Calls prog 64 #[.slice As k3 cs] (w7.drewN q) fun e w'=>e= .returned (.int .i64 (SS:Nat))/\w'=w7.drewN q):=fun q=>am.out _ (eZ N (fun y _=>rfl));clear z i N bS aq am;by_cases hz:0∈C
     ·have HF:Hid (R=2):=(by rw[Ab (.inl hz)]at hr;exact hr);rw[Bc hz]at E0;clear hz hr M;go_wp2_with fail;go_quiet (first|(go_at_call 115;(with_reducible exact CG (E0.out _)))|(go_at_call 64;first|(with_reducible exact CG (E1.out _))|(with_reducible exact CG (E2.out _))));go_wp2_with fail;go_ret;rw[HF.out];exact⟨rfl,G.out.kept.drewN _,fun h=>absurd h ip⟩
     ·rw[Bt hz]at E0;by_cases h2:CS=rec
      ·have gn:((CS:Int) != (rec:Int))=false:=(by rw[h2];simp);have s1:IntKind.i64.wrap ((SS:Int)+(P:Int))=((SS+P:Nat):Int):=m8;have s2:IntKind.i64.wrap (((SS+P:Nat):Int)+(Q:Int))=((SS+P+Q:Nat):Int):=m8;have bm:IntKind.i64.wrap ((SS:Int)+(P:Int)+(Q:Int))=((SS+P+Q:Nat):Int):=m8;by_cases h3:SS+P+Q=U
       ·have g3:(((SS+P+Q:Nat):Int) != (U:Int))=false:=by rw[h3];simp
        have HF:Hid (R=0):=by
         rw[Aa (fun h=>by
          rcases h with h|h|h
          ·exact hz h
          ·exact h mN
          ·exact h mM)]at hr
         exact hr
        obtain⟨TT,af⟩:=ii (SS+P+Q);rw[<-af]at s2 bm g3;clear hz h2 h3 af hr M;go_wp2_with fail;go_quiet (first|(go_at_call 115;(with_reducible exact CG (E0.out _)))|(go_at_call 64;first|(with_reducible exact CG (E1.out _))|(with_reducible exact CG (E2.out _))));go_wp2_with fail;go_ret;rw[HF.out,cj.out,cl.out,cp.out,ce.out];exact⟨rfl,G.out.kept.drewN _,fun _=>⟨_,_,G.out.blk.drewN _,eZ G.out.oc (fun y _=>rfl),eZ G.out.os (fun y _=>rfl),G.out.ap⟩⟩
       ·have g3:(((SS+P+Q:Nat):Int) != (U:Int))=true:=nG;have HF:Hid (R=2):=mT;obtain⟨TT,af⟩:=ii (SS+P+Q);rw[<-af]at s2 bm g3;clear hz h2 h3 af hr M;go_wp2_with fail;go_quiet (first|(go_at_call 115;(with_reducible exact CG (E0.out _)))|(go_at_call 64;first|(with_reducible exact CG (E1.out _))|(with_reducible exact CG (E2.out _))));go_wp2_with fail;go_ret;rw[HF.out];exact⟨rfl,G.out.kept.drewN _,fun h=>absurd h ip⟩
      ·have gn:((CS:Int) != (rec:Int))=true:=nG;have HF:Hid (R=2):=mS;clear hz h2 hr M;go_wp2_with fail;go_quiet (first|(go_at_call 115;(with_reducible exact CG (E0.out _)))|(go_at_call 64;first|(with_reducible exact CG (E1.out _))|(with_reducible exact CG (E2.out _))));go_wp2_with fail;go_ret;rw[HF.out];exact⟨rfl,G.out.kept.drewN _,fun h=>absurd h ip⟩
    ·have gE:(E != 0)=true:=(by simpa using hE);have HF:Hid (R=E):=(by have h:=M.out;rw[Ab hE]at h;exact h);have co:=hid hE;clear hE M z;go_wp2_with fail;go_ret;rw[HF.out];exact⟨rfl,G.out.kept,fun h=>absurd h co.out⟩
end Body
namespace Body
open Go.RowKit Mem Own Canon Recs Idx
open Go.Proofs.YtfgdoknipbpfhaaGreatDoor.One (FrsAt FrsAt.step FrsAt.grown FrsAt.snoc FA)
open NumPut
open Ef (BX NK)
structure MSt (base db:Nat) (vG pv vS:Value) (ps:List Part) (W:World):Prop where
 dir:Blk W db 87 #[vG,vS,ij,ij]
 pr:W.ownsRow base 28 1 pv ps.length (ps.map Part.v)
 fr:FrsAt W base ps
 sr:W.ownsRow base 3 1 vS ps.length (cZ .i64 (ps.map fun p=>p.ls.length))
 gb:base<=db
section
variable {base db:Nat} {vG pv vS pv' vS':Value} {ps:List Part} {W w' w8 w9:World} {p:Part} {o1 o2:Obj}
theorem MSt.step(h:MSt base db vG pv vS ps W)(b:Below W W w'):MSt base db vG pv vS ps w':=
 ⟨h.dir.step b,eZ h.pr fun y hy=>b.block y (Aj h.pr y hy).2,h.fr.step b,eZ h.sr fun y hy=>b.block y (Aj h.sr y hy).2,h.gb⟩
theorem MSt.mid(h:MSt base db vG pv vS ps W)(g8:(W.alloc o1).grownBy w8 pv.ownBlock):Blk w8 db 87 #[vG,vS,ij,ij]/\w8.ownsRow base 3 1 vS ps.length (cZ .i64 (ps.map fun p=>p.ls.length)):=
 ⟨(h.dir.alloc o1).grown g8 (AU (gZ h.pr h.dir ip)),FA (h.sr.alloc o1) (h.pr.alloc o1) ip g8⟩
theorem MSt.round(h:MSt base db vG pv vS ps W)(hp:W.ownsRow base 5 1 p.v p.ls.length (cZ .u8 p.ls))(g8:(W.alloc o1).grownBy w8 pv.ownBlock)(o8:w8.ownsRow base 28 1 pv' (ps.length+1) (ps.map Part.v++ [p.v]))
 (g9:(w8.alloc o2).grownBy w9 vS.ownBlock)(o9:w9.ownsRow base 3 1 vS' (ps.length+1) (cZ .i64 (ps.map fun p=>p.ls.length)++ [.int .i64 (p.ls.length:Nat)])):
 MSt base db vG pv' vS' (ps++ [p]) (w9.setCell ⟨db,1,none⟩ vS')/\Below base W (w9.setCell ⟨db,1,none⟩ vS'):=by
 obtain⟨d8,s8⟩:=h.mid g8;have d9:Blk w9 db 87 #[vG,vS,ij,ij]:=(d8.alloc o2).grown g9 (AU (gZ s8 d8 ip));have j:=FA (hp.alloc o1) (h.pr.alloc o1) ip g8;have z:=FA (j.alloc o2) (s8.alloc o2) ip g9;have f8:FrsAt w8 base ps:=(h.fr.step (aZ (Ag _ _))).grown (h.pr.alloc o1) g8;have f9:FrsAt w9 base ps:=fun q hq=>FA ((f8 q hq).alloc o2) (s8.alloc o2) ip g9;have i:=FA (o8.alloc o2) (s8.alloc o2) ip g9;have hB:base<=W.heap.size:=by have:=h.dir.lt;have:=h.gb;omega
 have far:∀ {s n:Nat} {e:TypeId} {v:Value} {xs:List Value},w9.ownsRow base e s v n xs->e≠87->(w9.setCell ⟨db,1,none⟩ vS').ownsRow base e s v n xs:=fun ho hne=>eZ ho fun y hy=>AR _ _ _ y fun e=>gZ ho d9 hne nR;refine⟨⟨by simpa using d9.set 1 vS',?_,fun q hq=> ?_,?_,h.gb⟩,?_⟩
 ·rw[Ae,EP];exact far i ip
 ·rcases BF.1 hq with hq|hq
  ·exact far (f9 q hq) ip
  ·rw[Ei.1 hq];exact far z ip
 ·have e1:cZ .i64 ((ps++ [p]).map fun p=>p.ls.length)=cZ .i64 (ps.map fun p=>p.ls.length)++ [.int .i64 (p.ls.length:Nat)]:=by simp[cZ]
  rw[Ae,e1];exact far o9 ip
 ·have E:base<=w8.heap.size:=AK hB (AK oK g8.size);exact((((Ag base W).alloc hB _).grown g8 oT fun y hy=>(Aj h.pr y hy).1).alloc E _ |>.grown g9 oT fun y hy=>(Aj s8 y hy).1).setCell (p:=⟨db,1,none⟩) h.gb _
theorem MSt.stores(h:MSt base db vG pv vS ps W)(x y:Value):
 Blk ((W.setCell ⟨db,2,none⟩ x).setCell ⟨db,3,none⟩ y) db 87 #[vG,vS,x,y]/\Below base W ((W.setCell ⟨db,2,none⟩ x).setCell ⟨db,3,none⟩ y)/\
  ∀ {b s n:Nat} {e:TypeId} {v:Value} {xs:List Value},W.ownsRow b e s v n xs->e≠87->((W.setCell ⟨db,2,none⟩ x).setCell ⟨db,3,none⟩ y).ownsRow b e s v n xs:=by
 refine⟨by simpa using (h.dir.set 2 x).set 3 y,((Ag base W).setCell (p:=⟨db,2,none⟩) h.gb _).setCell (p:=⟨db,3,none⟩) h.gb _,fun ho hne=> ?_⟩;refine eZ ho fun z hz=> ?_;have hd:z≠db:=fun e=>gZ ho h.dir hne (by rw[hz,e]);exact(AR _ _ _ z hd).trans (AR _ _ _ z hd)
end
theorem Sn:∀ (l:List Str) (i:Str),(∀s∈l,i<s)->(∀s∈l,1<=s.length/\s.length<=25)->EJ l->CY i l=true
 | [],_,_,_,_=>rfl
 |s :: t,i,h,hs,hr=>by obtain⟨h1,h2⟩:=Fp.1 hr;rw[CY,BV];refine⟨?_,Sn t s h1 (fun x hx=>hs x (BR _ hx)) h2⟩;unfold Ec;rw[BV,BV,decide_eq_true_iff,decide_eq_true_iff,decide_eq_true_iff];exact⟨(hs s Cu).1,(hs s Cu).2,h s Cu⟩
theorem R7{l:List Rec}{s:Str}(h:s∈AV (l.map mZ)):1<=s.length/\s.length<=25:=by obtain⟨t,ht,hs⟩:=(Qu s _).1 h;obtain⟨r,_,rfl⟩:=Ck.1 ht;exact QI hs
theorem KQ{l:List Rec}(h:(AV (l.map mZ)).length<=1048576):FM (AV (l.map mZ))=true:=by
 unfold FM;rw[BV];refine⟨Sn _ _ (fun s hs=> ?_) (fun s hs=>R7 hs) (Vk _),Bc h⟩;have:=(R7 hs).1;cases s with
 |nil=>simp at this
 |cons x t=>exact List.nil_lt_cons x t
theorem YR(ts:List (List Str))(u:Str):BX ts.length none (Cn ts u)=true:=by
 refine NK _ _ none (fun x hx=> ?_) ?_ (fun y hy=>by cases hy)
 ·unfold Cn at hx;exact Fs.1 (List.mem_filter.1 hx).1
 ·unfold Cn;exact List.Pairwise.filter _ List.pairwise_lt_range
theorem Lu(l:List Rec):GU l.length ((AV (l.map mZ)).map (Cn (l.map mZ)))=true/\∀x∈(AV (l.map mZ)).map (Cn (l.map mZ)),x≠ []/\x.length<=l.length:=by
 refine⟨FJ.2 fun x hx=> ?_,fun x hx=> ?_⟩
 ·obtain⟨u,_,rfl⟩:=Ck.1 hx;have:=YR (l.map mZ) u;rw[Bb]at this;exact this
 ·obtain⟨u,hu,rfl⟩:=Ck.1 hx;have h2:=OM (l.map mZ) u;rw[Bb]at h2;exact⟨(OI _ u).1 hu,h2⟩
theorem Sk(s:Str):∀x∈CX s,x<=255:=fun x h=>by
 unfold CX GY at h;rcases BF.1 h with h|h
 ·exact CU _ x h
 ·obtain⟨c,_,rfl⟩:=Ck.1 h;have:=c.toNat_lt;omega
theorem R3:∀ (t:List Str) (i:Str),∀x∈DY i t,x<=255
 | [],_,x,h=>by simp[DY]at h
 |s :: t,i,x,h=>by
  rw[DY]at h;simp only[List.mem_append]at h;rcases h with (h|h)|h
  ·exact CU _ x h
  ·exact Sk _ x h
  ·exact R3 t s x h
theorem eI(l:List Str):∀x∈rZ l,x<=255:=fun x h=>by
 cases l with
 |nil=>simp[rZ]at h
 |cons s t=>
  rw[rZ]at h;rcases BF.1 h with h|h
  ·exact Sk _ x h
  ·exact R3 t s x h
theorem j6(size:Nat)(l:List Str):∀x∈C8 size l,x<=255:=fun x h=>by
 unfold C8 at h;simp only[List.mem_append,List.mem_flatMap]at h;rcases h with (h|⟨c,_,h⟩)|⟨c,_,h⟩
 ·exact CU _ x h
 ·exact CU _ x h
 ·exact eI _ x h
theorem aH(bound:Nat)(l:List Nat):∀x∈Ef.efO bound l,x<=255:=fun x h=>by
 unfold Ef.efO at h;split at h
 ·exact CU _ x h
 ·rcases BF.1 h with h|h
  ·exact CU _ x h
  ·obtain⟨k,_,rfl⟩:=Ck.1 h;exact Huff.Kj _ k
theorem Rq(o:Opts.Opt)(l:List Rec):∀x∈ixR o l,x<=255:=fun x h=>by
 unfold ixR ixO Dd at h;rcases BF.1 h with h|h
 ·exact j6 _ _ x h
 ·obtain⟨c,_,h⟩:=List.mem_flatMap.1 h;exact aH _ _ x h
theorem MP{o:Opts.Opt}(h:Opts.CL o=0):16<=o.block/\o.block<=32768/\1<=o.bucket/\o.bucket<=64:=by
 unfold Opts.CL Opts.Hg at h;split at h
 ·rename_i hc;exact⟨hc.1.1,hc.1.2,hc.2.1.1,hc.2.1.2⟩
 ·cases h
end Body
namespace Body
open Recs Idx Opts
open NumPut (fZ qZ)
open Ef (efO BX Fh G7 G0 efW)
open Huff (bytesOf_length)
theorem RN(hb:bound<=20000)(hm:BX bound none l=true)(h0:l≠ [])(hn:l.length<=bound):(efO bound l).length<=10+(3*bound+7) / 8:=by
 have h1:1<=l.length:=Fv.2 h0;have hq:1<=bound / l.length:=(Nat.one_le_div_iff mw).2 hn;have hW:l.length*efW bound l.length<=bound:=jw
 have i:=G7 (efW bound l.length) l;have z:=G0 bound l none hm;have hp:=(Nh bound l none hm).1;have j:=Ln (l.map (·/ 2 ^ efW bound l.length)) 0 bound (Cr _) (fun x hx=>by obtain⟨y,hy,rfl⟩:=Ck.1 hx;exact⟨Cr _,AK (Hc _ _) (by have:=z y hy;omega)⟩) (List.Pairwise.map _ (fun a b h=>Nat.div_le_div_right h) hp);rw[Bb]at j;have E:=qZ (x:=l.length) mw;unfold efO;rw[Aa h0,Ae,bytesOf_length];unfold Fh;rw[Ae,i];omega
theorem Oi{bound C:Nat}:∀ {ls:List (List Nat)},(∀x∈ls,(efO bound x).length<=C)->(Dd bound ls).length<=C*ls.length
 | [],_=>by simp[Dd]
 |x :: t,h=>by have ih:=Oi (ls:=t) (fun y hy=>h y (BR _ hy));have hx:=h x Cu;unfold Dd at ih ⊢;rw[Cm,Ae,AD,Nat.mul_add];omega
theorem NS(ts:List (List Str)):(AV ts).length<=(ts.map List.length).sum:=by
 have h:∀ (ts:List (List Str)) (i:List Str),(ts.foldl Et i).length<=i.length+(ts.map List.length).sum:=fun ts=>by
  induction ts with
  |nil=>intro i;simp
  |cons t ts ih=>intro i;have h1:=ih (Et i t);have h2:=NJ t i;rw[List.foldl_cons,Cl,Fo];omega
 have:=h ts [];simpa[AV]using this
theorem MK:∀l:List Rec,((((l.map mZ).map List.length).sum:Nat):Int)<=Bp l
 | []=>by simp[J3]
 |r :: l=>by
  have ih:=MK l;have e:Bp (r :: l)=weigh r+Bp l:=oP
  have h:=zV r.text.data.toList r.source.data.toList;have h1:r.text.data.toList.length=r.text.size:=Array.length_toList;have h2:r.source.data.toList.length=r.source.size:=Array.length_toList;rw[h1,h2]at h;rw[Cl,Cl,Fo,e];have h3:(mZ r).length<=r.text.size+r.source.size:=h;unfold weigh;omega
theorem jG{o:Opt}{l:List Rec}{n:Nat}(hn:l.length=n)(h1:(n:Int)<=30)(h2:Bp l<=1500):(AV (l.map mZ)).length<=20000/\(CL o=0->(ixR o l).length<=99000):=by
 have hT:(AV (l.map mZ)).length<=1500:=by have a:=NS (l.map mZ);have b:=MK l;omega
 refine⟨mw,fun ho=> ?_⟩;obtain⟨_,_,y,j⟩:=MP ho;have i:=Lu l;have h:=KQ (l:=l) mw;have hs:∀s∈AV (l.map mZ),s.length<=25:=fun s hs=>(Jc h s hs).2;have a:=MS hs (size:=o.bucket.toNat) mw mw (nCh o.bucket.toNat (AV (l.map mZ)).length);have b:=Nf hs (size:=o.bucket.toNat) mw (nCh o.bucket.toNat (AV (l.map mZ)).length);have c:=LX (size:=o.bucket.toNat) (n:=(AV (l.map mZ)).length) mw;have d:=Oi (bound:=l.length) (C:=22) (ls:=(AV (l.map mZ)).map (Cn (l.map mZ))) (fun x hx=>by have h3:=i.2 x hx;have h4:=RN (bound:=l.length) (l:=x) mw (FJ.1 i.1 x hx) h3.1 h3.2;omega);rw[Bb]at d;have e:C8 o.bucket.toNat (AV (l.map mZ))=hdB o.bucket.toNat (AV (l.map mZ)) (nCh o.bucket.toNat (AV (l.map mZ)).length)++bdB o.bucket.toNat (AV (l.map mZ)) (nCh o.bucket.toNat (AV (l.map mZ)).length):=Of mw _;unfold ixR ixO;rw[Ae,e,Ae];omega
end Body
namespace Body
open Go.RowKit Mem Own Canon NumPut Crc
open Recs Idx
open Block (lZ)
open Go.Proofs.YtfgdoknipbpfhaaGreatDoor.One (FrsAt FrsAt.step)
structure JS (base:Nat) (O D:List Nat) (vo vd:Value) (W:World):Prop where
 oo:W.ownsRow base 5 1 vo O.length (cZ .u8 O)
 od:W.ownsRow base 5 1 vd D.length (cZ .u8 D)
 ap:Apt vo vd
section
variable {base:Nat} {O D X:List Nat} {vo vd v':Value} {W w':World}
theorem JS.step(h:JS base O D vo vd W)(b:Below W W w'):JS base O D vo vd w':=
 ⟨eZ h.oo fun y hy=>b.block y (Aj h.oo y hy).2,eZ h.od fun y hy=>b.block y (Aj h.od y hy).2,h.ap⟩
theorem JS.dirA(h:JS base O D vo vd W)(hB:base<=W.heap.size)(g:W.grownBy w' vd.ownBlock)(o:w'.ownsRow base 5 1 v' (D.length+X.length) (cZ .u8 D++cZ .u8 X))(t:v'.ownBlock=vd.ownBlock∨v'.ownBlock=some W.heap.size):
 JS base O (D++X) vo v' w'/\Below base W w':=by
 obtain⟨a,b⟩:=GJ h.oo h.ap.symm g t;refine⟨⟨a,?_,b.symm⟩,(Ag base W).grown g hB fun y hy=>(Aj h.od y hy).1⟩;rw[Ae,show cZ .u8 (D++X)=cZ .u8 D++cZ .u8 X by simp[cZ]];exact o
theorem JS.outA(h:JS base O D vo vd W)(hB:base<=W.heap.size)(g:W.grownBy w' vo.ownBlock)(o:w'.ownsRow base 5 1 v' (O.length+X.length) (cZ .u8 O++cZ .u8 X))(t:v'.ownBlock=vo.ownBlock∨v'.ownBlock=some W.heap.size):
 JS base (O++X) D v' vd w'/\Below base W w':=by
 obtain⟨a,b⟩:=GJ h.od h.ap g t;refine⟨⟨?_,a,b⟩,(Ag base W).grown g hB fun y hy=>(Aj h.oo y hy).1⟩;rw[Ae,show cZ .u8 (O++X)=cZ .u8 O++cZ .u8 X by simp[cZ]];exact o
end
structure JE (base:Nat) (vo vd u:Value) (m:Nat) (ys:List Value) (W:World):Prop where
 own:W.ownsRow base 5 1 u m ys
 ao:Apt vo u
 ad:Apt vd u
section
variable {base m:Nat} {O D X:List Nat} {vo vd v' u:Value} {ys:List Value} {W w':World}
theorem JE.new(h:JS base O D vo vd W)(hB:base<=W.heap.size)(o:w'.ownsRow W 5 1 u m ys):JE base vo vd u m ys w':=
 ⟨kZ o hB,(IY o (Ak _) fun x hx=>(Aj h.oo x hx).2).symm,(IY o (Ak _) fun x hx=>(Aj h.od x hx).2).symm⟩
theorem JE.step(h:JE base vo vd u m ys W)(b:Below W W w'):JE base vo vd u m ys w':=⟨eZ h.own fun y hy=>b.block y (Aj h.own y hy).2,h.ao,h.ad⟩
theorem JE.dirA(h:JE base vo vd u m ys W)(g:W.grownBy w' vd.ownBlock)(t:v'.ownBlock=vd.ownBlock∨v'.ownBlock=some W.heap.size):JE base vo v' u m ys w':=by obtain⟨a,b⟩:=GJ h.own h.ad g t;exact⟨a,h.ao,b⟩
theorem JE.outA(h:JE base vo vd u m ys W)(g:W.grownBy w' vo.ownBlock)(t:v'.ownBlock=vo.ownBlock∨v'.ownBlock=some W.heap.size):JE base v' vd u m ys w':=by obtain⟨a,b⟩:=GJ h.own h.ao g t;exact⟨a,b,h.ad⟩
end
theorem src_part{p:Part}(h:p.Ok w):Src w p.A p.ls.length p.c 1 (cZ .u8 p.ls):=by
 refine⟨oW,?_⟩;by_cases h0:0<p.ls.length
 ·obtain⟨b,z,hA,_,hc⟩:=h.row h0;refine .inr ⟨_,hA,fun j u hu=> ?_⟩;have hj:j<p.ls.length:=by refine Jk fun hn=> ?_;have y:(cZ .u8 p.ls).length<=j:=(by simp[cZ];omega);rw[Ff y]at hu;cases hu
  have i:=hc j 0 hj mw;rw[CM,Bf]at i;rw[add_none,i,<-hu];have hg:=Huff.numL_get (k:= .u8) hj;rw[CM,Bf]at hg;rw[hg]
 ·cases hA:p.A with
  |none=>exact .inl ⟨rfl,(h.nil hA).1,(h.nil hA).2⟩
  |some a=>refine .inr ⟨a,rfl,fun j u hu=> ?_⟩;have h1:(cZ .u8 p.ls).length=0:=(by rw[show(cZ .u8 p.ls).length=p.ls.length by simp[cZ]];omega);rw[Ff (by rw[h1];exact Cr _)]at hu;cases hu
theorem W5(w:World)(n g base cF cG cc cx:Nat)(AF AG AC AX:Option Addr)(ps:List Part)(G CB IX:List Nat)(hn:n<=1000000)(hg:g<=20000)(dC:ps.length=g)(d8:G.length=g)(fB:∀z∈G,z<=1000000)(e7:(ps.map Part.ls).flatten.length<=500000)(hE:CB.length<=900000)(hl:IX.length<=900000)(eB:∀x∈CB,x<=255)(fk:∀x∈IX,x<=255)
 (ho:w.ownsRow base 28 1 (.slice AF g cF) g (ps.map Part.v))(fl:FrsAt w base ps)(hG:Row w w AG g 1 (jZ .i64 G))(hC:Part.Ok (⟨AC,cc,CB⟩:Part) w)(hX:Part.Ok (⟨AX,cx,IX⟩:Part) w):
 Calls prog 27 #[.int .i64 (n:Nat), .slice AF g cF, .slice AG g cG, .slice AC CB.length cc, .slice AX IX.length cx] w fun e w'=>∃v,e= .returned v/\w'.ownsRow w 5 1 v (EC n G (ps.map Part.ls) CB IX).length (cZ .u8 (EC n G (ps.map Part.ls) CB IX))/\Below w w w':=by
 obtain⟨j0,Q,L,N,M⟩:=info_parts Ee;have D1:=hid (fun wx=>JT wx n mw);have D2:=hid (fun wx=>JT wx g mw);have l1:=qZ (x:=n) mw;have l2:=qZ (x:=g) mw;have u1:IntKind.u64.wrap (n:Int)=(n:Int):=m9
 have u2:IntKind.u64.wrap (g:Int)=(g:Int):=m9
 obtain⟨SZ,cq⟩:=ii ((ps.map Part.ls).map List.length);have f2:SZ.length=g:=by rw[cq,Bb,Bb];exact dC
 have ev:Hid (EC n G (ps.map Part.ls) CB IX=(ps.map Part.ls).flatten++(AN CB++(AN IX++(AN (Ea n G SZ (AN CB).length (AN IX).length)++CD (AN (Ea n G SZ (AN CB).length (AN IX).length)).length)))):=by show _=_;unfold EC;rw[cq]
 have eH:Hid (∀x y,Ea n G SZ x y=fZ n++fZ g++A0 G SZ++(fZ x++fZ y)):=fun x y=>by unfold Ea;rw[d8];simp only[List.append_assoc]
 have fx:=hid dC;have fz:=hid d8;have f9:=hid f2;have gl:=hid fB;have d3:=hid e7;have ga:=hid eB;have gj:=hid fk;have HO:=hid ho;have go:=hid fl;have gg:Hid (Row w w AG g 1 (jZ .i64 G)):=hG;have HC:=hid hC;have HX:=hid hX;have eK:=hid cq;clear dC d8 f2 fB e7 eB fk ho fl hG hC hX cq;go_enter func27,ntmps27;go_wp2_with fail;refine(D1.out _).mono ?_;rintro e w1 ⟨v1,rfl,dz,ff⟩;have ey:Hid (JS w [] (fZ n) (.slice none 0 0) v1 w1):=⟨AI _ _ _ _,dz,fun _ h=>by cases h⟩;obtain⟨A1,c1,rfl⟩:=bZ dz;have HB:=hid ff;clear dz ff D1;obtain⟨NA,ay⟩:=ii (fZ g);rw[<-ay]at D2 l2;have az:=hid D2.out;have HJ:=hid ey.out;have gp:=hid ay;clear D2 ey ay;go_wp2_with fail;refine(az.out _).mono ?_;rintro e wA ⟨vA,rfl,aj,af⟩;obtain⟨AA,cA,rfl⟩:=bZ aj;have bb:Hid (Src wA AA NA.length cA 1 (cZ .u8 NA)):=Dq aj;have ak:=hid (HJ.out.step af);have ah:Hid (Below w w wA):=uZ af HB.out.size HB.out;have a0:=ah.out.size;clear aj af az HJ HB;go_wp2_with(at_builtin;refine iZ rfl (.tmp 21) (.tmp 25) 28 rfl w 5 j0 _ 1 1 underlying28 Q L N M rfl ip _ _ _ mz ak.out.od _ _ _ _ mz bb.out (Ci _ _) pm mw a0 ?_;intro v2 w2 i bt ab;have q:=ak.out.dirA a0 bt i ab;obtain⟨A2,c2,rfl⟩:=bZ i;have a1:=hid q.1;have aa:Hid (Below w w w2):=ah.out.trans q.2;clear q i bt ab ak bb ah);have an:Hid (fZ n++NA=fZ n++fZ g++A0 (G.take 0) (SZ.take 0)):=by show _=_;rw[gp.out];simp[A0]
 rw[an.out]at a1;have bq:Hid (JS w ((ps.take 0).map Part.ls).flatten (fZ n++fZ g++A0 (G.take 0) (SZ.take 0)) (.slice none 0 0) (.slice A2 ((fZ n).length+NA.length) c2) w2):=a1.out;have di:Hid ((fZ n++fZ g++A0 (G.take 0) (SZ.take 0)).length<=20+20*0):=by show _<=_;rw[<-an.out,Ae];omega
 clear a1;go_wp2_with fail;go_loopw [11,12,13] (fun ov dv iv wr=>∃k:Nat,k<=g/\iv= .int .i64 k/\Hid (JS w ((ps.take k).map Part.ls).flatten (fZ n++fZ g++A0 (G.take k) (SZ.take k)) ov dv wr)/\Hid ((fZ n++fZ g++A0 (G.take k) (SZ.take k)).length<=20+20*k)/\Hid (Below w w wr)) (fun _ _ iv _=>g-(intOf iv).toNat)
 case atStart=>exact⟨0,mw,rfl,bq.out,di.out,aa.out⟩
 case round=>
  obtain⟨k,hk,rfl,HJ,bi,HB⟩:=hrel;clear bq di aa an;obtain⟨wi,rfl⟩:=ii wr;have hz:=HB.out.size;by_cases eg:k<g
  ·have gk:=ic ((k:Int)<g);have gE:=ic (k<g);have x0:(0:Int)<=(k:Int):=mw;have x1:(k:Int)<(g:Int):=mw;obtain⟨bg,og,m,rfl,ha,hm,cm⟩:=Cx (gg.out.below HB.out) fz.out eg;have ca:k<ps.length:=(by rw[fx.out];exact eg);obtain⟨P,hP⟩:=ii (ps[k]);have cj:ps[k]? =some P:=(by rw[hP];exact Az ca);have eE:wi.ownsRow base 28 1 (.slice AF g cF) g (ps.map Part.v):=eZ HO.out fun y hy=>HB.out.block y (Aj HO.out y hy).2;obtain⟨gf,gc,gm,_,_⟩:=eE.form mw;injection gm with e1 e2 e3;subst e1 e3;have gr:gf<w.heap.size:=(Aj HO.out gf rfl).2;have cf:w.cell? ⟨gf,k,none⟩=some P.v:=(Lz.own_cells HO.out eg).1.trans (by rw[BG,cj];rfl);have cE:Hid (∀wx,Below w w wx->wx.cell? ⟨gf,k,none⟩=some P.v):=fun wx h=>(h.cell (p:=⟨gf,k,none⟩) gr).trans cf;have f4:Hid (∀wx,Below w w wx->Part.Ok P wx):=fun wx h=>(lZ (go.out P (by rw[hP];exact Fe ca)) rfl).step h;have g0:=gl.out m (Be hm);have el:SZ[k]? =some P.ls.length:=(by rw[eK.out,BG,BG,cj];rfl);have fH:P.ls.length<=500000:=AK (One.SE (Ck.2 ⟨P,by rw[hP];exact Fe ca,rfl⟩)) d3.out;have dw:=Uk hm el;have ef:((ps.take (k+1)).map Part.ls).flatten=((ps.take k).map Part.ls).flatten++P.ls:=by rw[Cj,cj];simp
   have gi:((ps.take k).map Part.ls).flatten.length<=500000:=by
    refine AK ?_ d3.out
    conv=>rhs;rw[<-EA k ps]
    rw[EP,List.flatten_append,Ae];omega
   have az:=hid (fun wx=>JT wx m mw);have cv:=hid (fun wx=>JT wx P.ls.length mw);have la:=qZ (x:=m) mw;have lb:=qZ (x:=P.ls.length) mw;have u3:IntKind.u64.wrap (m:Int)=(m:Int):=m9;obtain⟨pA,pc,al⟩:=P;simp only[Part.v]at cE ef dw fH el lb cv f4;have u4:IntKind.u64.wrap (al.length:Int)=(al.length:Int):=m9;have ci:Hid (fZ n++fZ g++A0 (G.take (k+1)) (SZ.take (k+1))=fZ n++fZ g++A0 (G.take k) (SZ.take k)++fZ m++fZ al.length):=(by show _=_;rw[dw];simp only[List.append_assoc]);obtain⟨NB,fh⟩:=ii (fZ al.length);rw[<-fh]at ci cv lb;obtain⟨NA,ay⟩:=ii (fZ m);rw[<-ay]at ci az la;have gC:Hid (((ps.take (k+1)).map Part.ls).flatten=((ps.take k).map Part.ls).flatten++al):=ef;have gw:=bi.out;generalize fZ n++fZ g++A0 (G.take k) (SZ.take k)=DI at *;generalize ((ps.take k).map Part.ls).flatten=OU at *;obtain⟨Ao,co,rfl⟩:=bZ HJ.out.oo;obtain⟨Ad,cd,rfl⟩:=bZ HJ.out.od;clear hm ca hP cj eE cf g0 el dw ef ay fh bi;go_wp2_with fail;refine(az.out _).mono ?_;rintro e wA ⟨vA,rfl,aj,af⟩;obtain⟨AA,cA,rfl⟩:=bZ aj;have bb:Hid (Src wA AA NA.length cA 1 (cZ .u8 NA)):=Dq aj;have ak:=hid (HJ.out.step af);have ah:Hid (Below w w wA):=uZ af HB.out.size HB.out;have a0:=ah.out.size;clear aj af az HJ HB;go_wp2_with(at_builtin;refine iZ rfl (.tmp 33) (.tmp 39) 28 rfl w 5 j0 _ 1 1 underlying28 Q L N M rfl ip _ _ _ mz ak.out.od _ _ _ _ mz bb.out (Ci _ _) pm mw a0 ?_;intro v2 w2 i bt ab;have q2:=ak.out.dirA a0 bt i ab;obtain⟨A2,c2,rfl⟩:=bZ i;have a1:=hid q2.1;have aa:Hid (Below w w w2):=ah.out.trans q2.2;have g9:=aa.out.size;clear q2 i bt ab;have hB:=cE.out w2 aa.out);clear ak bb ah a0;have hv:(DI++NA).length<=30+20*k:=mW;refine(cv.out _).mono ?_;rintro e wB ⟨vB,rfl,d4,ej⟩;obtain⟨AB,cB,rfl⟩:=bZ d4;have g2:Hid (Src wB AB NB.length cB 1 (cZ .u8 NB)):=Dq d4;have f3:=hid (a1.out.step ej);have ec:Hid (Below w w wB):=uZ ej aa.out.size aa.out;have e5:=ec.out.size;clear d4 ej cv a1 aa;have hx:=cE.out wB ec.out;go_wp2_with(first|(at_builtin;refine iZ rfl (.tmp 41) (.tmp 48) 28 rfl w 5 j0 _ 1 1 underlying28 Q L N M rfl ip _ _ _ mz f3.out.od _ _ _ _ mz g2.out (Ci _ _) pm mw e5 ?_;intro v3 w3 ae fa cT;have q3:=f3.out.dirA e5 fa ae cT;obtain⟨A3,c3,rfl⟩:=bZ ae;have bq:=hid q3.1;have cy:Hid (Below w w w3):=ec.out.trans q3.2;have e8:=cy.out.size;clear q3 ae fa cT;have hq:=cE.out w3 cy.out;have gx:Src w3 pA al.length pc 1 (cZ .u8 al):=src_part (f4.out w3 cy.out))|(at_builtin;refine iZ rfl (.tmp 50) (.tmp 54) 28 rfl w 5 j0 _ 1 1 underlying28 Q L N M rfl ip _ _ _ mz bq.out.oo _ _ _ _ mz gx (Ci _ _) pm mw e8 ?_;intro v4 w4 ai fe cH;have q4:=bq.out.outA e8 fe ai cH;obtain⟨A4,c4,rfl⟩:=bZ ai;have gv:=hid q4.1;have fs:Hid (Below w w w4):=cy.out.trans q4.2;have hp:=fs.out.size;clear q4 ai fe cH;skip));have en:=gv.out;simp only[List.length_append]at en;have be:=hid en;clear en;have fd:Hid ((DI++NA++NB).length<=20+20*(k+1)):=(by show _<=_;rw[Ae];omega);go_roundw
   case measure=>exact jo
   case rel=>go_light;exact⟨k+1,mw,iu,by rw[ci.out,gC.out];exact be.out,by rw[ci.out];exact fd.out,fs.out⟩
  ·obtain rfl:k=g:=by omega
   have gk:=ig ((k:Int)<k);have gE:=ig (k<k);have eG:G.take k=G:=BQ (by rw[fz.out];exact Ak _);have eS:SZ.take k=SZ:=BQ (by rw[f9.out];exact Ak _);have eP:ps.take k=ps:=BQ (by rw[fx.out];exact Ak _);rw[eG,eS]at HJ bi;rw[eP]at HJ;have gw:=bi.out;have gi:=d3.out;have bn:=hid (eH.out (AN CB).length (AN IX).length);have eV:=OC n G SZ (AN CB).length (AN IX).length;rw[Dp CB,Dp IX]at bn eV ev;generalize Ea n G SZ (CB.length+4) (IX.length+4)=DD at *;generalize fZ n++fZ k++A0 G SZ=DI at *;generalize (ps.map Part.ls).flatten=OU at *;obtain⟨Ao,co,rfl⟩:=bZ HJ.out.oo;obtain⟨Ad,cd,rfl⟩:=bZ HJ.out.od;have gq:=hid (HC.out);have E1:=hid (NG wi AC CB.length cc CB rfl mw HC.out.nil ga.out ((HC.out.row.below HB.out).mono hz));have E2:=hid (fun wx (h:Below w w wx)=>NG wx AX IX.length cx IX rfl mw HX.out.nil gj.out ((HX.out.row.below h).mono h.size));unfold Hl at E1 E2;obtain⟨cl,a4⟩:=ii (CB.length+4);obtain⟨il,bu⟩:=ii (IX.length+4);rw[<-a4]at E1 bn;rw[<-bu]at E2 bn;have g5:cl<=900004:=mw;have g4:il<=900004:=mw;have da:=hid a4;have dd:=hid bu;clear eG eS eP bi a4 bu eH eK gq;go_wp2_with fail;refine E1.out.mono ?_;rintro e w5 ⟨v5,rfl,cg,ee⟩;obtain⟨A5,c5,rfl⟩:=bZ cg;have cz:Hid (Below w w w5):=uZ ee hz HB.out;have be:=hid (HJ.out.step ee);have gF:Hid (w5.ownsRow w 5 1 (.slice A5 cl c5) cl (cZ .u8 (AN CB))):=kZ cg hz;have eO:Hid (JE w (.slice Ao OU.length co) (.slice Ad DI.length cd) (.slice A5 cl c5) cl (cZ .u8 (AN CB)) w5):=JE.new HJ.out hz cg;have fg:=hid (E2.out w5 cz.out);have ep:=cz.out.size;clear cg ee E1 E2 HJ HB gF hz;go_wp2_with fail;refine fg.out.mono ?_;rintro e w6 ⟨v6,rfl,ew,ct⟩;obtain⟨A6,c6,rfl⟩:=bZ ew;have dy:Hid (Below w w w6):=uZ ct ep cz.out;have fo:Hid (JE w (.slice Ao OU.length co) (.slice Ad DI.length cd) (.slice A6 il c6) il (cZ .u8 (AN IX)) w6):=JE.new be.out ep ew;have dh:=hid (eO.out.step ct);have e9:=hid (be.out.step ct);have fp:=dy.out.size;have f1:=hid (fun wx=>JT wx cl mw);have ft:=hid (fun wx=>JT wx il mw);have la:=qZ (x:=cl) mw;have lb:=qZ (x:=il) mw;have u3:IntKind.u64.wrap (cl:Int)=(cl:Int):=m9;have u4:IntKind.u64.wrap (il:Int)=(il:Int):=m9;generalize fZ cl=N1 at *;generalize fZ il=N2 at *;clear ew ct fg be cz eO ep;go_wp2_with fail;refine(f1.out _).mono ?_;rintro e w7 ⟨v7,rfl,eb,a6⟩;obtain⟨A7,c7,rfl⟩:=bZ eb;have a5:Hid (Src w7 A7 N1.length c7 1 (cZ .u8 N1)):=Dq eb;have ed:=hid (e9.out.step a6);have cS:=hid (dh.out.step a6);have ds:=hid (fo.out.step a6);have eo:Hid (Below w w w7):=uZ a6 fp dy.out;have d9:=eo.out.size;clear eb a6 f1 e9 dh fo dy fp;go_wp2_with(at_builtin;refine iZ rfl (.tmp 60) (.tmp 64) 28 rfl w 5 j0 _ 1 1 underlying28 Q L N M rfl ip _ _ _ mz ed.out.od _ _ _ _ mz a5.out (Ci _ _) pm mw d9 ?_;intro v8 w8 am ce ar;have de:=hid (cS.out.dirA ce ar);have dm:=hid (ds.out.dirA ce ar);have q8:=ed.out.dirA d9 ce am ar;obtain⟨A8,c8,rfl⟩:=bZ am;have fy:=hid q8.1;have ex:Hid (Below w w w8):=eo.out.trans q8.2;have fA:=ex.out.size;clear q8 am ce ar;skip);have g8:(DI++N1).length<=400030:=mW;clear a5 ed cS ds eo d9;refine(ft.out _).mono ?_;rintro e w9 ⟨v9,rfl,ei,bc⟩;obtain⟨A9,c9,rfl⟩:=bZ ei;have fq:Hid (Src w9 A9 N2.length c9 1 (cZ .u8 N2)):=Dq ei;have dF:=hid (fy.out.step bc);have dq:=hid (de.out.step bc);have dk:=hid (dm.out.step bc);have eh:Hid (Below w w w9):=uZ bc fA ex.out;have dx:=eh.out.size;clear ei bc ft fy de dm ex fA;go_wp2_with(at_builtin;refine iZ rfl (.tmp 66) (.tmp 70) 28 rfl w 5 j0 _ 1 1 underlying28 Q L N M rfl ip _ _ _ mz dF.out.od _ _ _ _ mz fq.out (Ci _ _) pm mw dx ?_;intro hw es Y aq Z;have bN:=hid (dq.out.dirA aq Z);have bp:=hid (dk.out.dirA aq Z);have et:=dF.out.dirA dx aq Y Z;obtain⟨cr,cw,rfl⟩:=bZ Y;have au:=hid et.1;have bk:Hid (Below w w es):=eh.out.trans et.2;have bj:=bk.out.size;clear et Y aq Z;skip);clear fq dF dq dk eh dx;have eu:DD=DI++N1++N2:=(by rw[bn.out,AE]);have a3:DD.length=DI.length+N1.length+N2.length:=(by rw[eu,Ae,Ae]);have od:=au.out.od;rw[<-eu]at od;have cC:=od;rw[a3]at cC;simp only[List.length_append]at cC;have ea:Part.Ok (⟨cr,cw,DD⟩:Part) es:=(by have h:=lZ (A:=cr) (c:=cw) (ls:=DD) (n:=DI.length+N1.length+N2.length) cC a3;exact h);have cp:=hid (NG es cr (DI.length+N1.length+N2.length) cw DD a3 mw (fun e=>by have h:=ea.nil e;exact⟨by rw[<-a3];exact h.1,h.2⟩) eV (by have h:=ea.row;simp only[a3]at h;exact h));unfold Hl at cp;obtain⟨dl,ba⟩:=ii (DD.length+4);rw[<-ba]at cp;have g6:dl<=400060:=mw;have dj:=hid ba;clear eu a3 od cC ea ba bn;refine cp.out.mono ?_;rintro e ek ⟨hD,rfl,bh,ac⟩;obtain⟨fc,fj,rfl⟩:=bZ bh;have dn:Hid (JE w (.slice Ao OU.length co) (.slice cr ((DI++N1).length+N2.length) cw) (.slice fc dl fj) dl (cZ .u8 (AN DD)) ek):=JE.new au.out bj bh;have b3:=hid (bN.out.step ac);have b5:=hid (bp.out.step ac);have b1:=hid (au.out.step ac);have bf:Hid (Below w w ek):=uZ ac bj bk.out;have c0:=bf.out.size;have fm:Hid (Src ek A5 cl c5 1 (cZ .u8 (AN CB))):=Dq b3.out.own;have he:(OU++AN CB).length<=1500000:=(by rw[Ae,Dp,<-da.out];omega);have hi:(OU++AN CB++AN IX).length<=2500000:=(by rw[Ae,Dp,<-dd.out];omega);have hf:(OU++AN CB++AN IX++AN DD).length<=3000000:=(by rw[Ae,Dp,<-dj.out];omega);have f5:(AN CB).length=cl:=(by rw[Dp,da.out]);have f6:(AN IX).length=il:=(by rw[Dp,dd.out]);have f7:(AN DD).length=dl:=(by rw[Dp,dj.out]);have f8:=hid f5;have gu:=hid f6;have e0:=hid f7;generalize AN CB=KC at *;generalize AN IX=KX at *;generalize AN DD=KD at *;clear bh ac cp au bN bp bk bj f5 f6 f7;go_wp2_with(first|(at_builtin;refine iZ rfl (.tmp 73) (.tmp 74) 28 rfl w 5 j0 _ 1 1 underlying28 Q L N M rfl ip _ _ _ mz b1.out.oo _ _ _ _ mz fm.out (Ci _ _) pm mw c0 ?_;intro ht ez J aw U;rw[<-f8.out]at J;have bm:=hid (b5.out.outA aw U);have ax:=hid (dn.out.outA aw U);have fw:Src ez A6 il c6 1 (cZ .u8 KX):=Dq bm.out.own;have du:=b1.out.outA c0 aw J U;obtain⟨hh,hj,rfl⟩:=bZ J;have b4:=du.1;(try simp only[List.length_append]at b4);have bx:=hid b4;clear b4;have b0:Hid (Below w w ez):=bf.out.trans du.2;have df:=b0.out.size;clear du J aw U;skip)|(at_builtin;refine iZ rfl (.tmp 76) (.tmp 77) 28 rfl w 5 j0 _ 1 1 underlying28 Q L N M rfl ip _ _ _ mz bx.out.oo _ _ _ _ mz fw (Ci _ _) pm mw df ?_;intro hA fi E bS ag;rw[<-gu.out]at E;have av:=hid (ax.out.outA bS ag);have a5:Src fi fc dl fj 1 (cZ .u8 KD):=Dq av.out.own;have em:=bx.out.outA df bS E ag;obtain⟨hd,hu,rfl⟩:=bZ E;have b6:=em.1;(try simp only[List.length_append]at b6);have bd:=hid b6;clear b6;have b7:Hid (Below w w fi):=b0.out.trans em.2;have dp:=b7.out.size;clear em E bS ag;skip)|(at_builtin;refine iZ rfl (.tmp 79) (.tmp 80) 28 rfl w 5 j0 _ 1 1 underlying28 Q L N M rfl ip _ _ _ mz bd.out.oo _ _ _ _ mz a5 (Ci _ _) pm mw dp ?_;intro hc e4 j dc bl;rw[<-e0.out]at j;have d0:=bd.out.outA dp dc j bl;obtain⟨g1,gB,rfl⟩:=bZ j;have b9:=d0.1;(try simp only[List.length_append]at b9);have dg:=hid b9;clear b9;have a9:Hid (Below w w e4):=b7.out.trans d0.2;have e6:=a9.out.size;clear d0 j dc bl;skip));have gh:Hid (EC n G (ps.map Part.ls) CB IX=OU++KC++KX++KD++CD dl):=(by show _=_;rw[ev.out,e0.out];simp only[List.append_assoc]);have eA:=hid (Yr e4 dl mw);have u5:IntKind.u64.wrap (dl:Int)=(dl:Int):=m9;clear b1 bx bd bf b0 b7 dn b3 b5 bm ax av fm fw a5 ev;refine eA.out.mono ?_;rintro e dt ⟨hr,rfl,b8,bC⟩;obtain⟨gn,gs,rfl⟩:=bZ b8;have fn:Hid (Src dt gn 4 gs 1 (cZ .u8 (CD dl))):=Dq b8;have cX:=hid (dg.out.step bC);have dr:Hid (Below w w dt):=uZ bC e6 a9.out;have cP:=dr.out.size;clear b8 bC eA dg a9;have cL:Hid (dt.ownsRow w 5 1 (.slice g1 (OU.length+(KC.length+KX.length)+KD.length) gB) (OU++KC++KX++KD).length (cZ .u8 (OU++KC++KX++KD))):=(by have h:=cX.out.oo;show World.ownsRow _ _ _ _ _ _ _;rw[show OU.length+(KC.length+KX.length)+KD.length=OU.length+KC.length+KX.length+KD.length by omega];exact h);clear cX;go_wp2_with(at_builtin;refine iZ rfl (.tmp 89) (.tmp 90) 28 rfl w 5 j0 _ 1 1 underlying28 Q L N M rfl ip _ _ _ mz cL.out _ _ _ _ mz fn.out (Ci _ _) pm mw cP ?_;intro gz g3 cu fu gy);have f0:Hid (Below w w g3):=dr.out.grown fu cP (fun y hy=>(Aj cL.out y hy).1);go_ret;refine⟨gz,rfl,?_,f0.out⟩;rw[gh.out];have e1:(OU++KC++KX++KD++CD dl).length=(OU++KC++KX++KD).length+4:=(by rw[Ae];rfl);have e2:cZ .u8 (OU++KC++KX++KD++CD dl)=cZ .u8 (OU++KC++KX++KD)++cZ .u8 (CD dl):=oW;rw[e1,e2];exact cu
end Body
namespace Idx
open Go.RowKit Mem Own Canon Sift
open NumPut Recs
open Ef (BX efO)
open Huff (numL_get)
theorem ZT{ts:List Str}(h:IxAt w base vT vL vals ts ls)(hx:ls[k]? =some x):
 ∃A c,vals[k]? =some (.slice A x.length c)/\Row w w A x.length 1 (jZ .i64 x):=by
 obtain⟨hk,_⟩:=Cv.1 hx;have y:k<vals.length:=by rw[h.len];exact hk
 have hv:vals[k]? =some vals[k]:=Az y;have ho:=h.r k _ x hv hx;obtain⟨A,c,e⟩:=bZ ho;rw[e]at hv ho;exact⟨A,c,hv,Row.of_own ho rfl (fun i j hi hj=>by have e0:j=0:=mw;subst e0;exact numL_get mw)⟩
end Idx
namespace Body
open Go.RowKit Mem Own Canon
theorem NL(w:World)(gb n c:Nat)(A:Option Addr)(ls:List Nat)(hc:w.cell? ⟨gb,0,none⟩=some (.slice A n c))(hn:ls.length=n)(hN:n<=1000000)(hs:ls.sum<=1000000000)(ha:Row w w A n 1 (jZ .i64 ls)):
 Calls prog 18 #[.pointer (some ⟨gb,0,none⟩)] w fun e w'=>e= .returned (.int .i64 (ls.sum:Nat))/\w'=w:=by
 have D:=hid (sum_any w A n c ls hn hN hs ha);generalize ls.sum=S at *;clear hn ha;go_enter func18,ntmps18;go_wp2_with fail;refine D.out.mono ?_;rintro e w1 ⟨rfl,rfl⟩;go_wp2_with fail;go_ret;exact⟨rfl,rfl⟩
def Fb:List Nat->Nat->Nat
 | [],_=>0
 |x :: xs,i=>if i<x then 0 else Fb xs (i-x)+1
def Io(ls:List Nat)(i:Int):Nat:=if 0<=i/\i<(ls.sum:Int)then Fb ls i.toNat else 0
def blkB(ls:List Nat)(i:Int):Bool:=decide (0<=i/\i<(ls.sum:Int))
theorem dI(w:World)(gb n c:Nat)(A:Option Addr)(ls:List Nat)(i:Int)(hc:w.cell? ⟨gb,0,none⟩=some (.slice A n c))(hn:ls.length=n)(hN:n<=1000000)(hs:ls.sum<=1000000000)(ha:Row w w A n 1 (jZ .i64 ls)):
 Calls prog 14 #[.pointer (some ⟨gb,0,none⟩),i] w fun e w'=>e= .returned (.tuple #[.int .i64 (Io ls i:Nat), .bool (blkB ls i)])/\w'=w:=by
 have DL:=hid (NL w gb n c A ls hc hn hN hs ha);by_cases E:i<0
 ·have hV:Io ls i=0:=Aa mw;have hB:blkB ls i=false:=Bt mw;rw[hV,hB];have g0:decide (i<0)=true:=by simpa using E
  clear hV hB ha hs hn hN E;go_enter func14,ntmps14;go_wp2_with fail;go_ret2;exact⟨rfl,rfl⟩
 ·obtain⟨j,rfl⟩:=Hf (show 0<=i by omega);have g0:=ig ((j:Int)<0)
  by_cases hj:j<ls.sum
  ·have hV:Io ls (j:Int)=Fb ls j:=(by unfold Io;rw[Ab mw];rfl);have hB:blkB ls (j:Int)=true:=Bc mw;rw[hV,hB];have H0:Hid (Fb ls j=0+Fb (ls.drop 0) j/\j<(ls.drop 0).sum):=(by show _/\_;rw[Hd,Cb];exact⟨rfl,hj⟩);have HN:=hid hn;obtain⟨S,hS⟩:=ii ls.sum;rw[<-hS]at DL hj hs;have g1:=ig ((S:Int)<=j);have N:=ig (S<=j);clear hV hB E hn hS;obtain⟨T,hT⟩:=ii (Fb ls j);rw[<-hT]at H0 ⊢;clear hT;go_enter func14,ntmps14;go_wp2_with fail;refine DL.out.mono ?_;rintro e w1 ⟨rfl,rfl⟩;go_wp2_with fail;go_loopw [1,6] (fun iv kv wr=>∃ (k y:Nat),k<=n/\y<=j/\iv= .int .i64 y/\kv= .int .i64 k/\Hid (wr=w1)/\Hid (T=k+Fb (ls.drop k) y/\y<(ls.drop k).sum)) (fun _ kv _=>n-(intOf kv).toNat)
   case atStart=>exact⟨0,j,mw,mw,rfl,rfl,iy,H0.out⟩
   case round=>
    obtain⟨k,y,hk,U,rfl,rfl,hw,HT⟩:=hrel;have hw:=hw.out;subst hw;clear H0
    have M:k<n:=by
     by_cases h:k<n
     ·exact h
     ·have h2:=HT.out.2;rw[EB np]at h2;simp at h2
    obtain⟨x,hx⟩:∃x,ls[k]? =some x:=⟨_,Az (by rw[HN.out];exact M)⟩;have z:ls.drop k=x :: ls.drop (k+1):=(by obtain⟨hl,e⟩:=Cv.1 hx;rw[Dj hl,e]);obtain⟨b,Y,x',rfl,_,G,d0⟩:=Cx ha HN.out M;obtain rfl:x'=x:=by rw[hx]at G;injection G with h;exact h.symm
    have hT:=HT.out;rw[z,Fb,Fo]at hT;have x0:(0:Int)<=(k:Int):=mw;have x1:(k:Int)<(n:Int):=mw;by_cases L:y<x'
    ·have gy:=ig ((x':Int)<=y);have Q:=ig (x'<=y);rw[Ab L,Bf]at hT;have J:=hid hT.1;clear hT HT hx G z L;go_wp2_with fail;go_ret2;rw[J.out];exact⟨rfl,rfl⟩
    ·have gy:=ic ((x':Int)<=y);have Q:=ic (x'<=y);rw[Aa L]at hT;have J:Hid (T=k+1+Fb (ls.drop (k+1)) (y-x')/\y-x'<(ls.drop (k+1)).sum):=⟨mw,mw⟩;have s1:IntKind.i64.wrap ((y:Int)-(x':Int))=((y-x':Nat):Int):=m8;clear hT HT hx G z;go_wp2_with fail;go_roundw
     case measure=>exact jo
     case rel=>go_light;exact⟨k+1,y-x',mw,mw,iu,iu,iy,J.out⟩
  ·have hV:Io ls (j:Int)=0:=Aa mw;have hB:blkB ls (j:Int)=false:=Bt mw;rw[hV,hB];have g1:=ic ((ls.sum:Int)<=j);have N:=ic (ls.sum<=j);generalize ls.sum=S at *;clear hV hB ha hn E hj;go_enter func14,ntmps14;go_wp2_with fail;refine DL.out.mono ?_;rintro e w1 ⟨rfl,rfl⟩;go_wp2_with fail;go_ret2;exact⟨rfl,rfl⟩
end Body
end Go.Proofs.YtfgdoknipbpfhaaGreatDoor
