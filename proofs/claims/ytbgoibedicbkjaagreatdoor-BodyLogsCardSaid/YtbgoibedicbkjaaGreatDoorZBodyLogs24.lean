/- The index of a log:  -/
import Derived.Test.YtbgoibedicbkjaaGreatDoorZBodyLogs23
import Derived.Test.YtbgoibedicbkjaaGreatDoorZBodyLogs22
namespace Go.Proofs.YtbgoibedicbkjaaGreatDoor
open Go.Lib (hid)
set_option maxHeartbeats 4000000
set_option maxRecDepth 100000
namespace Idx
open Go.RowKit Go.Maps Mem Own Canon Sift
open Recs Go.Proofs.YtbgoibedicbkjaaGreatDoor
def lZ(r:Rec):List Str:=FB r.text.data.toList r.source.data.toList
structure IxAt (w:World) (base:Nat) (vT vL:Value) (vals:List Value) (ts:List Str) (ls:List (List Nat)):Prop where
 t:w.ownsRow base 9 1 vT ts.length (tZ ts)
 l:w.ownsRow base 30 1 vL ls.length vals
 r:∀ (i:Nat) v ids,vals[i]? =some v->ls[i]? =some ids->w.ownsRow base 3 1 v ids.length (cZ .i64 ids)
def GN(ts:List (List Str))(w:World)(e:Ending)(w':World):Prop:=
 ∃vT vL vals,e= .returned (.agg #[vT,vL])/\IxAt w' w.heap.size vT vL vals (AM ts) ((AM ts).map (Bo ts))/\Below w.heap.size w w'
theorem O3:(Tryz.prog.info? 3).map (fun i=>(i.zero,i.size,i.bytes))=some (some (.int .i64 0),1,8):=by kernel_rfl
theorem OQ:(Tryz.prog.info? 30).map (fun i=>(i.zero,i.size,i.bytes))=some (some (.slice none 0 0),1,24):=by kernel_rfl
theorem QZ{r:Rec}{s:Str}(h:s∈lZ r):1<=s.length/\s.length<=25:=by
 unfold lZ at h;rw[Yn]at h;unfold GL at h;rcases BH.1 h with h|h
 ·have:=MU _ s h;omega
 ·obtain⟨x,hx,rfl⟩:=Ep.1 h;have:=MU _ x hx;simp only[List.length_cons];omega
theorem MO(t s:List UInt8):(FB t s).length<=t.length+s.length:=by have h1:=Ke (GL t s) [];have h2:=Ji t;have h3:=Ji s;unfold FB;unfold GL at h1;rw[Ai,BN]at h1;unfold GL;simp only[List.length_nil]at h1;omega
theorem Lj(ts:List (List Str))(u:Str):(Bo ts u).length<=ts.length:=by unfold Bo;exact AV (List.length_filter_le _ _) (by simp)
theorem Jj{w w':World}{base i s s' n n':Nat}{e e':TypeId}{v v':Value}{xs j:List Value}(h:w.ownsRow base e s v n xs)(ho:w.ownsRow i e' s' v' n' j)(z:e≠e')(hg:w.grownBy w' v'.ownBlock):w'.ownsRow base e s v n xs:=
 dZ h (fun y hy=>hg.block y (Ae h y hy).2 (fun e=>by
  rcases EJ h ho z with h0|h0
  ·rw[h0]at hy;cases hy
  ·exact h0 (hy.trans e)))
section
variable {H:Type} {P:Program} {kt:TypeId} {R:Value->Option (DataW H×List MemPlace)} {w w':World} {mb m:Nat} {D:DataW H}
theorem XI{base s n:Nat}{e:TypeId}{v:Value}{xs:List Value}(hm:w.ownsMap P kt R mb m D)(ho:w.ownsRow base e s v n xs)(hg:w.grownBy w' (some mb)):w'.ownsRow base e s v n xs:=
 dZ ho fun b hb=>hg.block b (Ae ho b hb).2 fun he=>by
  injection he with he;subst he;obtain⟨es,h,h1,_⟩:=hm;rcases ho.2 with ⟨hv,_⟩|⟨g',j,cur,hv,_,h2,_⟩
  ·rw[hv]at hb;cases hb
  ·rw[hv]at hb;have i:g'=b:=(by simpa[Value.ownBlock]using hb);rw[i,h1]at h2;cases h2
theorem Xo{g:Nat}{t:TypeId}{cs:Array Value}(hm:w.ownsMap P kt R mb m D)(h:Blk w g t cs)(hg:w.grownBy w' (some mb)):Blk w' g t cs:=
 h.grown hg fun he=>by injection he with he;subst he;obtain⟨es,i,h1,_⟩:=hm;have h2:w.heap[g]? =some (.cells cs t):=h;rw[h1]at h2;cases h2
end
def E6(ts:List (List Str))(T:List Str)(j:Nat)(s:Str):List Nat:=Bo ts s++(if s∈T.take j then [ts.length]else [])
theorem Y3(ts:List (List Str))(T:List Str):E6 ts T 0=Bo ts:=by funext s;simp[E6]
theorem Yx(ts:List (List Str))(T:List Str):E6 ts T T.length=Bo (ts++ [T]):=by
 funext s
 rw[XS];unfold E6;rw[List.take_length];simp
theorem YP{ts:List (List Str)}{T:List Str}(hT:DJ T){j:Nat}{t:Str}(h:T[j]? =some t):(fun s=>if s=t then E6 ts T j s++ [ts.length]else E6 ts T j s)=E6 ts T (j+1):=by
 have y:t ∉ T.take j:=fun hm=>by obtain⟨i,hi,e⟩:=List.getElem_of_mem hm;rw[AO]at hi;rw[List.getElem_take]at e;obtain⟨hj,e2⟩:=BO.1 h;have:=List.pairwise_iff_getElem.1 hT i j (by omega) hj (by omega);rw[e,e2]at this;exact Gg t this
 funext s
 unfold E6;rw[Ed,h];by_cases hs:s=t
 ·subst hs;rw[Ab rfl,Aa y];simp
 ·rw[Aa hs];simp[hs]
theorem LQ(ts:List (List Str))(s:Str):s∈AM ts↔Bo ts s≠ []:=by
 rw[QV];unfold Bo;rw[ne_eq,List.filter_eq_nil_iff];constructor
 ·rintro⟨t,ht,hs⟩ h;obtain⟨i,hi,rfl⟩:=List.getElem_of_mem ht;have:=h i (Eo.2 hi);rw[Ar,AD hi]at this;simp at this;exact this hs
 ·intro h;refine Jq fun hn=>h fun i hi=> ?_;rw[Eo]at hi;rw[Ar,AD hi];simp only[Option.getD_some,List.contains_iff_mem];exact fun hm=>hn ⟨_,Hr hi,hm⟩
theorem Yi{H:Type}{P:Program}{kt:TypeId}{R:Value->Option (DataW H×List MemPlace)}{w:World}{mb m:Nat}{D:DataW H}(h:w.ownsMap P kt R mb m D):Maps.size D<=m:=by obtain⟨es,i,_,_,hs,rfl⟩:=h;show(List.foldr DataW.insert [] _).length<=m;rw[length_sorted,BN];simpa using hs
structure St3 (w:World) (mb m base rb bo B2:Nat) (D:DataW Value) (I:Str->List Nat) (V:Str->Value) (vS vT vL:Value) (q nT nL:Nat) (SS:List Str):Prop where
 mi:MI w mb m base D I V
 res:Blk w rb 36 #[.slice none 0 0, .slice none 0 0]
 box:Blk w bo 36 #[vT,vL]
 ne:rb≠bo
 tt:w.ownsRow B2 9 1 vT nT (tZ (SS.take nT))
 ll:w.ownsRow B2 30 1 vL nL ((SS.take nL).map V)
 ss:w.ownsRow base 9 1 vS q (tZ SS)
 sg:∀g,vS.ownBlock=some g->g<B2
 b2:base<=B2
 bz:B2<=w.heap.size
section
variable {w w4:World} {mb m base rb bo B2 q nT nL:Nat} {D:DataW Value} {I:Str->List Nat} {V:Str->Value} {vS vT vL v4:Value} {SS:List Str} {o:Obj}
theorem St3.putT(h:St3 w mb m base rb bo B2 D I V vS vT vL q nT nL SS)(hg:(w.alloc o).grownBy w4 vT.ownBlock)(j:w4.ownsRow B2 9 1 v4 (nT+1) (tZ (SS.take (nT+1)))):
 St3 (w4.setCell ⟨bo,0,none⟩ v4) mb m base rb bo B2 D I V vS v4 vL q (nT+1) nL SS:=by
 have i:Blk w4 bo 36 #[vT,vL]:=(h.box.alloc o).grown hg (fun e=>fZ h.tt h.box (by decide) e.symm);have G:w4.heap[mb]? =w.heap[mb]? :=(hg.block mb (by have:=h.mi.map.lt;simp;omega) (fun e=>IM h.mi h.tt e.symm rfl)).trans (BI w o mb h.mi.map.lt)
 have y:MI w4 mb m base D I V:=(h.mi.step (bZ (Ag _ _) (o:=o))).kept (hg.block mb (by have:=h.mi.map.lt;simp;omega) (fun e=>IM h.mi h.tt e.symm rfl)) fun s b hb=>by
  refine hg.block b (by have:=(Ae (h.mi.row s) b hb).2;simp;omega) fun e=> ?_;rcases EJ (h.mi.row s) h.tt (by decide)with h0|h0
  ·rw[h0]at hb;cases hb
  ·exact h0 (hb.trans e)
 have E:mb≠bo:=fun e=>by obtain⟨es,z,h1,_⟩:=y.map;have h2:w4.heap[bo]? =some (.cells #[vT,vL] 36):=i;rw[e,h2]at h1;cases h1
 refine⟨y.kept (AK w4 _ _ mb E) fun s b hb=>AK w4 _ _ b (fun e=>fZ (y.row s) i (by decide) (hb.trans (AJ some e))),?_,?_,h.ne,?_,?_,?_,h.sg,h.b2,?_⟩
 ·exact((h.res.alloc o).grown hg (fun e=>fZ h.tt h.res (by decide) e.symm)).far h.ne _
 ·exact i.set 0 v4
 ·exact Ca j (fZ j i (by decide)) _
 ·have:=Jj (h.ll.alloc o) (h.tt.alloc o) (by decide) hg;exact Ca this (fZ this i (by decide)) _
 ·have:w4.ownsRow base 9 1 vS q (tZ SS):=dZ h.ss fun b hb=>(hg.block b (by have:=(Ae h.ss b hb).2;simp;omega) (fun e=>by have h1:=h.sg b hb;have h2:=(Ae h.tt b e.symm).1;omega)).trans (BI w o b (Ae h.ss b hb).2);exact Ca this (fZ this i (by decide)) _
 ·have h1:=hg.size;have h2:=h.bz;simp at h1 ⊢;omega
theorem St3.putL(h:St3 w mb m base rb bo B2 D I V vS vT vL q nT nL SS)(hg:(w.alloc o).grownBy w4 vL.ownBlock)(j:w4.ownsRow B2 30 1 v4 (nL+1) ((SS.take (nL+1)).map V)):
 St3 (w4.setCell ⟨bo,1,none⟩ v4) mb m base rb bo B2 D I V vS vT v4 q nT (nL+1) SS:=by
 have i:Blk w4 bo 36 #[vT,vL]:=(h.box.alloc o).grown hg (fun e=>fZ h.ll h.box (by decide) e.symm)
 have y:MI w4 mb m base D I V:=(h.mi.step (bZ (Ag _ _) (o:=o))).kept (hg.block mb (by have:=h.mi.map.lt;simp;omega) (fun e=>IM h.mi h.ll e.symm rfl)) fun s b hb=>by
  refine hg.block b (by have:=(Ae (h.mi.row s) b hb).2;simp;omega) fun e=> ?_;rcases EJ (h.mi.row s) h.ll (by decide)with h0|h0
  ·rw[h0]at hb;cases hb
  ·exact h0 (hb.trans e)
 have E:mb≠bo:=fun e=>by obtain⟨es,z,h1,_⟩:=y.map;have h2:w4.heap[bo]? =some (.cells #[vT,vL] 36):=i;rw[e,h2]at h1;cases h1
 refine⟨y.kept (AK w4 _ _ mb E) fun s b hb=>AK w4 _ _ b (fun e=>fZ (y.row s) i (by decide) (hb.trans (AJ some e))),?_,?_,h.ne,?_,?_,?_,h.sg,h.b2,?_⟩
 ·exact((h.res.alloc o).grown hg (fun e=>fZ h.ll h.res (by decide) e.symm)).far h.ne _
 ·exact i.set 1 v4
 ·have:=Jj (h.tt.alloc o) (h.ll.alloc o) (by decide) hg;exact Ca this (fZ this i (by decide)) _
 ·exact Ca j (fZ j i (by decide)) _
 ·have:=Jj (h.ss.alloc o) (h.ll.alloc o) (by decide) hg;exact Ca this (fZ this i (by decide)) _
 ·have h1:=hg.size;have h2:=h.bz;simp at h1 ⊢;omega
end
theorem Kd(w:World)(A:Option Addr)(n c:Nat)(l:List Rec)(hn:l.length=n)(hN:n<=20000)(ar:∀r∈l,r.source.size<=50000/\r.text.size<=50000)(ha:Row w w.heap.size A n 4 (Db l)):
 Calls Tryz.prog 56 #[.slice A n c] w (GN (l.map lZ) w):=by
 obtain⟨j0,b5,b3,bQ,bA⟩:=info_parts O3;have HN:=hid hn;have D1:Hid (∀wx r,r∈l->Calls Tryz.prog 104 #[.agg #[.int .u64 r.time, .int .u8 r.level, .string r.source, .string r.text]] wx (Hd (lZ r) wx)):=fun wx r hr=>Ts wx r.time r.level r.source r.text (ar r hr).1 (ar r hr).2;have aw:Hid (∀r∈l,(lZ r).length<=100000):=fun r hr=>by have:=MO r.text.data.toList r.source.data.toList;have h1:=Lib.size_eq r.text;have h2:=Lib.size_eq r.source;have:=ar r hr;unfold lZ;omega
 have aR:=@run_makeMap Tryz.prog;unfold Hd at D1;unfold GN;clear hn ar;go_enter Tryz.func56,Tryz.ntmps56;go_wp2_with fail;have ac:Blk (w.alloc (.cells #[.slice none 0 0, .slice none 0 0] 36)) w.heap.size 36 #[.slice none 0 0, .slice none 0 0]:=Blk.made _ _ _;have aS:Below w.heap.size w (w.alloc (.cells #[.slice none 0 0, .slice none 0 0] 36)):=bZ (Ag _ _);have a8:(w.alloc (.cells #[.slice none 0 0, .slice none 0 0] 36)).heap.size=w.heap.size+1:=by simp
 generalize w.alloc (.cells #[.slice none 0 0, .slice none 0 0] 36)=w1 at *;rw[<-a8];have aI:Hid (MI (w1.alloc (.map #[] 0)) w1.heap.size 0 w.heap.size (.map []) (fun _=> []) (fun _=> .slice none 0 0)):=MI.start w1 w.heap.size;have be:=hid (ac.alloc (.map #[] 0));have bg:Hid (Below w.heap.size w (w1.alloc (.map #[] 0))):=bZ aS;obtain⟨mb,aQ⟩:∃mb,mb=w1.heap.size:=⟨_,rfl⟩;rw[<-aQ]at aI ⊢;have bW:Hid (w.heap.size<=mb):=by show _<=_;rw[aQ];exact aS.size
 generalize w1.alloc (.map #[] 0)=w2 at *;clear ac aS a8 aQ aR;go_loopw [14] (fun iv wr=>∃ (k m:Nat) (D:DataW Value) (V:Str->Value),k<=n/\m<=100000*k/\iv= .int .i64 k/\Hid (MI wr mb m w.heap.size D (Bo ((l.take k).map lZ)) V)/\Hid (Blk wr w.heap.size 36 #[.slice none 0 0, .slice none 0 0])/\Hid (Below w.heap.size w wr)) (fun iv _=>n-(intOf iv).toNat)
 case atStart=>exact⟨0,0, .map [],fun _=> .slice none 0 0,by omega,by omega,rfl,aI.out,be.out,bg.out⟩
 case round=>
  obtain⟨k,m,D,V,hk,hm,rfl,HM,HX,HB⟩:=hrel;clear aI be bg;obtain⟨w0,rfl⟩:∃w0:World,w0=wr:=⟨_,rfl⟩;by_cases bD:k<n
  ·have gk:decide ((k:Int)<(n:Int))=true:=(by simp;omega);have bU:decide (k<n)=true:=(by simp;omega);have x0:(0:Int)<=(k:Int):=(by omega);have x1:(k:Int)<(n:Int):=(by omega);obtain⟨b,cc,r,rfl,ca,hg,c0,c1,c2,c3⟩:=Row.rec (ha.below HB.out) HN.out bD;have aU:=BF hg;have E1:=hid (fun wx=>D1.out wx r aU);have bI:=aw.out r aU;have bi:DJ (lZ r):=Xq _ _;have ab:∀s∈lZ r,1<=s.length/\s.length<=25:=fun s hs=>QZ hs;have aF:(l.take (k+1)).map lZ=(l.take k).map lZ++ [lZ r]:=(by rw[Ed,hg,Hp];rfl);have av:((l.take k).map lZ).length=k:=(by rw[BN,AO,HN.out];omega);obtain⟨TS,aA⟩:∃TS,TS=(l.take k).map lZ:=⟨_,rfl⟩;rw[<-aA]at aF av HM;have aq:=hid aF;have bb:=hid av;have bR:=hid bi;have bT:=hid ab;clear hg aU bi ab aF av aA;generalize lZ r=T at *;obtain⟨q,hq⟩:∃q,q=T.length:=⟨_,rfl⟩;rw[<-hq]at E1 bI;have HQ:=hid hq;clear hq;go_wp2_with fail;have au:Below w0.heap.size w0 (w0.alloc (.cells #[.int .u64 r.time, .int .u8 r.level, .string r.source, .string r.text] 59)):=bZ (Ag _ _);generalize w0.alloc (.cells #[.int .u64 r.time, .int .u8 r.level, .string r.source, .string r.text] 59)=w3 at *;have L:=hid (HM.out.step au);have aj:=hid (HX.out.step au);have M:Hid (Below w.heap.size w w3):=eZ au HB.out;clear au HM HX HB c0 c1 c2 c3;refine(E1.out _).mono ?_;rintro e w4 ⟨v4,rfl,aM,ai⟩;obtain⟨A4,c4,rfl⟩:=aZ aM;have a3:=hid (L.out.step ai);have bn:=hid (aj.out.step ai);have aV:Hid (Below w.heap.size w w4):=eZ ai M.out;have bu:=hid aM;have bj:=ai.size;have bL:=aV.out.size;clear ai aM E1 L aj M;go_wp2_with fail;go_loopw [22] (fun jv wr=>∃ (j m':Nat) (D':DataW Value) (V':Str->Value),j<=q/\m'<=m+j/\jv= .int .i64 j/\Hid (MI wr mb m' w.heap.size D' (E6 TS T j) V')/\Hid (wr.ownsRow w3.heap.size 9 1 (.slice A4 q c4) q (tZ T))/\Hid (Blk wr w.heap.size 36 #[.slice none 0 0, .slice none 0 0])/\Hid (Below w.heap.size w wr)) (fun jv _=>q-(intOf jv).toNat)
   case atStart=>exact⟨0,m,D,V,by omega,by omega,rfl,(by show MI _ _ _ _ _ _ _;rw[Y3];exact a3.out),bu.out,bn.out,aV.out⟩
   case round=>
    obtain⟨j,m',D',V',hj,ci,rfl,HM,HO,HX,HB⟩:=hrel;clear a3 bu bn aV bj bL;obtain⟨wi,rfl⟩:∃wi:World,wi=wr:=⟨_,rfl⟩;by_cases cf:j<q
    ·have gj:decide ((j:Int)<(q:Int))=true:=(by simp;omega);have aD:decide (j<q)=true:=(by simp;omega);have y0:(0:Int)<=(j:Int):=(by omega);have y1:(j:Int)<(q:Int):=(by omega);obtain⟨t,ht⟩:∃t,T[j]? =some t:=⟨_,AD (by have:=HQ.out;omega)⟩;obtain⟨g,cg,aT,bS,_⟩:=HO.out.form (by omega);injection aT with hA1 hA2 hA3;subst hA1 hA3;have ck:wi.cell? ⟨g,j,none⟩=some (.string (bs t)):=(by rw[HO.out.cellAt j (by omega)];exact Gd ht);have bq:=bT.out t (BF ht);have aP:=YP (ts:=TS) bR.out ht;rw[bb.out]at aP;have aY:=hid aP;obtain⟨A5,c5,hV⟩:=aZ (HM.out.row t);have ak:=HM.out.look t (by unfold maxLen;omega);have Y:=HM.out.row t;rw[hV]at ak Y
     have bJ:(E6 TS T j t).length<=20001:=by
      have h1:=Lj TS t;have h2:=bb.out;unfold E6;rw[Ai];split
      ·simp only[List.length_singleton];omega
      ·simp only[List.length_nil];omega
     obtain⟨p,hp⟩:∃p,p=(E6 TS T j t).length:=⟨_,rfl⟩;have bX:=hid hp;rw[<-hp]at ak Y bJ hV;have J:=hid Y;have HV:=hid hV;have az:=hid bq;have a6:=HB.out.size;have aR:m'<maxLen:=(by unfold maxLen;omega);clear ht bq aP hV Y hp HQ;go_wp2_with(at_builtin;refine gZ rfl (.tmp 30) (.tmp 32) 30 rfl w.heap.size 3 j0 _ 1 8 Tryz.underlying30 b5 b3 bQ bA rfl (by decide) _ _ _ (by rfl) (J.out.alloc _) _ 1 1 [.int .i64 (k:Nat)] (by rfl) (Src.of_blk (Blk.made _ _ _) 1 1 1 rfl) (by intro u hu;simp at hu;rcases hu with rfl;rfl) (by unfold maxLen;omega) (by omega) (by simp;omega) ?_;intro v6 w6 z E aa;have bp:(some mb:Option Nat)≠(Value.slice A5 p c5).ownBlock:=(fun e=>IM HM.out J.out e.symm rfl);have aK:=(HM.out.map.alloc (.cells #[.int .i64 (k:Nat)] 3)).kept E bp;obtain⟨w7,b8,bh,ba⟩:=aK.update (string_keyed Tryz.underlying9) Tryz.underlying150 aR (MZ t (by have:=az.out;unfold maxLen;omega)) (show JU v6=some (.held v6,[]) from rfl);have H6:=hid (And.intro z (And.intro E (And.intro aa aK)));have H7:=hid (And.intro bh ba);clear z E aa bp aK bh ba);have aJ:Hid (MI w7 mb (m'+1) w.heap.size (D'.put (.string t) (.held v6)) (E6 TS T (j+1)) (fun s=>if s=t then v6 else V' s)):=(by show MI _ _ _ _ _ _ _;rw[<-aY.out];exact MI.put HM.out az.out.2 (bZ (Ag _ _)) (by rw[HV.out];exact H6.out.2.1) (by rw[<-bX.out];exact H6.out.1) (by rw[HV.out];exact H6.out.2.2.1.imp_right fun e=>⟨_,e,Aj _⟩) H7.out.1 H7.out.2);have bE:Hid (w7.ownsRow w3.heap.size 9 1 (.slice (some ⟨g,0,none⟩) q c4) q (tZ T)):=XI H6.out.2.2.2 (Jj (HO.out.alloc _) (J.out.alloc _) (by decide) H6.out.2.1) H7.out.2;have bV:Hid (Blk w7 w.heap.size 36 #[.slice none 0 0, .slice none 0 0]):=Xo H6.out.2.2.2 ((HX.out.alloc _).grown H6.out.2.1 (fun e=>fZ J.out HX.out (by decide) e.symm)) H7.out.2;have bN:Hid (Below w.heap.size w w7):=((kZ a6 HB.out).grown H6.out.2.1 (by simp;omega) (fun y hy=>(Ae J.out y hy).1)).grown H7.out.2 (by have:=(kZ (o:= .cells #[.int .i64 (k:Nat)] 3) a6 HB.out).size;have:=H6.out.2.1.size;omega) (fun y hy=>by injection hy with hy;rw[<-hy];exact bW.out);clear H6 H7 HM HO HX HB J HV aY;go_roundw
     case measure=>go_light;simp[intOf];omega
     case rel=>go_light;exact⟨j+1,m'+1,_,_,by omega,by omega,by first|rfl|go_num,aJ.out,bE.out,bV.out,bN.out⟩
    ·obtain rfl:j=q:=by omega
     have gj:decide ((j:Int)<(j:Int))=false:=(by simp);have aD:decide (j<j)=false:=(by simp);have aJ:Hid (MI wi mb m' w.heap.size D' (Bo ((l.take (k+1)).map lZ)) V'):=(by show MI _ _ _ _ _ _ _;rw[aq.out,<-Yx,<-HQ.out];exact HM.out);clear HM HQ;go_wp2_with fail;go_roundw
     case measure=>go_light;simp[intOf];omega
     case rel=>go_light;exact⟨k+1,m',D',V',by omega,by omega,by first|rfl|go_num,aJ.out,HX.out,HB.out⟩
  ·obtain rfl:k=n:=by omega
   have gk:decide ((k:Int)<(k:Int))=false:=(by simp);have bU:decide (k<k)=false:=(by simp);have aC:l.take k=l:=Bv (by rw[HN.out];exact Aj _);rw[aC]at HM;have ae:(l.map lZ).length=k:=(by rw[BN,HN.out]);obtain⟨TS,ab⟩:∃TS,TS=l.map lZ:=⟨_,rfl⟩;rw[<-ab]at HM ae;have af:=hid ab;have bc:=hid ae;clear aC ab ae D1 aw ha;have ac:Blk (w0.alloc (.cells #[.slice none 0 0, .slice none 0 0] 36)) w0.heap.size 36 #[.slice none 0 0, .slice none 0 0]:=Blk.made _ _ _;have ax:Below w0.heap.size w0 (w0.alloc (.cells #[.slice none 0 0, .slice none 0 0] 36)):=bZ (Ag _ _);obtain⟨bo,aH⟩:∃bo,bo=w0.heap.size:=⟨_,rfl⟩;go_wp2_with fail;rw[<-aH]at ac ⊢;have bl:w.heap.size<bo:=(by rw[aH];exact HX.out.lt);generalize w0.alloc (.cells #[.slice none 0 0, .slice none 0 0] 36)=w3 at *;have L:=hid (HM.out.step ax);have aj:=hid (HX.out.step ax);have M:Hid (Below w.heap.size w w3):=eZ ax HB.out;have ay:=hid ac;have a9:=Yi L.out.map;have bf:m<=2000000000:=(by omega);have DK:=hid (callsIn_wide.1 (Tryz.maps_Keys_106 (some mb) w3));have DS:=hid (callsIn_wide.1 (Tryz.slices_Sorted_keys_105_106 mb m D JU w3 L.out.map (by unfold maxLen;omega) (by omega)));clear ax ac HM HX HB aH;refine DK.out.mono ?_;rintro e w4 ⟨rfl,rfl⟩;clear DK;go_wp2_with fail;refine DS.out.mono ?_;rintro e w5 ⟨vS,ss,rfl,U,ag,a7,bd⟩;have Q:=L.out.keys U (Pg TS) (LQ TS);have aE:ss.length=(AM TS).length:=(by rw[<-Q];exact(List.length_mergeSort ss).symm);rw[aE,show ss.mergeSort (fun x y=>decide (x<=y))=AM TS from Q,Vt]at ag;have G:Below w3.heap.size w3 w5:=eZ bd (bZ (Ag _ _));have h:w5.ownsRow w.heap.size 9 1 vS (AM TS).length (tZ (AM TS)):=jZ ag (by have:=M.out.size;simp;omega);obtain⟨SS,al⟩:∃SS,SS=AM TS:=⟨_,rfl⟩;rw[<-al]at h;have bG:SS.length<=2000000000:=(by rw[al,<-aE,U.length_eq];refine AV ?_ (AV a9 bf);unfold strKeys Maps.size;cases D<;>simp);obtain⟨q,hq⟩:∃q,q=SS.length:=⟨_,rfl⟩;rw[<-hq]at h bG;obtain⟨AS,cS,rfl⟩:=aZ h
   have aN:Hid (St3 w5 mb m w.heap.size w.heap.size bo w5.heap.size D (Bo TS) V (.slice AS q cS) (.slice none 0 0) (.slice none 0 0) q 0 0 SS):=
    ⟨L.out.step G,aj.out.step G,ay.out.step G,by omega,Am _ _ _ _,Am _ _ _ _,h,fun g hg=>(Ae h g hg).2,by have:=M.out.size;have:=G.size;omega,Aj _⟩
   have bm:Hid (Below w.heap.size w w5):=eZ G M.out;have HQ:=hid hq;have Z:=hid al;have bB:Hid (∀s∈SS,s.length<=25):=fun s hs=>L.out.long s ((LQ TS s).1 (by rw[<-Z.out];exact hs));have ch:Hid (∀s,(Bo TS s).length<=20000):=fun s=>by have h1:=Lj TS s;have h2:=bc.out;omega
   obtain⟨B2,a1⟩:∃B2,B2=w5.heap.size:=⟨_,rfl⟩;rw[<-a1]at aN;clear U ag a7 bd Q aE G h hq al DS L aj ay M a1 a9 bf;obtain⟨i0,bM,b6,bY,b7⟩:=info_parts JG;obtain⟨i1,bF,bP,b4,bO⟩:=info_parts OQ;go_wp2_with fail;go_loopw [40] (fun iv wr=>∃ (k2:Nat) (vT vL:Value),k2<=q/\iv= .int .i64 k2/\Hid (St3 wr mb m w.heap.size w.heap.size bo B2 D (Bo TS) V (.slice AS q cS) vT vL q k2 k2 SS)/\Hid (Below w.heap.size w wr)) (fun iv _=>q-(intOf iv).toNat)
   case atStart=>exact⟨0,_,_,by omega,rfl,aN.out,bm.out⟩
   case round=>
    obtain⟨k2,vT,vL,cd,rfl,HS,HB⟩:=hrel;clear aN bm;by_cases av:k2<q
    ·have gj:decide ((k2:Int)<(q:Int))=true:=(by simp;omega);have aD:decide (k2<q)=true:=(by simp;omega);have y0:(0:Int)<=(k2:Int):=(by omega);have y1:(k2:Int)<(q:Int):=(by omega);obtain⟨t,ht⟩:∃t,SS[k2]? =some t:=⟨_,AD (by have:=HQ.out;omega)⟩;obtain⟨g,cg,aT,bS,_⟩:=HS.out.ss.form (by omega);injection aT with hA1 hA2 hA3;subst hA1 hA3;have ck:wr.cell? ⟨g,k2,none⟩=some (.string (bs t)):=(by rw[HS.out.ss.cellAt k2 (by omega)];exact Gd ht);have aW:SS.take (k2+1)=SS.take k2++ [t]:=(by rw[Ed,ht];rfl);have aq:=hid aW;have a4:=bB.out t (BF ht);have aw:=hid a4;obtain⟨A5,c5,rfl⟩:=aZ HS.out.tt;obtain⟨A8,c8,rfl⟩:=aZ HS.out.ll;obtain⟨A7,c7,hV⟩:=aZ (HS.out.mi.row t);have HV:=hid hV;have b0:=HS.out.box.cell 0;simp only[List.getElem?_toArray,List.getElem?_cons_zero]at b0;have bH:=HB.out.size;have b9:=HS.out.bz;have aB:=HS.out.b2;obtain⟨p,hp⟩:∃p,p=(Bo TS t).length:=⟨_,rfl⟩;rw[<-hp]at HV;clear ht aW a4 hV hp;go_wp2_with(first|(at_builtin;refine gZ rfl (.tmp 45) (.tmp 47) 33 rfl B2 9 i0 _ 1 16 Tryz.underlying33 bM b6 bY b7 rfl (by decide) _ _ _ (by rfl) (HS.out.tt.alloc _) _ 1 1 [.string (bs t)] (by rfl) (Src.of_blk (Blk.made _ _ _) 1 1 1 rfl) (by intro u hu;simp at hu;rcases hu with rfl;rfl) (by unfold maxLen;omega) (by omega) (by simp;omega) ?_;intro v6 w6 z E aa;obtain⟨A6,c6,rfl⟩:=aZ z;have am:=HS.out.putT E (by rw[aq.out,I8];exact z);have ak:=am.mi.look t (by have:=aw.out;unfold maxLen;omega);rw[HV.out]at ak;have f6:=((HS.out.box.alloc _).grown E (fun e=>fZ HS.out.tt HS.out.box (by decide) e.symm)).frozen 0;have e6:=((HS.out.box.alloc _).grown E (fun e=>fZ HS.out.tt HS.out.box (by decide) e.symm)).cell 0;have bK:=((HS.out.box.alloc _).grown E (fun e=>fZ HS.out.tt HS.out.box (by decide) e.symm)).cell 1;simp only[List.getElem?_toArray,List.getElem?_cons_zero,List.getElem?_cons_succ]at e6 bK;have an:Hid (Below w.heap.size w w6):=(kZ bH HB.out).grown E (by simp;omega) (fun y hy=>AV aB (Ae HS.out.tt y hy).1);have H6:=hid am;have bt:=am.bz;clear am z E aa)|(at_builtin;refine gZ rfl (.tmp 51) (.tmp 55) 34 rfl B2 30 i1 _ 1 24 Tryz.underlying34 bF bP b4 bO rfl (by decide) _ _ _ (by rfl) (H6.out.ll.alloc _) _ 1 1 [.slice A7 p c7] (by rfl) (Src.of_blk (Blk.made_at _ _ _ (by simp)) 1 1 1 rfl) (by intro u hu;simp at hu;rcases hu with rfl;rfl) (by unfold maxLen;omega) (by omega) (by simp at bt ⊢;omega) ?_;intro v9 w9 N ah a5;obtain⟨A9,c9,rfl⟩:=aZ N;have bk:=H6.out.putL ah (by rw[aq.out,Hp,List.map_singleton,HV.out];exact N);have f9:=((H6.out.box.alloc _).grown ah (fun e=>fZ H6.out.ll H6.out.box (by decide) e.symm)).frozen 1;have e9:=((H6.out.box.alloc _).grown ah (fun e=>fZ H6.out.ll H6.out.box (by decide) e.symm)).cell 1;simp only[List.getElem?_toArray,List.getElem?_cons_zero,List.getElem?_cons_succ]at e9;have a0:Hid (Below w.heap.size w w9):=(kZ (by have:=an.out.size;simp;omega) (nZ (Nat.le_of_lt bl) an.out)).grown ah (by have:=an.out.size;simp;omega) (fun y hy=>AV aB (Ae H6.out.ll y hy).1);have H9:=hid bk;clear bk N ah a5));have bC:Hid (Below w.heap.size w (w9.setCell ⟨bo,1,none⟩ (.slice A9 (k2+1) c9))):=nZ (Nat.le_of_lt bl) a0.out;clear H6 an a0 HS HB;go_roundw
     case measure=>go_light;simp[intOf];omega
     case rel=>go_light;exact⟨k2+1,_,_,by omega,by first|rfl|go_num,H9.out,bC.out⟩
    ·obtain rfl:k2=q:=by omega
     have gj:decide ((k2:Int)<(k2:Int))=false:=(by simp);have aD:decide (k2<k2)=false:=(by simp);obtain⟨A5,c5,rfl⟩:=aZ HS.out.tt;obtain⟨A8,c8,rfl⟩:=aZ HS.out.ll;have b0:=HS.out.box.cell 0;have b1:=HS.out.box.cell 1;have r0:=HS.out.res.cell 0;have r1:=HS.out.res.cell 1;have s0:=HS.out.res.frozen 0;have s1:=HS.out.res.frozen 1;simp only[List.getElem?_toArray,List.getElem?_cons_zero,List.getElem?_cons_succ]at b0 b1 r0 r1;go_wp2_with fail;have aL:SS.take k2=SS:=Bv (by rw[<-HQ.out];exact Aj _);have aG:=HS.out.tt;have aO:=HS.out.ll;rw[aL]at aG aO;have aX:=HS.out.b2;have n1:(Value.slice A5 k2 c5).ownBlock≠some w.heap.size:=fZ aG HS.out.res (by decide);have n2:(Value.slice A8 k2 c8).ownBlock≠some w.heap.size:=fZ aO HS.out.res (by decide);refine AN (v:= .agg #[.slice A5 k2 c5, .slice A8 k2 c8]) ?_ rfl ⟨_,_,SS.map V,rfl,⟨?_,?_,?_⟩,?_⟩
     ·have e0:=(HS.out.res.set 0 (.slice A5 k2 c5)).cell 0;have e1:=((HS.out.res.set 0 (.slice A5 k2 c5)).set 1 (.slice A8 k2 c8)).cell 1;simp at e0 e1;simp[results,Tryz.results56,go_sem,e0,e1]
     ·rw[<-af.out,<-Z.out,<-HQ.out];exact Ca (Ca (jZ aG aX) n1 _) n1 _
     ·rw[<-af.out,<-Z.out,BN,<-HQ.out];exact Ca (Ca (jZ aO aX) n2 _) n2 _
     ·intro i v ce hv hi;rw[<-af.out,<-Z.out]at hi;rw[Bw]at hv hi;cases hs:SS[i]? with
      |none=>rw[hs]at hv;cases hv
      |some s=>rw[hs]at hv hi;injection hv with hv;injection hi with hi;subst hv hi;have hn:=fZ (HS.out.mi.row s) HS.out.res (by decide);exact Ca (Ca (HS.out.mi.row s) hn _) hn _
     ·exact nZ (Aj _) (nZ (Aj _) HB.out)
end Idx
namespace Idx
open Go.RowKit Mem Own Canon
open Go.Proofs.YtbgoibedicbkjaaGreatDoor.NumPut (pZ Cg EB)
open Go.Proofs.YtbgoibedicbkjaaGreatDoor.Ef (efO Dp Jv JJ I3 JQ unary Oh Jb efW)
open Go.Proofs.YtbgoibedicbkjaaGreatDoor.Huff (bytesOf bytesOf_length)
def Dh(bound:Nat)(ls:List (List Nat)):List Nat:=ls.flatMap (efO bound)
def ixO(size bound:Nat)(ts:List Str)(ls:List (List Nat)):List Nat:=ET size ts++Dh bound ls
theorem SH(bound:Nat)(ls:List (List Nat))(k:Nat)(x:List Nat)(h:ls[k]? =some x):Dh bound (ls.take (k+1))=Dh bound (ls.take k)++efO bound x:=by unfold Dh;rw[Ed,h];simp
theorem ML:∀ (l:List Nat) (i B:Nat),i<=B->(∀x∈l,i<=x/\x<=B)->l.Pairwise (·<= ·)->(I3 i l).length+i<=B+l.length
 | [],i,B,hw,_,_=>by simp[I3];exact hw
 |x :: t,i,B,hw,h,hp=>by rw[Ho]at hp;have hx:=h x EV;have ih:=ML t x B hx.2 (fun y hy=>⟨hp.1 y hy,(h y (EW _ hy)).2⟩) hp.2;rw[I3,Ai,Oh,Bh];omega
theorem MF:∀ (bound:Nat) (l:List Nat) (u:Option Nat),Dp bound u l=true->l.Pairwise (·<= ·)/\∀y,u=some y->∀x∈l,y<=x
 |_,[],_,_=>⟨List.Pairwise.nil,fun _ _ _ hx=>by cases hx⟩
 |bound,a :: t,u,h=>by
  rw[Dp,CD]at h;have ih:=MF bound t (some a) h.2;have ha:∀y,u=some y->y<=a:=fun y hy=>by have h1:=h.1;unfold Ef.mayO at h1;rw[hy,CD]at h1;have:=h1.2;simp at this;omega
  refine⟨Ho.2 ⟨fun x hx=>ih.2 a rfl x hx,ih.1⟩,fun y hy x hx=> ?_⟩;rcases BZ.1 hx with rfl|hx
  ·exact ha y hy
  ·exact AV (ha y hy) (ih.2 a rfl x hx)
theorem YY{bound:Nat}{l:List Nat}(hb:bound<=20000)(hm:Dp bound none l=true)(hn:l.length<=bound):(efO bound l).length<=45010:=by
 unfold efO;split
 ·have:=Cg (x:=0) (by omega);omega
 ·rename_i h0;have h1:1<=l.length:=Hq.2 h0;have hq:1<=bound / l.length:=(Nat.one_le_div_iff (by omega)).2 hn;have hW:efW bound l.length<=14:=by refine Jq fun h=> ?_;have h2:2 ^ 15<=2 ^ efW bound l.length:=Bu (by omega) (by omega);have h3:=Ef.Kq (q:=bound / l.length) (by omega);have h4:bound / l.length<=bound:=GQ _ _;unfold efW at h2;omega
  have G:=Cg (x:=l.length) (by omega);have i:=JQ (efW bound l.length) l;have E:l.length*efW bound l.length<=20000*14:=Gq (by omega) hW;have z:=Jb bound l none hm;have hp:=(MF bound l none hm).1;have j:=ML (l.map (·/ 2 ^ efW bound l.length)) 0 bound (by omega) (fun x hx=>by obtain⟨y,hy,rfl⟩:=Ep.1 hx;exact⟨AY _,AV (GQ _ _) (by have:=z y hy;omega)⟩) (List.Pairwise.map _ (fun a b h=>Nat.div_le_div_right h) hp);rw[BN]at j;rw[Ai,bytesOf_length];unfold Jv;rw[Ai,i];omega
theorem QT:∀ (bound:Nat) (l:List Nat) (u:Option Nat),Dp bound u l=true->l.length+(match u with|none=>0|some y=>y+1)<=bound∨l= []
 |_,[],_,_=> .inr rfl
 |bound,a :: t,u,h=>by
  have h':=h;rw[Dp,CD]at h';have i:=Jb bound (a :: t) u h a EV;have h1:=h'.1;unfold Ef.mayO at h1;rw[CD]at h1;refine .inl ?_;rcases QT bound t (some a) h'.2 with ih|ih
  ·simp only at ih;cases u with
   |none=>simp only[List.length_cons];omega
   |some y=>have:=h1.2;simp at this;simp only[List.length_cons];omega
  ·subst ih;cases u with
   |none=>simp only[List.length_cons,List.length_nil];omega
   |some y=>have:=h1.2;simp at this;simp only[List.length_cons,List.length_nil];omega
theorem U0{bound:Nat}{l:List Nat}(h:Dp bound none l=true)(h0:l≠ []):1<=l.length/\l.length<=bound:=by
 have h1:1<=l.length:=Hq.2 h0;rcases QT bound l none h with h2|h2
 ·exact⟨h1,by simpa using h2⟩
 ·exact absurd h2 h0
def JP(bound:Nat)(ls:List (List Nat)):Bool:=ls.all (Dp bound none)
theorem UH{bound:Nat}{ls:List (List Nat)}(hb:bound<=20000)(h0:∀l∈ls,l≠ [])(hm:JP bound ls=true):(Dh bound ls).length<=45010*ls.length:=by
 induction ls with
 |nil=>simp[Dh]
 |cons x t ih=>unfold JP at hm ih;rw[List.all_cons,CD]at hm;have ih:=ih (fun l hl=>h0 l (EW _ hl)) hm.2;have hx:=YY hb hm.1 (U0 hm.1 (h0 x EV)).2;unfold Dh at ih ⊢;rw[IB,Ai,Bh];omega
theorem YB{size:Nat}{l:List Str}(hm:GF l=true)(h1:1<=size)(h2:size<=64)(hN:l.length<=20000):(ET size l).length<=820010:=by have hs:∀s∈l,s.length<=25:=fun s hs=>(L7 hm s hs).2;have a:=Ll hs h2 (by omega) (nCh size l.length);have b:=Kr hs h1 (nCh size l.length);have c:=L8 (n:=l.length) h1;have e:ET size l=hdB size l (nCh size l.length)++bdB size l (nCh size l.length):=L3 h1 l;rw[e,Ai];omega
theorem IxAt.len{w:World}{base:Nat}{vT vL:Value}{vals:List Value}{ts:List Str}{ls:List (List Nat)}(h:IxAt w base vT vL vals ts ls):vals.length=ls.length:=by have:=h.l.1;omega
end Idx
namespace Body
open Recs Opts Crc Idx
open Go.Proofs.YtbgoibedicbkjaaGreatDoor.NumPut (pZ Cg EB)
open Go.Proofs.YtbgoibedicbkjaaGreatDoor.Block (FN)
open Go.Proofs.YtbgoibedicbkjaaGreatDoor.One (Mu Mq Mn Nl)
def GJ(wh pl:Bool):List Nat->List Rec->List (List Nat)
 | [],_=> []
 |c :: t,l=>FN (Gi wh (l.take c)) pl :: GJ wh pl t (l.drop c)
def ES(o:Opt)(l:List Rec):List Nat:=Gc o.block.toNat (Gl false l)
def BQ:List Nat->List Nat->List Nat
 |a :: g,b :: s=>pZ a++(pZ b++BQ g s)
 |_,_=> []
def AU(b:List Nat):List Nat:=b++BX (Bx b)
def Dl(n:Nat)(G S:List Nat)(x y:Nat):List Nat:=pZ n++(pZ G.length++(BQ G S++(pZ x++pZ y)))
def Es(n:Nat)(G:List Nat)(FS:List (List Nat))(cols idx:List Nat):List Nat:=
 FS.flatten++(AU cols++(AU idx++(AU (Dl n G (FS.map List.length) (AU cols).length (AU idx).length)++C9 (AU (Dl n G (FS.map List.length) (AU cols).length (AU idx).length)).length)))
def ixR(o:Opt)(l:List Rec):List Nat:=ixO o.bucket.toNat l.length (AM (l.map lZ)) ((AM (l.map lZ)).map (Bo (l.map lZ)))
def Hx(o:Opt)(l:List Rec):List Nat:=Es l.length (ES o l) (GJ false o.plain (ES o l) l) (Fq l) (ixR o l)
theorem Fb(b:List Nat):(AU b).length=b.length+4:=by unfold AU;rw[Ai];rfl
theorem LL{b:List Nat}(h:∀x∈b,x<=255):∀x∈AU b,x<=255:=fun x hx=>by
 rcases BH.1 hx with hx|hx
 ·exact h x hx
 ·have:=PR _ x hx;omega
theorem QE:∀ (g s:List Nat),(∀x∈g,x<18446744073709551616)->(∀x∈s,x<18446744073709551616)->(BQ g s).length<=20*g.length
 | [],_,_,_=>by simp[BQ]
 |_ :: _,[],_,_=>by simp[BQ]
 |x :: g,y :: s,h1,h2=>by have a:=Cg (h1 x EV);have b:=Cg (h2 y EV);have c:=QE g s (fun z hz=>h1 z (EW _ hz)) (fun z hz=>h2 z (EW _ hz));rw[BQ,Ai,Ai,Bh];omega
theorem OE:∀ (g s:List Nat),∀x∈BQ g s,x<=255
 | [],_,x,h=>by simp[BQ]at h
 |_ :: _,[],x,h=>by simp[BQ]at h
 |a :: g,b :: s,x,h=>by
  rw[BQ]at h;rcases BH.1 h with h|h
  ·exact EB _ x h
  ·rcases BH.1 h with h|h
   ·exact EB _ x h
   ·exact OE g s x h
theorem Ni(n:Nat)(G S:List Nat)(x y:Nat):∀z∈Dl n G S x y,z<=255:=fun z h=>by
 unfold Dl at h;simp only[List.mem_append]at h;rcases h with h|h|h|h|h
 ·exact EB _ z h
 ·exact EB _ z h
 ·exact OE _ _ z h
 ·exact EB _ z h
 ·exact EB _ z h
theorem X2{n:Nat}{G S:List Nat}{x y:Nat}(hn:n<=1000000000)(hg:G.length<=1000000000)(h1:∀z∈G,z<=1000000000)(h2:∀z∈S,z<=1000000000)(hx:x<=1000000000)(hy:y<=1000000000):(Dl n G S x y).length<=40+20*G.length:=by have a:=Cg (x:=n) (by omega);have b:=Cg (x:=G.length) (by omega);have c:=Cg (x:=x) (by omega);have d:=Cg (x:=y) (by omega);have e:=QE G S (fun z hz=>by have:=h1 z hz;omega) (fun z hz=>by have:=h2 z hz;omega);unfold Dl;simp only[List.length_append];omega
theorem NE(wh pl:Bool):∀ (cs:List Nat) (l:List Rec),(Gi wh l).length<=16000->(GJ wh pl cs l).flatten.length<=(Gi wh l).length+25*cs.length
 | [],_,_=>by simp[GJ]
 |c :: t,l,h=>by have hs:=One.Ng wh l c;have ih:=NE wh pl t (l.drop c) (by omega);have hf:=One.V2 (bs:=Gi wh (l.take c)) pl (by omega);rw[GJ,List.flatten_cons,Ai,Bh];omega
theorem Y8(o:Opt)(l:List Rec):(ES o l).sum=l.length:=by unfold ES;rw[Mu,Nl]
theorem YU(o:Opt)(l:List Rec):(ES o l).length<=l.length:=by have:=Mn (Mq o.block.toNat (Gl false l));rw[Mu,Nl]at this;exact this
theorem MJ:∀ {l:List Nat} {x:Nat},x∈l->x<=l.sum
 |y :: t,x,h=>by
  rw[GR];rcases BZ.1 h with rfl|h
  ·omega
  ·have:=MJ h;omega
end Body
namespace Body
open Go.RowKit Mem Own Canon Recs
open NumPut
open Go.Proofs.YtbgoibedicbkjaaGreatDoor.Block (zZ)
theorem LM{l:List Nat}{k x:Nat}(h:l[k]? =some x):(l.take (k+1)).sum=(l.take k).sum+x:=by rw[Ed,h];simp
theorem Hj(l:List Nat)(k:Nat):(l.take k).sum<=l.sum:=by
 conv=>rhs;rw[<-Ix k l]
 rw[Iy];omega
theorem JB(w:World)(A:Option Addr)(n c:Nat)(ls:List Nat)(hn:ls.length=n)(hN:n<=1000000)(hs:ls.sum<=1000000000000000)(ha:Row w w.heap.size A n 1 (iZ .i64 ls)):
 Calls Tryz.prog 107 #[.slice A n c] w fun e w'=>e= .returned (.int .i64 (ls.sum:Nat))/\w'=w:=by
 have HN:=hid hn;obtain⟨R,hR⟩:∃R,R=ls.sum:=⟨_,rfl⟩;have HR:=hid hR;rw[<-hR]at hs ⊢;clear hn hR;go_enter Tryz.func107,Tryz.ntmps107;go_wp2_with fail;go_loopw [3,8] (fun sv iv wx=>∃k s:Nat,k<=n/\s<=R/\iv= .int .i64 k/\sv= .int .i64 s/\Hid (s=(ls.take k).sum)/\wx=w) (fun _ iv _=>n-(intOf iv).toNat)
 case atStart=>exact⟨0,0,by omega,by omega,rfl,rfl,rfl,rfl⟩
 case round=>
  obtain⟨k,s,hk,J,rfl,rfl,HS,rfl⟩:=hrel;by_cases j:k<n
  ·have gk:decide ((k:Int)<(n:Int))=true:=(by simp;omega);have z:decide (k<n)=true:=(by simp;omega);have x0:(0:Int)<=(k:Int):=(by omega);have x1:(k:Int)<(n:Int):=(by omega);obtain⟨b,G,x,rfl,_,hx,ck⟩:=Ci ha HN.out j;have h:=LM hx;have i:=Hj ls (k+1);rw[h,<-HS.out,<-HR.out]at i;have y:Hid (s+x=(ls.take (k+1)).sum):=(by show _=_;rw[h,HS.out]);have s1:IntKind.i64.wrap ((s:Int)+(x:Int))=((s+x:Nat):Int):=(by rw[Ak _ (by omega)];omega);clear h hx HS;go_wp2_with fail;go_roundw
   case measure=>go_light;simp[intOf];omega
   case rel=>go_light;exact⟨k+1,s+x,by omega,i,by first|rfl|go_num,by first|rfl|go_num,y.out,by first|rfl|trivial⟩
  ·obtain rfl:k=n:=by omega
   have gk:decide ((k:Int)<(k:Int))=false:=(by simp);have z:decide (k<k)=false:=(by simp);have E:s=R:=(by rw[HS.out,HR.out,Bv (by rw[HN.out];exact Aj _)]);subst E;clear HS HR j;go_wp2_with fail;go_ret;exact⟨rfl,rfl⟩
theorem sum_any(w:World)(A:Option Addr)(n c:Nat)(ls:List Nat)(hn:ls.length=n)(hN:n<=1000000)(hs:ls.sum<=1000000000)(ha:Row w w.heap.size A n 1 (iZ .i64 ls)):
 Calls Tryz.prog 107 #[.slice A n c] w fun e w'=>e= .returned (.int .i64 (ls.sum:Nat))/\w'=w:=JB w A n c ls hn hN (by omega) ha
end Body
namespace Body
open Go.RowKit Mem Own Canon Recs Idx
open Go.Proofs.YtbgoibedicbkjaaGreatDoor.One (FrsAt FrsAt.step FrsAt.grown Gm)
open NumPut
open Go.Proofs.YtbgoibedicbkjaaGreatDoor.Ef (Dp Me)
structure MSt (base db:Nat) (vG pv vS:Value) (ps:List Part) (W:World):Prop where
 dir:Blk W db 92 #[vG,vS, .int .i64 0, .int .i64 0]
 pr:W.ownsRow base 22 1 pv ps.length (ps.map Part.v)
 fr:FrsAt W base ps
 sr:W.ownsRow base 3 1 vS ps.length (cZ .i64 (ps.map fun p=>p.ls.length))
 gb:base<=db
section
variable {base db:Nat} {vG pv vS pv' vS':Value} {ps:List Part} {W w' w8 w9:World} {p:Part} {o1 o2:Obj}
theorem MSt.step(h:MSt base db vG pv vS ps W)(b:Below W.heap.size W w'):MSt base db vG pv vS ps w':=
 ⟨h.dir.step b,dZ h.pr fun y hy=>b.block y (Ae h.pr y hy).2,h.fr.step b,dZ h.sr fun y hy=>b.block y (Ae h.sr y hy).2,h.gb⟩
theorem MSt.stores(h:MSt base db vG pv vS ps W)(x y:Value):
 Blk ((W.setCell ⟨db,2,none⟩ x).setCell ⟨db,3,none⟩ y) db 92 #[vG,vS,x,y]/\Below base W ((W.setCell ⟨db,2,none⟩ x).setCell ⟨db,3,none⟩ y)/\
  ∀ {b s n:Nat} {e:TypeId} {v:Value} {xs:List Value},W.ownsRow b e s v n xs->e≠92->((W.setCell ⟨db,2,none⟩ x).setCell ⟨db,3,none⟩ y).ownsRow b e s v n xs:=by
 refine⟨by simpa using (h.dir.set 2 x).set 3 y,((Ag base W).setCell (p:=⟨db,2,none⟩) h.gb _).setCell (p:=⟨db,3,none⟩) h.gb _,fun ho hne=> ?_⟩;refine dZ ho fun z hz=> ?_;have hd:z≠db:=fun e=>fZ ho h.dir hne (by rw[hz,e]);exact(AK _ _ _ z hd).trans (AK _ _ _ z hd)
end
theorem Oq:∀ (l:List Str) (i:Str),(∀s∈l,i<s)->(∀s∈l,1<=s.length/\s.length<=25)->DJ l->EH i l=true
 | [],_,_,_,_=>rfl
 |s :: t,i,h,hs,hr=>by obtain⟨h1,h2⟩:=Ho.1 hr;rw[EH,CD];refine⟨?_,Oq t s h1 (fun x hx=>hs x (EW _ hx)) h2⟩;unfold Bm;rw[CD,CD,decide_eq_true_iff,decide_eq_true_iff,decide_eq_true_iff];exact⟨(hs s EV).1,(hs s EV).2,h s EV⟩
theorem Ob{l:List Rec}{s:Str}(h:s∈AM (l.map lZ)):1<=s.length/\s.length<=25:=by obtain⟨t,ht,hs⟩:=(QV s _).1 h;obtain⟨r,_,rfl⟩:=Ep.1 ht;exact QZ hs
theorem OY{l:List Rec}(h:(AM (l.map lZ)).length<=1048576):GF (AM (l.map lZ))=true:=by
 unfold GF;rw[CD];refine⟨Oq _ _ (fun s hs=> ?_) (fun s hs=>Ob hs) (Pg _),Aw h⟩;have:=(Ob hs).1;cases s with
 |nil=>simp at this
 |cons x t=>exact List.nil_lt_cons x t
theorem YJ(ts:List (List Str))(u:Str):Dp ts.length none (Bo ts u)=true:=by
 refine Me _ _ none (fun x hx=> ?_) ?_ (fun y hy=>by cases hy)
 ·unfold Bo at hx;exact Eo.1 (List.mem_filter.1 hx).1
 ·unfold Bo;exact List.Pairwise.filter _ List.pairwise_lt_range
theorem RN(l:List Rec):JP l.length ((AM (l.map lZ)).map (Bo (l.map lZ)))=true/\∀x∈(AM (l.map lZ)).map (Bo (l.map lZ)),x≠ []/\x.length<=l.length:=by
 refine⟨Hu.2 fun x hx=> ?_,fun x hx=> ?_⟩
 ·obtain⟨u,_,rfl⟩:=Ep.1 hx;have:=YJ (l.map lZ) u;rw[BN]at this;exact this
 ·obtain⟨u,hu,rfl⟩:=Ep.1 hx;have h2:=Lj (l.map lZ) u;rw[BN]at h2;exact⟨(LQ _ u).1 hu,h2⟩
theorem Qz(s:Str):∀x∈Iu s,x<=255:=fun x h=>by
 unfold Iu natS at h;rcases BH.1 h with h|h
 ·exact EB _ x h
 ·obtain⟨c,_,rfl⟩:=Ep.1 h;have:=c.toNat_lt;omega
theorem Qn:∀ (t:List Str) (i:Str),∀x∈G0 i t,x<=255
 | [],_,x,h=>by simp[G0]at h
 |s :: t,i,x,h=>by
  rw[G0]at h;simp only[List.mem_append]at h;rcases h with (h|h)|h
  ·exact EB _ x h
  ·exact Qz _ x h
  ·exact Qn t s x h
theorem Up(l:List Str):∀x∈Ej l,x<=255:=fun x h=>by
 cases l with
 |nil=>simp[Ej]at h
 |cons s t=>
  rw[Ej]at h;rcases BH.1 h with h|h
  ·exact Qz _ x h
  ·exact Qn t s x h
theorem XP(size:Nat)(l:List Str):∀x∈ET size l,x<=255:=fun x h=>by
 unfold ET at h;simp only[List.mem_append,List.mem_flatMap]at h;rcases h with (h|⟨c,_,h⟩)|⟨c,_,h⟩
 ·exact EB _ x h
 ·exact EB _ x h
 ·exact Up _ x h
theorem Wp(bound:Nat)(l:List Nat):∀x∈Ef.efO bound l,x<=255:=fun x h=>by
 unfold Ef.efO at h;split at h
 ·exact EB _ x h
 ·rcases BH.1 h with h|h
  ·exact EB _ x h
  ·obtain⟨k,_,rfl⟩:=Ep.1 h;exact Huff.Pp _ k
theorem Wa(o:Opts.Opt)(l:List Rec):∀x∈ixR o l,x<=255:=fun x h=>by
 unfold ixR ixO Dh at h;rcases BH.1 h with h|h
 ·exact XP _ _ x h
 ·obtain⟨c,_,h⟩:=List.mem_flatMap.1 h;exact Wp _ _ x h
theorem OL{o:Opts.Opt}(h:Opts.DY o=0):16<=o.block/\o.block<=32768/\1<=o.bucket/\o.bucket<=64:=by
 unfold Opts.DY Opts.Fo at h;split at h
 ·rename_i hc;exact⟨hc.1.1,hc.1.2,hc.2.1.1,hc.2.1.2⟩
 ·cases h
end Body
namespace Body
open Go.RowKit Mem Own Canon NumPut Crc
open Recs Idx
open Go.Proofs.YtbgoibedicbkjaaGreatDoor.Block (zZ)
open Go.Proofs.YtbgoibedicbkjaaGreatDoor.One (FrsAt FrsAt.step)
structure JS (base:Nat) (O D:List Nat) (vo vd:Value) (W:World):Prop where
 oo:W.ownsRow base 5 1 vo O.length (cZ .u8 O)
 od:W.ownsRow base 5 1 vd D.length (cZ .u8 D)
 ap:Apt vo vd
section
variable {base:Nat} {O D X:List Nat} {vo vd v':Value} {W w':World}
theorem JS.step(h:JS base O D vo vd W)(b:Below W.heap.size W w'):JS base O D vo vd w':=
 ⟨dZ h.oo fun y hy=>b.block y (Ae h.oo y hy).2,dZ h.od fun y hy=>b.block y (Ae h.od y hy).2,h.ap⟩
theorem JS.dirA(h:JS base O D vo vd W)(hB:base<=W.heap.size)(g:W.grownBy w' vd.ownBlock)(o:w'.ownsRow base 5 1 v' (D.length+X.length) (cZ .u8 D++cZ .u8 X))(t:v'.ownBlock=vd.ownBlock∨v'.ownBlock=some W.heap.size):
 JS base O (D++X) vo v' w'/\Below base W w':=by
 obtain⟨a,b⟩:=Kn h.oo h.ap.symm g t;refine⟨⟨a,?_,b.symm⟩,(Ag base W).grown g hB fun y hy=>(Ae h.od y hy).1⟩;rw[Ai,show cZ .u8 (D++X)=cZ .u8 D++cZ .u8 X by simp[cZ]];exact o
theorem JS.outA(h:JS base O D vo vd W)(hB:base<=W.heap.size)(g:W.grownBy w' vo.ownBlock)(o:w'.ownsRow base 5 1 v' (O.length+X.length) (cZ .u8 O++cZ .u8 X))(t:v'.ownBlock=vo.ownBlock∨v'.ownBlock=some W.heap.size):
 JS base (O++X) D v' vd w'/\Below base W w':=by
 obtain⟨a,b⟩:=Kn h.od h.ap g t;refine⟨⟨?_,a,b⟩,(Ag base W).grown g hB fun y hy=>(Ae h.oo y hy).1⟩;rw[Ai,show cZ .u8 (O++X)=cZ .u8 O++cZ .u8 X by simp[cZ]];exact o
end
structure JE (base:Nat) (vo vd u:Value) (m:Nat) (ys:List Value) (W:World):Prop where
 own:W.ownsRow base 5 1 u m ys
 ao:Apt vo u
 ad:Apt vd u
section
variable {base m:Nat} {O D X:List Nat} {vo vd v' u:Value} {ys:List Value} {W w':World}
theorem JE.new(h:JS base O D vo vd W)(hB:base<=W.heap.size)(o:w'.ownsRow W.heap.size 5 1 u m ys):JE base vo vd u m ys w':=
 ⟨jZ o hB,(PW o (Aj _) fun x hx=>(Ae h.oo x hx).2).symm,(PW o (Aj _) fun x hx=>(Ae h.od x hx).2).symm⟩
theorem JE.step(h:JE base vo vd u m ys W)(b:Below W.heap.size W w'):JE base vo vd u m ys w':=⟨dZ h.own fun y hy=>b.block y (Ae h.own y hy).2,h.ao,h.ad⟩
theorem JE.dirA(h:JE base vo vd u m ys W)(g:W.grownBy w' vd.ownBlock)(t:v'.ownBlock=vd.ownBlock∨v'.ownBlock=some W.heap.size):JE base vo v' u m ys w':=by obtain⟨a,b⟩:=Kn h.own h.ad g t;exact⟨a,h.ao,b⟩
theorem JE.outA(h:JE base vo vd u m ys W)(g:W.grownBy w' vo.ownBlock)(t:v'.ownBlock=vo.ownBlock∨v'.ownBlock=some W.heap.size):JE base v' vd u m ys w':=by obtain⟨a,b⟩:=Kn h.own h.ao g t;exact⟨a,b,h.ad⟩
end
end Body
namespace Idx
open Go.RowKit Go.Maps Mem Own Canon Sift
open Recs Go.Proofs.YtbgoibedicbkjaaGreatDoor
structure RS (w:World) (base rb xb:Nat) (vT vL:Value) (q k:Nat) (SS:List Str) (vals:List Value) (I:Str->List Nat):Prop where
 res:Blk w rb 36 #[.slice none 0 0, .slice none 0 0]
 box:Blk w xb 36 #[vT,vL]
 ne:rb≠xb
 tt:w.ownsRow base 9 1 vT q (tZ SS)
 ll:w.ownsRow base 30 1 vL k vals
 vl:∀ (i:Nat) v s,vals[i]? =some v->SS[i]? =some s->w.ownsRow base 3 1 v (I s).length (cZ .i64 (I s))
section
variable {w w4:World} {base rb xb q k q':Nat} {SS SS':List Str} {vals:List Value} {vT vL v4 v:Value} {I I':Str->List Nat} {o:Obj}
theorem RS.step(h:RS w base rb xb vT vL q k SS vals I)(hb:Below w.heap.size w w4):RS w4 base rb xb vT vL q k SS vals I:=
 ⟨h.res.step hb,h.box.step hb,h.ne,dZ h.tt (fun b hy=>hb.block b (Ae h.tt b hy).2),dZ h.ll (fun b hy=>hb.block b (Ae h.ll b hy).2),
  fun i v s hv hs=>dZ (h.vl i v s hv hs) (fun b hy=>hb.block b (Ae (h.vl i v s hv hs) b hy).2)⟩
theorem RS.putT(h:RS w base rb xb vT vL q 0 SS [] I)(j:w.ownsRow base 9 1 v4 q' (tZ SS')):RS (w.setCell ⟨xb,0,none⟩ v4) base rb xb v4 vL q' 0 SS' [] I':=
 ⟨h.res.far h.ne _,h.box.set 0 v4,h.ne,Ca j (fZ j h.box (by decide)) _,Ca h.ll (fZ h.ll h.box (by decide)) _,fun i v s hv=>by cases hv⟩
theorem RS.putL{s:Str}(h:RS w base rb xb vT vL q k SS vals I)(hs:SS[k]? =some s)(hv:w.ownsRow base 3 1 v (I s).length (cZ .i64 (I s)))(hg:(w.alloc o).grownBy w4 vL.ownBlock)(y:w4.ownsRow base 30 1 v4 (k+1) (vals++ [v])):
 RS (w4.setCell ⟨xb,1,none⟩ v4) base rb xb vT v4 q (k+1) SS (vals++ [v]) I:=by
 have j:Blk w4 xb 36 #[vT,vL]:=(h.box.alloc o).grown hg (fun e=>fZ h.ll h.box (by decide) e.symm);have G:=h.ll;have hk:vals.length=k:=by have:=h.ll.1;omega
 refine⟨((h.res.alloc o).grown hg (fun e=>fZ h.ll h.res (by decide) e.symm)).far h.ne _,j.set 1 v4,h.ne,?_,Ca y (fZ y j (by decide)) _,fun i u t hu ht=> ?_⟩
 ·have:=Jj (h.tt.alloc o) (h.ll.alloc o) (by decide) hg;exact Ca this (fZ this j (by decide)) _
 ·have z:w.ownsRow base 3 1 u (I t).length (cZ .i64 (I t)):=by
   by_cases hi:i<k
   ·rw[GT (by omega)]at hu;exact h.vl i u t hu ht
   ·have E:=(BO.1 hu).1;rw[Ai,J2]at E;obtain rfl:i=k:=(by omega);rw[Jp (by omega),hk,EL]at hu;rw[hs]at ht;injection ht with ht;injection hu with hu;rw[<-ht,<-hu];exact hv
  have:=Jj (z.alloc o) (h.ll.alloc o) (by decide) hg;exact Ca this (fZ this j (by decide)) _
end
def Dj(ts:List (List Str))(u:Str)(i:Nat):List Nat:=(List.range i).filter fun i=>(ts.getD i []).contains u
theorem Xx(ts:List (List Str))(u:Str):Dj ts u ts.length=Bo ts u:=rfl
theorem NW{ts:List (List Str)}{T:List Str}{u:Str}{i:Nat}(h:ts[i]? =some T):Dj ts u (i+1)=Dj ts u i++(if T.contains u then [i]else []):=by unfold Dj;rw[Hn,List.filter_append];congr 1;rw[List.filter_cons,List.filter_nil,Ar,h];rfl
theorem Qt(w:World)(A:Option Addr)(n c:Nat)(l:List Rec)(hn:l.length=n)(hN:n<=20000)(am:∀r∈l,r.source.size<=50000/\r.text.size<=50000)(ha:Row w w.heap.size A n 4 (Db l)):
 Calls Tryz.prog 75 #[.slice A n c] w (GN (l.map lZ) w):=by
 obtain⟨j0,bA,bq,bm,a9⟩:=info_parts O3;obtain⟨i1,be,bl,bt,bj⟩:=info_parts OQ;have HN:=hid hn;have D1:Hid (∀wx r,r∈l->Calls Tryz.prog 127 #[.agg #[.int .u64 r.time, .int .u8 r.level, .string r.source, .string r.text]] wx (Hd (lZ r) wx)):=fun wx r hr=>Td wx r.time r.level r.source r.text (am r hr).1 (am r hr).2;have a1:Hid (∀r∈l,(lZ r).length<=100000):=fun r hr=>by have:=MO r.text.data.toList r.source.data.toList;have h1:=Lib.size_eq r.text;have h2:=Lib.size_eq r.source;have:=am r hr;unfold lZ;omega
 unfold Hd at D1;unfold GN;clear hn am;go_enter Tryz.func75,Tryz.ntmps75;go_wp2_with fail
 have aI:Hid (RS ((w.alloc (.cells #[.slice none 0 0, .slice none 0 0] 36)).alloc (.cells #[.slice none 0 0, .slice none 0 0] 36)) w.heap.size w.heap.size (w.heap.size+1) (.slice none 0 0) (.slice none 0 0) 0 0 [] [] (fun _=> [])):=
  ⟨(Blk.made _ _ _).alloc _,Blk.made_at _ _ _ (by simp),by omega,Am _ _ _ _,Am _ _ _ _,fun i v s hv=>by cases hv⟩
 have aW:Hid (Below w.heap.size w ((w.alloc (.cells #[.slice none 0 0, .slice none 0 0] 36)).alloc (.cells #[.slice none 0 0, .slice none 0 0] 36))):=bZ (bZ (Ag _ _));obtain⟨xb,a8⟩:∃xb,xb=w.heap.size+1:=⟨_,rfl⟩;rw[<-a8]at aI ⊢;have aT:w.heap.size<=xb:=by omega
 generalize (w.alloc (.cells #[.slice none 0 0, .slice none 0 0] 36)).alloc (.cells #[.slice none 0 0, .slice none 0 0] 36)=w1 at *;clear a8;go_loopw [4] (fun iv wr=>∃ (k m:Nat) (vT:Value),k<=n/\m<=100000*k/\iv= .int .i64 k/\Hid (RS wr w.heap.size w.heap.size xb vT (.slice none 0 0) m 0 (AM ((l.take k).map lZ)) [] (fun _=> []))/\Hid (Below w.heap.size w wr)) (fun iv _=>n-(intOf iv).toNat)
 case atStart=>exact⟨0,0,_,by omega,by omega,rfl,aI.out,aW.out⟩
 case round=>
  obtain⟨k,m,vT,hk,hm,rfl,HS,HB⟩:=hrel;clear aI aW;obtain⟨w0,rfl⟩:∃w0:World,w0=wr:=⟨_,rfl⟩;by_cases bd:k<n
  ·have gk:decide ((k:Int)<(n:Int))=true:=(by simp;omega);have bp:decide (k<n)=true:=(by simp;omega);have x0:(0:Int)<=(k:Int):=(by omega);have x1:(k:Int)<(n:Int):=(by omega);obtain⟨b,z,r,rfl,ba,hg,c0,c1,c2,c3⟩:=Row.rec (ha.below HB.out) HN.out bd;have aa:=BF hg;have E1:=hid (fun wx=>D1.out wx r aa);have aB:=a1.out r aa;have aK:(l.take (k+1)).map lZ=(l.take k).map lZ++ [lZ r]:=(by rw[Ed,hg,Hp];rfl);have aC:AM ((l.take (k+1)).map lZ)=yZ (AM ((l.take k).map lZ)) (lZ r):=(by rw[aK,X7]);obtain⟨AT,aw⟩:∃AT,AT=AM ((l.take k).map lZ):=⟨_,rfl⟩;rw[<-aw]at aC HS;have bh:=hid aC;clear hg aa aK aC aw;generalize lZ r=T at *;obtain⟨q,hq⟩:∃q,q=T.length:=⟨_,rfl⟩;rw[<-hq]at E1 aB;have HQ:=hid hq;clear hq;go_wp2_with fail;refine(E1.out _).mono ?_;rintro e w4 ⟨v4,rfl,J,N⟩;obtain⟨A4,c4,rfl⟩:=aZ J;have a5:=hid (HS.out.step N);have E:Hid (Below w.heap.size w w4):=eZ N HB.out;have a7:=hid (jZ J HB.out.size);clear N J E1 HS HB c0 c1 c2 c3;go_wp2_with fail;go_loopw [6] (fun jv wr=>∃ (j m':Nat) (an:Value),j<=q/\m'<=m+j/\jv= .int .i64 j/\Hid (RS wr w.heap.size w.heap.size xb an (.slice none 0 0) m' 0 (yZ AT (T.take j)) [] (fun _=> []))/\Hid (wr.ownsRow w.heap.size 9 1 (.slice A4 q c4) q (tZ T))/\Hid (Below w.heap.size w wr)) (fun jv _=>q-(intOf jv).toNat)
   case atStart=>exact⟨0,m,vT,by omega,by omega,rfl,(by show RS _ _ _ _ _ _ _ _ _ _ _;rw[List.take_zero];exact a5.out),a7.out,E.out⟩
   case round=>
    obtain⟨j,m',an,hj,bH,rfl,HS,HO,HB⟩:=hrel;clear a5 a7 E;obtain⟨wi,rfl⟩:∃wi:World,wi=wr:=⟨_,rfl⟩;by_cases bF:j<q
    ·have gj:decide ((j:Int)<(q:Int))=true:=(by simp;omega);have ax:decide (j<q)=true:=(by simp;omega);have y0:(0:Int)<=(j:Int):=(by omega);have y1:(j:Int)<(q:Int):=(by omega);obtain⟨t,ht⟩:∃t,T[j]? =some t:=⟨_,AD (by have:=HQ.out;omega)⟩;obtain⟨g,cg,aF,bn,_⟩:=HO.out.form (by omega);injection aF with hA1 hA2 hA3;subst hA1 hA3;have ck:wi.cell? ⟨g,j,none⟩=some (.string (bs t)):=(by rw[HO.out.cellAt j (by omega)];exact Gd ht);have M:=MX AT ht;have aM:=JC t (yZ AT (T.take j));have ac:(yZ AT (T.take j)).length=m':=(by have h:=HS.out.tt.1;rw[Mm]at h;omega);rw[<-M,ac]at aM;obtain⟨A5,c5,rfl⟩:=aZ HS.out.tt;have DP:Hid (∀wx,Below wi.heap.size wi wx->Calls Tryz.prog 128 #[.slice A5 m' c5, .string (bs t)] wx (Jd (yZ AT (T.take (j+1))) w.heap.size wx)):=fun wx hb=>by rw[M];exact M5 wx w.heap.size A5 m' c5 _ t ac (by omega) (AV HB.out.size hb.size) (HS.out.step hb).tt
     obtain⟨R,hR⟩:∃R,R=yZ AT (T.take (j+1)):=⟨_,rfl⟩;rw[<-hR]at DP aM;unfold Jd at DP;have HR:=hid hR;have b0:=HS.out.box.cell 0;simp only[List.getElem?_toArray,List.getElem?_cons_zero]at b0;clear M ac hR ht;go_upto_region 9 with fail;go_region_with((go_at_call 128;(with_reducible refine(DP.out _ (by(repeat (with_reducible first|exact Ag _ _|assumption|refine Aq ?_ |refine below_drewN ?_ _|refine qZ ?_ |refine bZ ?_ |refine eZ (by assumption) ?_ |refine belA ?_ |refine rZ (by assumption) ?_)))).mono ?_);rintro e w6 ⟨v6,rfl,aH,a4⟩;obtain⟨A6,c6,rfl⟩:=aZ aH;have L:Below wi.heap.size wi w6:=eZ a4 (by(repeat (with_reducible first|exact Ag _ _|assumption|refine Aq ?_ |refine below_drewN ?_ _|refine qZ ?_ |refine bZ ?_ |refine eZ (by assumption) ?_ |refine belA ?_ |refine rZ (by assumption) ?_)));have q0:=(HS.out.box.step L).cell 0;have q1:=(HS.out.box.step L).frozen 0;simp only[List.getElem?_toArray,List.getElem?_cons_zero]at q0))
     all_goals
      have az:Hid (RS (w6.setCell ⟨xb,0,none⟩ (.slice A6 R.length c6)) w.heap.size w.heap.size xb (.slice A6 R.length c6) (.slice none 0 0) R.length 0 (yZ AT (T.take (j+1))) [] (fun _=> [])):=(by show RS _ _ _ _ _ _ _ _ _ _ _;rw[<-HR.out];exact(HS.out.step L).putT aH);have bf:Hid ((w6.setCell ⟨xb,0,none⟩ (.slice A6 R.length c6)).ownsRow w.heap.size 9 1 (.slice (some ⟨g,0,none⟩) q c4) q (tZ T)):=(by have h:w6.ownsRow w.heap.size 9 1 (.slice (some ⟨g,0,none⟩) q c4) q (tZ T):=dZ HO.out (fun y hy=>L.block y (Ae HO.out y hy).2);exact Ca h (fZ h (HS.out.box.step L) (by decide)) _);have bi:Hid (Below w.heap.size w (w6.setCell ⟨xb,0,none⟩ (.slice A6 R.length c6))):=nZ aT (eZ L HB.out);clear HS HO HB DP b0 ck q0 q1 aH a4 L HR;go_wp2_with fail;go_roundw
      case measure=>go_light;simp[intOf];omega
      case rel=>go_light;exact⟨j+1,R.length,_,by omega,by omega,by first|rfl|go_num,az.out,bf.out,bi.out⟩
    ·obtain rfl:j=q:=by omega
     have gj:decide ((j:Int)<(j:Int))=false:=(by simp);have ax:decide (j<j)=false:=(by simp);have az:Hid (RS wi w.heap.size w.heap.size xb an (.slice none 0 0) m' 0 (AM ((l.take (k+1)).map lZ)) [] (fun _=> [])):=(by show RS _ _ _ _ _ _ _ _ _ _ _;have h:=HS.out;rw[HQ.out,List.take_length,<-bh.out]at h;exact h);clear HS HQ;go_wp2_with fail;go_roundw
     case measure=>go_light;simp[intOf];omega
     case rel=>go_light;exact⟨k+1,m',an,by omega,by omega,by first|rfl|go_num,az.out,HB.out⟩
  ·obtain rfl:k=n:=by omega
   have gk:decide ((k:Int)<(k:Int))=false:=(by simp);have bp:decide (k<k)=false:=(by simp);have av:l.take k=l:=Bv (by rw[HN.out];exact Aj _);rw[av]at HS;have af:(l.map lZ).length=k:=(by rw[BN,HN.out]);have aR:Hid (∀ (i:Nat) r,l[i]? =some r->(l.map lZ)[i]? =some (lZ r)):=fun i r h=>by rw[Bw,h];rfl
   obtain⟨TS,ay⟩:∃TS,TS=l.map lZ:=⟨_,rfl⟩;rw[<-ay]at HS af aR;have ag:=hid ay;have aQ:=hid af;clear av ay af;obtain⟨SS,aA⟩:∃SS,SS=AM TS:=⟨_,rfl⟩;rw[<-aA]at HS;have ac:SS.length=m:=(by have h:=HS.out.tt.1;rw[Mm]at h;omega);have aG:=hid ac;have aj:=hid aA;have bG:m<=2000000000:=(by omega);have aV:Hid (RS w0 w.heap.size w.heap.size xb vT (.slice none 0 0) m 0 SS [] (Bo TS)):=⟨HS.out.res,HS.out.box,HS.out.ne,HS.out.tt,HS.out.ll,fun i v s hv=>by cases hv⟩;have aL:=hid HB.out;obtain⟨A5,c5,rfl⟩:=aZ HS.out.tt;clear ac aA HS HB hm;go_wp2_with fail;go_loopw [7] (fun iv wr=>∃ (k2:Nat) (vL:Value) (vals:List Value),k2<=m/\iv= .int .i64 k2/\Hid (RS wr w.heap.size w.heap.size xb (.slice A5 m c5) vL m k2 SS vals (Bo TS))/\Hid (Below w.heap.size w wr)) (fun iv _=>m-(intOf iv).toNat)
   case atStart=>exact⟨0,_,_,by omega,rfl,aV.out,aL.out⟩
   case round=>
    obtain⟨k2,vL,vals,bD,rfl,HS,HB⟩:=hrel;clear aV aL;obtain⟨w3,rfl⟩:∃w3:World,w3=wr:=⟨_,rfl⟩;obtain⟨A8,c8,rfl⟩:=aZ HS.out.ll;by_cases bI:k2<m
    ·have gj:decide ((k2:Int)<(m:Int))=true:=(by simp;omega);have ax:decide (k2<m)=true:=(by simp;omega);have y0:(0:Int)<=(k2:Int):=(by omega);have y1:(k2:Int)<(m:Int):=(by omega);obtain⟨t,ht⟩:∃t,SS[k2]? =some t:=⟨_,AD (by have:=aG.out;omega)⟩;obtain⟨g,cg,aF,bn,_⟩:=HS.out.tt.form (by omega);injection aF with hA1 hA2 hA3;subst hA1 hA3;have aP:Hid (∀wx,Below w3.heap.size w3 wx->wx.cell? ⟨xb,0,none⟩=some (.slice (some ⟨g,0,none⟩) m c5)/\wx.cell? ⟨g,k2,none⟩=some (.string (bs t))):=fun wx hb=>by have h:=HS.out.step hb;refine⟨h.box.cell 0,?_⟩;rw[h.tt.cellAt k2 (by omega)];exact Gd ht
     have HT:=hid ht;have b0:=HS.out.box.cell 0;simp only[List.getElem?_toArray,List.getElem?_cons_zero]at b0;have bg:=HB.out.size;clear ht;go_wp2_with fail;go_loopw [8,9] (fun v iv wr=>∃ (i p:Nat),i<=k/\p<=i/\iv= .int .i64 i/\Hid ((Dj TS t i).length=p)/\Hid (wr.ownsRow w3.heap.size 3 1 v p (cZ .i64 (Dj TS t i)))/\Hid (Below w3.heap.size w3 wr)) (fun _ iv _=>k-(intOf iv).toNat)
     case atStart=>exact⟨0,0,by omega,by omega,rfl,rfl,Am _ _ _ _,Ag _ _⟩
     case round=>
      obtain⟨i,p,hi,hp,rfl,HP,HO,E⟩:=hrel;obtain⟨wi,rfl⟩:∃wi:World,wi=wr:=⟨_,rfl⟩;obtain⟨Av,cv,rfl⟩:=aZ HO.out;by_cases aY:i<k
      ·have gi:decide ((i:Int)<(k:Int))=true:=(by simp;omega);have bB:decide (i<k)=true:=(by simp;omega);have z0:(0:Int)<=(i:Int):=(by omega);have z1:(i:Int)<(k:Int):=(by omega);have Z:Hid (Below w.heap.size w wi):=eZ E.out HB.out;obtain⟨b,z,r,bu,ba,hg,_⟩:=Row.rec ha HN.out aY;subst bu;have aa:=BF hg;have E1:=hid (fun wx=>D1.out wx r aa);have aB:=a1.out r aa;have ak:TS[i]? =some (lZ r):=aR.out i r hg;have HK:Hid (∀wx,Below wi.heap.size wi wx->(wx.cell? ⟨xb,0,none⟩=some (.slice (some ⟨g,0,none⟩) m c5)/\wx.cell? ⟨g,k2,none⟩=some (.string (bs t)))/\wx.cell? ⟨b,z+i*4,none⟩=some (.int .u64 r.time)/\wx.cell? ⟨b,z+i*4+1,none⟩=some (.int .u8 r.level)/\wx.cell? ⟨b,z+i*4+2,none⟩=some (.string r.source)/\wx.cell? ⟨b,z+i*4+3,none⟩=some (.string r.text)):=fun wx hb=>by refine⟨aP.out wx (eZ hb E.out),?_⟩;obtain⟨b',bC,r',ai,_,al,d⟩:=Row.rec (ha.below (eZ hb Z.out)) HN.out aY;injection ai with ai;injection ai with h1 h2;subst h1 h2;rw[hg]at al;injection al with al;subst al;exact d
       obtain⟨k0,k1,aU,k3,k4⟩:=HK.out wi (Ag _ _);clear hg aa;generalize lZ r=T at *;obtain⟨q,hq⟩:∃q,q=T.length:=⟨_,rfl⟩;rw[<-hq]at E1 aB;by_cases hc:T.contains t=true
       ·skip
        have M:Dj TS t (i+1)=Dj TS t i++ [i]:=(by rw[NW ak,hc];rfl);have Q:=hid M
        have DH:Hid (∀wx A c,Row wx wx.heap.size A q 1 (Ec T)->Calls Tryz.prog 129 #[.slice A q c, .string (bs t)] wx (fun e w'=>e= .returned (.bool true)/\w'=wx)):=fun wx A c h=>by
         have:=OP wx A q c T t hq.symm (by omega) h
         rwa [hc]at this
        clear M hc ak hq;go_upto_region 17 with fail;go_region_held3 (fun wx=>(wx.cell? ⟨xb,0,none⟩=some (.slice (some ⟨g,0,none⟩) m c5)/\wx.cell? ⟨g,k2,none⟩=some (.string (bs t)))/\wx.cell? ⟨b,z+i*4,none⟩=some (.int .u64 r.time)/\wx.cell? ⟨b,z+i*4+1,none⟩=some (.int .u8 r.level)/\wx.cell? ⟨b,z+i*4+2,none⟩=some (.string r.source)/\wx.cell? ⟨b,z+i*4+3,none⟩=some (.string r.text)) (first|assumption|(refine HK.out _ ?_;(repeat (with_reducible first|exact Ag _ _|assumption|refine Aq ?_ |refine below_drewN ?_ _|refine qZ ?_ |refine bZ ?_ |refine eZ (by assumption) ?_ |refine belA ?_ |refine rZ (by assumption) ?_)))) (first|(go_at_call 127;(with_reducible refine(E1.out _).mono ?_);rintro e w4 ⟨v4,rfl,J,N⟩;obtain⟨A4,c4,rfl⟩:=aZ J;have bN:Below wi.heap.size wi w4:=eZ N (by(repeat (with_reducible first|exact Ag _ _|assumption|refine Aq ?_ |refine below_drewN ?_ _|refine qZ ?_ |refine bZ ?_ |refine eZ (by assumption) ?_ |refine belA ?_ |refine rZ (by assumption) ?_))))|(go_at_call 129;(with_reducible refine(DH.out _ _ _ (Ic J)).mono ?_);rintro e w5 ⟨rfl,rfl⟩));have ae:Hid (Below w3.heap.size w3 w5):=eZ bN E.out;have ab:Hid (w5.ownsRow w3.heap.size 3 1 (.slice Av p cv) p (cZ .i64 (Dj TS t i))):=dZ HO.out (fun y hy=>bN.block y (Ae HO.out y hy).2);have aq:=ae.out.size;clear N J bN HO E Z HK k0 k1 aU k3 k4 E1 DH;go_wp2_with(at_builtin;refine gZ rfl (.tmp 60) (.tmp 62) 30 rfl w3.heap.size 3 j0 _ 1 8 Tryz.underlying30 bA bq bm a9 rfl (by decide) _ _ _ (by rfl) (ab.out.alloc _) _ 1 1 [.int .i64 (i:Nat)] (by rfl) (Src.of_blk (Blk.made_at _ _ _ (by simp)) 1 1 1 rfl) (by intro u hu;simp at hu;rcases hu with rfl;rfl) (by unfold maxLen;omega) (by omega) (by simp;omega) ?_;intro v8 w8 Y aX a6;obtain⟨A6,c6,rfl⟩:=aZ Y;have bk:Hid (Below w3.heap.size w3 w8):=(kZ aq ae.out).grown aX (by simp;omega) (fun y hy=>(Ae ab.out y hy).1);have a0:=hid Y;clear Y aX a6);have aD:Hid ((Dj TS t (i+1)).length=p+1):=(by show _=_;rw[Q.out,Ai,HP.out];rfl);have aE:Hid (w8.ownsRow w3.heap.size 3 1 (.slice A6 (p+1) c6) (p+1) (cZ .i64 (Dj TS t (i+1)))):=(by show World.ownsRow _ _ _ _ _ _ _;rw[Q.out,show cZ .i64 (Dj TS t i++ [i])=cZ .i64 (Dj TS t i)++ [.int .i64 (i:Nat)] by simp[cZ]];exact a0.out);clear a0 ab Q HP ae;go_roundw
        case measure=>go_light;simp[intOf];omega
        case rel=>go_light;exact⟨i+1,p+1,by omega,by omega,by first|rfl|go_num,aD.out,aE.out,bk.out⟩
       ·have hc:T.contains t=false:=(by simpa using hc);have M:Dj TS t (i+1)=Dj TS t i++ []:=(by rw[NW ak,hc];rfl);have Q:=hid M
        have DH:Hid (∀wx A c,Row wx wx.heap.size A q 1 (Ec T)->Calls Tryz.prog 129 #[.slice A q c, .string (bs t)] wx (fun e w'=>e= .returned (.bool false)/\w'=wx)):=fun wx A c h=>by
         have:=OP wx A q c T t hq.symm (by omega) h
         rwa [hc]at this
        clear M hc ak hq;go_upto_region 17 with fail;go_region_held3 (fun wx=>(wx.cell? ⟨xb,0,none⟩=some (.slice (some ⟨g,0,none⟩) m c5)/\wx.cell? ⟨g,k2,none⟩=some (.string (bs t)))/\wx.cell? ⟨b,z+i*4,none⟩=some (.int .u64 r.time)/\wx.cell? ⟨b,z+i*4+1,none⟩=some (.int .u8 r.level)/\wx.cell? ⟨b,z+i*4+2,none⟩=some (.string r.source)/\wx.cell? ⟨b,z+i*4+3,none⟩=some (.string r.text)) (first|assumption|(refine HK.out _ ?_;(repeat (with_reducible first|exact Ag _ _|assumption|refine Aq ?_ |refine below_drewN ?_ _|refine qZ ?_ |refine bZ ?_ |refine eZ (by assumption) ?_ |refine belA ?_ |refine rZ (by assumption) ?_)))) (first|(go_at_call 127;(with_reducible refine(E1.out _).mono ?_);rintro e w4 ⟨v4,rfl,J,N⟩;obtain⟨A4,c4,rfl⟩:=aZ J;have bN:Below wi.heap.size wi w4:=eZ N (by(repeat (with_reducible first|exact Ag _ _|assumption|refine Aq ?_ |refine below_drewN ?_ _|refine qZ ?_ |refine bZ ?_ |refine eZ (by assumption) ?_ |refine belA ?_ |refine rZ (by assumption) ?_))))|(go_at_call 129;(with_reducible refine(DH.out _ _ _ (Ic J)).mono ?_);rintro e w5 ⟨rfl,rfl⟩));have ae:Hid (Below w3.heap.size w3 w5):=eZ bN E.out;have ab:Hid (w5.ownsRow w3.heap.size 3 1 (.slice Av p cv) p (cZ .i64 (Dj TS t i))):=dZ HO.out (fun y hy=>bN.block y (Ae HO.out y hy).2);have aq:=ae.out.size;clear N J bN HO E Z HK k0 k1 aU k3 k4 E1 DH;have aD:Hid ((Dj TS t (i+1)).length=p):=(by show _=_;rw[Q.out,Fi,HP.out]);have aE:Hid (w5.ownsRow w3.heap.size 3 1 (.slice Av p cv) p (cZ .i64 (Dj TS t (i+1)))):=(by show World.ownsRow _ _ _ _ _ _ _;rw[Q.out,Fi];exact ab.out);clear ab Q HP;go_wp2_with fail;go_roundw
        case measure=>go_light;simp[intOf];omega
        case rel=>go_light;exact⟨i+1,p,by omega,by omega,by first|rfl|go_num,aD.out,aE.out,ae.out⟩
      ·obtain rfl:k=i:=by omega
       have gi:decide ((k:Int)<(k:Int))=false:=(by simp);have bB:decide (k<k)=false:=(by simp);have G:=hid (HS.out.step E.out);have Z:Hid (Below w.heap.size w wi):=eZ E.out HB.out;have bb:=Z.out.size;have ar:Hid (wi.ownsRow w.heap.size 3 1 (.slice Av p cv) (Bo TS t).length (cZ .i64 (Bo TS t))):=(by show World.ownsRow _ _ _ _ _ _ _;have e:Bo TS t=Dj TS t k:=(by rw[<-Xx,aQ.out]);rw[e,HP.out];exact jZ HO.out bg);have e1:=G.out.box.cell 1;simp only[List.getElem?_toArray,List.getElem?_cons_zero,List.getElem?_cons_succ]at e1;clear HS HO HP HB E aP b0;go_wp2_with(at_builtin;refine gZ rfl (.tmp 65) (.tmp 67) 34 rfl w.heap.size 30 i1 _ 1 24 Tryz.underlying34 be bl bt bj rfl (by decide) _ _ _ (by rfl) (G.out.ll.alloc _) _ 1 1 [.slice Av p cv] (by rfl) (Src.of_blk (Blk.made_at _ _ _ (by simp)) 1 1 1 rfl) (by intro u hu;simp at hu;rcases hu with rfl;rfl) (by unfold maxLen;omega) (by omega) (by simp;omega) ?_;intro v9 w9 U ah aO;obtain⟨A9,c9,rfl⟩:=aZ U;have a3:=G.out.putL HT.out ar.out ah U;have f9:=((G.out.box.alloc _).grown ah (fun e=>fZ G.out.ll G.out.box (by decide) e.symm)).frozen 1;have e9:=((G.out.box.alloc _).grown ah (fun e=>fZ G.out.ll G.out.box (by decide) e.symm)).cell 1;simp only[List.getElem?_toArray,List.getElem?_cons_zero,List.getElem?_cons_succ]at e9;have aJ:Hid (Below w.heap.size w w9):=(kZ bb Z.out).grown ah (by simp;omega) (fun y hy=>(Ae G.out.ll y hy).1);have H9:=hid a3;clear a3 U ah aO);have bc:Hid (Below w.heap.size w (w9.setCell ⟨xb,1,none⟩ (.slice A9 (k2+1) c9))):=nZ aT aJ.out;clear G Z aJ ar e1;go_roundw
       case measure=>go_light;simp[intOf];omega
       case rel=>go_light;exact⟨k2+1,_,_,by omega,by first|rfl|go_num,H9.out,bc.out⟩
    ·obtain rfl:m=k2:=by omega
     have gj:decide ((m:Int)<(m:Int))=false:=(by simp);have ax:decide (m<m)=false:=(by simp);have b0:=HS.out.box.cell 0;have b1:=HS.out.box.cell 1;have r0:=HS.out.res.cell 0;have r1:=HS.out.res.cell 1;have s0:=HS.out.res.frozen 0;have s1:=HS.out.res.frozen 1;simp only[List.getElem?_toArray,List.getElem?_cons_zero,List.getElem?_cons_succ]at b0 b1 r0 r1;go_wp2_with fail;have aN:=HS.out.tt;have aS:=HS.out.ll;have n1:(Value.slice A5 m c5).ownBlock≠some w.heap.size:=fZ aN HS.out.res (by decide);have n2:(Value.slice A8 m c8).ownBlock≠some w.heap.size:=fZ aS HS.out.res (by decide);refine AN (v:= .agg #[.slice A5 m c5, .slice A8 m c8]) ?_ rfl ⟨_,_,vals,rfl,⟨?_,?_,?_⟩,?_⟩
     ·have e0:=(HS.out.res.set 0 (.slice A5 m c5)).cell 0;have e1:=((HS.out.res.set 0 (.slice A5 m c5)).set 1 (.slice A8 m c8)).cell 1;simp at e0 e1;simp[results,Tryz.results75,go_sem,e0,e1]
     ·rw[<-ag.out,<-aj.out,aG.out];exact Ca (Ca aN n1 _) n1 _
     ·rw[<-ag.out,<-aj.out,BN,aG.out];exact Ca (Ca aS n2 _) n2 _
     ·intro i v bE hv hi;rw[<-ag.out,<-aj.out]at hi;rw[Bw]at hi;cases hs:SS[i]? with
      |none=>rw[hs]at hi;cases hi
      |some s=>rw[hs]at hi;injection hi with hi;subst hi;have au:=HS.out.vl i v s hv hs;have hn:=fZ au HS.out.res (by decide);exact Ca (Ca au hn _) hn _
     ·exact nZ (Aj _) (nZ (Aj _) HB.out)
end Idx
namespace Body
open Recs Idx Opts
open Go.Proofs.YtbgoibedicbkjaaGreatDoor.NumPut (pZ Cg)
open Go.Proofs.YtbgoibedicbkjaaGreatDoor.Ef (efO Dp Jv JQ Jb efW)
open Go.Proofs.YtbgoibedicbkjaaGreatDoor.Huff (bytesOf_length)
theorem Xf{bound:Nat}{l:List Nat}(hb:bound<=20000)(hm:Dp bound none l=true)(h0:l≠ [])(hn:l.length<=bound):(efO bound l).length<=10+(3*bound+7) / 8:=by
 have h1:1<=l.length:=Hq.2 h0;have hq:1<=bound / l.length:=(Nat.one_le_div_iff (by omega)).2 hn;have hW:l.length*efW bound l.length<=bound:=by have h3:=Ef.Kq (q:=bound / l.length) (by omega);have h4:efW bound l.length<2 ^ efW bound l.length:=Nat.lt_two_pow_self;unfold efW at h4 ⊢;have h5:l.length*Nat.log2 (bound / l.length)<=l.length*(bound / l.length):=Nat.mul_le_mul_left _ (by omega);exact AV h5 (Nat.mul_div_le _ _)
 have i:=JQ (efW bound l.length) l;have z:=Jb bound l none hm;have hp:=(MF bound l none hm).1;have j:=ML (l.map (·/ 2 ^ efW bound l.length)) 0 bound (AY _) (fun x hx=>by obtain⟨y,hy,rfl⟩:=Ep.1 hx;exact⟨AY _,AV (GQ _ _) (by have:=z y hy;omega)⟩) (List.Pairwise.map _ (fun a b h=>Nat.div_le_div_right h) hp);rw[BN]at j;have E:=Cg (x:=l.length) (by omega);unfold efO;rw[Aa h0,Ai,bytesOf_length];unfold Jv;rw[Ai,i];omega
theorem Nr{bound C:Nat}:∀ {ls:List (List Nat)},(∀x∈ls,(efO bound x).length<=C)->(Dh bound ls).length<=C*ls.length
 | [],_=>by simp[Dh]
 |x :: t,h=>by have ih:=Nr (ls:=t) (fun y hy=>h y (EW _ hy));have hx:=h x EV;unfold Dh at ih ⊢;rw[IB,Ai,Bh,Nat.mul_add];omega
theorem Qc(ts:List (List Str)):(AM ts).length<=(ts.map List.length).sum:=by
 have h:∀ (ts:List (List Str)) (i:List Str),(ts.foldl yZ i).length<=i.length+(ts.map List.length).sum:=fun ts=>by
  induction ts with
  |nil=>intro i;simp
  |cons t ts ih=>intro i;have h1:=ih (yZ i t);have h2:=Ke t i;rw[List.foldl_cons,Ee,GR];omega
 have:=h ts [];simpa[AM]using this
theorem MV:∀l:List Rec,((((l.map lZ).map List.length).sum:Nat):Int)<=Ck l
 | []=>by simp[Nb]
 |r :: l=>by
  have ih:=MV l;have e:Ck (r :: l)=FM r+Ck l:=by simp only[Ck,List.map_cons,List.foldl_cons];rw[Oc];omega
  have h:=MO r.text.data.toList r.source.data.toList;have h1:r.text.data.toList.length=r.text.size:=Array.length_toList;have h2:r.source.data.toList.length=r.source.size:=Array.length_toList;rw[h1,h2]at h;rw[Ee,Ee,GR,e];have h3:(lZ r).length<=r.text.size+r.source.size:=h;unfold FM;omega
theorem WY{o:Opt}{l:List Rec}{n:Nat}(hn:l.length=n)(h1:(n:Int)<=30)(h2:Ck l<=1500):(AM (l.map lZ)).length<=20000/\(DY o=0->(ixR o l).length<=99000):=by
 have hT:(AM (l.map lZ)).length<=1500:=by have a:=Qc (l.map lZ);have b:=MV l;omega
 refine⟨by omega,fun ho=> ?_⟩;obtain⟨_,_,y,j⟩:=OL ho;have h:=RN l;have i:=OY (l:=l) (by omega);have hs:∀s∈AM (l.map lZ),s.length<=25:=fun s hs=>(L7 i s hs).2;have a:=Ll hs (size:=o.bucket.toNat) (by omega) (by omega) (nCh o.bucket.toNat (AM (l.map lZ)).length);have b:=Kr hs (size:=o.bucket.toNat) (by omega) (nCh o.bucket.toNat (AM (l.map lZ)).length);have c:=L8 (size:=o.bucket.toNat) (n:=(AM (l.map lZ)).length) (by omega);have d:=Nr (bound:=l.length) (C:=22) (ls:=(AM (l.map lZ)).map (Bo (l.map lZ))) (fun x hx=>by have h3:=h.2 x hx;have h4:=Xf (bound:=l.length) (l:=x) (by omega) (Hu.1 h.1 x hx) h3.1 h3.2;omega);rw[BN]at d;have e:ET o.bucket.toNat (AM (l.map lZ))=hdB o.bucket.toNat (AM (l.map lZ)) (nCh o.bucket.toNat (AM (l.map lZ)).length)++bdB o.bucket.toNat (AM (l.map lZ)) (nCh o.bucket.toNat (AM (l.map lZ)).length):=L3 (by omega) _;unfold ixR ixO;rw[Ai,e,Ai];omega
end Body
namespace Body
open Go.RowKit Mem Own Canon
theorem T8(w:World)(A:Option Addr)(n c:Nat)(ls:List Nat)(hn:ls.length=n)(hN:n<=1000000)(ha:Row w w.heap.size A n 1 (iZ .i64 ls)):
 Calls Tryz.prog 165 #[.slice A n c, .int .i64 0] w fun e w'=>∃r:Int,e= .returned (.int .i64 r)/\(0<=r↔0∈ls)/\w'=w:=by
 have HN:=hid hn;have H0:Hid (0 ∉ ls.take 0):=by simp[Hid]
 clear hn;go_enter Tryz.func165,Tryz.ntmps165;go_wp2_with fail;go_loopw [8] (fun iv wx=>∃k:Nat,k<=n/\iv= .int .i64 k/\Hid (0 ∉ ls.take k)/\wx=w) (fun iv _=>n-(intOf iv).toNat)
 case atStart=>exact⟨0,by omega,rfl,H0.out,rfl⟩
 case round=>
  obtain⟨k,hk,rfl,HZ,rfl⟩:=hrel;by_cases j:k<n
  ·have gk:decide ((k:Int)<(n:Int))=true:=(by simp;omega);have y:decide (k<n)=true:=(by simp;omega);have x0:(0:Int)<=(k:Int):=(by omega);have x1:(k:Int)<(n:Int):=(by omega);obtain⟨b,E,x,rfl,_,hx,ck⟩:=Ci ha HN.out j;by_cases i:x=0
   ·have gz:((0:Int)==(x:Int))=true:=(by rw[i];rfl);have HF:Hid (0∈ls):=(by show 0∈ls;rw[<-i];exact BF hx);clear hx i HZ;go_wp2_with fail;go_ret;exact⟨(k:Int),rfl,⟨fun _=>HF.out,fun _=>by omega⟩,rfl⟩
   ·have gz:((0:Int)==(x:Int))=false:=by rw[Dd];omega
    have z:Hid (0 ∉ ls.take (k+1)):=by
     show ¬_;rw[Ed,hx];intro h;rcases BH.1 h with h|h
     ·exact HZ.out h
     ·simp at h;exact i h.symm
    clear hx i HZ;go_wp2_with fail;go_roundw
    case measure=>go_light;simp[intOf];omega
    case rel=>go_light;exact⟨k+1,by omega,by first|rfl|go_num,z.out,by first|rfl|trivial⟩
  ·obtain rfl:k=n:=by omega
   have gk:decide ((k:Int)<(k:Int))=false:=(by simp);have y:decide (k<k)=false:=(by simp);have HF:Hid (0 ∉ ls):=(by have h:=HZ.out;rw[Bv (by rw[HN.out];exact Aj _)]at h;exact h);clear HZ j;go_wp2_with fail;go_ret;exact⟨-1,rfl,⟨fun h=>by omega,fun h=>absurd h HF.out⟩,rfl⟩
theorem OV(w:World)(A:Option Addr)(n c:Nat)(ls:List Nat)(hn:ls.length=n)(hN:n<=1000000)(ha:Row w w.heap.size A n 1 (iZ .i64 ls)):
 Calls Tryz.prog 111 #[.slice A n c, .int .i64 0] w fun e w'=>e= .returned (.bool (decide (0∈ls)))/\w'=w:=by
 have D:=hid (T8 w A n c ls hn hN ha);clear hn ha;go_enter Tryz.func111,Tryz.ntmps111;go_wp2_with fail;refine D.out.mono ?_;rintro e w1 ⟨r,rfl,hr,rfl⟩;have gr:decide ((0:Int)<=r)=decide (0∈ls):=by rw[decide_eq_decide];exact hr
 clear hr;go_wp2_with fail;go_ret;exact⟨rfl,rfl⟩
end Body
namespace Body
open Go.RowKit Mem Own Canon Nums
theorem PY:(Tryz.prog.info? 3).map (fun i=>(i.zero,i.size,i.bytes))=some (some (.int .i64 0),1,8):=by kernel_rfl
def Nc(w:World)(gb:Nat)(t:TypeId)(rest:List Value)(room:Nat)(ls:List Nat)(e:Ending)(w':World):Prop:=
 e= .returned (.int .i64 (Ew room ls))/\Kept (fun x=>x<w.heap.size/\x≠gb) w w'/\(Ew room ls=0->∃vc vs,Blk w' gb t (vc :: vs :: .int .i64 (dP ls:Nat) :: .int .i64 (dQ ls:Nat) :: rest).toArray/\w'.ownsRow w.heap.size 3 1 vc (Bt ls).length (cZ .i64 (Bt ls))/\w'.ownsRow w.heap.size 3 1 vs (Cd ls).length (cZ .i64 (Cd ls))/\(∀y,vc.ownBlock=some y->vs.ownBlock≠some y))
theorem YG(w:World)(gb:Nat)(t:TypeId)(x2 x3:Value)(rest:List Value)(A:Option Addr)(m c U:Nat)(ls:List Nat)(hB:Blk w gb t (.slice none 0 0 :: .slice none 0 0 :: x2 :: x3 :: rest).toArray)(bb:3≠t)(b4:5≠t)(hm:ls.length=m)(bP:m<=100000)(h8:∀x∈ls,x<=255)(a8:A=none->m=0/\c=0)(ha:Row w w.heap.size A m 1 (iZ .u8 ls)):
 Calls Tryz.prog 61 #[.pointer (some ⟨gb,0,none⟩), .slice A m c, .int .i64 (U:Nat)] w (Nc w gb t rest U ls):=by
 obtain⟨j0,bX,bV,bM,bt⟩:=info_parts PY;have D0:=hid (new_any w A m c ls hm bP a8 ha);have a9:ls.length<=100000:=by omega
 have DI:=hid (fun wx g B d at_ er most (hm:most<=1000000000) h=>Hi wx g w.heap.size ls B d at_ er most a9 h8 hm h);have aB:=hid (fun wx g B d at_ er h=>CI wx g w.heap.size ls B d at_ er h);have ay:=hid (fun wx g B d at_ er h=>Ql wx g w.heap.size ls B d at_ er h);obtain⟨R,hR⟩:∃R,R=Ew U ls:=⟨_,rfl⟩;unfold Nc;rw[<-hR];have aA:BW ls<=20000:=Cs h8 _ _;have bH:Ex ls<=20000:=AV (Cs h8 _ _) aA;have aj:Hid (∀ (most a:Nat) (er:Int),xZ most ls a er<=most):=fun most a er=>Cs h8 a er;have bI:=Kl (rec:=BW ls) (ls:=ls) (Ex ls) (mZ (BW ls) ls (mZ 20000 ls 0 0) (oZ 20000 ls 0 0)) (oZ (BW ls) ls (mZ 20000 ls 0 0) (oZ 20000 ls 0 0)) [] [] rfl;have bA:=LV (rec:=BW ls) h8 (Ex ls) (mZ (BW ls) ls (mZ 20000 ls 0 0) (oZ 20000 ls 0 0)) (oZ (BW ls) ls (mZ 20000 ls 0 0) (oZ 20000 ls 0 0)) [] [] (fun x hx=>by simp at hx) (fun x hx=>by simp at hx);have bR:=hid bI;have aC:=hid bA;have HR:=hid hR;have bD:=hid hB;have bS:=hB.lt;clear hm h8 a8 ha hR hB bI bA bP a9;go_enter Tryz.func61,Tryz.ntmps61;go_wp2_with fail;refine D0.out.mono ?_;rintro e w1 ⟨g,B,d,rfl,bk,bq⟩;have bu:=hid bq;have bK:=hid bk;have b8:=bk.lo;have cf:=bq.size;clear bk bq D0;go_wp2_with fail;refine(DI.out _ g B d 0 0 20000 (by omega) bK.out).mono ?_;rintro e w2 ⟨rfl,bB,J⟩;have bE:=hid bB;have bl:Hid (Below w.heap.size w w2):=bu.out.trans (J.below fun b h=>⟨by omega,by omega⟩);obtain⟨rec,ah⟩:∃rec,rec=BW ls:=⟨_,rfl⟩;have aa:=hid ah;rw[<-ah]at aA;rw[show xZ 20000 ls 0 0=rec from ah.symm];clear bB J bu bK ah;go_wp2_with fail;refine(DI.out _ g B d _ _ rec (by omega) bE.out).mono ?_;rintro e w3 ⟨rfl,bN,Y⟩;obtain⟨nb,a6⟩:∃nb,nb=Ex ls:=⟨_,rfl⟩;have b1:=hid a6;rw[<-a6]at bH;rw[show xZ rec ls (mZ 20000 ls 0 0) (oZ 20000 ls 0 0)=nb by rw[a6,aa.out];rfl];have bd:Hid (Below w.heap.size w w3):=bl.out.trans (Y.below fun b h=>⟨by have:=bl.out.size;omega,by omega⟩);have bW:=hid (bD.out.below bd.out bS);have bC:Hid (DrI w w3 gb t (x2 :: x3 :: rest) g ls B d (mZ rec ls (mZ 20000 ls 0 0) (oZ 20000 ls 0 0)) (oZ rec ls (mZ 20000 ls 0 0) (oZ 20000 ls 0 0)) [] [] (.slice none 0 0) (.slice none 0 0)):=⟨bN,bW.out,Am _ _ _ _,Am _ _ _ _,(fun y h=>by cases h),Kept.of_below bd.out (fun x hx=>hx.1),bS,bb,b4⟩;have bU:Hid (CZ rec ls (nb-0) (mZ rec ls (mZ 20000 ls 0 0) (oZ 20000 ls 0 0)) (oZ rec ls (mZ 20000 ls 0 0) (oZ 20000 ls 0 0)) [] []=EQ ls):=by show _=_;rw[aa.out,b1.out];rfl
 generalize mZ rec ls (mZ 20000 ls 0 0) (oZ 20000 ls 0 0)=a0 at *;generalize oZ rec ls (mZ 20000 ls 0 0) (oZ 20000 ls 0 0)=e0 at *;clear bN Y bE bl bd bW bD a6;go_wp2_with fail;go_loopw [10] (fun iv wr=>∃ (k at_:Nat) (er:Int) (C S:List Nat) (vc vs:Value),k<=nb/\iv= .int .i64 k/\Hid (C.length=k)/\Hid (S.length=k)/\Hid (DrI w wr gb t (x2 :: x3 :: rest) g ls B d at_ er C S vc vs)/\Hid (CZ rec ls (nb-k) at_ er C S=EQ ls)) (fun iv _=>nb-(intOf iv).toNat)
 case atStart=>exact⟨0,a0,e0,[],[],_,_,by omega,rfl,rfl,rfl,bC.out,bU.out⟩
 case round=>
  obtain⟨k,at_,er,C,S,vc,vs,hk,rfl,an,aD,HI,HG⟩:=hrel;clear bC bU;have zr:=HI.out.kept.size;by_cases aL:k<nb/\er=0
  ·obtain⟨a5,rfl⟩:=aL;have gk:decide ((k:Int)<(nb:Int))=true:=(by simp;omega);have bQ:decide (k<nb)=true:=(by simp;omega);have hG:=HG.out;rw[show nb-k=(nb-(k+1))+1 by omega,CZ,Aa (show ¬((0:Int)≠0) from fun h=>h rfl)]at hG;have aG:=hid (aB.out _ _ _ _ _ _ HI.out.cur);have ce:=aj.out rec at_ 0;have D1:=hid (fun wx hx=>DI.out wx g B d at_ 0 rec (by omega) hx);have D2:=hid (fun wx hx=>DI.out wx g B d (mZ rec ls at_ 0) (oZ rec ls at_ 0) 8388608 (by omega) hx);have cd:=aj.out 8388608 (mZ rec ls at_ 0) (oZ rec ls at_ 0);generalize xZ 8388608 ls (mZ rec ls at_ 0) (oZ rec ls at_ 0)=s at *;generalize mZ 8388608 ls (mZ rec ls at_ 0) (oZ rec ls at_ 0)=a2 at *;generalize oZ 8388608 ls (mZ rec ls at_ 0) (oZ rec ls at_ 0)=e2 at *;generalize xZ rec ls at_ 0=r at *;generalize mZ rec ls at_ 0=a1 at *;generalize oZ rec ls at_ 0=e1 at *;have b7:=hid hG;have c0:=HI.out.cs.1;obtain⟨Ac,cc,rfl⟩:=aZ HI.out.oc;obtain⟨p,hp⟩:∃p,p=C.length:=⟨_,rfl⟩;have bJ:p=k:=(by rw[hp,an.out]);rw[<-hp]at c0;have HP:=hid hp;have i:=HI.out.oc;rw[<-hp]at i;have b5:=hid i;clear hG HG hp i bJ;go_wp2_with fail;refine aG.out.mono ?_;rintro e w4 ⟨rfl,rfl⟩;have bJ:p<=k:=(by rw[HP.out,an.out];exact Aj _);go_upto_region 7 with fail;go_region_law(first|(go_simp;go_at_call 86;(with_reducible refine(D1.out _ HI.out.cur.drew).mono ?_);rintro e w5 ⟨rfl,ak,ab⟩;have G:=HI.out.call ak ⟨ab.os,ab.tape,ab.output,ab.size,ab.block⟩;have q0:=G.cs.1;rw[<-HP.out]at q0;have az:=G.oc;rw[<-HP.out]at az;have z5:=G.kept.size;have q9:=(G.blk.alloc (.cells #[.int .i64 (r:Nat)] 3)).cell 0;simp only[List.getElem?_toArray,List.getElem?_cons_zero,<-HP.out]at q9)|(refine MT rfl (.tmp 33) (.tmp 37) 30 rfl w.heap.size 3 j0 _ 1 8 Tryz.underlying30 bX bV bM bt rfl (by decide) (.slice Ac p cc) p (cZ .i64 C) (by rfl) (by first|exact az.alloc _|exact(az.alloc _).drew) _ 1 1 [.int .i64 (r:Nat)] (by rfl) (Src.of_blk (Blk.made_at _ _ _ (by simp)) 1 1 1 rfl) (by intro u hu;simp at hu;rcases hu with rfl;rfl) (by unfold maxLen;omega) (by omega) (by simp;omega) ?_;intro A6 c6 w6 aY bi ba;have b6:=(G.blk.alloc (.cells #[.int .i64 (r:Nat)] 3)).grown bi (by rw[HP.out];exact Bg (fZ G.oc G.blk bb));have r0:=b6.cell 0;have s0:=b6.frozen 0;simp only[List.getElem?_toArray,List.getElem?_cons_zero,<-HP.out]at r0))
   all_goals
    have L:=G.count (x:=r) (bZ (o:= .cells #[.int .i64 (r:Nat)] 3) (Ag w5.heap.size w5)) (by rw[<-HP.out];exact bi) (by rw[<-HP.out];exact aY) (by rw[<-HP.out];exact ba);have af:=hid L;obtain⟨As,cs,rfl⟩:=aZ L.os;obtain⟨p2,aU⟩:∃p,p=S.length:=⟨_,rfl⟩;have ca:p2<=k:=(by rw[aU,aD.out];exact Aj _);have aV:=L.os;rw[<-aU]at aV;have bG:=hid aV;have d1:=L.cs.2;rw[<-aU]at d1;have ai:=hid aU;have z6:=L.kept.size;clear G L ak ab aY bi ba b6 r0 s0 q0 q9 az aV aU HI c0 D1 b5;generalize w6.setCell ⟨gb,0,none⟩ (.slice A6 (p+1) c6)=w7 at *;go_upto_region 8 with fail;go_region_law(first|(go_simp;go_at_call 86;refine(D2.out _ af.out.cur.drew).mono ?_;rintro e w8 ⟨rfl,bL,aE⟩;have ag:=af.out.call bL ⟨aE.os,aE.tape,aE.output,aE.size,aE.block⟩;have q0:=ag.cs.2;rw[<-ai.out]at q0;have ax:=ag.os;rw[<-ai.out]at ax;have z8:=ag.kept.size;have q9:=(ag.blk.alloc (.cells #[.int .i64 (s:Nat)] 3)).cell 1;simp only[List.getElem?_toArray,List.getElem?_cons_zero,List.getElem?_cons_succ,<-ai.out]at q9)|(refine MT rfl (.tmp 45) (.tmp 48) 30 rfl w.heap.size 3 j0 _ 1 8 Tryz.underlying30 bX bV bM bt rfl (by decide) (.slice As p2 cs) p2 (cZ .i64 S) (by rfl) (by first|exact ax.alloc _|exact(ax.alloc _).drew) _ 1 1 [.int .i64 (s:Nat)] (by rfl) (Src.of_blk (Blk.made_at _ _ _ (by simp)) 1 1 1 rfl) (by intro u hu;simp at hu;rcases hu with rfl;rfl) (by unfold maxLen;omega) (by omega) (by simp;omega) ?_;intro A9 c9 w9 aM bc a7;have b9:=(ag.blk.alloc (.cells #[.int .i64 (s:Nat)] 3)).grown bc (by rw[ai.out];exact Bg (fZ ag.os ag.blk bb));have r0:=b9.cell 1;have s0:=b9.frozen 1;simp only[List.getElem?_toArray,List.getElem?_cons_zero,List.getElem?_cons_succ,<-ai.out]at r0))
    all_goals
     have bO:=ag.size (x:=s) (bZ (o:= .cells #[.int .i64 (s:Nat)] 3) (Ag w8.heap.size w8)) (by rw[<-ai.out];exact bc) (by rw[<-ai.out];exact aM) (by rw[<-ai.out];exact a7);have b0:=hid bO;have bF:Hid ((C++ [r]).length=k+1):=(by show _=_;rw[Ai,an.out];rfl);have bT:Hid ((S++ [s]).length=k+1):=(by show _=_;rw[Ai,aD.out];rfl);clear ag bO bL aE aM bc a7 b9 r0 s0 q0 q9 ax af bG d1;generalize w9.setCell ⟨gb,1,none⟩ (.slice A9 (p2+1) c9)=cg at *;go_wp2_with fail;go_roundw
     case measure=>go_light;simp[intOf];omega
     case rel=>go_light;exact⟨k+1,a2,e2,C++ [r],S++ [s], .slice A6 (p+1) c6, .slice A9 (p2+1) c9,by omega,by first|rfl|go_num,bF.out,bT.out,b0.out,b7.out⟩
  ·have ac:Hid (EQ ls=(C,S,at_,er)):=by
    have h:=HG.out;by_cases a5:k<nb
    ·rw[N9 (fun h=>aL ⟨a5,h⟩)]at h;exact h.symm
    ·rw[show nb-k=0 by omega,CZ]at h;exact h.symm
   have aG:=hid (aB.out _ _ _ _ _ _ HI.out.cur);clear HG;by_cases a5:k<nb
   ·have gk:decide ((k:Int)<(nb:Int))=true:=(by simp;omega);have bQ:decide (k<nb)=true:=(by simp;omega);have bY:er≠0:=fun h=>aL ⟨a5,h⟩;have gE:(er==0)=false:=(by simpa using bY);clear aL bY;go_wp2_with fail;refine aG.out.mono ?_;rintro e w4 ⟨rfl,rfl⟩;have hP:dP ls=xZ 8388608 ls at_ er:=(by unfold dP;rw[ac.out]);have aI:dPA ls=mZ 8388608 ls at_ er:=(by unfold dPA;rw[ac.out]);have aT:dPE ls=oZ 8388608 ls at_ er:=(by unfold dPE;rw[ac.out]);have hC:Bt ls=C:=(by unfold Bt;rw[ac.out]);have hS:Cd ls=S:=(by unfold Cd;rw[ac.out]);have D3:=hid (fun wx hx=>DI.out wx g B d at_ er 8388608 (by omega) hx);rw[<-hP,<-aI,<-aT]at D3;have D4:=hid (fun wx hx=>DI.out wx g B d (dPA ls) (dPE ls) 8388608 (by omega) hx);rw[show xZ 8388608 ls (dPA ls) (dPE ls)=dQ ls from rfl]at D4;have D5:=hid (fun wx hx=>ay.out wx g B d (mZ 8388608 ls (dPA ls) (dPE ls)) (oZ 8388608 ls (dPA ls) (dPE ls)) hx);rw[show Ez ls (mZ 8388608 ls (dPA ls) (dPE ls)) (oZ 8388608 ls (dPA ls) (dPE ls))=dE ls from rfl]at D5;have bh:dP ls<=8388608:=(by rw[hP];exact aj.out _ _ _);have bp:dQ ls<=8388608:=aj.out _ _ _;have hr:=HR.out;unfold Ew at hr;rw[hC,hS]at hr;have bg:=hid hC;have bm:=hid hS;have a4:∀x∈C,x<=rec:=fun x hx=>by have h:=aC.out.1 x (show x∈Bt ls by rw[hC];exact hx);rw[aa.out];exact h
    have aP:∀x∈S,x<=8388608:=fun x hx=>aC.out.2 x (show x∈Cd ls by rw[hS];exact hx);have aH:C.length<=20000:=(by rw[an.out];omega);have aF:S.length<=20000:=(by rw[aD.out];omega);have aR:C.sum<=1000000000000000:=AV (Jr C rec a4) (AV (Gq aH aA) (by decide));have bn:S.sum<=500000000000000:=AV (Jr S 8388608 aP) (AV (EN _ aF) (by decide));rw[<-aa.out]at hr;obtain⟨P,aq⟩:∃P,P=dP ls:=⟨_,rfl⟩;obtain⟨Q,al⟩:∃Q,Q=dQ ls:=⟨_,rfl⟩;obtain⟨E,hE2⟩:∃E,E=dE ls:=⟨_,rfl⟩;rw[<-aq]at D3 bh hr;rw[<-al]at D4 bp hr;have bf:=hid aq.symm;have be:=hid al.symm;rw[<-hE2]at D5 hr;generalize dPA ls=pa at *;generalize dPE ls=pe at *;generalize mZ 8388608 ls pa pe=qa at *;generalize oZ 8388608 ls pa pe=qe at *;obtain⟨k2,J⟩:∃k2,k2=C.length:=⟨_,rfl⟩;obtain⟨k3,Y⟩:∃k3,k3=S.length:=⟨_,rfl⟩;have i:=HI.out.oc;have M:=HI.out.os;rw[<-J]at i aH;rw[<-Y]at M aF;obtain⟨Ac,cc,rfl⟩:=aZ i;obtain⟨As,cs,rfl⟩:=aZ M;have aK:=hid J;have aN:=hid Y;have N:=hid hr;have aX:=hid (fun wx (h:wx.ownsRow w.heap.size 3 1 (.slice Ac k2 cc) k2 (cZ .i64 C))=>OV wx Ac k2 cc C J.symm (by omega) (GZ h J.symm));have av:=hid (fun wx (h:wx.ownsRow w.heap.size 3 1 (.slice Ac k2 cc) k2 (cZ .i64 C))=>JB wx Ac k2 cc C J.symm (by omega) aR (GZ h J.symm));have au:=hid (fun wx (h:wx.ownsRow w.heap.size 3 1 (.slice As k3 cs) k3 (cZ .i64 S))=>JB wx As k3 cs S Y.symm (by omega) (by omega) (GZ h Y.symm));obtain⟨CS,ar⟩:∃x,x=C.sum:=⟨_,rfl⟩;obtain⟨SS,am⟩:∃x,x=S.sum:=⟨_,rfl⟩;rw[<-ar]at av aR;rw[<-am]at au bn;have aJ:=hid ar;have aS:=hid am;clear hP aI aT hC hS hr HR ac a4 aP aq al hE2 J Y ar am i M bR aC aa aj DI ay aB aG an aD;go_wp2_with fail;refine(D3.out _ HI.out.cur).mono ?_;rintro e w5 ⟨rfl,ak,ab⟩;have G:=HI.out.call ak ab;have b2:=G.blk.cell 2;have f2:=G.blk.frozen 2;simp only[List.getElem?_toArray,List.getElem?_cons_zero,List.getElem?_cons_succ]at b2;have aw:Hid (DrI w (w5.setCell ⟨gb,2,none⟩ (.int .i64 (P:Nat))) gb t (.int .i64 (P:Nat) :: x3 :: rest) g ls B d pa pe C S (.slice Ac C.length cc) (.slice As S.length cs)):=(by rw[<-aK.out,<-aN.out];exact G.third);clear ak ab G D3 HI;go_wp2_with fail;refine(D4.out _ aw.out.cur).mono ?_;rintro e w6 ⟨rfl,aW,aO⟩;have L:=aw.out.call aW aO;have b3:=L.blk.cell 3;have f3:=L.blk.frozen 3;simp only[List.getElem?_toArray,List.getElem?_cons_zero,List.getElem?_cons_succ]at b3;have af:=hid (L.fourth (u:= .int .i64 (Q:Nat)));clear aW aO L D4 aw b2 f2;go_wp2_with fail;refine(D5.out _ af.out.cur).mono ?_;rintro e w7 ⟨rfl,a3,Z⟩;have z:=af.out.call a3 ⟨Z.os,Z.tape,Z.output,Z.size,fun x hx=>Z.block x hx.2⟩;have j:=hid z;clear a3 Z D5 af b3 f3;by_cases hE:E=0
    ·subst hE;have hr:=N.out;rw[Aa (show ¬((0:Int)≠0) from fun h=>h rfl)]at hr;have c0:=z.blk.cell 0;have c1:=z.blk.cell 1;have c2:=z.blk.cell 2;have c3:=z.blk.cell 3;simp only[List.getElem?_toArray,List.getElem?_cons_zero,List.getElem?_cons_succ]at c0 c1 c2 c3;have i:=z.oc;have M:=z.os;rw[<-aK.out]at i c0;rw[<-aN.out]at M c1;have E0:Hid (∀q,Calls Tryz.prog 111 #[.slice Ac k2 cc, .int .i64 0] (w7.drewN q) fun e w'=>e= .returned (.bool (decide (0∈C)))/\w'=w7.drewN q):=fun q=>aX.out _ (dZ i (fun y _=>rfl));have E1:Hid (∀q,Calls Tryz.prog 107 #[.slice Ac k2 cc] (w7.drewN q) fun e w'=>e= .returned (.int .i64 (CS:Nat))/\w'=w7.drewN q):=fun q=>av.out _ (dZ i (fun y _=>rfl));have E2:Hid (∀q,Calls Tryz.prog 107 #[.slice As k3 cs] (w7.drewN q) fun e w'=>e= .returned (.int .i64 (SS:Nat))/\w'=w7.drewN q):=fun q=>au.out _ (dZ M (fun y _=>rfl));clear z i M aX av au;by_cases hz:0∈C
     ·have HF:Hid (R=2):=(by rw[Ab (.inl hz)]at hr;exact hr);rw[Aw hz]at E0;clear hz hr N;go_wp2_with fail;go_quiet (first|(go_at_call 111;(with_reducible exact B0 (E0.out _)))|(go_at_call 107;first|(with_reducible exact B0 (E1.out _))|(with_reducible exact B0 (E2.out _))));go_wp2_with fail;go_ret;rw[HF.out];exact⟨rfl,j.out.kept.drewN _,fun h=>absurd h (by decide)⟩
     ·rw[Az hz]at E0;by_cases h2:CS=rec
      ·have gn:((CS:Int) != (rec:Int))=false:=(by rw[h2];simp);have s1:IntKind.i64.wrap ((SS:Int)+(P:Int))=((SS+P:Nat):Int):=(by rw[Ak _ (by omega)];omega);have s2:IntKind.i64.wrap (((SS+P:Nat):Int)+(Q:Int))=((SS+P+Q:Nat):Int):=(by rw[Ak _ (by omega)];omega);have aQ:IntKind.i64.wrap ((SS:Int)+(P:Int)+(Q:Int))=((SS+P+Q:Nat):Int):=(by rw[Ak _ (by omega)];omega);by_cases h3:SS+P+Q=U
       ·have g3:(((SS+P+Q:Nat):Int) != (U:Int))=false:=by rw[h3];simp
        have HF:Hid (R=0):=by
         rw[Aa (fun h=>by
          rcases h with h|h|h
          ·exact hz h
          ·exact h (by rw[<-aJ.out];exact h2)
          ·exact h (by rw[<-aS.out];exact h3))]at hr
         exact hr
        obtain⟨TT,ae⟩:∃TT,TT=SS+P+Q:=⟨_,rfl⟩;rw[<-ae]at s2 aQ g3;clear hz h2 h3 ae hr N;go_wp2_with fail;go_quiet (first|(go_at_call 111;(with_reducible exact B0 (E0.out _)))|(go_at_call 107;first|(with_reducible exact B0 (E1.out _))|(with_reducible exact B0 (E2.out _))));go_wp2_with fail;go_ret;rw[HF.out,bf.out,be.out,bg.out,bm.out];exact⟨rfl,j.out.kept.drewN _,fun _=>⟨_,_,j.out.blk.drewN _,dZ j.out.oc (fun y _=>rfl),dZ j.out.os (fun y _=>rfl),j.out.ap⟩⟩
       ·have g3:(((SS+P+Q:Nat):Int) != (U:Int))=true:=(by rw[bne_iff_ne];omega);have HF:Hid (R=2):=(by rw[Ab (.inr (.inr (by rw[<-aS.out];exact h3)))]at hr;exact hr);obtain⟨TT,ae⟩:∃TT,TT=SS+P+Q:=⟨_,rfl⟩;rw[<-ae]at s2 aQ g3;clear hz h2 h3 ae hr N;go_wp2_with fail;go_quiet (first|(go_at_call 111;(with_reducible exact B0 (E0.out _)))|(go_at_call 107;first|(with_reducible exact B0 (E1.out _))|(with_reducible exact B0 (E2.out _))));go_wp2_with fail;go_ret;rw[HF.out];exact⟨rfl,j.out.kept.drewN _,fun h=>absurd h (by decide)⟩
      ·have gn:((CS:Int) != (rec:Int))=true:=(by rw[bne_iff_ne];omega);have HF:Hid (R=2):=(by rw[Ab (.inr (.inl (by rw[<-aJ.out];exact h2)))]at hr;exact hr);clear hz h2 hr N;go_wp2_with fail;go_quiet (first|(go_at_call 111;(with_reducible exact B0 (E0.out _)))|(go_at_call 107;first|(with_reducible exact B0 (E1.out _))|(with_reducible exact B0 (E2.out _))));go_wp2_with fail;go_ret;rw[HF.out];exact⟨rfl,j.out.kept.drewN _,fun h=>absurd h (by decide)⟩
    ·have gE:(E != 0)=true:=(by simpa using hE);have HF:Hid (R=E):=(by have h:=N.out;rw[Ab hE]at h;exact h);have bj:=hid hE;clear hE N z;go_wp2_with fail;go_ret;rw[HF.out];exact⟨rfl,j.out.kept,fun h=>absurd h bj.out⟩
   ·have gk:decide ((k:Int)<(nb:Int))=false:=(by simp;omega);have bQ:decide (k<nb)=false:=(by simp;omega);clear aL;obtain⟨w4,rfl⟩:∃w4:World,w4=wr:=⟨_,rfl⟩;have hP:dP ls=xZ 8388608 ls at_ er:=(by unfold dP;rw[ac.out]);have aI:dPA ls=mZ 8388608 ls at_ er:=(by unfold dPA;rw[ac.out]);have aT:dPE ls=oZ 8388608 ls at_ er:=(by unfold dPE;rw[ac.out]);have hC:Bt ls=C:=(by unfold Bt;rw[ac.out]);have hS:Cd ls=S:=(by unfold Cd;rw[ac.out]);have D3:=hid (fun wx hx=>DI.out wx g B d at_ er 8388608 (by omega) hx);rw[<-hP,<-aI,<-aT]at D3;have D4:=hid (fun wx hx=>DI.out wx g B d (dPA ls) (dPE ls) 8388608 (by omega) hx);rw[show xZ 8388608 ls (dPA ls) (dPE ls)=dQ ls from rfl]at D4;have D5:=hid (fun wx hx=>ay.out wx g B d (mZ 8388608 ls (dPA ls) (dPE ls)) (oZ 8388608 ls (dPA ls) (dPE ls)) hx);rw[show Ez ls (mZ 8388608 ls (dPA ls) (dPE ls)) (oZ 8388608 ls (dPA ls) (dPE ls))=dE ls from rfl]at D5;have bh:dP ls<=8388608:=(by rw[hP];exact aj.out _ _ _);have bp:dQ ls<=8388608:=aj.out _ _ _;have hr:=HR.out;unfold Ew at hr;rw[hC,hS]at hr;have bg:=hid hC;have bm:=hid hS;have a4:∀x∈C,x<=rec:=fun x hx=>by have h:=aC.out.1 x (show x∈Bt ls by rw[hC];exact hx);rw[aa.out];exact h
    have aP:∀x∈S,x<=8388608:=fun x hx=>aC.out.2 x (show x∈Cd ls by rw[hS];exact hx);have aH:C.length<=20000:=(by rw[an.out];omega);have aF:S.length<=20000:=(by rw[aD.out];omega);have aR:C.sum<=1000000000000000:=AV (Jr C rec a4) (AV (Gq aH aA) (by decide));have bn:S.sum<=500000000000000:=AV (Jr S 8388608 aP) (AV (EN _ aF) (by decide));rw[<-aa.out]at hr;obtain⟨P,aq⟩:∃P,P=dP ls:=⟨_,rfl⟩;obtain⟨Q,al⟩:∃Q,Q=dQ ls:=⟨_,rfl⟩;obtain⟨E,hE2⟩:∃E,E=dE ls:=⟨_,rfl⟩;rw[<-aq]at D3 bh hr;rw[<-al]at D4 bp hr;have bf:=hid aq.symm;have be:=hid al.symm;rw[<-hE2]at D5 hr;generalize dPA ls=pa at *;generalize dPE ls=pe at *;generalize mZ 8388608 ls pa pe=qa at *;generalize oZ 8388608 ls pa pe=qe at *;obtain⟨k2,J⟩:∃k2,k2=C.length:=⟨_,rfl⟩;obtain⟨k3,Y⟩:∃k3,k3=S.length:=⟨_,rfl⟩;have i:=HI.out.oc;have M:=HI.out.os;rw[<-J]at i aH;rw[<-Y]at M aF;obtain⟨Ac,cc,rfl⟩:=aZ i;obtain⟨As,cs,rfl⟩:=aZ M;have aK:=hid J;have aN:=hid Y;have N:=hid hr;have aX:=hid (fun wx (h:wx.ownsRow w.heap.size 3 1 (.slice Ac k2 cc) k2 (cZ .i64 C))=>OV wx Ac k2 cc C J.symm (by omega) (GZ h J.symm));have av:=hid (fun wx (h:wx.ownsRow w.heap.size 3 1 (.slice Ac k2 cc) k2 (cZ .i64 C))=>JB wx Ac k2 cc C J.symm (by omega) aR (GZ h J.symm));have au:=hid (fun wx (h:wx.ownsRow w.heap.size 3 1 (.slice As k3 cs) k3 (cZ .i64 S))=>JB wx As k3 cs S Y.symm (by omega) (by omega) (GZ h Y.symm));obtain⟨CS,ar⟩:∃x,x=C.sum:=⟨_,rfl⟩;obtain⟨SS,am⟩:∃x,x=S.sum:=⟨_,rfl⟩;rw[<-ar]at av aR;rw[<-am]at au bn;have aJ:=hid ar;have aS:=hid am;clear hP aI aT hC hS hr HR ac a4 aP aq al hE2 J Y ar am i M bR aC aa aj DI ay aB aG an aD;go_wp2_with fail;refine(D3.out _ HI.out.cur).mono ?_;rintro e w5 ⟨rfl,ak,ab⟩;have G:=HI.out.call ak ab;have b2:=G.blk.cell 2;have f2:=G.blk.frozen 2;simp only[List.getElem?_toArray,List.getElem?_cons_zero,List.getElem?_cons_succ]at b2;have aw:Hid (DrI w (w5.setCell ⟨gb,2,none⟩ (.int .i64 (P:Nat))) gb t (.int .i64 (P:Nat) :: x3 :: rest) g ls B d pa pe C S (.slice Ac C.length cc) (.slice As S.length cs)):=(by rw[<-aK.out,<-aN.out];exact G.third);clear ak ab G D3 HI;go_wp2_with fail;refine(D4.out _ aw.out.cur).mono ?_;rintro e w6 ⟨rfl,aW,aO⟩;have L:=aw.out.call aW aO;have b3:=L.blk.cell 3;have f3:=L.blk.frozen 3;simp only[List.getElem?_toArray,List.getElem?_cons_zero,List.getElem?_cons_succ]at b3;have af:=hid (L.fourth (u:= .int .i64 (Q:Nat)));clear aW aO L D4 aw b2 f2;go_wp2_with fail;refine(D5.out _ af.out.cur).mono ?_;rintro e w7 ⟨rfl,a3,Z⟩;have z:=af.out.call a3 ⟨Z.os,Z.tape,Z.output,Z.size,fun x hx=>Z.block x hx.2⟩;have j:=hid z;clear a3 Z D5 af b3 f3;by_cases hE:E=0
    ·subst hE;have hr:=N.out;rw[Aa (show ¬((0:Int)≠0) from fun h=>h rfl)]at hr;have c0:=z.blk.cell 0;have c1:=z.blk.cell 1;have c2:=z.blk.cell 2;have c3:=z.blk.cell 3;simp only[List.getElem?_toArray,List.getElem?_cons_zero,List.getElem?_cons_succ]at c0 c1 c2 c3;have i:=z.oc;have M:=z.os;rw[<-aK.out]at i c0;rw[<-aN.out]at M c1;have E0:Hid (∀q,Calls Tryz.prog 111 #[.slice Ac k2 cc, .int .i64 0] (w7.drewN q) fun e w'=>e= .returned (.bool (decide (0∈C)))/\w'=w7.drewN q):=fun q=>aX.out _ (dZ i (fun y _=>rfl));have E1:Hid (∀q,Calls Tryz.prog 107 #[.slice Ac k2 cc] (w7.drewN q) fun e w'=>e= .returned (.int .i64 (CS:Nat))/\w'=w7.drewN q):=fun q=>av.out _ (dZ i (fun y _=>rfl));have E2:Hid (∀q,Calls Tryz.prog 107 #[.slice As k3 cs] (w7.drewN q) fun e w'=>e= .returned (.int .i64 (SS:Nat))/\w'=w7.drewN q):=fun q=>au.out _ (dZ M (fun y _=>rfl));clear z i M aX av au;by_cases hz:0∈C
     ·have HF:Hid (R=2):=(by rw[Ab (.inl hz)]at hr;exact hr);rw[Aw hz]at E0;clear hz hr N;go_wp2_with fail;go_quiet (first|(go_at_call 111;(with_reducible exact B0 (E0.out _)))|(go_at_call 107;first|(with_reducible exact B0 (E1.out _))|(with_reducible exact B0 (E2.out _))));go_wp2_with fail;go_ret;rw[HF.out];exact⟨rfl,j.out.kept.drewN _,fun h=>absurd h (by decide)⟩
     ·rw[Az hz]at E0;by_cases h2:CS=rec
      ·have gn:((CS:Int) != (rec:Int))=false:=(by rw[h2];simp);have s1:IntKind.i64.wrap ((SS:Int)+(P:Int))=((SS+P:Nat):Int):=(by rw[Ak _ (by omega)];omega);have s2:IntKind.i64.wrap (((SS+P:Nat):Int)+(Q:Int))=((SS+P+Q:Nat):Int):=(by rw[Ak _ (by omega)];omega);have aQ:IntKind.i64.wrap ((SS:Int)+(P:Int)+(Q:Int))=((SS+P+Q:Nat):Int):=(by rw[Ak _ (by omega)];omega);by_cases h3:SS+P+Q=U
       ·have g3:(((SS+P+Q:Nat):Int) != (U:Int))=false:=by rw[h3];simp
        have HF:Hid (R=0):=by
         rw[Aa (fun h=>by
          rcases h with h|h|h
          ·exact hz h
          ·exact h (by rw[<-aJ.out];exact h2)
          ·exact h (by rw[<-aS.out];exact h3))]at hr
         exact hr
        obtain⟨TT,ae⟩:∃TT,TT=SS+P+Q:=⟨_,rfl⟩;rw[<-ae]at s2 aQ g3;clear hz h2 h3 ae hr N;go_wp2_with fail;go_quiet (first|(go_at_call 111;(with_reducible exact B0 (E0.out _)))|(go_at_call 107;first|(with_reducible exact B0 (E1.out _))|(with_reducible exact B0 (E2.out _))));go_wp2_with fail;go_ret;rw[HF.out,bf.out,be.out,bg.out,bm.out];exact⟨rfl,j.out.kept.drewN _,fun _=>⟨_,_,j.out.blk.drewN _,dZ j.out.oc (fun y _=>rfl),dZ j.out.os (fun y _=>rfl),j.out.ap⟩⟩
       ·have g3:(((SS+P+Q:Nat):Int) != (U:Int))=true:=(by rw[bne_iff_ne];omega);have HF:Hid (R=2):=(by rw[Ab (.inr (.inr (by rw[<-aS.out];exact h3)))]at hr;exact hr);obtain⟨TT,ae⟩:∃TT,TT=SS+P+Q:=⟨_,rfl⟩;rw[<-ae]at s2 aQ g3;clear hz h2 h3 ae hr N;go_wp2_with fail;go_quiet (first|(go_at_call 111;(with_reducible exact B0 (E0.out _)))|(go_at_call 107;first|(with_reducible exact B0 (E1.out _))|(with_reducible exact B0 (E2.out _))));go_wp2_with fail;go_ret;rw[HF.out];exact⟨rfl,j.out.kept.drewN _,fun h=>absurd h (by decide)⟩
      ·have gn:((CS:Int) != (rec:Int))=true:=(by rw[bne_iff_ne];omega);have HF:Hid (R=2):=(by rw[Ab (.inr (.inl (by rw[<-aJ.out];exact h2)))]at hr;exact hr);clear hz h2 hr N;go_wp2_with fail;go_quiet (first|(go_at_call 111;(with_reducible exact B0 (E0.out _)))|(go_at_call 107;first|(with_reducible exact B0 (E1.out _))|(with_reducible exact B0 (E2.out _))));go_wp2_with fail;go_ret;rw[HF.out];exact⟨rfl,j.out.kept.drewN _,fun h=>absurd h (by decide)⟩
    ·have gE:(E != 0)=true:=(by simpa using hE);have HF:Hid (R=E):=(by have h:=N.out;rw[Ab hE]at h;exact h);have bj:=hid hE;clear hE N z;go_wp2_with fail;go_ret;rw[HF.out];exact⟨rfl,j.out.kept,fun h=>absurd h bj.out⟩
end Body
namespace Body
open Go.RowKit Mem Own Canon
theorem PK(w:World)(gb n c:Nat)(A:Option Addr)(ls:List Nat)(hc:w.cell? ⟨gb,0,none⟩=some (.slice A n c))(hn:ls.length=n)(hN:n<=1000000)(hs:ls.sum<=1000000000)(ha:Row w w.heap.size A n 1 (iZ .i64 ls)):
 Calls Tryz.prog 64 #[.pointer (some ⟨gb,0,none⟩)] w fun e w'=>e= .returned (.int .i64 (ls.sum:Nat))/\w'=w:=by
 have D:=hid (sum_any w A n c ls hn hN hs ha);generalize ls.sum=S at *;clear hn ha;go_enter Tryz.func64,Tryz.ntmps64;go_wp2_with fail;refine D.out.mono ?_;rintro e w1 ⟨rfl,rfl⟩;go_wp2_with fail;go_ret;exact⟨rfl,rfl⟩
end Body
end Go.Proofs.YtbgoibedicbkjaaGreatDoor
