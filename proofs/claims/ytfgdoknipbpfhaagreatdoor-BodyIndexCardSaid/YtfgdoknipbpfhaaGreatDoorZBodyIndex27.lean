/- The index of a log:  -/
import Derived.Test.YtfgdoknipbpfhaaGreatDoorZBodyIndex26
import Derived.Test.YtfgdoknipbpfhaaGreatDoorZBodyIndex25
namespace Go.Proofs.YtfgdoknipbpfhaaGreatDoor
open Go.Proofs.Tryz
open Go.Lib (hid)
set_option maxHeartbeats 4000000
set_option maxRecDepth 100000
variable{w w':World}{base bound i k n s:Nat}{e:TypeId}{vals xs:List Value}{l x:List Nat}{ls:List (List Nat)}{vL vT:Value}
namespace Idx
open Go.RowKit Go.Maps Mem Own Canon Sift
open Recs
def jZ(r:Rec):List Str:=Gc r.text.data.toList r.source.data.toList
structure IxAt (w:World) (base:Nat) (vT vL:Value) (vals:List Value) (ts:List Str) (ls:List (List Nat)):Prop where
 t:w.ownsRow base 9 1 vT ts.length (AO ts)
 l:w.ownsRow base 37 1 vL ls.length vals
 r:∀ (i:Nat) v ids,vals[i]? =some v->ls[i]? =some ids->w.ownsRow base 3 1 v ids.length (bZ .i64 ids)
def IA(ts:List (List Str))(w:World)(e:Ending)(w':World):Prop:=
 ∃vT vL vals,e= .returned (.agg #[vT,vL])/\IxAt w' w vT vL vals (AW ts) ((AW ts).map (BP ts))/\Below w w w'
theorem QD:(prog.info? 3).map (fun i=>(i.zero,i.size,i.bytes))=some (some (.int .i64 0),1,8):=ni
theorem Qq:(prog.info? 37).map (fun i=>(i.zero,i.size,i.bytes))=some (some (.slice none 0 0),1,24):=ni
theorem TP{r:Rec}{s:Str}(h:s∈jZ r):1<=s.length/\s.length<=25:=by
 unfold jZ at h;rw[eR]at h;unfold G2 at h;rcases Bx.1 h with h|h
 ·have:=OG _ s h;omega
 ·obtain⟨x,hx,rfl⟩:=Cl.1 h;have:=OG _ x hx;simp only[List.length_cons];omega
theorem Oa(t s:List UInt8):(Gc t s).length<=t.length+s.length:=by have h1:=Mc (G2 t s) [];have h2:=J6 t;have h3:=J6 s;unfold Gc;unfold G2 at h1;rw[Aj,Bk]at h1;unfold G2;simp only[List.length_nil]at h1;omega
theorem LZ(ts:List (List Str))(u:Str):(BP ts u).length<=ts.length:=by unfold BP;exact Bm (List.length_filter_le _ _) pR
theorem Km{s' n':Nat}{e':TypeId}{v v':Value}{E:List Value}(h:w.ownsRow base e s v n xs)(ho:w.ownsRow i e' s' v' n' E)(j:e≠e')(hg:w.grownBy w' v'.ownBlock):w'.ownsRow base e s v n xs:=
 eZ h (fun y hy=>hg.block y (Ai h y hy).2 (fun e=>by
  rcases EN h ho j with h0|h0
  ·rw[h0]at hy;cases hy
  ·exact h0 (hy.trans e)))
section
variable {H:Type} {P:Program} {kt:TypeId} {R:Value->Option (DataW H×List MemPlace)} {w w':World} {mb m:Nat} {D:DataW H}
theorem d7{v:Value}(hm:w.ownsMap P kt R mb m D)(ho:w.ownsRow base e s v n xs)(hg:w.grownBy w' (some mb)):w'.ownsRow base e s v n xs:=
 eZ ho fun b hb=>hg.block b (Ai ho b hb).2 fun he=>by
  injection he with he;subst he;obtain⟨es,i,h1,_⟩:=hm;rcases ho.2 with ⟨hv,_⟩|⟨g',j,cur,hv,_,h2,_⟩
  ·rw[hv]at hb;cases hb
  ·rw[hv]at hb;have h:g'=b:=(by simpa[Value.ownBlock]using hb);rw[h,h1]at h2;cases h2
theorem dA{g:Nat}{t:TypeId}{cs:Array Value}(hm:w.ownsMap P kt R mb m D)(h:Blk w g t cs)(hg:w.grownBy w' (some mb)):Blk w' g t cs:=
 h.grown hg fun he=>by injection he with he;subst he;obtain⟨es,i,h1,_⟩:=hm;have h2:w.heap[g]? =some (.cells cs t):=h;rw[h1]at h2;cases h2
end
def Gp(ts:List (List Str))(T:List Str)(j:Nat)(s:Str):List Nat:=BP ts s++(if s∈T.take j then [ts.length]else [])
theorem iI(ts:List (List Str))(T:List Str):Gp ts T 0=BP ts:=by funext s;simp[Gp]
theorem iY(ts:List (List Str))(T:List Str):Gp ts T T.length=BP (ts++ [T]):=by
 funext s
 rw[cM];unfold Gp;rw[List.take_length];simp
theorem gP{ts:List (List Str)}{T:List Str}(hT:Fj T){j:Nat}{t:Str}(h:T[j]? =some t):(fun s=>if s=t then Gp ts T j s++ [ts.length]else Gp ts T j s)=Gp ts T (j+1):=by
 have E:t ∉ T.take j:=fun hm=>by obtain⟨i,hi,e⟩:=List.getElem_of_mem hm;rw[Bc]at hi;rw[List.getElem_take]at e;obtain⟨hj,e2⟩:=BS.1 h;have:=List.pairwise_iff_getElem.1 hT i j nB hj nB;rw[e,e2]at this;exact Hg t this
 funext s
 unfold Gp;rw[Ca,h];by_cases hs:s=t
 ·subst hs;rw[Ag rfl,Ae E];simp
 ·rw[Ae hs];simp[hs]
theorem NM(ts:List (List Str))(s:Str):s∈AW ts↔BP ts s≠ []:=by
 rw[SX];unfold BP;rw[ne_eq,List.filter_eq_nil_iff];constructor
 ·rintro⟨t,ht,hs⟩ h;obtain⟨i,hi,rfl⟩:=List.getElem_of_mem ht;have:=h i (FA.2 hi);rw[Aq,AD hi]at this;simp at this;exact this hs
 ·intro h;refine Kv fun hn=>h fun i hi=> ?_;rw[FA]at hi;rw[Aq,AD hi];simp only[Option.getD_some,List.contains_iff_mem];exact fun hm=>hn ⟨_,GI hi,hm⟩
theorem iC{H:Type}{P:Program}{kt:TypeId}{R:Value->Option (DataW H×List MemPlace)}{mb m:Nat}{D:DataW H}(h:w.ownsMap P kt R mb m D):Maps.size D<=m:=by obtain⟨es,i,_,_,hs,rfl⟩:=h;show(List.foldr DataW.insert [] _).length<=m;rw[length_sorted,Bk];simpa using hs
structure St3 (w:World) (mb m base rb bo B2:Nat) (D:DataW Value) (I:Str->List Nat) (V:Str->Value) (vS vT vL:Value) (q nT nL:Nat) (SS:List Str):Prop where
 mi:MI w mb m base D I V
 res:Blk w rb 53 #[(),()]
 box:Blk w bo 53 #[vT,vL]
 ne:rb≠bo
 tt:w.ownsRow B2 9 1 vT nT (AO (SS.take nT))
 ll:w.ownsRow B2 37 1 vL nL ((SS.take nL).map V)
 ss:w.ownsRow base 9 1 vS q (AO SS)
 sg:∀g,vS.ownBlock=some g->g<B2
 b2:base<=B2
 bz:B2<=w.heap.size
section
variable {w w4:World} {mb m base rb bo B2 q nT nL:Nat} {D:DataW Value} {I:Str->List Nat} {V:Str->Value} {vS vT vL v4:Value} {SS:List Str} {o:Obj}
theorem St3.putT(h:St3 w mb m base rb bo B2 D I V vS vT vL q nT nL SS)(hg:(w.alloc o).grownBy w4 vT.ownBlock)(j:w4.ownsRow B2 9 1 v4 (nT+1) (AO (SS.take (nT+1)))):
 St3 (w4.setCell ⟨bo,0,none⟩ v4) mb m base rb bo B2 D I V vS v4 vL q (nT+1) nL SS:=by
 have i:Blk w4 bo 53 #[vT,vL]:=(h.box.alloc o).grown hg (fun e=>iZ h.tt h.box ji e.symm);have L:w4.heap[mb]? =w.heap[mb]? :=(hg.block mb mV (fun e=>J7 h.mi h.tt e.symm rfl)).trans (EA w o mb h.mi.map.lt)
 have E:MI w4 mb m base D I V:=(h.mi.step (cZ (Ak _ _) (o:=o))).kept (hg.block mb mV (fun e=>J7 h.mi h.tt e.symm rfl)) fun s b hb=>by
  refine hg.block b (by have:=(Ai (h.mi.row s) b hb).2;simp;omega) fun e=> ?_;rcases EN (h.mi.row s) h.tt ji with h0|h0
  ·rw[h0]at hb;cases hb
  ·exact h0 (hb.trans e)
 have J:mb≠bo:=fun e=>nk
 refine⟨E.kept (Be w4 _ _ mb J) fun s b hb=>Be w4 _ _ b (fun e=>iZ (E.row s) i ji (hb.trans (AM some e))),?_,?_,h.ne,?_,?_,?_,h.sg,h.b2,?_⟩
 ·exact((h.res.alloc o).grown hg (fun e=>iZ h.tt h.res ji e.symm)).far h.ne _
 ·exact i.set 0 v4
 ·exact Dc j (iZ j i ji) _
 ·have:=Km (h.ll.alloc o) (h.tt.alloc o) ji hg;exact Dc this (iZ this i ji) _
 ·have:w4.ownsRow base 9 1 vS q (AO SS):=eZ h.ss fun b hb=>(hg.block b (by have:=(Ai h.ss b hb).2;simp;omega) (fun e=>by have h1:=h.sg b hb;have h2:=(Ai h.tt b e.symm).1;omega)).trans (EA w o b (Ai h.ss b hb).2);exact Dc this (iZ this i ji) _
 ·have h1:=hg.size;have h2:=h.bz;simp at h1 ⊢;omega
theorem St3.putL(h:St3 w mb m base rb bo B2 D I V vS vT vL q nT nL SS)(hg:(w.alloc o).grownBy w4 vL.ownBlock)(j:w4.ownsRow B2 37 1 v4 (nL+1) ((SS.take (nL+1)).map V)):
 St3 (w4.setCell ⟨bo,1,none⟩ v4) mb m base rb bo B2 D I V vS vT v4 q nT (nL+1) SS:=by
 have i:Blk w4 bo 53 #[vT,vL]:=(h.box.alloc o).grown hg (fun e=>iZ h.ll h.box ji e.symm)
 have E:MI w4 mb m base D I V:=(h.mi.step (cZ (Ak _ _) (o:=o))).kept (hg.block mb mV (fun e=>J7 h.mi h.ll e.symm rfl)) fun s b hb=>by
  refine hg.block b (by have:=(Ai (h.mi.row s) b hb).2;simp;omega) fun e=> ?_;rcases EN (h.mi.row s) h.ll ji with h0|h0
  ·rw[h0]at hb;cases hb
  ·exact h0 (hb.trans e)
 have J:mb≠bo:=fun e=>nk
 refine⟨E.kept (Be w4 _ _ mb J) fun s b hb=>Be w4 _ _ b (fun e=>iZ (E.row s) i ji (hb.trans (AM some e))),?_,?_,h.ne,?_,?_,?_,h.sg,h.b2,?_⟩
 ·exact((h.res.alloc o).grown hg (fun e=>iZ h.ll h.res ji e.symm)).far h.ne _
 ·exact i.set 1 v4
 ·have:=Km (h.tt.alloc o) (h.ll.alloc o) ji hg;exact Dc this (iZ this i ji) _
 ·exact Dc j (iZ j i ji) _
 ·have:=Km (h.ss.alloc o) (h.ll.alloc o) ji hg;exact Dc this (iZ this i ji) _
 ·have h1:=hg.size;have h2:=h.bz;simp at h1 ⊢;omega
end
theorem Np(w:World)(A:Option Addr)(n c:Nat)(l:List Rec)(hn:l.length=n)(hN:n<=20000)(ar:∀r∈l,r.source.size<=50000/\r.text.size<=50000)(ha:Row w w A n 4 (Cp l)):
 Calls prog 52 #[.slice A n c] w (IA (l.map jZ) w):=by
 obtain⟨j0,di,cE,dd,dh⟩:=info_parts QD;have HN:=hid hn;have D1:Hid (∀wx r,r∈l->Calls prog 106 #[.agg #[.int .u64 r.time, .int .u8 r.level, .string r.source, .string r.text]] wx (IV (jZ r) wx)):=fun wx r hr=>YH wx r.time r.level r.source r.text (ar r hr).1 (ar r hr).2;have an:Hid (∀r∈l,(jZ r).length<=100000):=fun r hr=>by have:=Oa r.text.data.toList r.source.data.toList;have h1:=Lib.size_eq r.text;have h2:=Lib.size_eq r.source;have:=ar r hr;unfold jZ;omega
 have a9:=@run_makeMap prog;unfold IV at D1;unfold IA;clear hn ar;go_enter func52,ntmps52;go_wp2_with fail;have ac:Blk (w.alloc (.cells #[(),()] 53)) w 53 #[(),()]:=Blk.made _ _ _;have a6:Below w w (w.alloc (.cells #[(),()] 53)):=cZ (Ak _ _);have bG:(w.alloc (.cells #[(),()] 53)).heap.size=w.heap.size+1:=pR
 generalize w.alloc (.cells #[(),()] 53)=w1 at *;rw[<-bG];have ba:Hid (MI (w1.alloc (.map #[] 0)) w1 0 w (.map []) (fun _=> []) (fun _=> .slice none 0 0)):=MI.start w1 w;have co:=hid (ac.alloc (.map #[] 0));have bU:Hid (Below w w (w1.alloc (.map #[] 0))):=cZ a6;obtain⟨mb,bq⟩:=jc w1.heap.size;rw[<-bq]at ba ⊢;have da:Hid (w.heap.size<=mb):=by show _<=_;rw[bq];exact a6.size
 generalize w1.alloc (.map #[] 0)=w2 at *;clear ac a6 bG bq a9;go_loopw [14] (fun iv wr=>∃ (k m:Nat) (D:DataW Value) (V:Str->Value),k<=n/\m<=100000*k/\iv= .int .i64 k/\Hid (MI wr mb m w D (BP ((l.take k).map jZ)) V)/\Hid (Blk wr w 53 #[(),()])/\Hid (Below w w wr)) (fun iv _=>n-(intOf iv).toNat)
 case atStart=>exact⟨0,0, .map [],fun _=> .slice none 0 0,nB,nB,rfl,ba.out,co.out,bU.out⟩
 case round=>
  obtain⟨k,m,D,V,hk,hm,rfl,HM,HX,HB⟩:=hrel;clear ba co bU;obtain⟨w0,rfl⟩:=jc wr;by_cases cT:k<n
  ·have gk:=ja ((k:Int)<n);have cX:=ja (k<n);have x0:(0:Int)<=(k:Int):=nB;have x1:(k:Int)<(n:Int):=nB;obtain⟨b,dn,r,rfl,dr,hg,c0,c1,c2,c3⟩:=Row.rec (ha.below HB.out) HN.out cT;have a5:=AY hg;have E1:=hid (fun wx=>D1.out wx r a5);have cP:=an.out r a5;have b3:Fj (jZ r):=Z1 _ _;have ae:∀s∈jZ r,1<=s.length/\s.length<=25:=fun s hs=>TP hs;have bh:(l.take (k+1)).map jZ=(l.take k).map jZ++ [jZ r]:=(by rw[Ca,hg,DY];rfl);have ay:((l.take k).map jZ).length=k:=(by rw[Bk,Bc,HN.out];omega);obtain⟨TS,az⟩:=jc ((l.take k).map jZ);rw[<-az]at bh ay HM;have aq:=hid bh;have b9:=hid ay;have cH:=hid b3;have cA:=hid ae;clear hg a5 b3 ae bh ay az;generalize jZ r=T at *;obtain⟨q,hq⟩:=jc T.length;rw[<-hq]at E1 cP;have HQ:=hid hq;clear hq;go_wp2_with fail;have aw:Below w0 w0 (w0.alloc (.cells #[.int .u64 r.time, .int .u8 r.level, .string r.source, .string r.text] 43)):=cZ (Ak _ _);generalize w0.alloc (.cells #[.int .u64 r.time, .int .u8 r.level, .string r.source, .string r.text] 43)=w3 at *;have M:=hid (HM.out.step aw);have ai:=hid (HX.out.step aw);have U:Hid (Below w w w3):=dZ aw HB.out;clear aw HM HX HB c0 c1 c2 c3;refine(E1.out _).mono ?_;rintro e w4 ⟨v4,rfl,bc,af⟩;obtain⟨A4,c4,rfl⟩:=aZ bc;have cm:=hid (M.out.step af);have b5:=hid (ai.out.step af);have bl:Hid (Below w w w4):=dZ af U.out;have bO:=hid bc;have bt:=af.size;have de:=bl.out.size;clear af bc E1 M ai U;go_wp2_with fail;go_loopw [22] (fun jv wr=>∃ (j m':Nat) (D':DataW Value) (V':Str->Value),j<=q/\m'<=m+j/\jv= .int .i64 j/\Hid (MI wr mb m' w D' (Gp TS T j) V')/\Hid (wr.ownsRow w3 9 1 (.slice A4 q c4) q (AO T))/\Hid (Blk wr w 53 #[(),()])/\Hid (Below w w wr)) (fun jv _=>q-(intOf jv).toNat)
   case atStart=>exact⟨0,m,D,V,nB,nB,rfl,(by show MI _ _ _ _ _ _ _;rw[iI];exact cm.out),bO.out,b5.out,bl.out⟩
   case round=>
    obtain⟨j,m',D',V',hj,dp,rfl,HM,HO,HX,HB⟩:=hrel;clear cm bO b5 bl bt de;obtain⟨wi,rfl⟩:=jc wr;by_cases dq:j<q
    ·have gj:=ja ((j:Int)<q);have bm:=ja (j<q);have y0:(0:Int)<=(j:Int):=nB;have y1:(j:Int)<(q:Int):=nB;obtain⟨t,ht⟩:∃t,T[j]? =some t:=⟨_,AD mS⟩;obtain⟨g,cg,be,cJ,_⟩:=HO.out.form nB;injection be with hA1 hA2 hA3;subst hA1 hA3;have ck:wi.cell? ⟨g,j,none⟩=some (.string (bs t)):=(by rw[HO.out.cellAt j nB];exact Ip ht);have bu:=cA.out t (AY ht);have bp:=gP (ts:=TS) cH.out ht;rw[b9.out]at bp;have b6:=hid bp;obtain⟨A5,c5,hV⟩:=aZ (HM.out.row t);have am:=HM.out.look t qn;have aa:=HM.out.row t;rw[hV]at am aa
     have cw:(Gp TS T j t).length<=20001:=by
      have h1:=LZ TS t;have h2:=b9.out;unfold Gp;rw[Aj];split
      ·simp only[List.length_singleton];omega
      ·simp only[List.length_nil];omega
     obtain⟨p,hp⟩:=jc ((Gp TS T j t).length);have cr:=hid hp;rw[<-hp]at am aa cw hV;have L:=hid aa;have HV:=hid hV;have a4:=hid bu;have cf:=HB.out.size;have a9:m'<maxLen:=qn;clear ht bu bp hV aa hp HQ;go_wp2_with(at_builtin;refine fZ rfl (.tmp 30) (.tmp 32) 37 rfl w 3 j0 _ 1 8 underlying37 di cE dd dh rfl ji _ _ _ nC (L.out.alloc _) _ 1 1 [.int .i64 (k:Nat)] nC (Src.of_blk (Blk.made _ _ _) 1 1 1 rfl) mY qn nB p5 ?_;intro v6 w6 h G Z;have b4:(some mb:Option Nat)≠(Value.slice A5 p c5).ownBlock:=(fun e=>J7 HM.out L.out e.symm rfl);have bj:=(HM.out.map.alloc (.cells #[.int .i64 (k:Nat)] 3)).kept G b4;obtain⟨w7,dk,bC,cj⟩:=bj.update (string_keyed underlying9) underlying153 a9 (Px t (by have:=a4.out;unfold maxLen;omega)) (show Lh v6=some (.held v6,[]) from rfl);have H6:=hid (And.intro h (And.intro G (And.intro Z bj)));have H7:=hid (And.intro bC cj);clear h G Z b4 bj bC cj);have bf:Hid (MI w7 mb (m'+1) w (D'.put (.string t) (.held v6)) (Gp TS T (j+1)) (fun s=>if s=t then v6 else V' s)):=(by show MI _ _ _ _ _ _ _;rw[<-b6.out];exact MI.put HM.out a4.out.2 (cZ (Ak _ _)) (by rw[HV.out];exact H6.out.2.1) (by rw[<-cr.out];exact H6.out.1) (by rw[HV.out];exact H6.out.2.2.1.imp_right fun e=>⟨_,e,Am _⟩) H7.out.1 H7.out.2);have cB:Hid (w7.ownsRow w3 9 1 (.slice (some ⟨g,0,none⟩) q c4) q (AO T)):=d7 H6.out.2.2.2 (Km (HO.out.alloc _) (L.out.alloc _) ji H6.out.2.1) H7.out.2;have cG:Hid (Blk w7 w 53 #[(),()]):=dA H6.out.2.2.2 ((HX.out.alloc _).grown H6.out.2.1 (fun e=>iZ L.out HX.out ji e.symm)) H7.out.2;have cF:Hid (Below w w w7):=((mZ cf HB.out).grown H6.out.2.1 p5 (fun y hy=>(Ai L.out y hy).1)).grown H7.out.2 (by have:=(mZ (o:= .cells #[.int .i64 (k:Nat)] 3) cf HB.out).size;have:=H6.out.2.1.size;omega) (fun y hy=>by injection hy with hy;rw[<-hy];exact da.out);clear H6 H7 HM HO HX HB L HV b6;go_roundw
     case measure=>exact ld
     case rel=>go_light;exact⟨j+1,m'+1,_,_,nB,nB,jk,bf.out,cB.out,cG.out,cF.out⟩
    ·obtain rfl:j=q:=by omega
     have gj:=jb ((j:Int)<j);have bm:=jb (j<j);have bf:Hid (MI wi mb m' w D' (BP ((l.take (k+1)).map jZ)) V'):=(by show MI _ _ _ _ _ _ _;rw[aq.out,<-iY,<-HQ.out];exact HM.out);clear HM HQ;go_wp2_with fail;go_roundw
     case measure=>exact ld
     case rel=>go_light;exact⟨k+1,m',D',V',nB,nB,jk,bf.out,HX.out,HB.out⟩
  ·obtain rfl:k=n:=by omega
   have gk:=jb ((k:Int)<k);have cX:=jb (k<k);have a1:l.take k=l:=Bp oz;rw[a1]at HM;have ag:(l.map jZ).length=k:=(by rw[Bk,HN.out]);obtain⟨TS,ae⟩:=jc (l.map jZ);rw[<-ae]at HM ag;have ak:=hid ae;have ch:=hid ag;clear a1 ae ag D1 an ha;have ac:Blk (w0.alloc (.cells #[(),()] 53)) w0 53 #[(),()]:=Blk.made _ _ _;have au:Below w0 w0 (w0.alloc (.cells #[(),()] 53)):=cZ (Ak _ _);obtain⟨bo,bi⟩:=jc w0.heap.size;go_wp2_with fail;rw[<-bi]at ac ⊢;have bX:w.heap.size<bo:=(by rw[bi];exact HX.out.lt);generalize w0.alloc (.cells #[(),()] 53)=w3 at *;have M:=hid (HM.out.step au);have ai:=hid (HX.out.step au);have U:Hid (Below w w w3):=dZ au HB.out;have a0:=hid ac;have b8:=iC M.out.map;have cc:m<=2000000000:=nB;have DK:=hid (callsIn_wide.1 (Tryz.maps_Keys_108 (some mb) w3));have DS:=hid (callsIn_wide.1 (Tryz.slices_Sorted_keys_107_108 mb m D Lh w3 M.out.map qn nB));clear au ac HM HX HB bi;refine DK.out.mono ?_;rintro e w4 ⟨rfl,rfl⟩;clear DK;go_wp2_with fail;refine DS.out.mono ?_;rintro e w5 ⟨vS,ss,rfl,N,aj,b7,bF⟩;have Y:=M.out.keys N (QH TS) (NM TS);have bn:ss.length=(AW TS).length:=(by rw[<-Y];exact(List.length_mergeSort ss).symm);rw[bn,show ss.mergeSort (fun x y=>decide (x<=y))=AW TS from Y,Ze]at aj;have J:Below w3 w3 w5:=dZ bF (cZ (Ak _ _));have E:w5.ownsRow w 9 1 vS (AW TS).length (AO (AW TS)):=lZ aj (by have:=U.out.size;simp;omega);obtain⟨SS,av⟩:=jc (AW TS);rw[<-av]at E;have df:SS.length<=2000000000:=(by rw[av,<-bn,N.length_eq];refine Bm ?_ (Bm b8 cc);unfold strKeys Maps.size;cases D<;>simp);obtain⟨q,hq⟩:=jc SS.length;rw[<-hq]at E df;obtain⟨AS,cS,rfl⟩:=aZ E
   have bd:Hid (St3 w5 mb m w w bo w5 D (BP TS) V (.slice AS q cS) (.slice none 0 0) (.slice none 0 0) q 0 0 SS):=
    ⟨M.out.step J,ai.out.step J,a0.out.step J,nB,AE _ _ _ _,AE _ _ _ _,E,fun g hg=>(Ai E g hg).2,by have:=U.out.size;have:=J.size;omega,Am _⟩
   have bN:Hid (Below w w w5):=dZ J U.out;have HQ:=hid hq;have ab:=hid av;have cv:Hid (∀s∈SS,s.length<=25):=fun s hs=>M.out.long s ((NM TS s).1 (by rw[<-ab.out];exact hs));have ds:Hid (∀s,(BP TS s).length<=20000):=fun s=>by have h1:=LZ TS s;have h2:=ch.out;omega
   obtain⟨B2,cl⟩:=jc w5.heap.size;rw[<-cl]at bd;clear N aj b7 bF Y bn J E hq av DS M ai a0 U cl b8 cc;obtain⟨i0,dc,cx,cp,ct⟩:=info_parts LG;obtain⟨i1,cL,cz,cy,cu⟩:=info_parts Qq;go_wp2_with fail;go_loopw [40] (fun iv wr=>∃ (k2:Nat) (vT vL:Value),k2<=q/\iv= .int .i64 k2/\Hid (St3 wr mb m w w bo B2 D (BP TS) V (.slice AS q cS) vT vL q k2 k2 SS)/\Hid (Below w w wr)) (fun iv _=>q-(intOf iv).toNat)
   case atStart=>exact⟨0,_,_,nB,rfl,bd.out,bN.out⟩
   case round=>
    obtain⟨k2,vT,vL,dm,rfl,HS,HB⟩:=hrel;clear bd bN;by_cases ay:k2<q
    ·have gj:=ja ((k2:Int)<q);have bm:=ja (k2<q);have y0:(0:Int)<=(k2:Int):=nB;have y1:(k2:Int)<(q:Int):=nB;obtain⟨t,ht⟩:∃t,SS[k2]? =some t:=⟨_,AD mS⟩;obtain⟨g,cg,be,cJ,_⟩:=HS.out.ss.form nB;injection be with hA1 hA2 hA3;subst hA1 hA3;have ck:wr.cell? ⟨g,k2,none⟩=some (.string (bs t)):=(by rw[HS.out.ss.cellAt k2 nB];exact Ip ht);have ca:SS.take (k2+1)=SS.take k2++ [t]:=(by rw[Ca,ht];rfl);have aq:=hid ca;have bM:=cv.out t (AY ht);have an:=hid bM;obtain⟨A5,c5,rfl⟩:=aZ HS.out.tt;obtain⟨A8,c8,rfl⟩:=aZ HS.out.ll;obtain⟨A7,c7,hV⟩:=aZ (HS.out.mi.row t);have HV:=hid hV;have b0:=HS.out.box.iy 0;have cC:=HB.out.size;have dj:=HS.out.bz;have a3:=HS.out.b2;obtain⟨p,hp⟩:=jc ((BP TS t).length);rw[<-hp]at HV;clear ht ca bM hV hp;go_wp2_with(first|(at_builtin;refine fZ rfl (.tmp 45) (.tmp 47) 50 rfl B2 9 i0 _ 1 16 underlying50 dc cx cp ct rfl ji _ _ _ nC (HS.out.tt.alloc _) _ 1 1 [.string (bs t)] nC (Src.of_blk (Blk.made _ _ _) 1 1 1 rfl) mY qn nB p5 ?_;intro v6 w6 h G Z;obtain⟨A6,c6,rfl⟩:=aZ h;have ax:=HS.out.putT G (by rw[aq.out,P5];exact h);have am:=ax.mi.look t (by have:=an.out;unfold maxLen;omega);rw[HV.out]at am;have f6:=((HS.out.box.alloc _).grown G (fun e=>iZ HS.out.tt HS.out.box ji e.symm)).frozen 0;have e6:=((HS.out.box.alloc _).grown G (fun e=>iZ HS.out.tt HS.out.box ji e.symm)).cell 0;have dg:=((HS.out.box.alloc _).grown G (fun e=>iZ HS.out.tt HS.out.box ji e.symm)).cell 1;simp only[List.getElem?_toArray,List.getElem?_cons_zero,List.getElem?_cons_succ]at e6 dg;have al:Hid (Below w w w6):=(mZ cC HB.out).grown G p5 (fun y hy=>Bm a3 (Ai HS.out.tt y hy).1);have H6:=hid ax;have bW:=ax.bz;clear ax h G Z)|(at_builtin;refine fZ rfl (.tmp 51) (.tmp 55) 51 rfl B2 37 i1 _ 1 24 underlying51 cL cz cy cu rfl ji _ _ _ nC (H6.out.ll.alloc _) _ 1 1 [.slice A7 p c7] nC (Src.of_blk (Blk.made_at _ _ _ pR) 1 1 1 rfl) mY qn nB (by simp at bW ⊢;omega) ?_;intro v9 w9 Q ah ce;obtain⟨A9,c9,rfl⟩:=aZ Q;have ci:=H6.out.putL ah (by rw[aq.out,DY,List.map_singleton,HV.out];exact Q);have f9:=((H6.out.box.alloc _).grown ah (fun e=>iZ H6.out.ll H6.out.box ji e.symm)).frozen 1;have e9:=((H6.out.box.alloc _).grown ah (fun e=>iZ H6.out.ll H6.out.box ji e.symm)).cell 1;simp only[List.getElem?_toArray,List.getElem?_cons_zero,List.getElem?_cons_succ]at e9;have bS:Hid (Below w w w9):=(mZ (by have:=al.out.size;simp;omega) (BN (Nat.le_of_lt bX) al.out)).grown ah (by have:=al.out.size;simp;omega) (fun y hy=>Bm a3 (Ai H6.out.ll y hy).1);have H9:=hid ci;clear ci Q ah ce));have cq:Hid (Below w w (w9.setCell ⟨bo,1,none⟩ (.slice A9 (k2+1) c9))):=BN (Nat.le_of_lt bX) bS.out;clear H6 al bS HS HB;go_roundw
     case measure=>exact ld
     case rel=>go_light;exact⟨k2+1,_,_,nB,jk,H9.out,cq.out⟩
    ·obtain rfl:k2=q:=by omega
     have gj:=jb ((k2:Int)<k2);have bm:=jb (k2<k2);obtain⟨A5,c5,rfl⟩:=aZ HS.out.tt;obtain⟨A8,c8,rfl⟩:=aZ HS.out.ll;have b0:=HS.out.box.iy 0;have b1:=HS.out.box.iy 1;have r0:=HS.out.res.iy 0;have r1:=HS.out.res.iy 1;have s0:=HS.out.res.frozen 0;have s1:=HS.out.res.frozen 1;go_wp2_with fail;have bb:SS.take k2=SS:=Bp (by rw[<-HQ.out];exact Am _);have bg:=HS.out.tt;have bk:=HS.out.ll;rw[bb]at bg bk;have cd:=HS.out.b2;have n1:(Value.slice A5 k2 c5).ownBlock≠some w.heap.size:=iZ bg HS.out.res ji;have n2:(Value.slice A8 k2 c8).ownBlock≠some w.heap.size:=iZ bk HS.out.res ji;refine Df (v:= .agg #[.slice A5 k2 c5, .slice A8 k2 c8]) ?_ rfl ⟨_,_,SS.map V,rfl,⟨?_,?_,?_⟩,?_⟩
     ·have e0:=(HS.out.res.set 0 (.slice A5 k2 c5)).cell 0;have e1:=((HS.out.res.set 0 (.slice A5 k2 c5)).set 1 (.slice A8 k2 c8)).cell 1;simp at e0 e1;simp[results,results52,go_sem,e0,e1]
     ·rw[<-ak.out,<-ab.out,<-HQ.out];exact Dc (Dc (lZ bg cd) n1 _) n1 _
     ·rw[<-ak.out,<-ab.out,Bk,<-HQ.out];exact Dc (Dc (lZ bk cd) n2 _) n2 _
     ·intro i v dl hv hi;rw[<-ak.out,<-ab.out]at hi;rw[BR]at hv hi;cases hs:SS[i]? with
      |none=>rw[hs]at hv;cases hv
      |some s=>rw[hs]at hv hi;injection hv with hv;injection hi with hi;subst hv hi;have hn:=iZ (HS.out.mi.row s) HS.out.res ji;exact Dc (Dc (HS.out.mi.row s) hn _) hn _
     ·exact BN (Am _) (BN (Am _) HB.out)
end Idx
namespace Idx
open Go.RowKit Mem Own Canon
open NumPut (gZ sZ Ev)
open Ef (efO Cd FU Dj Dz Ht unary Kn Ho ND efW)
open Huff (bytesOf bytesOf_length)
def BI(bound:Nat)(ls:List (List Nat)):List Nat:=ls.flatMap (efO bound)
def ixO(size bound:Nat)(ts:List Str)(ls:List (List Nat)):List Nat:=CO size ts++BI bound ls
theorem Vl(bound:Nat)(ls:List (List Nat))(k:Nat)(x:List Nat)(h:ls[k]? =some x):BI bound (ls.take (k+1))=BI bound (ls.take k)++efO bound x:=by unfold BI;rw[Ca,h];simp
theorem Nn:∀ (l:List Nat) (i B:Nat),i<=B->(∀x∈l,i<=x/\x<=B)->l.Pairwise (·<= ·)->(Dz i l).length+i<=B+l.length
 | [],i,B,hw,_,_=>by simp[Dz];exact hw
 |x :: t,i,B,hw,h,hp=>by rw[FN]at hp;have hx:=h x CP;have ih:=Nn t x B hx.2 (fun y hy=>⟨hp.1 y hy,(h y (Cm _ hy)).2⟩) hp.2;rw[Dz,Aj,Kn,AI];omega
theorem Nk:∀ (bound:Nat) (l:List Nat) (u:Option Nat),Cd bound u l=true->l.Pairwise (·<= ·)/\∀y,u=some y->∀x∈l,y<=x
 |_,[],_,_=>⟨List.Pairwise.nil,fun _ _ _ hx=>by cases hx⟩
 |bound,a :: t,u,h=>by
  rw[Cd,Ch]at h;have ih:=Nk bound t (some a) h.2;have ha:∀y,u=some y->y<=a:=fun y hy=>by have h1:=h.1;unfold Ef.Gw at h1;rw[hy,Ch]at h1;have:=h1.2;simp at this;omega
  refine⟨FN.2 ⟨fun x hx=>ih.2 a rfl x hx,ih.1⟩,fun y hy x hx=> ?_⟩;rcases BK.1 hx with rfl|hx
  ·exact ha y hy
  ·exact Bm (ha y hy) (ih.2 a rfl x hx)
theorem Sc(hb:bound<=20000)(hm:Cd bound none l=true)(hn:l.length<=bound):(efO bound l).length<=45010:=by
 unfold efO;split
 ·have:=sZ (x:=0) nB;omega
 ·rename_i h0;have h1:1<=l.length:=FW.2 h0;have hq:1<=bound / l.length:=(Nat.one_le_div_iff nB).2 hn;have hW:efW bound l.length<=14:=by refine Kv fun h=> ?_;have h2:2 ^ 15<=2 ^ efW bound l.length:=Cf nB nB;have h3:=Ef.Kb (q:=bound / l.length) nB;have h4:bound / l.length<=bound:=ID _ _;unfold efW at h2;omega
  have J:=sZ (x:=l.length) nB;have i:=Ht (efW bound l.length) l;have G:l.length*efW bound l.length<=20000*14:=Hh nB hW;have E:=Ho bound l none hm;have hp:=(Nk bound l none hm).1;have j:=Nn (l.map (·/ 2 ^ efW bound l.length)) 0 bound nB (fun x hx=>by obtain⟨y,hy,rfl⟩:=Cl.1 hx;exact⟨Da _,Bm (ID _ _) (by have:=E y hy;omega)⟩) (List.Pairwise.map _ (fun a b h=>Nat.div_le_div_right h) hp);rw[Bk]at j;rw[Aj,bytesOf_length];unfold FU;rw[Aj,i];omega
theorem TC:∀ (bound:Nat) (l:List Nat) (u:Option Nat),Cd bound u l=true->l.length+(match u with|none=>0|some y=>y+1)<=bound∨l= []
 |_,[],_,_=> .inr rfl
 |bound,a :: t,u,h=>by
  have h':=h;rw[Cd,Ch]at h';have i:=Ho bound (a :: t) u h a CP;have h1:=h'.1;unfold Ef.Gw at h1;rw[Ch]at h1;refine .inl ?_;rcases TC bound t (some a) h'.2 with ih|ih
  ·simp only at ih;cases u with
   |none=>simp only[List.length_cons];omega
   |some y=>have:=h1.2;simp at this;simp only[List.length_cons];omega
  ·subst ih;cases u with
   |none=>simp only[List.length_cons,List.length_nil];omega
   |some y=>have:=h1.2;simp at this;simp only[List.length_cons,List.length_nil];omega
theorem LB(h:Cd bound none l=true)(h0:l≠ []):1<=l.length/\l.length<=bound:=by
 have h1:1<=l.length:=FW.2 h0;rcases TC bound l none h with h2|h2
 ·exact⟨h1,qi⟩
 ·exact absurd h2 h0
def CV(bound:Nat)(ls:List (List Nat)):Bool:=ls.all (Cd bound none)
theorem mB(h:ls[k]? =some x):CV bound (ls.drop k)=(Cd bound none x&&CV bound (ls.drop (k+1))):=by obtain⟨hk,e⟩:=BS.1 h;rw[Dx hk,e];rfl
theorem VV(h:CV bound ls=true)(hx:ls[k]? =some x):Cd bound none x=true:=EL.1 h x (AY hx)
theorem TF(hb:bound<=20000)(h0:∀l∈ls,l≠ [])(hm:CV bound ls=true):(BI bound ls).length<=45010*ls.length:=by
 induction ls with
 |nil=>simp[BI]
 |cons x t ih=>unfold CV at hm ih;rw[List.all_cons,Ch]at hm;have ih:=ih (fun l hl=>h0 l (Cm _ hl)) hm.2;have hx:=Sc hb hm.1 (LB hm.1 (h0 x CP)).2;unfold BI at ih ⊢;rw[Dm,Aj,AI];omega
theorem VI{size:Nat}{l:List Str}(hm:EC l=true)(h1:1<=size)(h2:size<=64)(hN:l.length<=20000):(CO size l).length<=820010:=by have hs:∀s∈l,s.length<=25:=fun s hs=>(IN hm s hs).2;have a:=Lp hs h2 nB (nCh size l.length);have b:=Mk hs h1 (nCh size l.length);have c:=Nm (n:=l.length) h1;have e:CO size l=hdB size l (nCh size l.length)++bdB size l (nCh size l.length):=Mq h1 l;rw[e,Aj];omega
theorem IxAt.step{ts:List Str}(h:IxAt w base vT vL vals ts ls)(hb:Below w w w'):IxAt w' base vT vL vals ts ls:=
 ⟨eZ h.t fun y hy=>hb.block y (Ai h.t y hy).2,eZ h.l fun y hy=>hb.block y (Ai h.l y hy).2,fun i v ids hv hi=>eZ (h.r i v ids hv hi) fun y hy=>hb.block y (Ai (h.r i v ids hv hi) y hy).2⟩
theorem IxAt.len{ts:List Str}(h:IxAt w base vT vL vals ts ls):vals.length=ls.length:=by have:=h.l.1;omega
end Idx
namespace Idx
open Go.RowKit Mem Own Canon Sift
open NumPut Recs
open Ef (Cd efO OA Ro)
open Huff (numL_get)
theorem Ul{ts:List Str}(h:IxAt w base vT vL vals ts ls)(hx:ls[k]? =some x):
 ∃A c,vals[k]? =some (.slice A x.length c)/\Row w w A x.length 1 (kZ .i64 x):=by
 obtain⟨hk,_⟩:=BS.1 hx;have E:k<vals.length:=by rw[h.len];exact hk
 have hv:vals[k]? =some vals[k]:=AD E;have ho:=h.r k _ x hv hx;obtain⟨A,c,e⟩:=aZ ho;rw[e]at hv ho;exact⟨A,c,hv,Row.of_own ho rfl (fun i j hi hj=>by have e0:j=0:=nB;subst e0;exact numL_get nB)⟩
theorem Tr(w:World)(bound base:Nat)(vT vL:Value)(vals:List Value)(ts:List Str)(ls:List (List Nat))(hb:bound<=20000)(hT:ts.length<=1000000)(hL:ls.length=ts.length)(hm:EC ts=true)(h0:∀l∈ls,l≠ [])(hz:∀l∈ls,l.length<=1000000)(h:IxAt w base vT vL vals ts ls):
 Calls prog 71 #[bound, .agg #[vT,vL]] w fun e w'=>e= .returned (.bool (CV bound ls))/\Below w w w':=by
 obtain⟨n,hn⟩:=jc ts.length;have Q:ls.length=n:=nB
 have ht:=h.t;have hl:=h.l;rw[<-hn]at ht hT;rw[Q]at hl;obtain⟨AT,cT,rfl⟩:=aZ ht;obtain⟨AL,cL,rfl⟩:=aZ hl;have H:=hid h;have af:=hid Q;have HL:=hid hl;have H0:=hid h0;have HZ:=hid hz;have ac:Blk (w.alloc (.cells #[.slice AT n cT, .slice AL n cL] 53)) w 53 #[.slice AT n cT, .slice AL n cL]:=Blk.made _ _ _;have ab:Below w w (w.alloc (.cells #[.slice AT n cT, .slice AL n cL] 53)):=cZ (Ak _ _);have DM:=hid (fun wx (hx:Below w w wx)=>U6 wx AT n cT ts hn.symm nB (((Io ht).below hx).mono hx.size));rw[hm]at DM;have y1:=jb ((bound:Int)<0)
 have y2:=jb ((20000:Int)<bound)
 have ak:=jb (20000<bound)
 have z1:((n:Int)==(n:Int))=true:=pR
 obtain⟨R,hR⟩:=jc (CV bound ls);have HR:Hid (R=CV bound (ls.drop 0)):=hR;rw[<-hR];have ai:=hid ac;have aa:=hid ab;clear hn Q hl ht h hR hm h0 hz hL ac ab;go_enter func71,ntmps71;go_wp2_with fail;refine(DM.out _ aa.out).mono ?_;rintro e w1 ⟨rfl,U⟩;have Y:Hid (Below w w w1/\Below (w.alloc (.cells #[.slice AT n cT, .slice AL n cL] 53)).heap.size (w.alloc (.cells #[.slice AT n cT, .slice AL n cL] 53)) w1):=by obtain⟨q,rfl⟩:=U;exact⟨below_drewN aa.out q,below_drewN (Ak _ _) q⟩
 clear U DM;have Z:Hid (Blk w1 w 53 #[.slice AT n cT, .slice AL n cL]):=ai.out.step Y.out.2;go_wp2_with fail;go_loopw [5] (fun iv wr=>∃k:Nat,k<=n/\iv= .int .i64 k/\Hid (R=CV bound (ls.drop k))/\Hid (Below w w wr)/\Hid (Below w1 w1 wr)) (fun iv _=>n-(intOf iv).toNat)
 case atStart=>exact⟨0,nB,rfl,HR.out,Y.out.1,Ak _ _⟩
 case round=>
  obtain⟨k,hk,rfl,HS,HB,E⟩:=hrel;have c1:=(Z.out.step E.out).iy 1;by_cases ae:k<n
  ·obtain⟨x,hx⟩:∃x,ls[k]? =some x:=⟨_,AD (by have:=af.out;omega)⟩;have i:=mB (bound:=bound) hx;have L:=AY hx;have j:1<=x.length:=FW.2 (H0.out x L);obtain⟨A,c,hv,hr⟩:=Ul (H.out.step HB.out) hx;have G:wr.ownsRow base 37 1 (.slice AL n cL) n vals:=eZ HL.out fun y hy=>HB.out.block y (Ai HL.out y hy).2;obtain⟨gl,cl,ah,_,_⟩:=G.form nB;injection ah with e1 e2 e3;subst e1 e3;have cv:wr.cell? ⟨gl,k,none⟩=some (.slice A x.length c):=(Lz.own_cells G ae).1.trans hv;have D:=hid (OA wr bound A x.length c x rfl (by have:=HZ.out x L;omega) hr);have gk:=ja ((k:Int)<n);have aj:=ja (k<n);have x0:(0:Int)<=(k:Int):=nB;have x1:(k:Int)<(n:Int):=nB;have xz:((x.length:Int)==0)=false:=(by simp;intro e;rw[e]at j;simp at j);obtain⟨xn,N⟩:=jc x.length;rw[<-N]at cv D xz;cases hmx:Cd bound none x with
   |true=>
    rw[hmx,Bool.true_and]at i;rw[hmx]at D;have ag:Hid (R=CV bound (ls.drop (k+1))):=HS.out.trans i;clear HS i hx L j hv hr G hmx N;go_wp2_with fail;refine D.out.mono ?_;rintro e w2 ⟨rfl,hq⟩;have J:Hid (Below w w w2/\Below w1 w1 w2):=(by obtain⟨q,rfl⟩:=hq;exact⟨below_drewN HB.out q,below_drewN E.out q⟩);clear hq D HB E;go_wp2_with fail;go_roundw
    case measure=>exact ld
    case rel=>go_light;exact⟨k+1,nB,jk,ag.out,J.out.1,J.out.2⟩
   |false=>rw[hmx,G0]at i;rw[hmx]at D;have M:R=false:=HS.out.trans i;subst M;clear HS i hx L j hv hr G hmx N;go_wp2_with fail;refine D.out.mono ?_;rintro e w2 ⟨rfl,hq⟩;have J:Hid (Below w w w2):=(by obtain⟨q,rfl⟩:=hq;exact below_drewN HB.out q);clear hq D HB E;go_wp2_with fail;go_ret;exact⟨rfl,J.out⟩
  ·obtain rfl:k=n:=by omega
   have gk:=jb ((k:Int)<k);have aj:=jb (k<k);have M:R=true:=(by rw[HS.out,CF (by rw[af.out];exact Am _)];rfl);subst M;clear HS HR ae;go_wp2_with fail;go_ret;exact⟨rfl,HB.out⟩
theorem QU(w:World)(size bound base:Nat)(vT vL:Value)(vals:List Value)(ts:List Str)(ls:List (List Nat))(h1:1<=size)(h2:size<=64)(hb:bound<=20000)(hT:ts.length<=20000)(hL:ls.length=ts.length)(hm:EC ts=true)(h0:∀l∈ls,l≠ [])(hz:∀l∈ls,l.length<=1000000)(E:CV bound ls=true)(h:IxAt w base vT vL vals ts ls):
 Calls prog 25 #[.int .i64 (size:Nat),bound, .agg #[vT,vL]] w fun e w'=>∃v,e= .returned (.tuple #[v,jd])/\w'.ownsRow w 5 1 v (ixO size bound ts ls).length (bZ .u8 (ixO size bound ts ls))/\Below w w w':=by
 obtain⟨j0,bp,bf,bj,bm⟩:=info_parts CW;have DM:=hid (fun wx (hx:Below w w wx)=>Tr wx bound base vT vL vals ts ls hb nB hL hm h0 hz (h.step hx));rw[E]at DM;have bk:=VI hm h1 h2 hT;have ba:∀k,(BI bound (ls.take k)).length<=900200000:=fun k=>by have h3:CV bound (ls.take k)=true:=EL.2 fun x hx=>EL.1 E x (CN hx);have h4:=TF hb (fun l hl=>h0 l (CN hl)) h3;rw[Bc]at h4;omega
 have bi:=hid ba;have aa:∀x,x∈ls->(efO bound x).length<=45010:=fun x hx=>Sc hb (EL.1 E x hx) (LB (EL.1 E x hx) (h0 x hx)).2;obtain⟨n,hn⟩:=jc ts.length;have ae:ls.length=n:=nB
 have ht:=h.t;have hl:=h.l;rw[<-hn]at ht hT;rw[ae]at hl;obtain⟨AT,cT,rfl⟩:=aZ ht;obtain⟨AL,cL,rfl⟩:=aZ hl;have H:=hid h;have a4:=hid ae;have HL:=hid hl;have H0:=hid h0;have aw:=hid E;have bg:=hid aa;have az:Blk (w.alloc (.cells #[.slice AT n cT, .slice AL n cL] 53)) w 53 #[.slice AT n cT, .slice AL n cL]:=Blk.made _ _ _;have ay:Below w w (w.alloc (.cells #[.slice AT n cT, .slice AL n cL] 53)):=cZ (Ak _ _);have DD:=hid (fun wx (hx:Below w w wx)=>gA wx size AT n cT ts hn.symm h1 h2 hT hm (((Io ht).below hx).mono hx.size));have y1:=jb ((size:Int)<1)
 have bt:=jb (size<1)
 have y2:=jb ((64:Int)<size)
 have bF:=jb (64<size)
 have a6:Hid (ixO size bound ts ls=CO size ts++BI bound ls):=rfl;have bd:Hid (∀k x,ls[k]? =some x->BI bound (ls.take (k+1))=BI bound (ls.take k)++efO bound x):=fun k x hx=>Vl bound ls k x hx;obtain⟨DO,aj⟩:=jc (CO size ts);rw[<-aj]at DD a6 bk;have ab:=hid az;have ax:=hid ay;clear hn ae hl ht h hm h0 hz az ay E aa ba aj;go_enter func25,ntmps25;go_wp2_with fail;have q0:=ab.out.iy 0;have q1:=ab.out.iy 1;refine(DM.out _ ax.out).mono ?_;rintro e w1 ⟨rfl,ac⟩;have am:=hid (dZ ac ax.out);have i:Hid (Blk w1 w 53 #[.slice AT n cT, .slice AL n cL]):=ab.out.step ac;clear ac DM q0 q1;have q0:=i.out.iy 0;go_wp2_with fail;refine(DD.out _ am.out).mono ?_;rintro e w2 ⟨v2,rfl,au,U⟩;have J:=hid U;have bq:Hid (Blk w2 w 53 #[.slice AT n cT, .slice AL n cL]):=i.out.step U
 have an:Hid (w2.ownsRow w1 5 1 v2 (DO++BI bound (ls.take 0)).length (bZ .u8 (DO++BI bound (ls.take 0)))):=by
  show World.ownsRow _ _ _ _ _ _ _;have e:DO++BI bound (ls.take 0)=DO:=by simp[BI]
  rw[e];exact au
 have bu:w.heap.size<w1.heap.size:=i.out.lt;clear au U DD q0;go_wp2_with fail;go_loopw [8,10] (fun ov iv wr=>∃k:Nat,k<=n/\iv= .int .i64 k/\Hid (wr.ownsRow w1 5 1 ov (DO++BI bound (ls.take k)).length (bZ .u8 (DO++BI bound (ls.take k))))/\Hid (Below w1 w1 wr)) (fun _ iv _=>n-(intOf iv).toNat)
 case atStart=>exact⟨0,nB,rfl,an.out,J.out⟩
 case round=>
  obtain⟨k,hk,rfl,HO,HB⟩:=hrel;clear an;obtain⟨wi,rfl⟩:=jc wr;have j:Hid (Below w w wi):=dZ HB.out am.out;have c1:=(i.out.step HB.out).iy 1;have hz:=HB.out.size;have bc:=bi.out k;by_cases a0:k<n
  ·obtain⟨x,hx⟩:∃x,ls[k]? =some x:=⟨_,AD (by have:=a4.out;omega)⟩;have ai:=AY hx;have N:=LB (VV aw.out hx) (H0.out x ai);have aq:=VV aw.out hx;have aa:=bg.out x ai;have ah:=bd.out k x hx;obtain⟨A,c,hv,hr⟩:=Ul (H.out.step j.out) hx;have ag:wi.ownsRow base 37 1 (.slice AL n cL) n vals:=eZ HL.out fun y hy=>j.out.block y (Ai HL.out y hy).2;obtain⟨gl,cl,be,_,_⟩:=ag.form nB;injection be with e1 e2 e3;subst e1 e3;have cv:wi.cell? ⟨gl,k,none⟩=some (.slice A x.length c):=(Lz.own_cells ag a0).1.trans hv;have D:=hid (Ro wi bound A x.length c x rfl N.1 N.2 hb aq hr);have gk:=ja ((k:Int)<n);have bh:=ja (k<n);have x0:(0:Int)<=(k:Int):=nB;have x1:(k:Int)<(n:Int):=nB;obtain⟨xn,a3⟩:=jc x.length;rw[<-a3]at cv D;generalize efO bound x=EO at *;have a1:Hid (bZ .u8 (DO++BI bound (ls.take (k+1)))=bZ .u8 (DO++BI bound (ls.take k))++bZ .u8 EO):=(by show _=_;rw[ah];simp[bZ]);have av:Hid ((DO++BI bound (ls.take (k+1))).length=(DO++BI bound (ls.take k)).length+EO.length):=(by show _=_;rw[ah];simp only[List.length_append];omega);have bC:(DO++BI bound (ls.take k)).length<=901100000:=nU;obtain⟨O2,M⟩:=jc (DO++BI bound (ls.take (k+1)));rw[<-M]at a1 av;have ak:Hid (DO++BI bound (ls.take (k+1))=O2):=M.symm;clear M;generalize DO++BI bound (ls.take k)=O1 at *;obtain⟨A1,bl,rfl⟩:=aZ HO.out;clear hx ai N aq ah hv hr ag a3 bc;go_wp2_with fail;refine D.out.mono ?_;rintro e w3 ⟨v3,rfl,Y,af⟩;obtain⟨A3,c3,rfl⟩:=aZ Y;have al:Hid (Src w3 A3 EO.length c3 1 (bZ .u8 EO)):=Ck Y;have Q:Hid (w3.ownsRow w1 5 1 (.slice A1 O1.length bl) O1.length (bZ .u8 O1)):=eZ HO.out fun y hy=>af.block y (Ai HO.out y hy).2;have Z:Hid (Below w1 w1 w3):=zZ af hz HB.out;have a9:=Z.out.size;clear Y af D HO HB j cv c1;go_wp2_with(at_builtin;refine fZ rfl (.tmp 49) (.tmp 50) 28 rfl w1 5 j0 _ 1 1 underlying28 bp bf bj bm rfl ji _ _ _ nC Q.out _ _ _ _ nC al.out (qZ _ _) qn nB a9 ?_;intro v4 w4 G ar a5);have bn:Hid (Below w1 w1 w4):=Z.out.grown ar a9 (fun y hy=>(Ai Q.out y hy).1);have bb:Hid (w4.ownsRow w1 5 1 v4 O2.length (bZ .u8 O2)):=(by rw[a1.out,av.out];exact G);clear G ar a5 Q al Z;go_roundw
   case measure=>exact ld
   case rel=>go_light;exact⟨k+1,nB,jk,by rw[ak.out];exact bb.out,bn.out⟩
  ·obtain rfl:k=n:=by omega
   have gk:=jb ((k:Int)<k);have bh:=jb (k<k);have L:ls.take k=ls:=Bp (by rw[a4.out];exact Am _);rw[L,<-a6.out]at HO;clear L a0;go_wp2_with fail;go_ret2;exact⟨_,rfl,lZ HO.out nB,j.out⟩
end Idx
namespace Idx
open Go.RowKit Go.Maps Mem Own Canon Sift
open Recs
structure RS (w:World) (base rb xb:Nat) (vT vL:Value) (q k:Nat) (SS:List Str) (vals:List Value) (I:Str->List Nat):Prop where
 res:Blk w rb 53 #[(),()]
 box:Blk w xb 53 #[vT,vL]
 ne:rb≠xb
 tt:w.ownsRow base 9 1 vT q (AO SS)
 ll:w.ownsRow base 37 1 vL k vals
 vl:∀ (i:Nat) v s,vals[i]? =some v->SS[i]? =some s->w.ownsRow base 3 1 v (I s).length (bZ .i64 (I s))
section
variable {w w4:World} {base rb xb q k q':Nat} {SS SS':List Str} {vals:List Value} {vT vL v4 v:Value} {I I':Str->List Nat} {o:Obj}
theorem RS.step(h:RS w base rb xb vT vL q k SS vals I)(hb:Below w w w4):RS w4 base rb xb vT vL q k SS vals I:=
 ⟨h.res.step hb,h.box.step hb,h.ne,eZ h.tt (fun b hy=>hb.block b (Ai h.tt b hy).2),eZ h.ll (fun b hy=>hb.block b (Ai h.ll b hy).2),
  fun i v s hv hs=>eZ (h.vl i v s hv hs) (fun b hy=>hb.block b (Ai (h.vl i v s hv hs) b hy).2)⟩
theorem RS.putT(h:RS w base rb xb vT vL q 0 SS [] I)(j:w.ownsRow base 9 1 v4 q' (AO SS')):RS (w.setCell ⟨xb,0,none⟩ v4) base rb xb v4 vL q' 0 SS' [] I':=
 ⟨h.res.far h.ne _,h.box.set 0 v4,h.ne,Dc j (iZ j h.box ji) _,Dc h.ll (iZ h.ll h.box ji) _,fun i v s hv=>by cases hv⟩
theorem RS.putL{s:Str}(h:RS w base rb xb vT vL q k SS vals I)(hs:SS[k]? =some s)(hv:w.ownsRow base 3 1 v (I s).length (bZ .i64 (I s)))(hg:(w.alloc o).grownBy w4 vL.ownBlock)(E:w4.ownsRow base 37 1 v4 (k+1) (vals++ [v])):
 RS (w4.setCell ⟨xb,1,none⟩ v4) base rb xb vT v4 q (k+1) SS (vals++ [v]) I:=by
 have j:Blk w4 xb 53 #[vT,vL]:=(h.box.alloc o).grown hg (fun e=>iZ h.ll h.box ji e.symm);have L:=h.ll;have hk:vals.length=k:=by have:=h.ll.1;omega
 refine⟨((h.res.alloc o).grown hg (fun e=>iZ h.ll h.res ji e.symm)).far h.ne _,j.set 1 v4,h.ne,?_,Dc E (iZ E j ji) _,fun i u t hu ht=> ?_⟩
 ·have:=Km (h.tt.alloc o) (h.ll.alloc o) ji hg;exact Dc this (iZ this j ji) _
 ·have G:w.ownsRow base 3 1 u (I t).length (bZ .i64 (I t)):=by
   by_cases hi:i<k
   ·rw[Hk nB]at hu;exact h.vl i u t hu ht
   ·have J:=(BS.1 hu).1;rw[Aj,JG]at J;obtain rfl:i=k:=nB;rw[I8 nB,hk,Gl]at hu;rw[hs]at ht;injection ht with ht;injection hu with hu;rw[<-ht,<-hu];exact hv
  have:=Km (G.alloc o) (h.ll.alloc o) ji hg;exact Dc this (iZ this j ji) _
end
def EZ(ts:List (List Str))(u:Str)(i:Nat):List Nat:=(List.range i).filter fun i=>(ts.getD i []).contains u
theorem gJ(ts:List (List Str))(u:Str):EZ ts u ts.length=BP ts u:=rfl
theorem Vu{ts:List (List Str)}{T:List Str}{u:Str}(h:ts[i]? =some T):EZ ts u (i+1)=EZ ts u i++(if T.contains u then [i]else []):=by unfold EZ;rw[Hi,List.filter_append];congr 1;rw[List.filter_cons,List.filter_nil,Aq,h];rfl
theorem LX(w:World)(A:Option Addr)(n c:Nat)(l:List Rec)(hn:l.length=n)(hN:n<=20000)(an:∀r∈l,r.source.size<=50000/\r.text.size<=50000)(ha:Row w w A n 4 (Cp l)):
 Calls prog 23 #[.slice A n c] w (IA (l.map jZ) w):=by
 obtain⟨j0,cr,ca,cp,cq⟩:=info_parts QD;obtain⟨i1,cf,b7,b6,b4⟩:=info_parts Qq;have HN:=hid hn;have D1:Hid (∀wx r,r∈l->Calls prog 68 #[.agg #[.int .u64 r.time, .int .u8 r.level, .string r.source, .string r.text]] wx (IV (jZ r) wx)):=fun wx r hr=>Yq wx r.time r.level r.source r.text (an r hr).1 (an r hr).2;have bm:Hid (∀r∈l,(jZ r).length<=100000):=fun r hr=>by have:=Oa r.text.data.toList r.source.data.toList;have h1:=Lib.size_eq r.text;have h2:=Lib.size_eq r.source;have:=an r hr;unfold jZ;omega
 unfold IV at D1;unfold IA;clear hn an;go_enter func23,ntmps23;go_wp2_with fail
 have a5:Hid (RS ((w.alloc (.cells #[(),()] 53)).alloc (.cells #[(),()] 53)) w w (w.heap.size+1) (.slice none 0 0) (.slice none 0 0) 0 0 [] [] (fun _=> [])):=
  ⟨(Blk.made _ _ _).alloc _,Blk.made_at _ _ _ pR,nB,AE _ _ _ _,AE _ _ _ _,fun i v s hv=>by cases hv⟩
 have bk:Hid (Below w w ((w.alloc (.cells #[(),()] 53)).alloc (.cells #[(),()] 53))):=cZ (cZ (Ak _ _));obtain⟨xb,bh⟩:=jc (w.heap.size+1);rw[<-bh]at a5 ⊢;have bi:w.heap.size<=xb:=nB
 generalize (w.alloc (.cells #[(),()] 53)).alloc (.cells #[(),()] 53)=w1 at *;clear bh;go_loopw [4] (fun iv wr=>∃ (k m:Nat) (vT:Value),k<=n/\m<=100000*k/\iv= .int .i64 k/\Hid (RS wr w w xb vT (.slice none 0 0) m 0 (AW ((l.take k).map jZ)) [] (fun _=> []))/\Hid (Below w w wr)) (fun iv _=>n-(intOf iv).toNat)
 case atStart=>exact⟨0,0,_,nB,nB,rfl,a5.out,bk.out⟩
 case round=>
  obtain⟨k,m,vT,hk,hm,rfl,HS,HB⟩:=hrel;clear a5 bk;obtain⟨w0,rfl⟩:=jc wr;by_cases ci:k<n
  ·have gk:=ja ((k:Int)<n);have cl:=ja (k<n);have x0:(0:Int)<=(k:Int):=nB;have x1:(k:Int)<(n:Int):=nB;obtain⟨b,E,r,rfl,ch,hg,c0,c1,c2,c3⟩:=Row.rec (ha.below HB.out) HN.out ci;have U:=AY hg;have E1:=hid (fun wx=>D1.out wx r U);have a4:=bm.out r U;have bF:(l.take (k+1)).map jZ=(l.take k).map jZ++ [jZ r]:=(by rw[Ca,hg,DY];rfl);have a6:AW ((l.take (k+1)).map jZ)=Bg (AW ((l.take k).map jZ)) (jZ r):=(by rw[bF,dS]);obtain⟨AT,ax⟩:=jc (AW ((l.take k).map jZ));rw[<-ax]at a6 HS;have cc:=hid a6;clear hg U bF a6 ax;generalize jZ r=T at *;obtain⟨q,hq⟩:=jc T.length;rw[<-hq]at E1 a4;have HQ:=hid hq;clear hq;go_wp2_with fail;refine(E1.out _).mono ?_;rintro e w4 ⟨v4,rfl,J,N⟩;obtain⟨A4,c4,rfl⟩:=aZ J;have bO:=hid (HS.out.step N);have G:Hid (Below w w w4):=dZ N HB.out;have bg:=hid (lZ J HB.out.size);clear N J E1 HS HB c0 c1 c2 c3;go_wp2_with fail;go_loopw [6] (fun jv wr=>∃ (j m':Nat) (al:Value),j<=q/\m'<=m+j/\jv= .int .i64 j/\Hid (RS wr w w xb al (.slice none 0 0) m' 0 (Bg AT (T.take j)) [] (fun _=> []))/\Hid (wr.ownsRow w 9 1 (.slice A4 q c4) q (AO T))/\Hid (Below w w wr)) (fun jv _=>q-(intOf jv).toNat)
   case atStart=>exact⟨0,m,vT,nB,nB,rfl,(by show RS _ _ _ _ _ _ _ _ _ _ _;rw[List.take_zero];exact bO.out),bg.out,G.out⟩
   case round=>
    obtain⟨j,m',al,hj,cx,rfl,HS,HO,HB⟩:=hrel;clear bO bg G;obtain⟨wi,rfl⟩:=jc wr;by_cases cz:j<q
    ·have gj:=ja ((j:Int)<q);have bc:=ja (j<q);have y0:(0:Int)<=(j:Int):=nB;have y1:(j:Int)<(q:Int):=nB;obtain⟨t,ht⟩:∃t,T[j]? =some t:=⟨_,AD mS⟩;obtain⟨g,cg,a3,ce,_⟩:=HO.out.form nB;injection a3 with hA1 hA2 hA3;subst hA1 hA3;have ck:wi.cell? ⟨g,j,none⟩=some (.string (bs t)):=(by rw[HO.out.cellAt j nB];exact Ip ht);have Q:=ON AT ht;have bf:=zX t (Bg AT (T.take j));have af:(Bg AT (T.take j)).length=m':=(by have h:=HS.out.tt.1;rw[PX]at h;omega);rw[<-Q,af]at bf;obtain⟨A5,c5,rfl⟩:=aZ HS.out.tt;have DP:Hid (∀wx,Below wi wi wx->Calls prog 69 #[.slice A5 m' c5, .string (bs t)] wx (J5 (Bg AT (T.take (j+1))) w wx)):=fun wx hb=>by rw[Q];exact OF wx w A5 m' c5 _ t af nB (Bm HB.out.size hb.size) (HS.out.step hb).tt
     obtain⟨R,hR⟩:=jc (Bg AT (T.take (j+1)));rw[<-hR]at DP bf;unfold J5 at DP;have HR:=hid hR;have b0:=HS.out.box.iy 0;clear Q af hR ht;go_upto_region 9 with fail;go_region_with((go_at_call 69;(with_reducible refine(DP.out _ qo).mono ?_);rintro e w6 ⟨v6,rfl,a9,bS⟩;obtain⟨A6,c6,rfl⟩:=aZ a9;have M:Below wi wi w6:=dZ bS qo;have q0:=(HS.out.box.step M).iy 0;have q1:=(HS.out.box.step M).frozen 0))
     all_goals
      have a0:Hid (RS (w6.setCell ⟨xb,0,none⟩ (.slice A6 R.length c6)) w w xb (.slice A6 R.length c6) (.slice none 0 0) R.length 0 (Bg AT (T.take (j+1))) [] (fun _=> [])):=(by show RS _ _ _ _ _ _ _ _ _ _ _;rw[<-HR.out];exact(HS.out.step M).putT a9);have b8:Hid ((w6.setCell ⟨xb,0,none⟩ (.slice A6 R.length c6)).ownsRow w 9 1 (.slice (some ⟨g,0,none⟩) q c4) q (AO T)):=(by have h:w6.ownsRow w 9 1 (.slice (some ⟨g,0,none⟩) q c4) q (AO T):=eZ HO.out (fun y hy=>M.block y (Ai HO.out y hy).2);exact Dc h (iZ h (HS.out.box.step M) ji) _);have cd:Hid (Below w w (w6.setCell ⟨xb,0,none⟩ (.slice A6 R.length c6))):=BN bi (dZ M HB.out);clear HS HO HB DP b0 ck q0 q1 a9 bS M HR;go_wp2_with fail;go_roundw
      case measure=>exact ld
      case rel=>go_light;exact⟨j+1,R.length,_,nB,nB,jk,a0.out,b8.out,cd.out⟩
    ·obtain rfl:j=q:=by omega
     have gj:=jb ((j:Int)<j);have bc:=jb (j<j);have a0:Hid (RS wi w w xb al (.slice none 0 0) m' 0 (AW ((l.take (k+1)).map jZ)) [] (fun _=> [])):=(by show RS _ _ _ _ _ _ _ _ _ _ _;have h:=HS.out;rw[HQ.out,List.take_length,<-cc.out]at h;exact h);clear HS HQ;go_wp2_with fail;go_roundw
     case measure=>exact ld
     case rel=>go_light;exact⟨k+1,m',al,nB,nB,jk,a0.out,HB.out⟩
  ·obtain rfl:k=n:=by omega
   have gk:=jb ((k:Int)<k);have cl:=jb (k<k);have aw:l.take k=l:=Bp oz;rw[aw]at HS;have ag:(l.map jZ).length=k:=(by rw[Bk,HN.out]);have bl:Hid (∀ (i:Nat) r,l[i]? =some r->(l.map jZ)[i]? =some (jZ r)):=fun i r h=>by rw[BR,h];rfl
   obtain⟨TS,az⟩:=jc (l.map jZ);rw[<-az]at HS ag bl;have ak:=hid az;have bU:=hid ag;clear aw az ag;obtain⟨SS,ba⟩:=jc (AW TS);rw[<-ba]at HS;have af:SS.length=m:=(by have h:=HS.out.tt.1;rw[PX]at h;omega);have bb:=hid af;have aj:=hid ba;have cy:m<=2000000000:=nB;have bd:Hid (RS w0 w w xb vT (.slice none 0 0) m 0 SS [] (BP TS)):=⟨HS.out.res,HS.out.box,HS.out.ne,HS.out.tt,HS.out.ll,fun i v s hv=>by cases hv⟩;have bp:=hid HB.out;obtain⟨A5,c5,rfl⟩:=aZ HS.out.tt;clear af ba HS HB hm;go_wp2_with fail;go_loopw [7] (fun iv wr=>∃ (k2:Nat) (vL:Value) (vals:List Value),k2<=m/\iv= .int .i64 k2/\Hid (RS wr w w xb (.slice A5 m c5) vL m k2 SS vals (BP TS))/\Hid (Below w w wr)) (fun iv _=>m-(intOf iv).toNat)
   case atStart=>exact⟨0,_,_,nB,rfl,bd.out,bp.out⟩
   case round=>
    obtain⟨k2,vL,vals,cw,rfl,HS,HB⟩:=hrel;clear bd bp;obtain⟨w3,rfl⟩:=jc wr;obtain⟨A8,c8,rfl⟩:=aZ HS.out.ll;by_cases cA:k2<m
    ·have gj:=ja ((k2:Int)<m);have bc:=ja (k2<m);have y0:(0:Int)<=(k2:Int):=nB;have y1:(k2:Int)<(m:Int):=nB;obtain⟨t,ht⟩:∃t,SS[k2]? =some t:=⟨_,AD (by have:=bb.out;omega)⟩;obtain⟨g,cg,a3,ce,_⟩:=HS.out.tt.form nB;injection a3 with hA1 hA2 hA3;subst hA1 hA3;have be:Hid (∀wx,Below w3 w3 wx->wx.cell? ⟨xb,0,none⟩=some (.slice (some ⟨g,0,none⟩) m c5)/\wx.cell? ⟨g,k2,none⟩=some (.string (bs t))):=fun wx hb=>by have h:=HS.out.step hb;refine⟨h.box.cell 0,?_⟩;rw[h.tt.cellAt k2 nB];exact Ip ht
     have HT:=hid ht;have b0:=HS.out.box.iy 0;have b9:=HB.out.size;clear ht;go_wp2_with fail;go_loopw [8,9] (fun v iv wr=>∃ (i p:Nat),i<=k/\p<=i/\iv= .int .i64 i/\Hid ((EZ TS t i).length=p)/\Hid (wr.ownsRow w3 3 1 v p (bZ .i64 (EZ TS t i)))/\Hid (Below w3 w3 wr)) (fun _ iv _=>k-(intOf iv).toNat)
     case atStart=>exact⟨0,0,nB,nB,rfl,rfl,AE _ _ _ _,Ak _ _⟩
     case round=>
      obtain⟨i,p,hi,hp,rfl,HP,HO,G⟩:=hrel;obtain⟨wi,rfl⟩:=jc wr;obtain⟨Av,cv,rfl⟩:=aZ HO.out;by_cases bq:i<k
      ·have gi:=ja ((i:Int)<k);have b5:=ja (i<k);have z0:(0:Int)<=(i:Int):=nB;have z1:(i:Int)<(k:Int):=nB;have Y:Hid (Below w w wi):=dZ G.out HB.out;obtain⟨b,E,r,co,ch,hg,_⟩:=Row.rec ha HN.out bq;subst co;have U:=AY hg;have E1:=hid (fun wx=>D1.out wx r U);have a4:=bm.out r U;have am:TS[i]? =some (jZ r):=bl.out i r hg;have HK:Hid (∀wx,Below wi wi wx->(wx.cell? ⟨xb,0,none⟩=some (.slice (some ⟨g,0,none⟩) m c5)/\wx.cell? ⟨g,k2,none⟩=some (.string (bs t)))/\wx.cell? ⟨b,E+i*4,none⟩=some (.int .u64 r.time)/\wx.cell? ⟨b,E+i*4+1,none⟩=some (.int .u8 r.level)/\wx.cell? ⟨b,E+i*4+2,none⟩=some (.string r.source)/\wx.cell? ⟨b,E+i*4+3,none⟩=some (.string r.text)):=fun wx hb=>by refine⟨be.out wx (dZ hb G.out),?_⟩;obtain⟨b',ct,r',ah,_,aq,d⟩:=Row.rec (ha.below (dZ hb Y.out)) HN.out bq;injection ah with ah;injection ah with h1 h2;subst h1 h2;rw[hg]at aq;injection aq with aq;subst aq;exact d
       obtain⟨k0,k1,bt,k3,k4⟩:=HK.out wi (Ak _ _);clear hg U;generalize jZ r=T at *;obtain⟨q,hq⟩:=jc T.length;rw[<-hq]at E1 a4;by_cases hc:T.contains t=true
       ·skip
        have Q:EZ TS t (i+1)=EZ TS t i++ [i]:=(by rw[Vu am,hc];rfl);have aa:=hid Q
        have DH:Hid (∀wx A c,Row wx wx A q 1 (Ei T)->Calls prog 70 #[.slice A q c, .string (bs t)] wx (fun e w'=>e= .returned (.bool true)/\w'=wx)):=fun wx A c h=>by
         have:=QY wx A q c T t hq.symm nB h
         rwa [hc]at this
        clear Q hc am hq;go_upto_region 17 with fail;go_region_held3 (fun wx=>(wx.cell? ⟨xb,0,none⟩=some (.slice (some ⟨g,0,none⟩) m c5)/\wx.cell? ⟨g,k2,none⟩=some (.string (bs t)))/\wx.cell? ⟨b,E+i*4,none⟩=some (.int .u64 r.time)/\wx.cell? ⟨b,E+i*4+1,none⟩=some (.int .u8 r.level)/\wx.cell? ⟨b,E+i*4+2,none⟩=some (.string r.source)/\wx.cell? ⟨b,E+i*4+3,none⟩=some (.string r.text)) (first|assumption|(refine HK.out _ ?_;(repeat (with_reducible first|exact Ak _ _|assumption|refine Aw ?_ |refine below_drewN ?_ _|refine oZ ?_ |refine cZ ?_ |refine dZ jf ?_ |refine belA ?_ |refine pZ jf ?_)))) (first|(go_at_call 68;(with_reducible refine(E1.out _).mono ?_);rintro e w4 ⟨v4,rfl,J,N⟩;obtain⟨A4,c4,rfl⟩:=aZ J;have bN:Below wi wi w4:=dZ N qo)|(go_at_call 70;(with_reducible refine(DH.out _ _ _ (Io J)).mono ?_);rintro e w5 ⟨rfl,rfl⟩));have ac:Hid (Below w3 w3 w5):=dZ bN G.out;have ae:Hid (w5.ownsRow w3 3 1 (.slice Av p cv) p (bZ .i64 (EZ TS t i))):=eZ HO.out (fun y hy=>bN.block y (Ai HO.out y hy).2);have au:=ac.out.size;clear N J bN HO G Y HK k0 k1 bt k3 k4 E1 DH;go_wp2_with(at_builtin;refine fZ rfl (.tmp 60) (.tmp 62) 37 rfl w3 3 j0 _ 1 8 underlying37 cr ca cp cq rfl ji _ _ _ nC (ae.out.alloc _) _ 1 1 [.int .i64 (i:Nat)] nC (Src.of_blk (Blk.made_at _ _ _ pR) 1 1 1 rfl) mY qn nB p5 ?_;intro v8 w8 ab bM bu;obtain⟨A6,c6,rfl⟩:=aZ ab;have cj:Hid (Below w3 w3 w8):=(mZ au ac.out).grown bM p5 (fun y hy=>(Ai ae.out y hy).1);have bj:=hid ab;clear ab bM bu);have a1:Hid ((EZ TS t (i+1)).length=p+1):=(by show _=_;rw[aa.out,Aj,HP.out];rfl);have ay:Hid (w8.ownsRow w3 3 1 (.slice A6 (p+1) c6) (p+1) (bZ .i64 (EZ TS t (i+1)))):=(by show World.ownsRow _ _ _ _ _ _ _;rw[aa.out,show bZ .i64 (EZ TS t i++ [i])=bZ .i64 (EZ TS t i)++ [.int .i64 (i:Nat)] by simp[bZ]];exact bj.out);clear bj ae aa HP ac;go_roundw
        case measure=>exact ld
        case rel=>go_light;exact⟨i+1,p+1,nB,nB,jk,a1.out,ay.out,cj.out⟩
       ·have hc:T.contains t=false:=(by simpa using hc);have Q:EZ TS t (i+1)=EZ TS t i++ []:=(by rw[Vu am,hc];rfl);have aa:=hid Q
        have DH:Hid (∀wx A c,Row wx wx A q 1 (Ei T)->Calls prog 70 #[.slice A q c, .string (bs t)] wx (fun e w'=>e= .returned (.bool false)/\w'=wx)):=fun wx A c h=>by
         have:=QY wx A q c T t hq.symm nB h
         rwa [hc]at this
        clear Q hc am hq;go_upto_region 17 with fail;go_region_held3 (fun wx=>(wx.cell? ⟨xb,0,none⟩=some (.slice (some ⟨g,0,none⟩) m c5)/\wx.cell? ⟨g,k2,none⟩=some (.string (bs t)))/\wx.cell? ⟨b,E+i*4,none⟩=some (.int .u64 r.time)/\wx.cell? ⟨b,E+i*4+1,none⟩=some (.int .u8 r.level)/\wx.cell? ⟨b,E+i*4+2,none⟩=some (.string r.source)/\wx.cell? ⟨b,E+i*4+3,none⟩=some (.string r.text)) (first|assumption|(refine HK.out _ ?_;(repeat (with_reducible first|exact Ak _ _|assumption|refine Aw ?_ |refine below_drewN ?_ _|refine oZ ?_ |refine cZ ?_ |refine dZ jf ?_ |refine belA ?_ |refine pZ jf ?_)))) (first|(go_at_call 68;(with_reducible refine(E1.out _).mono ?_);rintro e w4 ⟨v4,rfl,J,N⟩;obtain⟨A4,c4,rfl⟩:=aZ J;have bN:Below wi wi w4:=dZ N qo)|(go_at_call 70;(with_reducible refine(DH.out _ _ _ (Io J)).mono ?_);rintro e w5 ⟨rfl,rfl⟩));have ac:Hid (Below w3 w3 w5):=dZ bN G.out;have ae:Hid (w5.ownsRow w3 3 1 (.slice Av p cv) p (bZ .i64 (EZ TS t i))):=eZ HO.out (fun y hy=>bN.block y (Ai HO.out y hy).2);have au:=ac.out.size;clear N J bN HO G Y HK k0 k1 bt k3 k4 E1 DH;have a1:Hid ((EZ TS t (i+1)).length=p):=(by show _=_;rw[aa.out,Cx,HP.out]);have ay:Hid (w5.ownsRow w3 3 1 (.slice Av p cv) p (bZ .i64 (EZ TS t (i+1)))):=(by show World.ownsRow _ _ _ _ _ _ _;rw[aa.out,Cx];exact ae.out);clear ae aa HP;go_wp2_with fail;go_roundw
        case measure=>exact ld
        case rel=>go_light;exact⟨i+1,p,nB,nB,jk,a1.out,ay.out,ac.out⟩
      ·obtain rfl:k=i:=by omega
       have gi:=jb ((k:Int)<k);have b5:=jb (k<k);have L:=hid (HS.out.step G.out);have Y:Hid (Below w w wi):=dZ G.out HB.out;have cm:=Y.out.size;have av:Hid (wi.ownsRow w 3 1 (.slice Av p cv) (BP TS t).length (bZ .i64 (BP TS t))):=(by show World.ownsRow _ _ _ _ _ _ _;have e:BP TS t=EZ TS t k:=(by rw[<-gJ,bU.out]);rw[e,HP.out];exact lZ HO.out b9);have e1:=L.out.box.iy 1;clear HS HO HP HB G be b0;go_wp2_with(at_builtin;refine fZ rfl (.tmp 65) (.tmp 67) 51 rfl w 37 i1 _ 1 24 underlying51 cf b7 b6 b4 rfl ji _ _ _ nC (L.out.ll.alloc _) _ 1 1 [.slice Av p cv] nC (Src.of_blk (Blk.made_at _ _ _ pR) 1 1 1 rfl) mY qn nB p5 ?_;intro v9 w9 Z ai bG;obtain⟨A9,c9,rfl⟩:=aZ Z;have bX:=L.out.putL HT.out av.out ai Z;have f9:=((L.out.box.alloc _).grown ai (fun e=>iZ L.out.ll L.out.box ji e.symm)).frozen 1;have e9:=((L.out.box.alloc _).grown ai (fun e=>iZ L.out.ll L.out.box ji e.symm)).cell 1;simp only[List.getElem?_toArray,List.getElem?_cons_zero,List.getElem?_cons_succ]at e9;have bn:Hid (Below w w w9):=(mZ cm Y.out).grown ai p5 (fun y hy=>(Ai L.out.ll y hy).1);have H9:=hid bX;clear bX Z ai bG);have b3:Hid (Below w w (w9.setCell ⟨xb,1,none⟩ (.slice A9 (k2+1) c9))):=BN bi bn.out;clear L Y bn av e1;go_roundw
       case measure=>exact ld
       case rel=>go_light;exact⟨k2+1,_,_,nB,jk,H9.out,b3.out⟩
    ·obtain rfl:m=k2:=by omega
     have gj:=jb ((m:Int)<m);have bc:=jb (m<m);have b0:=HS.out.box.iy 0;have b1:=HS.out.box.iy 1;have r0:=HS.out.res.iy 0;have r1:=HS.out.res.iy 1;have s0:=HS.out.res.frozen 0;have s1:=HS.out.res.frozen 1;go_wp2_with fail;have bC:=HS.out.tt;have bW:=HS.out.ll;have n1:(Value.slice A5 m c5).ownBlock≠some w.heap.size:=iZ bC HS.out.res ji;have n2:(Value.slice A8 m c8).ownBlock≠some w.heap.size:=iZ bW HS.out.res ji;refine Df (v:= .agg #[.slice A5 m c5, .slice A8 m c8]) ?_ rfl ⟨_,_,vals,rfl,⟨?_,?_,?_⟩,?_⟩
     ·have e0:=(HS.out.res.set 0 (.slice A5 m c5)).cell 0;have e1:=((HS.out.res.set 0 (.slice A5 m c5)).set 1 (.slice A8 m c8)).cell 1;simp at e0 e1;simp[results,results23,go_sem,e0,e1]
     ·rw[<-ak.out,<-aj.out,bb.out];exact Dc (Dc bC n1 _) n1 _
     ·rw[<-ak.out,<-aj.out,Bk,bb.out];exact Dc (Dc bW n2 _) n2 _
     ·intro i v cu hv hi;rw[<-ak.out,<-aj.out]at hi;rw[BR]at hi;cases hs:SS[i]? with
      |none=>rw[hs]at hi;cases hi
      |some s=>rw[hs]at hi;injection hi with hi;subst hi;have ar:=HS.out.vl i v s hv hs;have hn:=iZ ar HS.out.res ji;exact Dc (Dc ar hn _) hn _
     ·exact BN (Am _) (BN (Am _) HB.out)
end Idx
end Go.Proofs.YtfgdoknipbpfhaaGreatDoor
