/- The index of a log:  -/
import Derived.Test.YtfgdoknipbpfhaaGreatDoorZTwoBack27
import Derived.Test.YtfgdoknipbpfhaaGreatDoorZTwoBack26
namespace Go.Proofs.YtfgdoknipbpfhaaGreatDoor
open Go.Proofs.Tryz
open Go.Lib (hid)
set_option maxHeartbeats 8000000
set_option maxRecDepth 100000
variable{w w':World}{base bound k n s:Nat}{e:TypeId}{vals xs:List Value}{l x:List Nat}{ls:List (List Nat)}{vL vT:Value}
open Go.RowKit Go.Maps
def oZ(r:Rec):List Str:=Ih r.text.data.toList r.source.data.toList
structure IxAt (w:World) (base:Nat) (vT vL:Value) (vals:List Value) (ts:List Str) (ls:List (List Nat)):Prop where
 t:w.ownsRow base 9 1 vT ts.length (Br ts)
 l:w.ownsRow base 37 1 vL ls.length vals
 r:∀ (i:Nat) v ids,vals[i]? =some v->ls[i]? =some ids->w.ownsRow base 3 1 v ids.length (dZ .i64 ids)
def Kc(ts:List (List Str))(w:World)(e:Ending)(w':World):Prop:=
 ∃vT vL vals,e= .returned (.agg #[vT,vL])/\IxAt w' w vT vL vals (AZ ts) ((AZ ts).map (Cy ts))/\Below w w w'
theorem Xx:(prog.info? 3).map (fun i=>(i.zero,i.size,i.bytes))=some (some (.int .i64 0),1,8):=my
theorem W9:(prog.info? 37).map (fun i=>(i.zero,i.size,i.bytes))=some (some (.slice none 0 0),1,24):=my
theorem RQ{r:Rec}{s:Str}(h:s∈oZ r):1<=s.length/\s.length<=25:=by
 unfold oZ at h;rw[lL]at h;unfold Iu at h;rcases BJ.1 h with h|h
 ·have:=WB _ s h;omega
 ·obtain⟨x,hx,rfl⟩:=CH.1 h;have:=WB _ x hx;simp only[List.length_cons];omega
theorem zW(t s:List UInt8):(Ih t s).length<=t.length+s.length:=by have h1:=Pg (Iu t s) [];have h2:=MG t;have h3:=MG s;unfold Ih;unfold Iu at h1;rw[Ag,Bu]at h1;unfold Iu;simp only[List.length_nil]at h1;omega
theorem NX(ts:List (List Str))(u:Str):(Cy ts u).length<=ts.length:=by unfold Cy;exact AN (List.length_filter_le _ _) rX
theorem MA{i s' n':Nat}{e':TypeId}{v v':Value}{j:List Value}(h:w.ownsRow base e s v n xs)(ho:w.ownsRow i e' s' v' n' j)(z:e≠e')(hg:w.grownBy w' v'.ownBlock):w'.ownsRow base e s v n xs:=
 eZ h (fun y hy=>hg.block y (Aj h y hy).2 (fun e=>by
  rcases FE h ho z with h0|h0
  ·rw[h0]at hy;cases hy
  ·exact h0 (hy.trans e)))
section
variable {H:Type} {P:Program} {kt:TypeId} {R:Value->Option (DataW H×List MemPlace)} {w w':World} {mb m:Nat} {D:DataW H}
theorem qU{v:Value}(hm:w.ownsMap P kt R mb m D)(ho:w.ownsRow base e s v n xs)(hg:w.grownBy w' (some mb)):w'.ownsRow base e s v n xs:=
 eZ ho fun b hb=>hg.block b (Aj ho b hb).2 fun he=>by
  injection he with he;subst he;obtain⟨es,h,h1,_⟩:=hm;rcases ho.2 with ⟨hv,_⟩|⟨g',j,cur,hv,_,h2,_⟩
  ·rw[hv]at hb;cases hb
  ·rw[hv]at hb;have i:g'=b:=(by simpa[Value.ownBlock]using hb);rw[i,h1]at h2;cases h2
theorem pX{g:Nat}{t:TypeId}{cs:Array Value}(hm:w.ownsMap P kt R mb m D)(h:Blk w g t cs)(hg:w.grownBy w' (some mb)):Blk w' g t cs:=
 h.grown hg fun he=>by injection he with he;subst he;obtain⟨es,i,h1,_⟩:=hm;have h2:w.heap[g]? =some (.cells cs t):=h;rw[h1]at h2;cases h2
end
def GL(ts:List (List Str))(T:List Str)(j:Nat)(s:Str):List Nat:=Cy ts s++(if s∈T.take j then [ts.length]else [])
theorem qL(ts:List (List Str))(T:List Str):GL ts T 0=Cy ts:=by funext s;simp[GL]
theorem bD(ts:List (List Str))(T:List Str):GL ts T T.length=Cy (ts++ [T]):=by
 funext s
 rw[kP];unfold GL;rw[List.take_length];simp
theorem pN{ts:List (List Str)}{T:List Str}(hT:Fx T){j:Nat}{t:Str}(h:T[j]? =some t):(fun s=>if s=t then GL ts T j s++ [ts.length]else GL ts T j s)=GL ts T (j+1):=by
 have y:t ∉ T.take j:=fun hm=>by obtain⟨i,hi,e⟩:=List.getElem_of_mem hm;rw[AY]at hi;rw[List.getElem_take]at e;obtain⟨hj,e2⟩:=CQ.1 h;have:=List.pairwise_iff_getElem.1 hT i j nj hj nj;rw[e,e2]at this;exact I2 t this
 funext s
 unfold GL;rw[Cw,h];by_cases hs:s=t
 ·subst hs;rw[Ab rfl,Aa y];simp
 ·rw[Aa hs];simp[hs]
theorem Ps(ts:List (List Str))(s:Str):s∈AZ ts↔Cy ts s≠ []:=by
 rw[Uf];unfold Cy;rw[ne_eq,List.filter_eq_nil_iff];constructor
 ·rintro⟨t,ht,hs⟩ h;obtain⟨i,hi,rfl⟩:=List.getElem_of_mem ht;have:=h i (Gl.2 hi);rw[Aq,Az hi]at this;simp at this;exact this hs
 ·intro h;refine KK fun hn=>h fun i hi=> ?_;rw[Gl]at hi;rw[Aq,Az hi];simp only[Option.getD_some,List.contains_iff_mem];exact fun hm=>hn ⟨_,FM hi,hm⟩
theorem aE{H:Type}{P:Program}{kt:TypeId}{R:Value->Option (DataW H×List MemPlace)}{mb m:Nat}{D:DataW H}(h:w.ownsMap P kt R mb m D):Maps.size D<=m:=by obtain⟨es,i,_,_,hs,rfl⟩:=h;show(List.foldr DataW.insert [] _).length<=m;rw[length_sorted,Bu];simpa using hs
structure St3 (w:World) (mb m base rb bo B2:Nat) (D:DataW Value) (I:Str->List Nat) (V:Str->Value) (vS vT vL:Value) (q nT nL:Nat) (SS:List Str):Prop where
 mi:MI w mb m base D I V
 res:Blk w rb 53 #[(),()]
 box:Blk w bo 53 #[vT,vL]
 ne:rb≠bo
 tt:w.ownsRow B2 9 1 vT nT (Br (SS.take nT))
 ll:w.ownsRow B2 37 1 vL nL ((SS.take nL).map V)
 ss:w.ownsRow base 9 1 vS q (Br SS)
 sg:∀g,vS.ownBlock=some g->g<B2
 b2:base<=B2
 bz:B2<=w.heap.size
section
variable {w w4:World} {mb m base rb bo B2 q nT nL:Nat} {D:DataW Value} {I:Str->List Nat} {V:Str->Value} {vS vT vL v4:Value} {SS:List Str} {o:Obj}
theorem St3.putT(h:St3 w mb m base rb bo B2 D I V vS vT vL q nT nL SS)(hg:(w.alloc o).grownBy w4 vT.ownBlock)(j:w4.ownsRow B2 9 1 v4 (nT+1) (Br (SS.take (nT+1)))):
 St3 (w4.setCell ⟨bo,0,none⟩ v4) mb m base rb bo B2 D I V vS v4 vL q (nT+1) nL SS:=by
 have i:Blk w4 bo 53 #[vT,vL]:=(h.box.alloc o).grown hg (fun e=>gZ h.tt h.box ip e.symm);have G:w4.heap[mb]? =w.heap[mb]? :=(hg.block mb mh (fun e=>Ke h.mi h.tt e.symm rfl)).trans (EA w o mb h.mi.map.lt)
 have y:MI w4 mb m base D I V:=(h.mi.step (aZ (Ae _ _) (o:=o))).kept (hg.block mb mh (fun e=>Ke h.mi h.tt e.symm rfl)) fun s b hb=>by
  refine hg.block b (by have:=(Aj (h.mi.row s) b hb).2;simp;omega) fun e=> ?_;rcases FE (h.mi.row s) h.tt ip with h0|h0
  ·rw[h0]at hb;cases hb
  ·exact h0 (hb.trans e)
 have E:mb≠bo:=fun e=>na
 refine⟨y.kept (AW w4 _ _ mb E) fun s b hb=>AW w4 _ _ b (fun e=>gZ (y.row s) i ip (hb.trans (Aw some e))),?_,?_,h.ne,?_,?_,?_,h.sg,h.b2,?_⟩
 ·exact((h.res.alloc o).grown hg (fun e=>gZ h.tt h.res ip e.symm)).far h.ne _
 ·exact i.set 0 v4
 ·exact FQ j (gZ j i ip) _
 ·have:=MA (h.ll.alloc o) (h.tt.alloc o) ip hg;exact FQ this (gZ this i ip) _
 ·have:w4.ownsRow base 9 1 vS q (Br SS):=eZ h.ss fun b hb=>(hg.block b (by have:=(Aj h.ss b hb).2;simp;omega) (fun e=>by have h1:=h.sg b hb;have h2:=(Aj h.tt b e.symm).1;omega)).trans (EA w o b (Aj h.ss b hb).2);exact FQ this (gZ this i ip) _
 ·have h1:=hg.size;have h2:=h.bz;simp at h1 ⊢;omega
theorem St3.putL(h:St3 w mb m base rb bo B2 D I V vS vT vL q nT nL SS)(hg:(w.alloc o).grownBy w4 vL.ownBlock)(j:w4.ownsRow B2 37 1 v4 (nL+1) ((SS.take (nL+1)).map V)):
 St3 (w4.setCell ⟨bo,1,none⟩ v4) mb m base rb bo B2 D I V vS vT v4 q nT (nL+1) SS:=by
 have i:Blk w4 bo 53 #[vT,vL]:=(h.box.alloc o).grown hg (fun e=>gZ h.ll h.box ip e.symm)
 have y:MI w4 mb m base D I V:=(h.mi.step (aZ (Ae _ _) (o:=o))).kept (hg.block mb mh (fun e=>Ke h.mi h.ll e.symm rfl)) fun s b hb=>by
  refine hg.block b (by have:=(Aj (h.mi.row s) b hb).2;simp;omega) fun e=> ?_;rcases FE (h.mi.row s) h.ll ip with h0|h0
  ·rw[h0]at hb;cases hb
  ·exact h0 (hb.trans e)
 have E:mb≠bo:=fun e=>na
 refine⟨y.kept (AW w4 _ _ mb E) fun s b hb=>AW w4 _ _ b (fun e=>gZ (y.row s) i ip (hb.trans (Aw some e))),?_,?_,h.ne,?_,?_,?_,h.sg,h.b2,?_⟩
 ·exact((h.res.alloc o).grown hg (fun e=>gZ h.ll h.res ip e.symm)).far h.ne _
 ·exact i.set 1 v4
 ·have:=MA (h.tt.alloc o) (h.ll.alloc o) ip hg;exact FQ this (gZ this i ip) _
 ·exact FQ j (gZ j i ip) _
 ·have:=MA (h.ss.alloc o) (h.ll.alloc o) ip hg;exact FQ this (gZ this i ip) _
 ·have h1:=hg.size;have h2:=h.bz;simp at h1 ⊢;omega
end
theorem OV(w:World)(A:Option Addr)(n c:Nat)(l:List Rec)(hn:l.length=n)(hN:n<=20000)(al:∀r∈l,r.source.size<=50000/\r.text.size<=50000)(ha:Row w w A n 4 (BW l)):
 Calls prog 52 #[.slice A n c] w (Kc (l.map oZ) w):=by
 obtain⟨j0,dg,cT,cO,cF⟩:=info_parts Xx;have HN:=hid hn;have D1:Hid (∀wx r,r∈l->Calls prog 106 #[.agg #[.int .u64 r.time, .int .u8 r.level, .string r.source, .string r.text]] wx (MK (oZ r) wx)):=fun wx r hr=>lN wx r.time r.level r.source r.text (al r hr).1 (al r hr).2;have am:Hid (∀r∈l,(oZ r).length<=100000):=fun r hr=>by have:=zW r.text.data.toList r.source.data.toList;have h1:=Lib.size_eq r.text;have h2:=Lib.size_eq r.source;have:=al r hr;unfold oZ;omega
 have a5:=@run_makeMap prog;unfold MK at D1;unfold Kc;clear hn al;go_enter func52,ntmps52;go_wp2_with fail;have ab:Blk (w.alloc (.cells #[(),()] 53)) w 53 #[(),()]:=Blk.made _ _ _;have a9:Below w w (w.alloc (.cells #[(),()] 53)):=aZ (Ae _ _);have bp:(w.alloc (.cells #[(),()] 53)).heap.size=w.heap.size+1:=rX
 generalize w.alloc (.cells #[(),()] 53)=w1 at *;rw[<-bp];have bk:Hid (MI (w1.alloc (.map #[] 0)) w1 0 w (.map []) (fun _=> []) (fun _=> .slice none 0 0)):=MI.start w1 w;have cl:=hid (ab.alloc (.map #[] 0));have bu:Hid (Below w w (w1.alloc (.map #[] 0))):=aZ a9;obtain⟨mb,bc⟩:=ii w1.heap.size;rw[<-bc]at bk ⊢;have dh:Hid (w.heap.size<=mb):=by show _<=_;rw[bc];exact a9.size
 generalize w1.alloc (.map #[] 0)=w2 at *;clear ab a9 bp bc a5;go_loopw [14] (fun iv wr=>∃ (k m:Nat) (D:DataW Value) (V:Str->Value),k<=n/\m<=100000*k/\iv= .int .i64 k/\Hid (MI wr mb m w D (Cy ((l.take k).map oZ)) V)/\Hid (Blk wr w 53 #[(),()])/\Hid (Below w w wr)) (fun iv _=>n-(intOf iv).toNat)
 case atStart=>exact⟨0,0, .map [],fun _=> .slice none 0 0,nj,nj,rfl,bk.out,cl.out,bu.out⟩
 case round=>
  obtain⟨k,m,D,V,hk,hm,rfl,HM,HX,HB⟩:=hrel;clear bk cl bu;obtain⟨w0,rfl⟩:=ii wr;by_cases dd:k<n
  ·have gk:=ic ((k:Int)<n);have cM:=ic (k<n);have x0:(0:Int)<=(k:Int):=nj;have x1:(k:Int)<(n:Int):=nj;obtain⟨b,dt,r,rfl,dq,hg,c0,c1,c2,c3⟩:=Row.rec (ha.below HB.out) HN.out dd;have bm:=Bp hg;have E1:=hid (fun wx=>D1.out wx r bm);have dc:=am.out r bm;have cf:Fx (oZ r):=fQ _ _;have ac:∀s∈oZ r,1<=s.length/\s.length<=25:=fun s hs=>RQ hs;have bb:(l.take (k+1)).map oZ=(l.take k).map oZ++ [oZ r]:=(by rw[Cw,hg,FA];rfl);have ak:((l.take k).map oZ).length=k:=(by rw[Bu,AY,HN.out];omega);obtain⟨TS,az⟩:=ii ((l.take k).map oZ);rw[<-az]at bb ak HM;have ax:=hid bb;have b8:=hid ak;have cE:=hid cf;have cP:=hid ac;clear hg bm cf ac bb ak az;generalize oZ r=T at *;obtain⟨q,hq⟩:=ii T.length;rw[<-hq]at E1 dc;have HQ:=hid hq;clear hq;go_wp2_with fail;have aw:Below w0 w0 (w0.alloc (.cells #[.int .u64 r.time, .int .u8 r.level, .string r.source, .string r.text] 43)):=aZ (Ae _ _);generalize w0.alloc (.cells #[.int .u64 r.time, .int .u8 r.level, .string r.source, .string r.text] 43)=w3 at *;have L:=hid (HM.out.step aw);have ai:=hid (HX.out.step aw);have U:Hid (Below w w w3):=cZ aw HB.out;clear aw HM HX HB c0 c1 c2 c3;refine(E1.out _).mono ?_;rintro e w4 ⟨v4,rfl,bf,ah⟩;obtain⟨A4,c4,rfl⟩:=bZ bf;have b4:=hid (L.out.step ah);have co:=hid (ai.out.step ah);have a6:Hid (Below w w w4):=cZ ah U.out;have bt:=hid bf;have b9:=ah.size;have cX:=a6.out.size;clear ah bf E1 L ai U;go_wp2_with fail;go_loopw [22] (fun jv wr=>∃ (j m':Nat) (D':DataW Value) (V':Str->Value),j<=q/\m'<=m+j/\jv= .int .i64 j/\Hid (MI wr mb m' w D' (GL TS T j) V')/\Hid (wr.ownsRow w3 9 1 (.slice A4 q c4) q (Br T))/\Hid (Blk wr w 53 #[(),()])/\Hid (Below w w wr)) (fun jv _=>q-(intOf jv).toNat)
   case atStart=>exact⟨0,m,D,V,nj,nj,rfl,(by show MI _ _ _ _ _ _ _;rw[qL];exact b4.out),bt.out,co.out,a6.out⟩
   case round=>
    obtain⟨j,m',D',V',hj,du,rfl,HM,HO,HX,HB⟩:=hrel;clear b4 bt co a6 b9 cX;obtain⟨wi,rfl⟩:=ii wr;by_cases ds:j<q
    ·have gj:=ic ((j:Int)<q);have a4:=ic (j<q);have y0:(0:Int)<=(j:Int):=nj;have y1:(j:Int)<(q:Int):=nj;obtain⟨t,ht⟩:∃t,T[j]? =some t:=⟨_,Az md⟩;obtain⟨g,cg,be,cL,_⟩:=HO.out.form nj;injection be with hA1 hA2 hA3;subst hA1 hA3;have ck:wi.cell? ⟨g,j,none⟩=some (.string (bs t)):=(by rw[HO.out.cellAt j nj];exact ME ht);have ce:=cP.out t (Bp ht);have bj:=pN (ts:=TS) cE.out ht;rw[b8.out]at bj;have cd:=hid bj;obtain⟨A5,c5,hV⟩:=bZ (HM.out.row t);have ar:=HM.out.look t sS;have aa:=HM.out.row t;rw[hV]at ar aa
     have cG:(GL TS T j t).length<=20001:=by
      have h1:=NX TS t;have h2:=b8.out;unfold GL;rw[Ag];split
      ·simp only[List.length_singleton];omega
      ·simp only[List.length_nil];omega
     obtain⟨p,hp⟩:=ii ((GL TS T j t).length);have cz:=hid hp;rw[<-hp]at ar aa cG hV;have G:=hid aa;have HV:=hid hV;have a3:=hid ce;have b6:=HB.out.size;have a5:m'<maxLen:=sS;clear ht ce bj hV aa hp HQ;go_wp2_with(at_builtin;refine iZ rfl (.tmp 30) (.tmp 32) 37 rfl w 3 j0 _ 1 8 underlying37 dg cT cO cF rfl ip _ _ _ nm (G.out.alloc _) _ 1 1 [.int .i64 (k:Nat)] nm (Src.of_blk (Blk.made _ _ _) 1 1 1 rfl) mp sS nj sj ?_;intro v6 w6 z E Y;have bO:(some mb:Option Nat)≠(Value.slice A5 p c5).ownBlock:=(fun e=>Ke HM.out G.out e.symm rfl);have a8:=(HM.out.map.alloc (.cells #[.int .i64 (k:Nat)] 3)).kept E bO;obtain⟨w7,dm,ci,cj⟩:=a8.update (string_keyed underlying9) underlying153 a5 (OA t (by have:=a3.out;unfold maxLen;omega)) (show Lb v6=some (.held v6,[]) from rfl);have H6:=hid (And.intro z (And.intro E (And.intro Y a8)));have H7:=hid (And.intro ci cj);clear z E Y bO a8 ci cj);have bd:Hid (MI w7 mb (m'+1) w (D'.put (.string t) (.held v6)) (GL TS T (j+1)) (fun s=>if s=t then v6 else V' s)):=(by show MI _ _ _ _ _ _ _;rw[<-cd.out];exact MI.put HM.out a3.out.2 (aZ (Ae _ _)) (by rw[HV.out];exact H6.out.2.1) (by rw[<-cz.out];exact H6.out.1) (by rw[HV.out];exact H6.out.2.2.1.imp_right fun e=>⟨_,e,Ak _⟩) H7.out.1 H7.out.2);have cw:Hid (w7.ownsRow w3 9 1 (.slice (some ⟨g,0,none⟩) q c4) q (Br T)):=qU H6.out.2.2.2 (MA (HO.out.alloc _) (G.out.alloc _) ip H6.out.2.1) H7.out.2;have cx:Hid (Blk w7 w 53 #[(),()]):=pX H6.out.2.2.2 ((HX.out.alloc _).grown H6.out.2.1 (fun e=>gZ G.out HX.out ip e.symm)) H7.out.2;have df:Hid (Below w w w7):=((pZ b6 HB.out).grown H6.out.2.1 sj (fun y hy=>(Aj G.out y hy).1)).grown H7.out.2 (by have:=(pZ (o:= .cells #[.int .i64 (k:Nat)] 3) b6 HB.out).size;have:=H6.out.2.1.size;omega) (fun y hy=>by injection hy with hy;rw[<-hy];exact dh.out);clear H6 H7 HM HO HX HB G HV cd;go_roundw
     case measure=>exact jq
     case rel=>go_light;exact⟨j+1,m'+1,_,_,nj,nj,iw,bd.out,cw.out,cx.out,df.out⟩
    ·obtain rfl:j=q:=by omega
     have gj:=ig ((j:Int)<j);have a4:=ig (j<j);have bd:Hid (MI wi mb m' w D' (Cy ((l.take (k+1)).map oZ)) V'):=(by show MI _ _ _ _ _ _ _;rw[ax.out,<-bD,<-HQ.out];exact HM.out);clear HM HQ;go_wp2_with fail;go_roundw
     case measure=>exact jq
     case rel=>go_light;exact⟨k+1,m',D',V',nj,nj,iw,bd.out,HX.out,HB.out⟩
  ·obtain rfl:k=n:=by omega
   have gk:=ig ((k:Int)<k);have cM:=ig (k<k);have a0:l.take k=l:=Cf py;rw[a0]at HM;have ae:(l.map oZ).length=k:=(by rw[Bu,HN.out]);obtain⟨TS,ac⟩:=ii (l.map oZ);rw[<-ac]at HM ae;have ag:=hid ac;have cm:=hid ae;clear a0 ac ae D1 am ha;have ab:Blk (w0.alloc (.cells #[(),()] 53)) w0 53 #[(),()]:=Blk.made _ _ _;have av:Below w0 w0 (w0.alloc (.cells #[(),()] 53)):=aZ (Ae _ _);obtain⟨bo,bh⟩:=ii w0.heap.size;go_wp2_with fail;rw[<-bh]at ab ⊢;have b7:w.heap.size<bo:=(by rw[bh];exact HX.out.lt);generalize w0.alloc (.cells #[(),()] 53)=w3 at *;have L:=hid (HM.out.step av);have ai:=hid (HX.out.step av);have U:Hid (Below w w w3):=cZ av HB.out;have a1:=hid ab;have bC:=aE L.out.map;have ca:m<=2000000000:=nj;have DK:=hid (callsIn_wide.1 (Tryz.maps_Keys_108 (some mb) w3));have DS:=hid (callsIn_wide.1 (Tryz.slices_Sorted_keys_107_108 mb m D Lb w3 L.out.map sS nj));clear av ab HM HX HB bh;refine DK.out.mono ?_;rintro e w4 ⟨rfl,rfl⟩;clear DK;go_wp2_with fail;refine DS.out.mono ?_;rintro e w5 ⟨vS,ss,rfl,Q,aj,cr,bN⟩;have M:=L.out.keys Q (WN TS) (Ps TS);have ba:ss.length=(AZ TS).length:=(by rw[<-M];exact(List.length_mergeSort ss).symm);rw[ba,show ss.mergeSort (fun x y=>decide (x<=y))=AZ TS from M,YO]at aj;have J:Below w3 w3 w5:=cZ bN (aZ (Ae _ _));have h:w5.ownsRow w 9 1 vS (AZ TS).length (Br (AZ TS)):=kZ aj (by have:=U.out.size;simp;omega);obtain⟨SS,aq⟩:=ii (AZ TS);rw[<-aq]at h;have cH:SS.length<=2000000000:=(by rw[aq,<-ba,Q.length_eq];refine AN ?_ (AN bC ca);unfold strKeys Maps.size;cases D<;>simp);obtain⟨q,hq⟩:=ii SS.length;rw[<-hq]at h cH;obtain⟨AS,cS,rfl⟩:=bZ h
   have bl:Hid (St3 w5 mb m w w bo w5 D (Cy TS) V (.slice AS q cS) (.slice none 0 0) (.slice none 0 0) q 0 0 SS):=
    ⟨L.out.step J,ai.out.step J,a1.out.step J,nj,AI _ _ _ _,AI _ _ _ _,h,fun g hg=>(Aj h g hg).2,by have:=U.out.size;have:=J.size;omega,Ak _⟩
   have bq:Hid (Below w w w5):=cZ J U.out;have HQ:=hid hq;have Z:=hid aq;have ct:Hid (∀s∈SS,s.length<=25):=fun s hs=>L.out.long s ((Ps TS s).1 (by rw[<-Z.out];exact hs));have dn:Hid (∀s,(Cy TS s).length<=20000):=fun s=>by have h1:=NX TS s;have h2:=cm.out;omega
   obtain⟨B2,cp⟩:=ii w5.heap.size;rw[<-cp]at bl;clear Q aj cr bN M ba J h hq aq DS L ai a1 U cp bC ca;obtain⟨i0,da,dj,de,cC⟩:=info_parts Qk;obtain⟨i1,cB,cv,di,cu⟩:=info_parts W9;go_wp2_with fail;go_loopw [40] (fun iv wr=>∃ (k2:Nat) (vT vL:Value),k2<=q/\iv= .int .i64 k2/\Hid (St3 wr mb m w w bo B2 D (Cy TS) V (.slice AS q cS) vT vL q k2 k2 SS)/\Hid (Below w w wr)) (fun iv _=>q-(intOf iv).toNat)
   case atStart=>exact⟨0,_,_,nj,rfl,bl.out,bq.out⟩
   case round=>
    obtain⟨k2,vT,vL,dr,rfl,HS,HB⟩:=hrel;clear bl bq;by_cases ak:k2<q
    ·have gj:=ic ((k2:Int)<q);have a4:=ic (k2<q);have y0:(0:Int)<=(k2:Int):=nj;have y1:(k2:Int)<(q:Int):=nj;obtain⟨t,ht⟩:∃t,SS[k2]? =some t:=⟨_,Az md⟩;obtain⟨g,cg,be,cL,_⟩:=HS.out.ss.form nj;injection be with hA1 hA2 hA3;subst hA1 hA3;have ck:wr.cell? ⟨g,k2,none⟩=some (.string (bs t)):=(by rw[HS.out.ss.cellAt k2 nj];exact ME ht);have b3:SS.take (k2+1)=SS.take k2++ [t]:=(by rw[Cw,ht];rfl);have ax:=hid b3;have cc:=ct.out t (Bp ht);have am:=hid cc;obtain⟨A5,c5,rfl⟩:=bZ HS.out.tt;obtain⟨A8,c8,rfl⟩:=bZ HS.out.ll;obtain⟨A7,c7,hV⟩:=bZ (HS.out.mi.row t);have HV:=hid hV;have b0:=HS.out.box.ia 0;have cy:=HB.out.size;have dl:=HS.out.bz;have ay:=HS.out.b2;obtain⟨p,hp⟩:=ii ((Cy TS t).length);rw[<-hp]at HV;clear ht b3 cc hV hp;go_wp2_with(first|(at_builtin;refine iZ rfl (.tmp 45) (.tmp 47) 50 rfl B2 9 i0 _ 1 16 underlying50 da dj de cC rfl ip _ _ _ nm (HS.out.tt.alloc _) _ 1 1 [.string (bs t)] nm (Src.of_blk (Blk.made _ _ _) 1 1 1 rfl) mp sS nj sj ?_;intro v6 w6 z E Y;obtain⟨A6,c6,rfl⟩:=bZ z;have an:=HS.out.putT E (by rw[ax.out,PU];exact z);have ar:=an.mi.look t (by have:=am.out;unfold maxLen;omega);rw[HV.out]at ar;have f6:=((HS.out.box.alloc _).grown E (fun e=>gZ HS.out.tt HS.out.box ip e.symm)).frozen 0;have e6:=((HS.out.box.alloc _).grown E (fun e=>gZ HS.out.tt HS.out.box ip e.symm)).cell 0;have dk:=((HS.out.box.alloc _).grown E (fun e=>gZ HS.out.tt HS.out.box ip e.symm)).cell 1;simp only[List.getElem?_toArray,List.getElem?_cons_zero,List.getElem?_cons_succ]at e6 dk;have au:Hid (Below w w w6):=(pZ cy HB.out).grown E sj (fun y hy=>AN ay (Aj HS.out.tt y hy).1);have H6:=hid an;have b5:=an.bz;clear an z E Y)|(at_builtin;refine iZ rfl (.tmp 51) (.tmp 55) 51 rfl B2 37 i1 _ 1 24 underlying51 cB cv di cu rfl ip _ _ _ nm (H6.out.ll.alloc _) _ 1 1 [.slice A7 p c7] nm (Src.of_blk (Blk.made_at _ _ _ rX) 1 1 1 rfl) mp sS nj (by simp at b5 ⊢;omega) ?_;intro v9 w9 N af cq;obtain⟨A9,c9,rfl⟩:=bZ N;have bn:=H6.out.putL af (by rw[ax.out,FA,List.map_singleton,HV.out];exact N);have f9:=((H6.out.box.alloc _).grown af (fun e=>gZ H6.out.ll H6.out.box ip e.symm)).frozen 1;have e9:=((H6.out.box.alloc _).grown af (fun e=>gZ H6.out.ll H6.out.box ip e.symm)).cell 1;simp only[List.getElem?_toArray,List.getElem?_cons_zero,List.getElem?_cons_succ]at e9;have bS:Hid (Below w w w9):=(pZ (by have:=au.out.size;simp;omega) (BS (Nat.le_of_lt b7) au.out)).grown af (by have:=au.out.size;simp;omega) (fun y hy=>AN ay (Aj H6.out.ll y hy).1);have H9:=hid bn;clear bn N af cq));have cA:Hid (Below w w (w9.setCell ⟨bo,1,none⟩ (.slice A9 (k2+1) c9))):=BS (Nat.le_of_lt b7) bS.out;clear H6 au bS HS HB;go_roundw
     case measure=>exact jq
     case rel=>go_light;exact⟨k2+1,_,_,nj,iw,H9.out,cA.out⟩
    ·obtain rfl:k2=q:=by omega
     have gj:=ig ((k2:Int)<k2);have a4:=ig (k2<k2);obtain⟨A5,c5,rfl⟩:=bZ HS.out.tt;obtain⟨A8,c8,rfl⟩:=bZ HS.out.ll;have b0:=HS.out.box.ia 0;have b1:=HS.out.box.ia 1;have r0:=HS.out.res.ia 0;have r1:=HS.out.res.ia 1;have s0:=HS.out.res.frozen 0;have s1:=HS.out.res.frozen 1;go_wp2_with fail;have bi:SS.take k2=SS:=Cf (by rw[<-HQ.out];exact Ak _);have bg:=HS.out.tt;have a7:=HS.out.ll;rw[bi]at bg a7;have bx:=HS.out.b2;have n1:(Value.slice A5 k2 c5).ownBlock≠some w.heap.size:=gZ bg HS.out.res ip;have n2:(Value.slice A8 k2 c8).ownBlock≠some w.heap.size:=gZ a7 HS.out.res ip;refine Bx (v:= .agg #[.slice A5 k2 c5, .slice A8 k2 c8]) ?_ rfl ⟨_,_,SS.map V,rfl,⟨?_,?_,?_⟩,?_⟩
     ·have e0:=(HS.out.res.set 0 (.slice A5 k2 c5)).cell 0;have e1:=((HS.out.res.set 0 (.slice A5 k2 c5)).set 1 (.slice A8 k2 c8)).cell 1;simp at e0 e1;simp[results,results52,go_sem,e0,e1]
     ·rw[<-ag.out,<-Z.out,<-HQ.out];exact FQ (FQ (kZ bg bx) n1 _) n1 _
     ·rw[<-ag.out,<-Z.out,Bu,<-HQ.out];exact FQ (FQ (kZ a7 bx) n2 _) n2 _
     ·intro i v dp hv hi;rw[<-ag.out,<-Z.out]at hi;rw[Co]at hv hi;cases hs:SS[i]? with
      |none=>rw[hs]at hv;cases hv
      |some s=>rw[hs]at hv hi;injection hv with hv;injection hi with hi;subst hv hi;have hn:=gZ (HS.out.mi.row s) HS.out.res ip;exact FQ (FQ (HS.out.mi.row s) hn _) hn _
     ·exact BS (Ak _) (BS (Ak _) HB.out)
def DY(bound:Nat)(ls:List (List Nat)):List Nat:=ls.flatMap (efO bound)
def ixO(size bound:Nat)(ts:List Str)(ls:List (List Nat)):List Nat:=Ec size ts++DY bound ls
theorem Z5(bound:Nat)(ls:List (List Nat))(k:Nat)(x:List Nat)(h:ls[k]? =some x):DY bound (ls.take (k+1))=DY bound (ls.take k)++efO bound x:=by unfold DY;rw[Cw,h];simp
theorem Ml:∀ (l:List Nat) (i B:Nat),i<=B->(∀x∈l,i<=x/\x<=B)->l.Pairwise (·<= ·)->(EE i l).length+i<=B+l.length
 | [],i,B,hw,_,_=>by simp[EE];exact hw
 |x :: t,i,B,hw,h,hp=>by rw[Gk]at hp;have hx:=h x CP;have ih:=Ml t x B hx.2 (fun y hy=>⟨hp.1 y hy,(h y (Cn _ hy)).2⟩) hp.2;rw[EE,Ag,Kb,AD];omega
theorem Mi:∀ (bound:Nat) (l:List Nat) (u:Option Nat),Cu bound u l=true->l.Pairwise (·<= ·)/\∀y,u=some y->∀x∈l,y<=x
 |_,[],_,_=>⟨List.Pairwise.nil,fun _ _ _ hx=>by cases hx⟩
 |bound,a :: t,u,h=>by
  rw[Cu,Cp]at h;have ih:=Mi bound t (some a) h.2;have ha:∀y,u=some y->y<=a:=fun y hy=>by have h1:=h.1;unfold II at h1;rw[hy,Cp]at h1;have:=h1.2;simp at this;omega
  refine⟨Gk.2 ⟨fun x hx=>ih.2 a rfl x hx,ih.1⟩,fun y hy x hx=> ?_⟩;rcases AO.1 hx with rfl|hx
  ·exact ha y hy
  ·exact AN (ha y hy) (ih.2 a rfl x hx)
theorem dL(hb:bound<=20000)(hm:Cu bound none l=true)(hn:l.length<=bound):(efO bound l).length<=45010:=by
 unfold efO;split
 ·have:=qZ (x:=0) nj;omega
 ·rename_i h0;have h1:1<=l.length:=Gm.2 h0;have hq:1<=bound / l.length:=(Nat.one_le_div_iff nj).2 hn;have hW:efW bound l.length<=14:=by refine KK fun h=> ?_;have h2:2 ^ 15<=2 ^ efW bound l.length:=Cm nj nj;have h3:=Lv (q:=bound / l.length) nj;have h4:bound / l.length<=bound:=Ix _ _;unfold efW at h2;omega
  have E:=qZ (x:=l.length) nj;have i:=Iq (efW bound l.length) l;have G:l.length*efW bound l.length<=20000*14:=Iw nj hW;have z:=Ii bound l none hm;have hp:=(Mi bound l none hm).1;have j:=Ml (l.map (·/ 2 ^ efW bound l.length)) 0 bound nj (fun x hx=>by obtain⟨y,hy,rfl⟩:=CH.1 hx;exact⟨Bf _,AN (Ix _ _) (by have:=z y hy;omega)⟩) (List.Pairwise.map _ (fun a b h=>Nat.div_le_div_right h) hp);rw[Bu]at j;rw[Ag,bytesOf_length];unfold Gf;rw[Ag,i];omega
theorem Ww:∀ (bound:Nat) (l:List Nat) (u:Option Nat),Cu bound u l=true->l.length+(match u with|none=>0|some y=>y+1)<=bound∨l= []
 |_,[],_,_=> .inr rfl
 |bound,a :: t,u,h=>by
  have h':=h;rw[Cu,Cp]at h';have i:=Ii bound (a :: t) u h a CP;have h1:=h'.1;unfold II at h1;rw[Cp]at h1;refine .inl ?_;rcases Ww bound t (some a) h'.2 with ih|ih
  ·simp only at ih;cases u with
   |none=>simp only[List.length_cons];omega
   |some y=>have:=h1.2;simp at this;simp only[List.length_cons];omega
  ·subst ih;cases u with
   |none=>simp only[List.length_cons,List.length_nil];omega
   |some y=>have:=h1.2;simp at this;simp only[List.length_cons,List.length_nil];omega
theorem Oz(h:Cu bound none l=true)(h0:l≠ []):1<=l.length/\l.length<=bound:=by
 have h1:1<=l.length:=Gm.2 h0;rcases Ww bound l none h with h2|h2
 ·exact⟨h1,sI⟩
 ·exact absurd h2 h0
def Iv(bound:Nat)(ls:List (List Nat)):Bool:=ls.all (Cu bound none)
theorem SG(h:Iv bound ls=true)(hx:ls[k]? =some x):Cu bound none x=true:=GE.1 h x (Bp hx)
theorem fK(hb:bound<=20000)(h0:∀l∈ls,l≠ [])(hm:Iv bound ls=true):(DY bound ls).length<=45010*ls.length:=by
 induction ls with
 |nil=>simp[DY]
 |cons x t ih=>unfold Iv at hm ih;rw[List.all_cons,Cp]at hm;have ih:=ih (fun l hl=>h0 l (Cn _ hl)) hm.2;have hx:=dL hb hm.1 (Oz hm.1 (h0 x CP)).2;unfold DY at ih ⊢;rw[CD,Ag,AD];omega
theorem oP{size:Nat}{l:List Str}(hm:GR l=true)(h1:1<=size)(h2:size<=64)(hN:l.length<=20000):(Ec size l).length<=820010:=by have hs:∀s∈l,s.length<=25:=fun s hs=>(JV hm s hs).2;have a:=N6 hs h2 nj (nCh size l.length);have b:=Mg hs h1 (nCh size l.length);have c:=Mq (n:=l.length) h1;have e:Ec size l=hdB size l (nCh size l.length)++bdB size l (nCh size l.length):=Px h1 l;rw[e,Ag];omega
theorem IxAt.step{ts:List Str}(h:IxAt w base vT vL vals ts ls)(hb:Below w w w'):IxAt w' base vT vL vals ts ls:=
 ⟨eZ h.t fun y hy=>hb.block y (Aj h.t y hy).2,eZ h.l fun y hy=>hb.block y (Aj h.l y hy).2,fun i v ids hv hi=>eZ (h.r i v ids hv hi) fun y hy=>hb.block y (Aj (h.r i v ids hv hi) y hy).2⟩
theorem IxAt.len{ts:List Str}(h:IxAt w base vT vL vals ts ls):vals.length=ls.length:=by have:=h.l.1;omega
def CG(wh pl:Bool):List Nat->List Rec->List (List Nat)
 | [],_=> []
 |c :: t,l=>Bm (sZ wh (l.take c)) pl :: CG wh pl t (l.drop c)
def Dm(o:Opt)(l:List Rec):List Nat:=Ij o.block.toNat (Fh false l)
def Bk:List Nat->List Nat->List Nat
 |a :: g,b :: s=>fZ a++(fZ b++Bk g s)
 |_,_=> []
def AU(b:List Nat):List Nat:=b++Bv (Bg b)
def EJ(n:Nat)(G S:List Nat)(x y:Nat):List Nat:=fZ n++(fZ G.length++(Bk G S++(fZ x++fZ y)))
def EI(n:Nat)(G:List Nat)(FS:List (List Nat))(cols idx:List Nat):List Nat:=
 FS.flatten++(AU cols++(AU idx++(AU (EJ n G (FS.map List.length) (AU cols).length (AU idx).length)++CU (AU (EJ n G (FS.map List.length) (AU cols).length (AU idx).length)).length)))
def Ah4(o:Opt)(l:List Rec):List Nat:=ixO o.bucket.toNat l.length (AZ (l.map oZ)) ((AZ (l.map oZ)).map (Cy (l.map oZ)))
def CY(o:Opt)(l:List Rec):List Nat:=EI l.length (Dm o l) (CG false o.plain (Dm o l) l) (DJ l) (Ah4 o l)
theorem Dt(b:List Nat):(AU b).length=b.length+4:=by unfold AU;rw[Ag];rfl
theorem Po{b:List Nat}(h:∀x∈b,x<=255):∀x∈AU b,x<=255:=fun x hx=>by
 rcases BJ.1 hx with hx|hx
 ·exact h x hx
 ·have:=Mx _ x hx;omega
theorem V0:∀ (g s:List Nat) (a b:Nat),g.length=s.length->Bk (g++ [a]) (s++ [b])=Bk g s++(fZ a++fZ b)
 | [],[],a,b,_=>by simp[Bk]
 |x :: g,y :: s,a,b,h=>by rw[Ez,Ez,Bk,V0 g s a b sH,Bk];simp only[List.append_assoc]
 | [],_ :: _,_,_,h=>rY
 |_ :: _,[],_,_,h=>rY
theorem VO{g s:List Nat}{a b:Nat}(ha:g[k]? =some a)(hb:s[k]? =some b):Bk (g.take (k+1)) (s.take (k+1))=Bk (g.take k) (s.take k)++(fZ a++fZ b):=by obtain⟨hk,_⟩:=CQ.1 ha;obtain⟨h,_⟩:=CQ.1 hb;rw[Cw,ha,Cw,hb];exact V0 _ _ a b (by rw[AY,AY];omega)
theorem Ru:∀ (g s:List Nat),(∀x∈g,x<18446744073709551616)->(∀x∈s,x<18446744073709551616)->(Bk g s).length<=20*g.length
 | [],_,_,_=>by simp[Bk]
 |_ :: _,[],_,_=>by simp[Bk]
 |x :: g,y :: s,h1,h2=>by have a:=qZ (h1 x CP);have b:=qZ (h2 y CP);have c:=Ru g s (fun z hz=>h1 z (Cn _ hz)) (fun z hz=>h2 z (Cn _ hz));rw[Bk,Ag,Ag,AD];omega
theorem Ss:∀ (g s:List Nat),∀x∈Bk g s,x<=255
 | [],_,x,h=>by simp[Bk]at h
 |_ :: _,[],x,h=>by simp[Bk]at h
 |a :: g,b :: s,x,h=>by
  rw[Bk]at h;rcases BJ.1 h with h|h
  ·exact Dc _ x h
  ·rcases BJ.1 h with h|h
   ·exact Dc _ x h
   ·exact Ss g s x h
theorem Pk(n:Nat)(G S:List Nat)(x y:Nat):∀z∈EJ n G S x y,z<=255:=fun z h=>by
 unfold EJ at h;simp only[List.mem_append]at h;rcases h with h|h|h|h|h
 ·exact Dc _ z h
 ·exact Dc _ z h
 ·exact Ss _ _ z h
 ·exact Dc _ z h
 ·exact Dc _ z h
theorem On{G S:List Nat}{x y:Nat}(hn:n<=1000000000)(hg:G.length<=1000000000)(h1:∀z∈G,z<=1000000000)(h2:∀z∈S,z<=1000000000)(hx:x<=1000000000)(hy:y<=1000000000):(EJ n G S x y).length<=40+20*G.length:=by have a:=qZ (x:=n) nj;have b:=qZ (x:=G.length) nj;have c:=qZ (x:=x) nj;have d:=qZ (x:=y) nj;have e:=Ru G S (fun z hz=>by have:=h1 z hz;omega) (fun z hz=>by have:=h2 z hz;omega);unfold EJ;simp only[List.length_append];omega
theorem MC(wh pl:Bool):∀ (cs:List Nat) (l:List Rec),(CG wh pl cs l).length=cs.length
 | [],_=>rfl
 |c :: t,l=>by rw[CG,AD,MC wh pl t,AD]
theorem L4(wh pl:Bool):∀ (cs:List Nat) (l:List Rec),(sZ wh l).length<=16000->(CG wh pl cs l).flatten.length<=(sZ wh l).length+25*cs.length
 | [],_,_=>by simp[CG]
 |c :: t,l,h=>by have hs:=zX wh l c;have ih:=L4 wh pl t (l.drop c) nj;have hf:=Vm (bs:=sZ wh (l.take c)) pl nj;rw[CG,List.flatten_cons,Ag,AD];omega
theorem LZ(o:Opt)(l:List Rec):(Dm o l).sum=l.length:=by unfold Dm;rw[Qb,PI]
theorem NU(o:Opt)(l:List Rec):(Dm o l).length<=l.length:=by have:=PW (Na o.block.toNat (Fh false l));rw[Qb,PI]at this;exact this
theorem Ah6:∀ {l:List Nat} {x:Nat},x∈l->x<=l.sum
 |y :: t,x,h=>by
  rw[GC];rcases AO.1 h with rfl|h
  ·omega
  ·have:=Ah6 h;omega
theorem Wi{x:Nat}(h:l[k]? =some x):(l.take (k+1)).sum=(l.take k).sum+x:=by rw[Cw,h];simp
theorem LY(l:List Nat)(k:Nat):(l.take k).sum<=l.sum:=by
 conv=>rhs;rw[<-ER k l]
 rw[Ox];omega
theorem KZ(w:World)(A:Option Addr)(n c:Nat)(ls:List Nat)(hn:ls.length=n)(hN:n<=1000000)(hs:ls.sum<=1000000000000000)(ha:Row w w A n 1 (jZ .i64 ls)):
 Calls prog 64 #[.slice A n c] w fun e w'=>e= .returned (.int .i64 (ls.sum:Nat))/\w'=w:=by
 have HN:=hid hn;obtain⟨R,hR⟩:=ii ls.sum;have HR:=hid hR;rw[<-hR]at hs ⊢;clear hn hR;go_enter func64,ntmps64;go_wp2_with fail;go_loopw [3,8] (fun sv iv wx=>∃k s:Nat,k<=n/\s<=R/\iv= .int .i64 k/\sv= .int .i64 s/\Hid (s=(ls.take k).sum)/\wx=w) (fun _ iv _=>n-(intOf iv).toNat)
 case atStart=>exact⟨0,0,nj,nj,rfl,rfl,rfl,rfl⟩
 case round=>
  obtain⟨k,s,hk,G,rfl,rfl,HS,rfl⟩:=hrel;by_cases j:k<n
  ·have gk:=ic ((k:Int)<n);have y:=ic (k<n);have x0:(0:Int)<=(k:Int):=nj;have x1:(k:Int)<(n:Int):=nj;obtain⟨b,J,x,rfl,_,hx,ck⟩:=CO ha HN.out j;have h:=Wi hx;have i:=LY ls (k+1);rw[h,<-HS.out,<-HR.out]at i;have E:Hid (s+x=(ls.take (k+1)).sum):=(by show _=_;rw[h,HS.out]);have s1:IntKind.i64.wrap ((s:Int)+(x:Int))=((s+x:Nat):Int):=pj;clear h hx HS;go_wp2_with fail;go_roundw
   case measure=>exact jq
   case rel=>go_light;exact⟨k+1,s+x,nj,i,iw,iw,E.out,iz⟩
  ·obtain rfl:k=n:=by omega
   have gk:=ig ((k:Int)<k);have y:=ig (k<k);have z:s=R:=(by rw[HS.out,HR.out,Cf py]);subst z;clear HS HR j;go_wp2_with fail;go_ret;exact⟨rfl,rfl⟩
theorem Ah8(w:World)(A:Option Addr)(n c:Nat)(ls:List Nat)(hn:ls.length=n)(hN:n<=1000000)(hs:ls.sum<=1000000000)(ha:Row w w A n 1 (jZ .i64 ls)):
 Calls prog 64 #[.slice A n c] w fun e w'=>e= .returned (.int .i64 (ls.sum:Nat))/\w'=w:=KZ w A n c ls hn hN nj ha
theorem nF(w:World)(db g cG cS x y base:Nat)(AG AS:Option Addr)(G S:List Nat)(hg:G.length=g)(hs:S.length=g)(bd:g<=20000)(hG:G.sum<=1000000000)(hS:∀z∈S,z<=1000000000)(hx:x<=1000000000)(hy:y<=1000000000)
 (hb:Blk w db 87 #[.slice AG g cG, .slice AS g cS, .int .i64 (x:Nat), .int .i64 (y:Nat)])(ab:Row w base AG g 1 (jZ .i64 G))(au:Row w base AS g 1 (jZ .i64 S))(M:base<=w.heap.size):
 Calls prog 53 #[.pointer (some ⟨db,0,none⟩)] w fun e w'=>∃v,e= .returned v/\w'.ownsRow w 5 1 v (EJ G.sum G S x y).length (dZ .u8 (EJ G.sum G S x y))/\Below w w w':=by
 have DS:=hid (fun wx (h:Below w w wx)=>Ah8 wx AG g cG G hg nj hG (((ab.mono M).below h).mono h.size));have D1:=hid (fun wx=>Gi wx G.sum nj);have D2:=hid (fun wx=>Gi wx g nj);have l1:=qZ (x:=G.sum) nj;have l2:=qZ (x:=g) nj;have ah:EJ G.sum G S x y=fZ G.sum++(fZ g++(Bk G S++(fZ x++fZ y))):=by unfold EJ;rw[hg]
 obtain⟨s,af⟩:=ii G.sum;rw[<-af]at DS D1 l1 hG ah ⊢;have am:=hid ah;have u1:IntKind.u64.wrap (s:Int)=(s:Int):=pm
 have u2:IntKind.u64.wrap (g:Int)=(g:Int):=pm
 have ak:∀z∈G,z<=1000000000:=fun z hz=>AN (Ah6 hz) nj;have a7:=hid ak;have ba:=hid hS;have HG:=hid hg;have HS:=hid hs;have a0:Hid (Row w base AG g 1 (jZ .i64 G)):=ab;have bb:Hid (Row w base AS g 1 (jZ .i64 S)):=au;have ag:=hid hb;have HC:Hid (∀wx,Below w w wx->wx.cell? ⟨db,0,none⟩=some (.slice AG g cG)):=fun wx h=>(hb.step h).cell 0;have be:=hid af;have c0:=hb.ia 0;have bc:=hb.lt;clear hg hs hS ah hb ab au ak af;generalize fZ s=N1 at *;generalize fZ g=N2 at *;have ax:∀a1 a2 a3 a4,BN [(⟨a1,a2,N1⟩:Part),⟨a3,a4,N2⟩]<=1000000:=fun _ _ _ _=>sl
 go_enter func53,ntmps53;go_upto_region 1 with fail;go_cut [3] (fun v wx=>Hid (wx.ownsRow w 5 1 v (N1.length+N2.length) (dZ .u8 (N1++N2)))/\Hid (Below w w wx))
 case first=>
  go_region_held3 (fun wx=>wx.cell? ⟨db,0,none⟩=some (.slice AG g cG)) (first|exact HC.out _ ((Ae _ _).drew)|(refine HC.out _ ?_;(repeat (with_reducible first|exact Ae _ _|assumption|refine Am ?_ |refine below_drewN ?_ _|refine mZ ?_ |refine aZ ?_ |refine cZ im ?_ |refine belA ?_ |refine nZ im ?_)))) (first|(go_at_call 64;(with_reducible refine(DS.out _ sT).mono ?_);rintro e wF ⟨rfl,rfl⟩)|(go_at_call 99;first|((with_reducible refine(D1.out _).mono ?_);rintro e wA ⟨vA,rfl,E,aa⟩;obtain⟨AA,cA,rfl⟩:=bZ E;have PA:Part.Ok (⟨AA,cA,N1⟩:Part) wA:=lZ E rfl)|((with_reducible refine(D2.out _).mono ?_);rintro e wB ⟨vB,rfl,j,Y⟩;obtain⟨AB,cB,rfl⟩:=bZ j;have PB:Part.Ok (⟨AB,cB,N2⟩:Part) wB:=lZ j rfl))|(go_at_call 55;(refine(FK _ _ 2 [(⟨AA,cA,N1⟩:Part),(⟨AB,cB,N2⟩:Part)] rfl nj (ax _ _ _ _) (fun p hp=>by{rcases AO.1 hp with rfl|hp;exact PA.step sT;rcases AO.1 hp with rfl|hp;exact PB.step sT;cases hp}) ir).mono ?_);rintro e w7 ⟨v7,rfl,J,N⟩;obtain⟨A7,c7,rfl⟩:=bZ J;have B7:Below w w w7:=cZ N sT))
  all_goals
   have Q:Hid (w7.ownsRow w 5 1 (.slice A7 (N1.length+N2.length) c7) (N1.length+N2.length) (dZ .u8 (N1++N2))):=(by have h:=kZ J (show w.heap.size<=_ from Below.size sT);simp only[List.flatMap_cons,List.flatMap_nil,List.append_nil,List.length_append]at h;exact h);have U:=hid B7;go_wp2_with fail;go_meet
   case rel=>go_light;exact⟨Q.out,U.out⟩
 case rest=>
  obtain⟨al,ac⟩:=hcut;have ay:=HC.out _ ac.out;clear c0;go_wp2_with fail;have ar:Hid (wc.ownsRow w 5 1 u3 (N1++N2++Bk (G.take 0) (S.take 0)).length (dZ .u8 (N1++N2++Bk (G.take 0) (S.take 0)))):=by have e:N1++N2++Bk (G.take 0) (S.take 0)=N1++N2:=(by simp[Bk]);show World.ownsRow _ _ _ _ _ _ _;rw[e,Ag];exact al.out
  have aj:Hid ((N1++N2++Bk (G.take 0) (S.take 0)).length<=20+20*0):=by show _<=_;simp[Bk];omega
  clear ay al;go_loopw [3,27] (fun ov iv wr=>∃k:Nat,k<=g/\iv= .int .i64 k/\Hid (wr.ownsRow w 5 1 ov (N1++N2++Bk (G.take k) (S.take k)).length (dZ .u8 (N1++N2++Bk (G.take k) (S.take k))))/\Hid ((N1++N2++Bk (G.take k) (S.take k)).length<=20+20*k)/\Hid (Below w w wr)) (fun _ iv _=>g-(intOf iv).toNat)
  case atStart=>exact⟨0,nj,rfl,ar.out,aj.out,ac.out⟩
  case round=>
   obtain⟨k,hk,rfl,HO,HL,HB⟩:=hrel;clear ar aj ac;obtain⟨wi,rfl⟩:=ii wr;have hz:=HB.out.size;by_cases an:k<g
   ·have gk:=ic ((k:Int)<g);have az:=ic (k<g);obtain⟨A3,c3,rfl⟩:=bZ HO.out;have x0:(0:Int)<=(k:Int):=nj;have x1:(k:Int)<(g:Int):=nj;obtain⟨bg,og,n,rfl,bf,hn,cn⟩:=CO (a0.out.keep fun p hp=>HB.out.cell (p:=p) (Ek hp M)) HG.out an;obtain⟨bs,os,z,rfl,bh,ai,cz⟩:=CO (bb.out.keep fun p hp=>HB.out.cell (p:=p) (Ek hp M)) HS.out an;have aw:=a7.out n (Bp hn);have a9:=ba.out z (Bp ai);have aq:=VO hn ai;have DA:=hid (fun wx=>Gi wx n nj);have DB:=hid (fun wx=>Gi wx z nj);have u3:IntKind.u64.wrap (n:Int)=(n:Int):=pm;have u4:IntKind.u64.wrap (z:Int)=(z:Int):=pm;have la:=qZ (x:=n) nj;have lb:=qZ (x:=z) nj;have L:Hid (∀wx,Below wi wi wx->wx.cell? ⟨db,1,none⟩=some (.slice (some ⟨bs,os,none⟩) g cS)/\wx.cell? ⟨bs,os+k,none⟩=some (.int .i64 (z:Nat))):=fun wx h=>⟨((ag.out.step HB.out).step h).cell 1,(h.cell (p:=⟨bs,os+k,none⟩) (by show bs<_;omega)).trans cz⟩;have PO:Hid (∀wx,Below wi wi wx->Part.Ok (⟨A3,c3,N1++N2++Bk (G.take k) (S.take k)⟩:Part) wx):=fun wx hb=>(lZ HO.out rfl).step hb;generalize fZ n=NA at *;generalize fZ z=NB at *;have Z:Hid (N1++N2++Bk (G.take (k+1)) (S.take (k+1))=N1++N2++Bk (G.take k) (S.take k)++(NA++NB)):=(by show _=_;rw[aq];simp only[List.append_assoc]);have a8:=HL.out;generalize N1++N2++Bk (G.take k) (S.take k)=i at *;have ae:∀a1 a2 a3 a4 a5 a6,BN [(⟨a1,a2,i⟩:Part),⟨a3,a4,NA⟩,⟨a5,a6,NB⟩]<=1000000:=fun _ _ _ _ _ _=>by simp[BN];omega
    have c1:=(L.out wi (Ae _ _)).1;clear hn ai aq aw a9;go_upto_region 5 with fail;go_region_held3 (fun wx=>wx.cell? ⟨db,1,none⟩=some (.slice (some ⟨bs,os,none⟩) g cS)/\wx.cell? ⟨bs,os+k,none⟩=some (.int .i64 (z:Nat))) (first|exact L.out _ ((Ae _ _).drew)|(refine L.out _ ?_;(repeat (with_reducible first|exact Ae _ _|assumption|refine Am ?_ |refine below_drewN ?_ _|refine mZ ?_ |refine aZ ?_ |refine cZ im ?_ |refine belA ?_ |refine nZ im ?_)))) (first|(go_at_call 99;first|((with_reducible refine(DA.out _).mono ?_);rintro e wA ⟨vA,rfl,E,aa⟩;obtain⟨AA,cA,rfl⟩:=bZ E;have PA:Part.Ok (⟨AA,cA,NA⟩:Part) wA:=lZ E rfl)|((with_reducible refine(DB.out _).mono ?_);rintro e wB ⟨vB,rfl,j,Y⟩;obtain⟨AB,cB,rfl⟩:=bZ j;have PB:Part.Ok (⟨AB,cB,NB⟩:Part) wB:=lZ j rfl))|(go_at_call 55;(refine(FK _ _ 3 [(⟨A3,c3,i⟩:Part),(⟨AA,cA,NA⟩:Part),(⟨AB,cB,NB⟩:Part)] rfl nj (ae _ _ _ _ _ _) (fun p hp=>by{rcases AO.1 hp with rfl|hp;exact PO.out _ sT;rcases AO.1 hp with rfl|hp;exact PA.step sT;rcases AO.1 hp with rfl|hp;exact PB.step sT;cases hp}) ir).mono ?_);rintro e w7 ⟨v7,rfl,J,N⟩;obtain⟨A7,c7,rfl⟩:=bZ J;have B7:Below wi wi w7:=cZ N sT))
    all_goals
     have Q:Hid (w7.ownsRow w 5 1 (.slice A7 (i.length+(NA.length+NB.length)) c7) (i.length+(NA.length+NB.length)) (dZ .u8 (i++(NA++NB)))):=(by have h:=kZ J (show w.heap.size<=_ from AN hz (Below.size sT));simp only[List.flatMap_cons,List.flatMap_nil,List.append_nil,List.length_append]at h;exact h);have U:Hid (Below w w w7):=xZ B7 hz HB.out;have av:Hid ((i++(NA++NB)).length<=20+20*(k+1)):=(by show _<=_;rw[Ag,Ag];omega);clear J N PA PB B7 HO HB HL PO E j aa Y L cn cz c1;go_wp2_with fail;go_roundw
     case measure=>exact jq
     case rel=>go_light;exact⟨k+1,nj,iw,by rw[Z.out,Ag,Ag];exact Q.out,by rw[Z.out];exact av.out,U.out⟩
   ·obtain rfl:k=g:=by omega
    have gk:=ig ((k:Int)<k);have az:=ig (k<k);have eG:G.take k=G:=Cf (by rw[HG.out];exact Ak _);have eS:S.take k=S:=Cf (by rw[HS.out];exact Ak _);rw[eG,eS]at HO HL;obtain⟨A3,c3,rfl⟩:=bZ HO.out;have DA:=hid (fun wx=>Gi wx x nj);have DB:=hid (fun wx=>Gi wx y nj);have u3:IntKind.u64.wrap (x:Int)=(x:Int):=pm;have u4:IntKind.u64.wrap (y:Int)=(y:Int):=pm;have la:=qZ (x:=x) nj;have lb:=qZ (x:=y) nj;have L:Hid (∀wx,Below wi wi wx->wx.cell? ⟨db,2,none⟩=some (.int .i64 (x:Nat))/\wx.cell? ⟨db,3,none⟩=some (.int .i64 (y:Nat))):=fun wx h=>⟨((ag.out.step HB.out).step h).cell 2,((ag.out.step HB.out).step h).cell 3⟩;have PO:Hid (∀wx,Below wi wi wx->Part.Ok (⟨A3,c3,N1++N2++Bk G S⟩:Part) wx):=fun wx hb=>(lZ HO.out rfl).step hb;generalize fZ x=NA at *;generalize fZ y=NB at *;have a8:=HL.out;have Z:Hid (EJ s G S x y=N1++N2++Bk G S++(NA++NB)):=(by show _=_;rw[am.out];simp only[List.append_assoc]);generalize N1++N2++Bk G S=i at *;have ae:∀a1 a2 a3 a4 a5 a6,BN [(⟨a1,a2,i⟩:Part),⟨a3,a4,NA⟩,⟨a5,a6,NB⟩]<=1000000:=fun _ _ _ _ _ _=>sl
    clear eG eS am;go_upto_region 7 with fail;go_region_held3 (fun wx=>wx.cell? ⟨db,2,none⟩=some (.int .i64 (x:Nat))/\wx.cell? ⟨db,3,none⟩=some (.int .i64 (y:Nat))) (first|exact L.out _ ((Ae _ _).drew)|(refine L.out _ ?_;(repeat (with_reducible first|exact Ae _ _|assumption|refine Am ?_ |refine below_drewN ?_ _|refine mZ ?_ |refine aZ ?_ |refine cZ im ?_ |refine belA ?_ |refine nZ im ?_)))) (first|(go_at_call 99;first|((with_reducible refine(DA.out _).mono ?_);rintro e wA ⟨vA,rfl,E,aa⟩;obtain⟨AA,cA,rfl⟩:=bZ E;have PA:Part.Ok (⟨AA,cA,NA⟩:Part) wA:=lZ E rfl)|((with_reducible refine(DB.out _).mono ?_);rintro e wB ⟨vB,rfl,j,Y⟩;obtain⟨AB,cB,rfl⟩:=bZ j;have PB:Part.Ok (⟨AB,cB,NB⟩:Part) wB:=lZ j rfl))|(go_at_call 55;(refine(FK _ _ 3 [(⟨A3,c3,i⟩:Part),(⟨AA,cA,NA⟩:Part),(⟨AB,cB,NB⟩:Part)] rfl nj (ae _ _ _ _ _ _) (fun p hp=>by{rcases AO.1 hp with rfl|hp;exact PO.out _ sT;rcases AO.1 hp with rfl|hp;exact PA.step sT;rcases AO.1 hp with rfl|hp;exact PB.step sT;cases hp}) ir).mono ?_);rintro e w7 ⟨v7,rfl,J,N⟩;obtain⟨A7,c7,rfl⟩:=bZ J;have B7:Below wi wi w7:=cZ N sT))
    all_goals
     have Q:Hid (w7.ownsRow w 5 1 (.slice A7 (i.length+(NA.length+NB.length)) c7) (i.length+(NA.length+NB.length)) (dZ .u8 (i++(NA++NB)))):=(by have h:=kZ J (show w.heap.size<=_ from AN hz (Below.size sT));simp only[List.flatMap_cons,List.flatMap_nil,List.append_nil,List.length_append]at h;exact h);have U:Hid (Below w w w7):=xZ B7 hz HB.out;clear J N PA PB B7 HO HB HL PO E j aa Y L;go_wp2_with fail;go_ret;exact⟨.slice A7 (i.length+(NA.length+NB.length)) c7,rfl,by rw[Z.out,Ag,Ag];exact Q.out,U.out⟩
theorem eC(w:World)(A:Option Addr)(n c:Nat)(ls:List Nat)(hn:ls.length=n)(hN:n<=1000000)(ha:Row w w A n 1 (jZ .i64 ls)):
 Calls prog 192 #[.slice A n c,ij] w fun e w'=>∃r:Int,e= .returned (.int .i64 r)/\(0<=r↔0∈ls)/\w'=w:=by
 have HN:=hid hn;have H0:Hid (0 ∉ ls.take 0):=by simp[Hid]
 clear hn;go_enter func192,ntmps192;go_wp2_with fail;go_loopw [8] (fun iv wx=>∃k:Nat,k<=n/\iv= .int .i64 k/\Hid (0 ∉ ls.take k)/\wx=w) (fun iv _=>n-(intOf iv).toNat)
 case atStart=>exact⟨0,nj,rfl,H0.out,rfl⟩
 case round=>
  obtain⟨k,hk,rfl,HZ,rfl⟩:=hrel;by_cases j:k<n
  ·have gk:=ic ((k:Int)<n);have y:=ic (k<n);have x0:(0:Int)<=(k:Int):=nj;have x1:(k:Int)<(n:Int):=nj;obtain⟨b,E,x,rfl,_,hx,ck⟩:=CO ha HN.out j;by_cases i:x=0
   ·have gz:((0:Int)==(x:Int))=true:=(by rw[i];rfl);have HF:Hid (0∈ls):=(by show 0∈ls;rw[<-i];exact Bp hx);clear hx i HZ;go_wp2_with fail;go_ret;exact⟨(k:Int),rfl,⟨fun _=>HF.out,fun _=>nj⟩,rfl⟩
   ·have gz:((0:Int)==(x:Int))=false:=by rw[FW];omega
    have z:Hid (0 ∉ ls.take (k+1)):=by
     show ¬_;rw[Cw,hx];intro h;rcases BJ.1 h with h|h
     ·exact HZ.out h
     ·simp at h;exact i h.symm
    clear hx i HZ;go_wp2_with fail;go_roundw
    case measure=>exact jq
    case rel=>go_light;exact⟨k+1,nj,iw,z.out,iz⟩
  ·obtain rfl:k=n:=by omega
   have gk:=ig ((k:Int)<k);have y:=ig (k<k);have HF:Hid (0 ∉ ls):=(by have h:=HZ.out;rw[Cf py]at h;exact h);clear HZ j;go_wp2_with fail;go_ret;exact⟨-1,rfl,⟨fun h=>nj,fun h=>absurd h HF.out⟩,rfl⟩
theorem SM(w:World)(A:Option Addr)(n c:Nat)(ls:List Nat)(hn:ls.length=n)(hN:n<=1000000)(ha:Row w w A n 1 (jZ .i64 ls)):
 Calls prog 115 #[.slice A n c,ij] w fun e w'=>e= .returned (.bool (decide (0∈ls)))/\w'=w:=by
 have D:=hid (eC w A n c ls hn hN ha);clear hn ha;go_enter func115,ntmps115;go_wp2_with fail;refine D.out.mono ?_;rintro e w1 ⟨r,rfl,hr,rfl⟩;have gr:decide ((0:Int)<=r)=decide (0∈ls):=by rw[decide_eq_decide];exact hr
 clear hr;go_wp2_with fail;go_ret;exact⟨rfl,rfl⟩
theorem ZU:(prog.info? 3).map (fun i=>(i.zero,i.size,i.bytes))=some (some (.int .i64 0),1,8):=my
def Pe(w:World)(gb:Nat)(t:TypeId)(rest:List Value)(room:Nat)(ls:List Nat)(e:Ending)(w':World):Prop:=
 e= .returned (.int .i64 (Gb room ls))/\Kept (fun x=>x<w.heap.size/\x≠gb) w w'/\(Gb room ls=0->∃vc vs,Blk w' gb t (vc :: vs :: .int .i64 (dP ls:Nat) :: .int .i64 (dQ ls:Nat) :: rest).toArray/\w'.ownsRow w 3 1 vc (BM ls).length (dZ .i64 (BM ls))/\w'.ownsRow w 3 1 vs (Cc ls).length (dZ .i64 (Cc ls))/\(∀y,vc.ownBlock=some y->vs.ownBlock≠some y))
theorem a0b{p:Prop}(h:p:=by
  have hP:dP ls=AV 8388608 ls at_ er:=(by unfold dP;rw[ab.out]);have bt:dPA ls=uZ 8388608 ls at_ er:=(by unfold dPA;rw[ab.out]);have a9:dPE ls=wZ 8388608 ls at_ er:=(by unfold dPE;rw[ab.out]);have hC:BM ls=C:=(by unfold BM;rw[ab.out]);have hS:Cc ls=S:=(by unfold Cc;rw[ab.out]);have D3:=hid (fun wx hx=>DI.out wx g B d at_ er 8388608 nj hx);rw[<-hP,<-bt,<-a9]at D3;have D4:=hid (fun wx hx=>DI.out wx g B d (dPA ls) (dPE ls) 8388608 nj hx);rw[show AV 8388608 ls (dPA ls) (dPE ls)=dQ ls from rfl]at D4;have D5:=hid (fun wx hx=>a3.out wx g B d (uZ 8388608 ls (dPA ls) (dPE ls)) (wZ 8388608 ls (dPA ls) (dPE ls)) hx);rw[show Hh ls (uZ 8388608 ls (dPA ls) (dPE ls)) (wZ 8388608 ls (dPA ls) (dPE ls))=dE ls from rfl]at D5;have cl:dP ls<=8388608:=(by rw[hP];exact aj.out _ _ _);have ca:dQ ls<=8388608:=aj.out _ _ _;have hr:=HR.out;unfold Gb at hr;rw[hC,hS]at hr;have cd:=hid hC;have ce:=hid hS;have a8:∀x∈C,x<=rec:=fun x hx=>by have h:=a5.out.1 x (show x∈BM ls by rw[hC];exact hx);rw[aa.out];exact h
  have bg:∀x∈S,x<=8388608:=fun x hx=>a5.out.2 x (show x∈Cc ls by rw[hS];exact hx);have bd:C.length<=20000:=(by rw[au.out];omega);have bl:S.length<=20000:=(by rw[a6.out];omega);have ba:C.sum<=1000000000000000:=AN (K8 C rec a8) (AN (Iw bd az) ip);have co:S.sum<=500000000000000:=AN (K8 S 8388608 bg) (AN (GB _ bl) ip);rw[<-aa.out]at hr;obtain⟨P,an⟩:=ii (dP ls);obtain⟨Q,al⟩:=ii (dQ ls);obtain⟨E,hE2⟩:=ii (dE ls);rw[<-an]at D3 cl hr;rw[<-al]at D4 ca hr;have b8:=hid an.symm;have b7:=hid al.symm;rw[<-hE2]at D5 hr;generalize dPA ls=pa at *;generalize dPE ls=pe at *;generalize uZ 8388608 ls pa pe=qa at *;generalize wZ 8388608 ls pa pe=qe at *;obtain⟨k2,J⟩:=ii C.length;obtain⟨k3,Y⟩:=ii S.length;have i:=HI.out.oc;have N:=HI.out.os;rw[<-J]at i bd;rw[<-Y]at N bl;obtain⟨Ac,cc,rfl⟩:=bZ i;obtain⟨As,cs,rfl⟩:=bZ N;have bi:=hid J;have bn:=hid Y;have M:=hid hr;have bC:=hid (fun wx (h:wx.ownsRow w 3 1 (.slice Ac k2 cc) k2 (dZ .i64 C))=>SM wx Ac k2 cc C J.symm nj (Ah0 h J.symm));have av:=hid (fun wx (h:wx.ownsRow w 3 1 (.slice Ac k2 cc) k2 (dZ .i64 C))=>KZ wx Ac k2 cc C J.symm nj ba (Ah0 h J.symm));have aw:=hid (fun wx (h:wx.ownsRow w 3 1 (.slice As k3 cs) k3 (dZ .i64 S))=>KZ wx As k3 cs S Y.symm nj nj (Ah0 h Y.symm));obtain⟨CS,ar⟩:=ii C.sum;obtain⟨SS,am⟩:=ii S.sum;rw[<-ar]at av ba;rw[<-am]at aw co;have bh:=hid ar;have bc:=hid am;clear hP bt a9 hC hS hr HR ab a8 bg an al hE2 J Y ar am i N cu a5 aa aj DI a3 ax bk au a6;go_wp2_with fail;refine(D3.out _ HI.out.cur).mono ?_;rintro e w5 ⟨rfl,ai,ac⟩;have G:=HI.out.call ai ac;have b2:=G.blk.ia 2;have f2:=G.blk.frozen 2;have aq:Hid (DrI w (w5.setCell ⟨gb,2,none⟩ (.int .i64 (P:Nat))) gb t (.int .i64 (P:Nat) :: x3 :: rest) g ls B d pa pe C S (.slice Ac C.length cc) (.slice As S.length cs)):=(by rw[<-bi.out,<-bn.out];exact G.third);clear ai ac G D3 HI;go_wp2_with fail;refine(D4.out _ aq.out.cur).mono ?_;rintro e w6 ⟨rfl,bp,bj⟩;have L:=aq.out.call bp bj;have b3:=L.blk.ia 3;have f3:=L.blk.frozen 3;have af:=hid (L.fourth (u:= .int .i64 (Q:Nat)));clear bp bj L D4 aq b2 f2;go_wp2_with fail;refine(D5.out _ af.out.cur).mono ?_;rintro e w7 ⟨rfl,bm,Z⟩;have j:=af.out.call bm ⟨Z.os,Z.tape,Z.output,Z.size,fun x hx=>Z.block x hx.2⟩;have z:=hid j;clear bm Z D5 af b3 f3;by_cases hE:E=0
  ·subst hE;have hr:=M.out;rw[Aa (show ¬((0:Int)≠0) from fun h=>h rfl)]at hr;have c0:=j.blk.ia 0;have c1:=j.blk.ia 1;have c2:=j.blk.ia 2;have c3:=j.blk.ia 3;have i:=j.oc;have N:=j.os;rw[<-bi.out]at i c0;rw[<-bn.out]at N c1;have E0:Hid (∀q,Calls prog 115 #[.slice Ac k2 cc,ij] (w7.drewN q) fun e w'=>e= .returned (.bool (decide (0∈C)))/\w'=w7.drewN q):=fun q=>bC.out _ (eZ i (fun y _=>rfl));have E1:Hid (∀q,Calls prog 64 #[.slice Ac k2 cc] (w7.drewN q) fun e w'=>e= .returned (.int .i64 (CS:Nat))/\w'=w7.drewN q):=fun q=>av.out _ (eZ i (fun y _=>rfl));have E2:Hid (∀q,Calls prog 64 #[.slice As k3 cs] (w7.drewN q) fun e w'=>e= .returned (.int .i64 (SS:Nat))/\w'=w7.drewN q):=fun q=>aw.out _ (eZ N (fun y _=>rfl));clear j i N bC av aw;by_cases hz:0∈C
   ·have HF:Hid (R=2):=(by rw[Ab (.inl hz)]at hr;exact hr);rw[Bd hz]at E0;clear hz hr M;go_wp2_with fail;go_quiet (first|(go_at_call 115;(with_reducible exact C9 (E0.out _)))|(go_at_call 64;first|(with_reducible exact C9 (E1.out _))|(with_reducible exact C9 (E2.out _))));go_wp2_with fail;go_ret;rw[HF.out];exact⟨rfl,z.out.kept.drewN _,fun h=>absurd h ip⟩
   ·rw[Be hz]at E0;by_cases h2:CS=rec
    ·have gn:((CS:Int) != (rec:Int))=false:=(by rw[h2];simp);have s1:IntKind.i64.wrap ((SS:Int)+(P:Int))=((SS+P:Nat):Int):=pj;have s2:IntKind.i64.wrap (((SS+P:Nat):Int)+(Q:Int))=((SS+P+Q:Nat):Int):=pj;have bf:IntKind.i64.wrap ((SS:Int)+(P:Int)+(Q:Int))=((SS+P+Q:Nat):Int):=pj;by_cases h3:SS+P+Q=U
     ·have g3:(((SS+P+Q:Nat):Int) != (U:Int))=false:=by rw[h3];simp
      have HF:Hid (R=0):=by
       rw[Aa (fun h=>by
        rcases h with h|h|h
        ·exact hz h
        ·exact h nx
        ·exact h nw)]at hr
       exact hr
      obtain⟨TT,ae⟩:=ii (SS+P+Q);rw[<-ae]at s2 bf g3;clear hz h2 h3 ae hr M;go_wp2_with fail;go_quiet (first|(go_at_call 115;(with_reducible exact C9 (E0.out _)))|(go_at_call 64;first|(with_reducible exact C9 (E1.out _))|(with_reducible exact C9 (E2.out _))));go_wp2_with fail;go_ret;rw[HF.out,b8.out,b7.out,cd.out,ce.out];exact⟨rfl,z.out.kept.drewN _,fun _=>⟨_,_,z.out.blk.drewN _,eZ z.out.oc (fun y _=>rfl),eZ z.out.os (fun y _=>rfl),z.out.ap⟩⟩
     ·have g3:(((SS+P+Q:Nat):Int) != (U:Int))=true:=qr;have HF:Hid (R=2):=ow;obtain⟨TT,ae⟩:=ii (SS+P+Q);rw[<-ae]at s2 bf g3;clear hz h2 h3 ae hr M;go_wp2_with fail;go_quiet (first|(go_at_call 115;(with_reducible exact C9 (E0.out _)))|(go_at_call 64;first|(with_reducible exact C9 (E1.out _))|(with_reducible exact C9 (E2.out _))));go_wp2_with fail;go_ret;rw[HF.out];exact⟨rfl,z.out.kept.drewN _,fun h=>absurd h ip⟩
    ·have gn:((CS:Int) != (rec:Int))=true:=qr;have HF:Hid (R=2):=ou;clear hz h2 hr M;go_wp2_with fail;go_quiet (first|(go_at_call 115;(with_reducible exact C9 (E0.out _)))|(go_at_call 64;first|(with_reducible exact C9 (E1.out _))|(with_reducible exact C9 (E2.out _))));go_wp2_with fail;go_ret;rw[HF.out];exact⟨rfl,z.out.kept.drewN _,fun h=>absurd h ip⟩
  ·have gE:(E != 0)=true:=(by simpa using hE);have HF:Hid (R=E):=(by have h:=M.out;rw[Ab hE]at h;exact h);have cf:=hid hE;clear hE M j;go_wp2_with fail;go_ret;rw[HF.out];exact⟨rfl,z.out.kept,fun h=>absurd h cf.out⟩):p:=h
theorem ZJ(w:World)(gb:Nat)(t:TypeId)(x2 x3:Value)(rest:List Value)(A:Option Addr)(m c U:Nat)(ls:List Nat)(hB:Blk w gb t (.slice none 0 0 :: .slice none 0 0 :: x2 :: x3 :: rest).toArray)(cm:3≠t)(df:5≠t)(hm:ls.length=m)(cT:m<=100000)(h8:∀x∈ls,x<=255)(b4:A=none->m=0/\c=0)(ha:Row w w A m 1 (jZ .u8 ls)):
 Calls prog 57 #[.pointer (some ⟨gb,0,none⟩), .slice A m c, .int .i64 (U:Nat)] w (Pe w gb t rest U ls):=by
 obtain⟨j0,cX,cL,cH,cC⟩:=info_parts ZU;have D0:=hid (Ab7 w A m c ls hm cT b4 ha);have b0:ls.length<=100000:=nj
 have DI:=hid (fun wx g B d at_ er most (hm:most<=1000000000) h=>GO wx g w ls B d at_ er most b0 h8 hm h);have ax:=hid (fun wx g B d at_ er h=>Dn wx g w ls B d at_ er h);have a3:=hid (fun wx g B d at_ er h=>U4 wx g w ls B d at_ er h);obtain⟨R,hR⟩:=ii (Gb U ls);unfold Pe;rw[<-hR];have az:Db ls<=20000:=zY h8 _ _;have ct:Gu ls<=20000:=AN (zY h8 _ _) az;have aj:Hid (∀ (most a:Nat) (er:Int),AV most ls a er<=most):=fun most a er=>zY h8 a er;have cE:=Ms (rec:=Db ls) (ls:=ls) (Gu ls) (uZ (Db ls) ls (uZ 20000 ls 0 0) (wZ 20000 ls 0 0)) (wZ (Db ls) ls (uZ 20000 ls 0 0) (wZ 20000 ls 0 0)) [] [] rfl;have cF:=PK (rec:=Db ls) h8 (Gu ls) (uZ (Db ls) ls (uZ 20000 ls 0 0) (wZ 20000 ls 0 0)) (wZ (Db ls) ls (uZ 20000 ls 0 0) (wZ 20000 ls 0 0)) [] [] (fun x hx=>by simp at hx) (fun x hx=>by simp at hx);have cu:=hid cE;have a5:=hid cF;have HR:=hid hR;have cS:=hid hB;have cA:=hB.lt;clear hm h8 b4 ha hR hB cE cF cT b0;go_enter func57,ntmps57;go_wp2_with fail;refine D0.out.mono ?_;rintro e w1 ⟨g,B,d,rfl,cq,ci⟩;have c8:=hid ci;have cw:=hid cq;have dh:=cq.lo;have dl:=ci.size;clear cq ci D0;go_wp2_with fail;refine(DI.out _ g B d 0 0 20000 nj cw.out).mono ?_;rintro e w2 ⟨rfl,cy,J⟩;have cP:=hid cy;have b5:Hid (Below w w w2):=c8.out.trans (J.below fun b h=>⟨nj,nj⟩);obtain⟨rec,ag⟩:=ii (Db ls);have aa:=hid ag;rw[<-ag]at az;rw[show AV 20000 ls 0 0=rec from ag.symm];clear cy J c8 cw ag;go_wp2_with fail;refine(DI.out _ g B d _ _ rec nj cP.out).mono ?_;rintro e w3 ⟨rfl,c5,Y⟩;obtain⟨nb,bN⟩:=ii (Gu ls);have de:=hid bN;rw[<-bN]at ct;rw[show AV rec ls (uZ 20000 ls 0 0) (wZ 20000 ls 0 0)=nb by rw[bN,aa.out];rfl];have cp:Hid (Below w w w3):=b5.out.trans (Y.below fun b h=>⟨by have:=b5.out.size;omega,nj⟩);have c4:=hid (cS.out.below cp.out cA);have cM:Hid (DrI w w3 gb t (x2 :: x3 :: rest) g ls B d (uZ rec ls (uZ 20000 ls 0 0) (wZ 20000 ls 0 0)) (wZ rec ls (uZ 20000 ls 0 0) (wZ 20000 ls 0 0)) [] [] (.slice none 0 0) (.slice none 0 0)):=⟨c5,c4.out,AI _ _ _ _,AI _ _ _ _,(fun y h=>by cases h),Kept.of_below cp.out (fun x hx=>hx.1),cA,cm,df⟩;have cO:Hid (Fe rec ls (nb-0) (uZ rec ls (uZ 20000 ls 0 0) (wZ 20000 ls 0 0)) (wZ rec ls (uZ 20000 ls 0 0) (wZ 20000 ls 0 0)) [] []=GQ ls):=by show _=_;rw[aa.out,de.out];rfl
 generalize uZ rec ls (uZ 20000 ls 0 0) (wZ 20000 ls 0 0)=a0 at *;generalize wZ rec ls (uZ 20000 ls 0 0) (wZ 20000 ls 0 0)=e0 at *;clear c5 Y cP b5 cp c4 cS bN;go_wp2_with fail;go_loopw [10] (fun iv wr=>∃ (k at_:Nat) (er:Int) (C S:List Nat) (vc vs:Value),k<=nb/\iv= .int .i64 k/\Hid (C.length=k)/\Hid (S.length=k)/\Hid (DrI w wr gb t (x2 :: x3 :: rest) g ls B d at_ er C S vc vs)/\Hid (Fe rec ls (nb-k) at_ er C S=GQ ls)) (fun iv _=>nb-(intOf iv).toNat)
 case atStart=>exact⟨0,a0,e0,[],[],_,_,nj,rfl,rfl,rfl,cM.out,cO.out⟩
 case round=>
  obtain⟨k,at_,er,C,S,vc,vs,hk,rfl,au,a6,HI,HG⟩:=hrel;clear cM cO;have zr:=HI.out.kept.size;by_cases bq:k<nb/\er=0
  ·obtain⟨bO,rfl⟩:=bq;have gk:=ic ((k:Int)<nb);have cG:=ic (k<nb);have hG:=HG.out;rw[show nb-k=(nb-(k+1))+1 by omega,Fe,Aa (show ¬((0:Int)≠0) from fun h=>h rfl)]at hG;have bk:=hid (ax.out _ _ _ _ _ _ HI.out.cur);have dm:=aj.out rec at_ 0;have D1:=hid (fun wx hx=>DI.out wx g B d at_ 0 rec nj hx);have D2:=hid (fun wx hx=>DI.out wx g B d (uZ rec ls at_ 0) (wZ rec ls at_ 0) 8388608 nj hx);have dk:=aj.out 8388608 (uZ rec ls at_ 0) (wZ rec ls at_ 0);generalize AV 8388608 ls (uZ rec ls at_ 0) (wZ rec ls at_ 0)=s at *;generalize uZ 8388608 ls (uZ rec ls at_ 0) (wZ rec ls at_ 0)=a2 at *;generalize wZ 8388608 ls (uZ rec ls at_ 0) (wZ rec ls at_ 0)=e2 at *;generalize AV rec ls at_ 0=r at *;generalize uZ rec ls at_ 0=a1 at *;generalize wZ rec ls at_ 0=e1 at *;have dc:=hid hG;have c0:=HI.out.cs.1;obtain⟨Ac,cc,rfl⟩:=bZ HI.out.oc;obtain⟨p,hp⟩:=ii C.length;have da:p=k:=(by rw[hp,au.out]);rw[<-hp]at c0;have HP:=hid hp;have i:=HI.out.oc;rw[<-hp]at i;have dd:=hid i;clear hG HG hp i da;go_wp2_with fail;refine bk.out.mono ?_;rintro e w4 ⟨rfl,rfl⟩;have da:p<=k:=(by rw[HP.out,au.out];exact Ak _);go_upto_region 7 with fail;go_region_law(first|(go_simp;go_at_call 112;(with_reducible refine(D1.out _ HI.out.cur.drew).mono ?_);rintro e w5 ⟨rfl,ai,ac⟩;have G:=HI.out.call ai ⟨ac.os,ac.tape,ac.output,ac.size,ac.block⟩;have q0:=G.cs.1;rw[<-HP.out]at q0;have ay:=G.oc;rw[<-HP.out]at ay;have z5:=G.kept.size;have q9:=(G.blk.alloc (.cells #[.int .i64 (r:Nat)] 3)).cell 0;simp only[List.getElem?_toArray,List.getElem?_cons_zero,<-HP.out]at q9)|(refine TO rfl (.tmp 33) (.tmp 37) 37 rfl w 3 j0 _ 1 8 underlying37 cX cL cH cC rfl ip (.slice Ac p cc) p (dZ .i64 C) nm (by first|exact ay.alloc _|exact(ay.alloc _).drew) _ 1 1 [.int .i64 (r:Nat)] nm (Src.of_blk (Blk.made_at _ _ _ rX) 1 1 1 rfl) mp sS nj sj ?_;intro A6 c6 w6 bx cj bS;have b6:=(G.blk.alloc (.cells #[.int .i64 (r:Nat)] 3)).grown cj (by rw[HP.out];exact Ba (gZ G.oc G.blk cm));have r0:=b6.cell 0;have s0:=b6.frozen 0;simp only[List.getElem?_toArray,List.getElem?_cons_zero,<-HP.out]at r0))
   all_goals
    have L:=G.count (x:=r) (aZ (o:= .cells #[.int .i64 (r:Nat)] 3) (Ae w5 w5)) (by rw[<-HP.out];exact cj) (by rw[<-HP.out];exact bx) (by rw[<-HP.out];exact bS);have af:=hid L;obtain⟨As,cs,rfl⟩:=bZ L.os;obtain⟨p2,be⟩:=ii S.length;have di:p2<=k:=(by rw[be,a6.out];exact Ak _);have bu:=L.os;rw[<-be]at bu;have cv:=hid bu;have d1:=L.cs.2;rw[<-be]at d1;have ak:=hid be;have z6:=L.kept.size;clear G L ai ac bx cj bS b6 r0 s0 q0 q9 ay bu be HI c0 D1 dd;generalize w6.setCell ⟨gb,0,none⟩ (.slice A6 (p+1) c6)=w7 at *;go_upto_region 8 with fail;go_region_law(first|(go_simp;go_at_call 112;refine(D2.out _ af.out.cur.drew).mono ?_;rintro e w8 ⟨rfl,c7,a7⟩;have ah:=af.out.call c7 ⟨a7.os,a7.tape,a7.output,a7.size,a7.block⟩;have q0:=ah.cs.2;rw[<-ak.out]at q0;have a4:=ah.os;rw[<-ak.out]at a4;have z8:=ah.kept.size;have q9:=(ah.blk.alloc (.cells #[.int .i64 (s:Nat)] 3)).cell 1;simp only[List.getElem?_toArray,List.getElem?_cons_zero,List.getElem?_cons_succ,<-ak.out]at q9)|(refine TO rfl (.tmp 45) (.tmp 48) 37 rfl w 3 j0 _ 1 8 underlying37 cX cL cH cC rfl ip (.slice As p2 cs) p2 (dZ .i64 S) nm (by first|exact a4.alloc _|exact(a4.alloc _).drew) _ 1 1 [.int .i64 (s:Nat)] nm (Src.of_blk (Blk.made_at _ _ _ rX) 1 1 1 rfl) mp sS nj sj ?_;intro A9 c9 w9 bb cg b1;have b9:=(ah.blk.alloc (.cells #[.int .i64 (s:Nat)] 3)).grown cg (by rw[ak.out];exact Ba (gZ ah.os ah.blk cm));have r0:=b9.cell 1;have s0:=b9.frozen 1;simp only[List.getElem?_toArray,List.getElem?_cons_zero,List.getElem?_cons_succ,<-ak.out]at r0))
    all_goals
     have cz:=ah.size (x:=s) (aZ (o:= .cells #[.int .i64 (s:Nat)] 3) (Ae w8 w8)) (by rw[<-ak.out];exact cg) (by rw[<-ak.out];exact bb) (by rw[<-ak.out];exact b1);have dg:=hid cz;have cB:Hid ((C++ [r]).length=k+1):=(by show _=_;rw[Ag,au.out];rfl);have cr:Hid ((S++ [s]).length=k+1):=(by show _=_;rw[Ag,a6.out];rfl);clear ah cz c7 a7 bb cg b1 b9 r0 s0 q0 q9 a4 af cv d1;generalize w9.setCell ⟨gb,1,none⟩ (.slice A9 (p2+1) c9)=dj at *;go_wp2_with fail;go_roundw
     case measure=>exact jq
     case rel=>go_light;exact⟨k+1,a2,e2,C++ [r],S++ [s], .slice A6 (p+1) c6, .slice A9 (p2+1) c9,nj,iw,cB.out,cr.out,dg.out,dc.out⟩
  ·have ab:Hid (GQ ls=(C,S,at_,er)):=by
    have h:=HG.out;by_cases bO:k<nb
    ·rw[nN (fun h=>bq ⟨bO,h⟩)]at h;exact h.symm
    ·rw[show nb-k=0 by omega,Fe]at h;exact h.symm
   have bk:=hid (ax.out _ _ _ _ _ _ HI.out.cur);clear HG;by_cases bO:k<nb
   ·have gk:=ic ((k:Int)<nb);have cG:=ic (k<nb);have cx:er≠0:=fun h=>bq ⟨bO,h⟩;have gE:(er==0)=false:=(by simpa using cx);clear bq cx;go_wp2_with fail;refine bk.out.mono ?_;rintro e w4 ⟨rfl,rfl⟩;exact a0b
   ·have gk:=ig ((k:Int)<nb);have cG:=ig (k<nb);clear bq;obtain⟨w4,rfl⟩:=ii wr;exact a0b
structure MSt (base db:Nat) (vG pv vS:Value) (ps:List Part) (W:World):Prop where
 dir:Blk W db 87 #[vG,vS,ij,ij]
 pr:W.ownsRow base 28 1 pv ps.length (ps.map Part.v)
 fr:FrsAt W base ps
 sr:W.ownsRow base 3 1 vS ps.length (dZ .i64 (ps.map fun p=>p.ls.length))
 gb:base<=db
section
variable {base db:Nat} {vG pv vS pv' vS':Value} {ps:List Part} {W w' w8 w9:World} {p:Part} {o1 o2:Obj}
theorem MSt.step(h:MSt base db vG pv vS ps W)(b:Below W W w'):MSt base db vG pv vS ps w':=
 ⟨h.dir.step b,eZ h.pr fun y hy=>b.block y (Aj h.pr y hy).2,h.fr.step b,eZ h.sr fun y hy=>b.block y (Aj h.sr y hy).2,h.gb⟩
theorem MSt.mid(h:MSt base db vG pv vS ps W)(g8:(W.alloc o1).grownBy w8 pv.ownBlock):Blk w8 db 87 #[vG,vS,ij,ij]/\w8.ownsRow base 3 1 vS ps.length (dZ .i64 (ps.map fun p=>p.ls.length)):=
 ⟨(h.dir.alloc o1).grown g8 (Ba (gZ h.pr h.dir ip)),Gv (h.sr.alloc o1) (h.pr.alloc o1) ip g8⟩
theorem MSt.round(h:MSt base db vG pv vS ps W)(hp:W.ownsRow base 5 1 p.v p.ls.length (dZ .u8 p.ls))(g8:(W.alloc o1).grownBy w8 pv.ownBlock)(o8:w8.ownsRow base 28 1 pv' (ps.length+1) (ps.map Part.v++ [p.v]))
 (g9:(w8.alloc o2).grownBy w9 vS.ownBlock)(o9:w9.ownsRow base 3 1 vS' (ps.length+1) (dZ .i64 (ps.map fun p=>p.ls.length)++ [.int .i64 (p.ls.length:Nat)])):
 MSt base db vG pv' vS' (ps++ [p]) (w9.setCell ⟨db,1,none⟩ vS')/\Below base W (w9.setCell ⟨db,1,none⟩ vS'):=by
 obtain⟨d8,s8⟩:=h.mid g8;have d9:Blk w9 db 87 #[vG,vS,ij,ij]:=(d8.alloc o2).grown g9 (Ba (gZ s8 d8 ip));have i:=Gv (hp.alloc o1) (h.pr.alloc o1) ip g8;have E:=Gv (i.alloc o2) (s8.alloc o2) ip g9;have f8:FrsAt w8 base ps:=(h.fr.step (aZ (Ae _ _))).grown (h.pr.alloc o1) g8;have f9:FrsAt w9 base ps:=fun q hq=>Gv ((f8 q hq).alloc o2) (s8.alloc o2) ip g9;have z:=Gv (o8.alloc o2) (s8.alloc o2) ip g9;have hB:base<=W.heap.size:=by have:=h.dir.lt;have:=h.gb;omega
 have far:∀ {s n:Nat} {e:TypeId} {v:Value} {xs:List Value},w9.ownsRow base e s v n xs->e≠87->(w9.setCell ⟨db,1,none⟩ vS').ownsRow base e s v n xs:=fun ho hne=>eZ ho fun y hy=>AW _ _ _ y fun e=>gZ ho d9 hne rh;refine⟨⟨by simpa using d9.set 1 vS',?_,fun q hq=> ?_,?_,h.gb⟩,?_⟩
 ·rw[Ag,FA];exact far z ip
 ·rcases BJ.1 hq with hq|hq
  ·exact far (f9 q hq) ip
  ·rw[Eo.1 hq];exact far E ip
 ·have e1:dZ .i64 ((ps++ [p]).map fun p=>p.ls.length)=dZ .i64 (ps.map fun p=>p.ls.length)++ [.int .i64 (p.ls.length:Nat)]:=by simp[dZ]
  rw[Ag,e1];exact far o9 ip
 ·have j:base<=w8.heap.size:=AN hB (AN rX g8.size);exact((((Ae base W).alloc hB _).grown g8 sj fun y hy=>(Aj h.pr y hy).1).alloc j _ |>.grown g9 sj fun y hy=>(Aj s8 y hy).1).setCell (p:=⟨db,1,none⟩) h.gb _
theorem MSt.stores(h:MSt base db vG pv vS ps W)(x y:Value):
 Blk ((W.setCell ⟨db,2,none⟩ x).setCell ⟨db,3,none⟩ y) db 87 #[vG,vS,x,y]/\Below base W ((W.setCell ⟨db,2,none⟩ x).setCell ⟨db,3,none⟩ y)/\
  ∀ {b s n:Nat} {e:TypeId} {v:Value} {xs:List Value},W.ownsRow b e s v n xs->e≠87->((W.setCell ⟨db,2,none⟩ x).setCell ⟨db,3,none⟩ y).ownsRow b e s v n xs:=by
 refine⟨by simpa using (h.dir.set 2 x).set 3 y,((Ae base W).setCell (p:=⟨db,2,none⟩) h.gb _).setCell (p:=⟨db,3,none⟩) h.gb _,fun ho hne=> ?_⟩;refine eZ ho fun z hz=> ?_;have hd:z≠db:=fun e=>gZ ho h.dir hne (by rw[hz,e]);exact(AW _ _ _ z hd).trans (AW _ _ _ z hd)
end
theorem Sj:∀ (l:List Str) (i:Str),(∀s∈l,i<s)->(∀s∈l,1<=s.length/\s.length<=25)->Fx l->Dx i l=true
 | [],_,_,_,_=>rfl
 |s :: t,i,h,hs,hr=>by obtain⟨h1,h2⟩:=Gk.1 hr;rw[Dx,Cp];refine⟨?_,Sj t s h1 (fun x hx=>hs x (Cn _ hx)) h2⟩;unfold EL;rw[Cp,Cp,decide_eq_true_iff,decide_eq_true_iff,decide_eq_true_iff];exact⟨(hs s CP).1,(hs s CP).2,h s CP⟩
theorem R8{l:List Rec}{s:Str}(h:s∈AZ (l.map oZ)):1<=s.length/\s.length<=25:=by obtain⟨t,ht,hs⟩:=(Uf s _).1 h;obtain⟨r,_,rfl⟩:=CH.1 ht;exact RQ hs
theorem KW{l:List Rec}(h:(AZ (l.map oZ)).length<=1048576):GR (AZ (l.map oZ))=true:=by
 unfold GR;rw[Cp];refine⟨Sj _ _ (fun s hs=> ?_) (fun s hs=>R8 hs) (WN _),Bd h⟩;have:=(R8 hs).1;cases s with
 |nil=>simp at this
 |cons x t=>exact List.nil_lt_cons x t
theorem bY(ts:List (List Str))(u:Str):Cu ts.length none (Cy ts u)=true:=by
 refine Pr _ _ none (fun x hx=> ?_) ?_ (fun y hy=>by cases hy)
 ·unfold Cy at hx;exact Gl.1 (List.mem_filter.1 hx).1
 ·unfold Cy;exact List.Pairwise.filter _ List.pairwise_lt_range
theorem L8(l:List Rec):Iv l.length ((AZ (l.map oZ)).map (Cy (l.map oZ)))=true/\∀x∈(AZ (l.map oZ)).map (Cy (l.map oZ)),x≠ []/\x.length<=l.length:=by
 refine⟨GE.2 fun x hx=> ?_,fun x hx=> ?_⟩
 ·obtain⟨u,_,rfl⟩:=CH.1 hx;have:=bY (l.map oZ) u;rw[Bu]at this;exact this
 ·obtain⟨u,hu,rfl⟩:=CH.1 hx;have h2:=NX (l.map oZ) u;rw[Bu]at h2;exact⟨(Ps _ u).1 hu,h2⟩
theorem VS(s:Str):∀x∈Dy s,x<=255:=fun x h=>by
 unfold Dy Is at h;rcases BJ.1 h with h|h
 ·exact Dc _ x h
 ·obtain⟨c,_,rfl⟩:=CH.1 h;have:=c.toNat_lt;omega
theorem VI:∀ (t:List Str) (i:Str),∀x∈EM i t,x<=255
 | [],_,x,h=>by simp[EM]at h
 |s :: t,i,x,h=>by
  rw[EM]at h;simp only[List.mem_append]at h;rcases h with (h|h)|h
  ·exact Dc _ x h
  ·exact VS _ x h
  ·exact VI t s x h
theorem dB(l:List Str):∀x∈vZ l,x<=255:=fun x h=>by
 cases l with
 |nil=>simp[vZ]at h
 |cons s t=>
  rw[vZ]at h;rcases BJ.1 h with h|h
  ·exact VS _ x h
  ·exact VI t s x h
theorem Zu(size:Nat)(l:List Str):∀x∈Ec size l,x<=255:=fun x h=>by
 unfold Ec at h;simp only[List.mem_append,List.mem_flatMap]at h;rcases h with (h|⟨c,_,h⟩)|⟨c,_,h⟩
 ·exact Dc _ x h
 ·exact Dc _ x h
 ·exact dB _ x h
theorem iQ(bound:Nat)(l:List Nat):∀x∈efO bound l,x<=255:=fun x h=>by
 unfold efO at h;split at h
 ·exact Dc _ x h
 ·rcases BJ.1 h with h|h
  ·exact Dc _ x h
  ·obtain⟨k,_,rfl⟩:=CH.1 h;exact LI _ k
theorem Wc(o:Opt)(l:List Rec):∀x∈Ah4 o l,x<=255:=fun x h=>by
 unfold Ah4 ixO DY at h;rcases BJ.1 h with h|h
 ·exact Zu _ _ x h
 ·obtain⟨c,_,h⟩:=List.mem_flatMap.1 h;exact iQ _ _ x h
theorem NP{o:Opt}(h:Dj o=0):16<=o.block/\o.block<=32768/\1<=o.bucket/\o.bucket<=64:=by
 unfold Dj CT at h;split at h
 ·rename_i hc;exact⟨hc.1.1,hc.1.2,hc.2.1.1,hc.2.1.2⟩
 ·cases h
theorem Vv(hb:bound<=20000)(hm:Cu bound none l=true)(h0:l≠ [])(hn:l.length<=bound):(efO bound l).length<=10+(3*bound+7) / 8:=by
 have h1:1<=l.length:=Gm.2 h0;have hq:1<=bound / l.length:=(Nat.one_le_div_iff nj).2 hn;have hW:l.length*efW bound l.length<=bound:=jy
 have i:=Iq (efW bound l.length) l;have z:=Ii bound l none hm;have hp:=(Mi bound l none hm).1;have j:=Ml (l.map (·/ 2 ^ efW bound l.length)) 0 bound (Bf _) (fun x hx=>by obtain⟨y,hy,rfl⟩:=CH.1 hx;exact⟨Bf _,AN (Ix _ _) (by have:=z y hy;omega)⟩) (List.Pairwise.map _ (fun a b h=>Nat.div_le_div_right h) hp);rw[Bu]at j;have E:=qZ (x:=l.length) nj;unfold efO;rw[Aa h0,Ag,bytesOf_length];unfold Gf;rw[Ag,i];omega
theorem PZ{bound C:Nat}:∀ {ls:List (List Nat)},(∀x∈ls,(efO bound x).length<=C)->(DY bound ls).length<=C*ls.length
 | [],_=>by simp[DY]
 |x :: t,h=>by have ih:=PZ (ls:=t) (fun y hy=>h y (Cn _ hy));have hx:=h x CP;unfold DY at ih ⊢;rw[CD,Ag,AD,Nat.mul_add];omega
theorem Oh(ts:List (List Str)):(AZ ts).length<=(ts.map List.length).sum:=by
 have h:∀ (ts:List (List Str)) (i:List Str),(ts.foldl EZ i).length<=i.length+(ts.map List.length).sum:=fun ts=>by
  induction ts with
  |nil=>intro i;simp
  |cons t ts ih=>intro i;have h1:=ih (EZ i t);have h2:=Pg t i;rw[List.foldl_cons,Ct,GC];omega
 have:=h ts [];simpa[AZ]using this
theorem LL:∀l:List Rec,((((l.map oZ).map List.length).sum:Nat):Int)<=BC l
 | []=>by simp[Kq]
 |r :: l=>by
  have ih:=LL l;have e:BC (r :: l)=Aa7 r+BC l:=sd
  have h:=zW r.text.data.toList r.source.data.toList;have h1:r.text.data.toList.length=r.text.size:=Array.length_toList;have h2:r.source.data.toList.length=r.source.size:=Array.length_toList;rw[h1,h2]at h;rw[Ct,Ct,GC,e];have h3:(oZ r).length<=r.text.size+r.source.size:=h;unfold Aa7;omega
theorem Za{o:Opt}{l:List Rec}{n:Nat}(hn:l.length=n)(h1:(n:Int)<=30)(h2:BC l<=1500):(AZ (l.map oZ)).length<=20000/\(Dj o=0->(Ah4 o l).length<=99000):=by
 have hT:(AZ (l.map oZ)).length<=1500:=by have a:=Oh (l.map oZ);have b:=LL l;omega
 refine⟨nj,fun ho=> ?_⟩;obtain⟨_,_,j,y⟩:=NP ho;have i:=L8 l;have h:=KW (l:=l) nj;have hs:∀s∈AZ (l.map oZ),s.length<=25:=fun s hs=>(JV h s hs).2;have a:=N6 hs (size:=o.bucket.toNat) nj nj (nCh o.bucket.toNat (AZ (l.map oZ)).length);have b:=Mg hs (size:=o.bucket.toNat) nj (nCh o.bucket.toNat (AZ (l.map oZ)).length);have c:=Mq (size:=o.bucket.toNat) (n:=(AZ (l.map oZ)).length) nj;have d:=PZ (bound:=l.length) (C:=22) (ls:=(AZ (l.map oZ)).map (Cy (l.map oZ))) (fun x hx=>by have h3:=i.2 x hx;have h4:=Vv (bound:=l.length) (l:=x) nj (GE.1 i.1 x hx) h3.1 h3.2;omega);rw[Bu]at d;have e:Ec o.bucket.toNat (AZ (l.map oZ))=hdB o.bucket.toNat (AZ (l.map oZ)) (nCh o.bucket.toNat (AZ (l.map oZ)).length)++bdB o.bucket.toNat (AZ (l.map oZ)) (nCh o.bucket.toNat (AZ (l.map oZ)).length):=Px nj _;unfold Ah4 ixO;rw[Ag,e,Ag];omega
structure JS (base:Nat) (O D:List Nat) (vo vd:Value) (W:World):Prop where
 oo:W.ownsRow base 5 1 vo O.length (dZ .u8 O)
 od:W.ownsRow base 5 1 vd D.length (dZ .u8 D)
 ap:Apt vo vd
section
variable {base:Nat} {O D X:List Nat} {vo vd v':Value} {W w':World}
theorem JS.step(h:JS base O D vo vd W)(b:Below W W w'):JS base O D vo vd w':=
 ⟨eZ h.oo fun y hy=>b.block y (Aj h.oo y hy).2,eZ h.od fun y hy=>b.block y (Aj h.od y hy).2,h.ap⟩
theorem JS.dirA(h:JS base O D vo vd W)(hB:base<=W.heap.size)(g:W.grownBy w' vd.ownBlock)(o:w'.ownsRow base 5 1 v' (D.length+X.length) (dZ .u8 D++dZ .u8 X))(t:v'.ownBlock=vd.ownBlock∨v'.ownBlock=some W.heap.size):
 JS base O (D++X) vo v' w'/\Below base W w':=by
 obtain⟨a,b⟩:=Hr h.oo h.ap.symm g t;refine⟨⟨a,?_,b.symm⟩,(Ae base W).grown g hB fun y hy=>(Aj h.od y hy).1⟩;rw[Ag,show dZ .u8 (D++X)=dZ .u8 D++dZ .u8 X by simp[dZ]];exact o
theorem JS.outA(h:JS base O D vo vd W)(hB:base<=W.heap.size)(g:W.grownBy w' vo.ownBlock)(o:w'.ownsRow base 5 1 v' (O.length+X.length) (dZ .u8 O++dZ .u8 X))(t:v'.ownBlock=vo.ownBlock∨v'.ownBlock=some W.heap.size):
 JS base (O++X) D v' vd w'/\Below base W w':=by
 obtain⟨a,b⟩:=Hr h.od h.ap g t;refine⟨⟨?_,a,b⟩,(Ae base W).grown g hB fun y hy=>(Aj h.oo y hy).1⟩;rw[Ag,show dZ .u8 (O++X)=dZ .u8 O++dZ .u8 X by simp[dZ]];exact o
end
structure JE (base:Nat) (vo vd u:Value) (m:Nat) (ys:List Value) (W:World):Prop where
 own:W.ownsRow base 5 1 u m ys
 ao:Apt vo u
 ad:Apt vd u
section
variable {base m:Nat} {O D X:List Nat} {vo vd v' u:Value} {ys:List Value} {W w':World}
theorem JE.new(h:JS base O D vo vd W)(hB:base<=W.heap.size)(o:w'.ownsRow W 5 1 u m ys):JE base vo vd u m ys w':=
 ⟨kZ o hB,(JU o (Ak _) fun x hx=>(Aj h.oo x hx).2).symm,(JU o (Ak _) fun x hx=>(Aj h.od x hx).2).symm⟩
theorem JE.step(h:JE base vo vd u m ys W)(b:Below W W w'):JE base vo vd u m ys w':=⟨eZ h.own fun y hy=>b.block y (Aj h.own y hy).2,h.ao,h.ad⟩
theorem JE.dirA(h:JE base vo vd u m ys W)(g:W.grownBy w' vd.ownBlock)(t:v'.ownBlock=vd.ownBlock∨v'.ownBlock=some W.heap.size):JE base vo v' u m ys w':=by obtain⟨a,b⟩:=Hr h.own h.ad g t;exact⟨a,h.ao,b⟩
theorem JE.outA(h:JE base vo vd u m ys W)(g:W.grownBy w' vo.ownBlock)(t:v'.ownBlock=vo.ownBlock∨v'.ownBlock=some W.heap.size):JE base v' vd u m ys w':=by obtain⟨a,b⟩:=Hr h.own h.ao g t;exact⟨a,b,h.ad⟩
end
theorem Ag1{p:Part}(h:p.Ok w):Src w p.A p.ls.length p.c 1 (dZ .u8 p.ls):=by
 refine⟨su,?_⟩;by_cases h0:0<p.ls.length
 ·obtain⟨b,z,hA,_,hc⟩:=h.row h0;refine .inr ⟨_,hA,fun j u hu=> ?_⟩;have hj:j<p.ls.length:=by refine KK fun hn=> ?_;have y:(dZ .u8 p.ls).length<=j:=(by simp[dZ];omega);rw[FN y]at hu;cases hu
  have i:=hc j 0 hj nj;rw[CZ,Bt]at i;rw[Af6,i,<-hu];have hg:=Ab2 (k:= .u8) hj;rw[CZ,Bt]at hg;rw[hg]
 ·cases hA:p.A with
  |none=>exact .inl ⟨rfl,(h.nil hA).1,(h.nil hA).2⟩
  |some a=>refine .inr ⟨a,rfl,fun j u hu=> ?_⟩;have h1:(dZ .u8 p.ls).length=0:=(by rw[show(dZ .u8 p.ls).length=p.ls.length by simp[dZ]];omega);rw[FN (by rw[h1];exact Bf _)]at hu;cases hu
theorem Zm(w:World)(n g base cF cG cc cx:Nat)(AF AG AC AX:Option Addr)(ps:List Part)(G CB IX:List Nat)(hn:n<=1000000)(hg:g<=20000)(ee:ps.length=g)(dz:G.length=g)(fp:∀z∈G,z<=1000000)(fs:(ps.map Part.ls).flatten.length<=500000)(ha:CB.length<=900000)(g1:IX.length<=900000)(fz:∀x∈CB,x<=255)(eH:∀x∈IX,x<=255)
 (ho:w.ownsRow base 28 1 (.slice AF g cF) g (ps.map Part.v))(eB:FrsAt w base ps)(hG:Row w w AG g 1 (jZ .i64 G))(hC:Part.Ok (⟨AC,cc,CB⟩:Part) w)(hX:Part.Ok (⟨AX,cx,IX⟩:Part) w):
 Calls prog 27 #[.int .i64 (n:Nat), .slice AF g cF, .slice AG g cG, .slice AC CB.length cc, .slice AX IX.length cx] w fun e w'=>∃v,e= .returned v/\w'.ownsRow w 5 1 v (EI n G (ps.map Part.ls) CB IX).length (dZ .u8 (EI n G (ps.map Part.ls) CB IX))/\Below w w w':=by
 obtain⟨j0,M,L,Q,N⟩:=info_parts Dh;have D1:=hid (fun wx=>Jk wx n nj);have D2:=hid (fun wx=>Jk wx g nj);have l1:=qZ (x:=n) nj;have l2:=qZ (x:=g) nj;have u1:IntKind.u64.wrap (n:Int)=(n:Int):=pm
 have u2:IntKind.u64.wrap (g:Int)=(g:Int):=pm
 obtain⟨SZ,b8⟩:=ii ((ps.map Part.ls).map List.length);have fq:SZ.length=g:=by rw[b8,Bu,Bu];exact ee
 have ea:Hid (EI n G (ps.map Part.ls) CB IX=(ps.map Part.ls).flatten++(AU CB++(AU IX++(AU (EJ n G SZ (AU CB).length (AU IX).length)++CU (AU (EJ n G SZ (AU CB).length (AU IX).length)).length)))):=by show _=_;unfold EI;rw[b8]
 have fg:Hid (∀x y,EJ n G SZ x y=fZ n++fZ g++Bk G SZ++(fZ x++fZ y)):=fun x y=>by unfold EJ;rw[dz];simp only[List.append_assoc]
 have ev:=hid ee;have fx:=hid dz;have f1:=hid fq;have gg:=hid fp;have ed:=hid fs;have gn:=hid fz;have gj:=hid eH;have HO:=hid ho;have f3:=hid eB;have f8:Hid (Row w w AG g 1 (jZ .i64 G)):=hG;have HC:=hid hC;have HX:=hid hX;have fc:=hid b8;clear ee dz fq fp fs fz eH ho eB hG hC hX b8;go_enter func27,ntmps27;go_wp2_with fail;refine(D1.out _).mono ?_;rintro e w1 ⟨v1,rfl,dr,ft⟩;have eA:Hid (JS w [] (fZ n) (.slice none 0 0) v1 w1):=⟨AI _ _ _ _,dr,fun _ h=>by cases h⟩;obtain⟨A1,c1,rfl⟩:=bZ dr;have HB:=hid ft;clear dr ft D1;obtain⟨NA,az⟩:=ii (fZ g);rw[<-az]at D2 l2;have a1:=hid D2.out;have HJ:=hid eA.out;have gy:=hid az;clear D2 eA az;go_wp2_with fail;refine(a1.out _).mono ?_;rintro e wA ⟨vA,rfl,an,am⟩;obtain⟨AA,cA,rfl⟩:=bZ an;have a9:Hid (Src wA AA NA.length cA 1 (dZ .u8 NA)):=Du an;have ai:=hid (HJ.out.step am);have ae:Hid (Below w w wA):=xZ am HB.out.size HB.out;have a0:=ae.out.size;clear an am a1 HJ HB;go_wp2_with(at_builtin;refine iZ rfl (.tmp 21) (.tmp 25) 28 rfl w 5 j0 _ 1 1 underlying28 M L Q N rfl ip _ _ _ nm ai.out.od _ _ _ _ nm a9.out (Ce _ _) sS nj a0 ?_;intro v2 w2 i b4 aa;have q:=ai.out.dirA a0 b4 i aa;obtain⟨A2,c2,rfl⟩:=bZ i;have ay:=hid q.1;have ac:Hid (Below w w w2):=ae.out.trans q.2;clear q i b4 aa ai a9 ae);have ah:Hid (fZ n++NA=fZ n++fZ g++Bk (G.take 0) (SZ.take 0)):=by show _=_;rw[gy.out];simp[Bk]
 rw[ah.out]at ay;have a4:Hid (JS w ((ps.take 0).map Part.ls).flatten (fZ n++fZ g++Bk (G.take 0) (SZ.take 0)) (.slice none 0 0) (.slice A2 ((fZ n).length+NA.length) c2) w2):=ay.out;have cz:Hid ((fZ n++fZ g++Bk (G.take 0) (SZ.take 0)).length<=20+20*0):=by show _<=_;rw[<-ah.out,Ag];omega
 clear ay;go_wp2_with fail;go_loopw [11,12,13] (fun ov dv iv wr=>∃k:Nat,k<=g/\iv= .int .i64 k/\Hid (JS w ((ps.take k).map Part.ls).flatten (fZ n++fZ g++Bk (G.take k) (SZ.take k)) ov dv wr)/\Hid ((fZ n++fZ g++Bk (G.take k) (SZ.take k)).length<=20+20*k)/\Hid (Below w w wr)) (fun _ _ iv _=>g-(intOf iv).toNat)
 case atStart=>exact⟨0,nj,rfl,a4.out,cz.out,ac.out⟩
 case round=>
  obtain⟨k,hk,rfl,HJ,bp,HB⟩:=hrel;clear a4 cz ac ah;obtain⟨wi,rfl⟩:=ii wr;have hz:=HB.out.size;by_cases d8:k<g
  ·have gk:=ic ((k:Int)<g);have gp:=ic (k<g);have x0:(0:Int)<=(k:Int):=nj;have x1:(k:Int)<(g:Int):=nj;obtain⟨bg,og,m,rfl,hp,hm,cm⟩:=CO (f8.out.below HB.out) fx.out d8;have cq:k<ps.length:=(by rw[ev.out];exact d8);obtain⟨P,hP⟩:=ii (ps[k]);have cw:ps[k]? =some P:=(by rw[hP];exact Az cq);have ex:wi.ownsRow base 28 1 (.slice AF g cF) g (ps.map Part.v):=eZ HO.out fun y hy=>HB.out.block y (Aj HO.out y hy).2;obtain⟨gf,gc,fH,_,_⟩:=ex.form nj;injection fH with e1 e2 e3;subst e1 e3;have gu:gf<w.heap.size:=(Aj HO.out gf rfl).2;have cf:w.cell? ⟨gf,k,none⟩=some P.v:=(Ac7 HO.out d8).1.trans (by rw[Co,cw];rfl);have cu:Hid (∀wx,Below w w wx->wx.cell? ⟨gf,k,none⟩=some P.v):=fun wx h=>(h.cell (p:=⟨gf,k,none⟩) gu).trans cf;have e7:Hid (∀wx,Below w w wx->Part.Ok P wx):=fun wx h=>(lZ (f3.out P (by rw[hP];exact FM cq)) rfl).step h;have f4:=gg.out m (Bp hm);have ek:SZ[k]? =some P.ls.length:=(by rw[fc.out,Co,Co,cw];rfl);have e4:P.ls.length<=500000:=AN (Uz (CH.2 ⟨P,by rw[hP];exact FM cq,rfl⟩)) ed.out;have em:=VO hm ek;have d4:((ps.take (k+1)).map Part.ls).flatten=((ps.take k).map Part.ls).flatten++P.ls:=by rw[Cw,cw];simp
   have gq:((ps.take k).map Part.ls).flatten.length<=500000:=by
    refine AN ?_ ed.out
    conv=>rhs;rw[<-ER k ps]
    rw[FA,List.flatten_append,Ag];omega
   have a1:=hid (fun wx=>Jk wx m nj);have cj:=hid (fun wx=>Jk wx P.ls.length nj);have la:=qZ (x:=m) nj;have lb:=qZ (x:=P.ls.length) nj;have u3:IntKind.u64.wrap (m:Int)=(m:Int):=pm;obtain⟨pA,pc,af⟩:=P;simp only[Part.v]at cu d4 em e4 ek lb cj e7;have u4:IntKind.u64.wrap (af.length:Int)=(af.length:Int):=pm;have cr:Hid (fZ n++fZ g++Bk (G.take (k+1)) (SZ.take (k+1))=fZ n++fZ g++Bk (G.take k) (SZ.take k)++fZ m++fZ af.length):=(by show _=_;rw[em];simp only[List.append_assoc]);obtain⟨NB,e6⟩:=ii (fZ af.length);rw[<-e6]at cr cj lb;obtain⟨NA,az⟩:=ii (fZ m);rw[<-az]at cr a1 la;have go:Hid (((ps.take (k+1)).map Part.ls).flatten=((ps.take k).map Part.ls).flatten++af):=d4;have gm:=bp.out;generalize fZ n++fZ g++Bk (G.take k) (SZ.take k)=DI at *;generalize ((ps.take k).map Part.ls).flatten=OU at *;obtain⟨Ao,co,rfl⟩:=bZ HJ.out.oo;obtain⟨Ad,cd,rfl⟩:=bZ HJ.out.od;clear hm cq hP cw ex cf f4 ek em d4 az e6 bp;go_wp2_with fail;refine(a1.out _).mono ?_;rintro e wA ⟨vA,rfl,an,am⟩;obtain⟨AA,cA,rfl⟩:=bZ an;have a9:Hid (Src wA AA NA.length cA 1 (dZ .u8 NA)):=Du an;have ai:=hid (HJ.out.step am);have ae:Hid (Below w w wA):=xZ am HB.out.size HB.out;have a0:=ae.out.size;clear an am a1 HJ HB;go_wp2_with(at_builtin;refine iZ rfl (.tmp 33) (.tmp 39) 28 rfl w 5 j0 _ 1 1 underlying28 M L Q N rfl ip _ _ _ nm ai.out.od _ _ _ _ nm a9.out (Ce _ _) sS nj a0 ?_;intro v2 w2 i b4 aa;have q2:=ai.out.dirA a0 b4 i aa;obtain⟨A2,c2,rfl⟩:=bZ i;have ay:=hid q2.1;have ac:Hid (Below w w w2):=ae.out.trans q2.2;have g0:=ac.out.size;clear q2 i b4 aa;have hj:=cu.out w2 ac.out);clear ai a9 ae a0;have hq:(DI++NA).length<=30+20*k:=pf;refine(cj.out _).mono ?_;rintro e wB ⟨vB,rfl,dx,dF⟩;obtain⟨AB,cB,rfl⟩:=bZ dx;have gv:Hid (Src wB AB NB.length cB 1 (dZ .u8 NB)):=Du dx;have eK:=hid (ay.out.step dF);have ds:Hid (Below w w wB):=xZ dF ac.out.size ac.out;have fn:=ds.out.size;clear dx dF cj ay ac;have hi:=cu.out wB ds.out;go_wp2_with(first|(at_builtin;refine iZ rfl (.tmp 41) (.tmp 48) 28 rfl w 5 j0 _ 1 1 underlying28 M L Q N rfl ip _ _ _ nm eK.out.od _ _ _ _ nm gv.out (Ce _ _) sS nj fn ?_;intro v3 w3 ak es dh;have q3:=eK.out.dirA fn es ak dh;obtain⟨A3,c3,rfl⟩:=bZ ak;have a4:=hid q3.1;have ce:Hid (Below w w w3):=ds.out.trans q3.2;have e8:=ce.out.size;clear q3 ak es dh;have he:=cu.out w3 ce.out;have gh:Src w3 pA af.length pc 1 (dZ .u8 af):=Ag1 (e7.out w3 ce.out))|(at_builtin;refine iZ rfl (.tmp 50) (.tmp 54) 28 rfl w 5 j0 _ 1 1 underlying28 M L Q N rfl ip _ _ _ nm a4.out.oo _ _ _ _ nm gh (Ce _ _) sS nj e8 ?_;intro v4 w4 ag ey di;have q4:=a4.out.outA e8 ey ag di;obtain⟨A4,c4,rfl⟩:=bZ ag;have gi:=hid q4.1;have e9:Hid (Below w w w4):=ce.out.trans q4.2;have hd:=e9.out.size;clear q4 ag ey di;skip));have d3:=gi.out;simp only[List.length_append]at d3;have bN:=hid d3;clear d3;have fe:Hid ((DI++NA++NB).length<=20+20*(k+1)):=(by show _<=_;rw[Ag];omega);go_roundw
   case measure=>exact jq
   case rel=>go_light;exact⟨k+1,nj,iw,by rw[cr.out,go.out];exact bN.out,by rw[cr.out];exact fe.out,e9.out⟩
  ·obtain rfl:k=g:=by omega
   have gk:=ig ((k:Int)<k);have gp:=ig (k<k);have eG:G.take k=G:=Cf (by rw[fx.out];exact Ak _);have eS:SZ.take k=SZ:=Cf (by rw[f1.out];exact Ak _);have eP:ps.take k=ps:=Cf (by rw[ev.out];exact Ak _);rw[eG,eS]at HJ bp;rw[eP]at HJ;have gm:=bp.out;have gq:=ed.out;have bS:=hid (fg.out (AU CB).length (AU IX).length);have et:=Pk n G SZ (AU CB).length (AU IX).length;rw[Dt CB,Dt IX]at bS et ea;generalize EJ n G SZ (CB.length+4) (IX.length+4)=DD at *;generalize fZ n++fZ k++Bk G SZ=DI at *;generalize (ps.map Part.ls).flatten=OU at *;obtain⟨Ao,co,rfl⟩:=bZ HJ.out.oo;obtain⟨Ad,cd,rfl⟩:=bZ HJ.out.od;have f9:=hid (HC.out);have E1:=hid (Li wi AC CB.length cc CB rfl nj HC.out.nil gn.out ((HC.out.row.below HB.out).mono hz));have E2:=hid (fun wx (h:Below w w wx)=>Li wx AX IX.length cx IX rfl nj HX.out.nil gj.out ((HX.out.row.below h).mono h.size));unfold GN at E1 E2;obtain⟨cl,a6⟩:=ii (CB.length+4);obtain⟨il,b1⟩:=ii (IX.length+4);rw[<-a6]at E1 bS;rw[<-b1]at E2 bS;have gF:cl<=900004:=nj;have gE:il<=900004:=nj;have c0:=hid a6;have da:=hid b1;clear eG eS eP bp a6 b1 fg fc f9;go_wp2_with fail;refine E1.out.mono ?_;rintro e w5 ⟨v5,rfl,cy,ec⟩;obtain⟨A5,c5,rfl⟩:=bZ cy;have ct:Hid (Below w w w5):=xZ ec hz HB.out;have bN:=hid (HJ.out.step ec);have gC:Hid (w5.ownsRow w 5 1 (.slice A5 cl c5) cl (dZ .u8 (AU CB))):=kZ cy hz;have eV:Hid (JE w (.slice Ao OU.length co) (.slice Ad DI.length cd) (.slice A5 cl c5) cl (dZ .u8 (AU CB)) w5):=JE.new HJ.out hz cy;have e5:=hid (E2.out w5 ct.out);have dX:=ct.out.size;clear cy ec E1 E2 HJ HB gC hz;go_wp2_with fail;refine e5.out.mono ?_;rintro e w6 ⟨v6,rfl,d9,cg⟩;obtain⟨A6,c6,rfl⟩:=bZ d9;have ei:Hid (Below w w w6):=xZ cg dX ct.out;have eu:Hid (JE w (.slice Ao OU.length co) (.slice Ad DI.length cd) (.slice A6 il c6) il (dZ .u8 (AU IX)) w6):=JE.new bN.out dX d9;have cH:=hid (eV.out.step cg);have eE:=hid (bN.out.step cg);have ez:=ei.out.size;have fa:=hid (fun wx=>Jk wx cl nj);have fk:=hid (fun wx=>Jk wx il nj);have la:=qZ (x:=cl) nj;have lb:=qZ (x:=il) nj;have u3:IntKind.u64.wrap (cl:Int)=(cl:Int):=pm;have u4:IntKind.u64.wrap (il:Int)=(il:Int):=pm;generalize fZ cl=N1 at *;generalize fZ il=N2 at *;clear d9 cg e5 bN ct eV dX;go_wp2_with fail;refine(fa.out _).mono ?_;rintro e w7 ⟨v7,rfl,eo,bi⟩;obtain⟨A7,c7,rfl⟩:=bZ eo;have bl:Hid (Src w7 A7 N1.length c7 1 (dZ .u8 N1)):=Du eo;have dp:=hid (eE.out.step bi);have cP:=hid (cH.out.step bi);have cM:=hid (eu.out.step bi);have du:Hid (Below w w w7):=xZ bi ez ei.out;have ej:=du.out.size;clear eo bi fa eE cH eu ei ez;go_wp2_with(at_builtin;refine iZ rfl (.tmp 60) (.tmp 64) 28 rfl w 5 j0 _ 1 1 underlying28 M L Q N rfl ip _ _ _ nm dp.out.od _ _ _ _ nm bl.out (Ce _ _) sS nj ej ?_;intro v8 w8 al cv au;have cT:=hid (cP.out.dirA cv au);have cS:=hid (cM.out.dirA cv au);have q8:=dp.out.dirA ej cv al au;obtain⟨A8,c8,rfl⟩:=bZ al;have e0:=hid q8.1;have dw:Hid (Below w w w8):=du.out.trans q8.2;have fB:=dw.out.size;clear q8 al cv au;skip);have gP:(DI++N1).length<=400030:=pf;clear bl dp cP cM du ej;refine(fk.out _).mono ?_;rintro e w9 ⟨v9,rfl,el,bj⟩;obtain⟨A9,c9,rfl⟩:=bZ el;have fy:Hid (Src w9 A9 N2.length c9 1 (dZ .u8 N2)):=Du el;have en:=hid (e0.out.step bj);have dm:=hid (cT.out.step bj);have cO:=hid (cS.out.step bj);have d0:Hid (Below w w w9):=xZ bj fB dw.out;have eh:=d0.out.size;clear el bj fk e0 cT cS dw fB;go_wp2_with(at_builtin;refine iZ rfl (.tmp 66) (.tmp 70) 28 rfl w 5 j0 _ 1 1 underlying28 M L Q N rfl ip _ _ _ nm en.out.od _ _ _ _ nm fy.out (Ce _ _) sS nj eh ?_;intro g4 eb Z ax Y;have bd:=hid (dm.out.dirA ax Y);have bO:=hid (cO.out.dirA ax Y);have ef:=en.out.dirA eh ax Z Y;obtain⟨b9,b7,rfl⟩:=bZ Z;have av:=hid ef.1;have bt:Hid (Below w w eb):=d0.out.trans ef.2;have b0:=bt.out.size;clear ef Z ax Y;skip);clear fy en dm cO d0 eh;have dq:DD=DI++N1++N2:=(by rw[bS.out,AE]);have a3:DD.length=DI.length+N1.length+N2.length:=(by rw[dq,Ag,Ag]);have od:=av.out.od;rw[<-dq]at od;have cp:=od;rw[a3]at cp;simp only[List.length_append]at cp;have dC:Part.Ok (⟨b9,b7,DD⟩:Part) eb:=(by have h:=lZ (A:=b9) (c:=b7) (ls:=DD) (n:=DI.length+N1.length+N2.length) cp a3;exact h);have ca:=hid (Li eb b9 (DI.length+N1.length+N2.length) b7 DD a3 nj (fun e=>by have h:=dC.nil e;exact⟨by rw[<-a3];exact h.1,h.2⟩) et (by have h:=dC.row;simp only[a3]at h;exact h));unfold GN at ca;obtain⟨dl,bh⟩:=ii (DD.length+4);rw[<-bh]at ca;have gV:dl<=400060:=nj;have cX:=hid bh;clear dq a3 od cp dC bh bS;refine ca.out.mono ?_;rintro e dt ⟨g7,rfl,bc,ab⟩;obtain⟨fo,ew,rfl⟩:=bZ bc;have dk:Hid (JE w (.slice Ao OU.length co) (.slice b9 ((DI++N1).length+N2.length) b7) (.slice fo dl ew) dl (dZ .u8 (AU DD)) dt):=JE.new av.out b0 bc;have bk:=hid (bd.out.step ab);have ba:=hid (bO.out.step ab);have a8:=hid (av.out.step ab);have bm:Hid (Below w w dt):=xZ ab b0 bt.out;have dg:=bm.out.size;have fm:Hid (Src dt A5 cl c5 1 (dZ .u8 (AU CB))):=Du bk.out.own;have hc:(OU++AU CB).length<=1500000:=(by rw[Ag,Dt,<-c0.out];omega);have hr:(OU++AU CB++AU IX).length<=2500000:=(by rw[Ag,Dt,<-da.out];omega);have g5:(OU++AU CB++AU IX++AU DD).length<=3000000:=(by rw[Ag,Dt,<-cX.out];omega);have f5:(AU CB).length=cl:=(by rw[Dt,c0.out]);have f6:(AU IX).length=il:=(by rw[Dt,da.out]);have f7:(AU DD).length=dl:=(by rw[Dt,cX.out]);have gw:=hid f5;have gl:=hid f6;have fi:=hid f7;generalize AU CB=KC at *;generalize AU IX=KX at *;generalize AU DD=KD at *;clear bc ab ca av bd bO bt b0 f5 f6 f7;go_wp2_with(first|(at_builtin;refine iZ rfl (.tmp 73) (.tmp 74) 28 rfl w 5 j0 _ 1 1 underlying28 M L Q N rfl ip _ _ _ nm a8.out.oo _ _ _ _ nm fm.out (Ce _ _) sS nj dg ?_;intro g2 fh J aq U;rw[<-gw.out]at J;have a7:=hid (ba.out.outA aq U);have ar:=hid (dk.out.outA aq U);have fj:Src fh A6 il c6 1 (dZ .u8 KX):=Du a7.out.own;have dn:=a8.out.outA dg aq J U;obtain⟨g6,g8,rfl⟩:=bZ J;have b3:=dn.1;(try simp only[List.length_append]at b3);have bq:=hid b3;clear b3;have bf:Hid (Below w w fh):=bm.out.trans dn.2;have dd:=bf.out.size;clear dn J aq U;skip)|(at_builtin;refine iZ rfl (.tmp 76) (.tmp 77) 28 rfl w 5 j0 _ 1 1 underlying28 M L Q N rfl ip _ _ _ nm bq.out.oo _ _ _ _ nm fj (Ce _ _) sS nj dd ?_;intro hh fd j b6 aj;rw[<-gl.out]at j;have aw:=hid (ar.out.outA b6 aj);have bl:Src fd fo dl ew 1 (dZ .u8 KD):=Du aw.out.own;have eg:=bq.out.outA dd b6 j aj;obtain⟨g9,g3,rfl⟩:=bZ j;have bx:=eg.1;(try simp only[List.length_append]at bx);have b5:=hid bx;clear bx;have a5:Hid (Below w w fd):=bf.out.trans eg.2;have cE:=a5.out.size;clear eg j b6 aj;skip)|(at_builtin;refine iZ rfl (.tmp 79) (.tmp 80) 28 rfl w 5 j0 _ 1 1 underlying28 M L Q N rfl ip _ _ _ nm b5.out.oo _ _ _ _ nm bl (Ce _ _) sS nj cE ?_;intro hf fu E de bu;rw[<-fi.out]at E;have dy:=b5.out.outA cE de E bu;obtain⟨ga,gs,rfl⟩:=bZ E;have bC:=dy.1;(try simp only[List.length_append]at bC);have df:=hid bC;clear bC;have be:Hid (Below w w fu):=a5.out.trans dy.2;have eO:=be.out.size;clear dy E de bu;skip));have f0:Hid (EI n G (ps.map Part.ls) CB IX=OU++KC++KX++KD++CU dl):=(by show _=_;rw[ea.out,fi.out];simp only[List.append_assoc]);have fw:=hid (bR fu dl nj);have u5:IntKind.u64.wrap (dl:Int)=(dl:Int):=pm;clear a8 bq b5 bm bf a5 dk bk ba a7 ar aw fm fj bl ea;refine fw.out.mono ?_;rintro e ep ⟨hl,rfl,bb,bn⟩;obtain⟨f2,gx,rfl⟩:=bZ bb;have fA:Hid (Src ep f2 4 gx 1 (dZ .u8 (CU dl))):=Du bb;have cC:=hid (df.out.step bn);have cL:Hid (Below w w ep):=xZ bn eO be.out;have dj:=cL.out.size;clear bb bn fw df be;have dc:Hid (ep.ownsRow w 5 1 (.slice ga (OU.length+(KC.length+KX.length)+KD.length) gs) (OU++KC++KX++KD).length (dZ .u8 (OU++KC++KX++KD))):=(by have h:=cC.out.oo;show World.ownsRow _ _ _ _ _ _ _;rw[show OU.length+(KC.length+KX.length)+KD.length=OU.length+KC.length+KX.length+KD.length by omega];exact h);clear cC;go_wp2_with(at_builtin;refine iZ rfl (.tmp 89) (.tmp 90) 28 rfl w 5 j0 _ 1 1 underlying28 M L Q N rfl ip _ _ _ nm dc.out _ _ _ _ nm fA.out (Ce _ _) sS nj dj ?_;intro gB gz ci fl gr);have ff:Hid (Below w w gz):=cL.out.grown fl dj (fun y hy=>(Aj dc.out y hy).1);go_ret;refine⟨gB,rfl,?_,ff.out⟩;rw[f0.out];have e1:(OU++KC++KX++KD++CU dl).length=(OU++KC++KX++KD).length+4:=(by rw[Ag];rfl);have e2:dZ .u8 (OU++KC++KX++KD++CU dl)=dZ .u8 (OU++KC++KX++KD)++dZ .u8 (CU dl):=su;rw[e1,e2];exact ci
theorem gW{ts:List Str}(h:IxAt w base vT vL vals ts ls)(hx:ls[k]? =some x):
 ∃A c,vals[k]? =some (.slice A x.length c)/\Row w w A x.length 1 (jZ .i64 x):=by
 obtain⟨hk,_⟩:=CQ.1 hx;have y:k<vals.length:=by rw[h.len];exact hk
 have hv:vals[k]? =some vals[k]:=Az y;have ho:=h.r k _ x hv hx;obtain⟨A,c,e⟩:=bZ ho;rw[e]at hv ho;exact⟨A,c,hv,Row.of_own ho rfl (fun i j hi hj=>by have e0:j=0:=nj;subst e0;exact Ab2 nj)⟩
theorem Vi(w:World)(gb n c:Nat)(A:Option Addr)(ls:List Nat)(hc:w.cell? ⟨gb,0,none⟩=some (.slice A n c))(hn:ls.length=n)(hN:n<=1000000)(hs:ls.sum<=1000000000)(ha:Row w w A n 1 (jZ .i64 ls)):
 Calls prog 18 #[.pointer (some ⟨gb,0,none⟩)] w fun e w'=>e= .returned (.int .i64 (ls.sum:Nat))/\w'=w:=by
 have D:=hid (Ah8 w A n c ls hn hN hs ha);generalize ls.sum=S at *;clear hn ha;go_enter func18,ntmps18;exact a1x
end Go.Proofs.YtfgdoknipbpfhaaGreatDoor
