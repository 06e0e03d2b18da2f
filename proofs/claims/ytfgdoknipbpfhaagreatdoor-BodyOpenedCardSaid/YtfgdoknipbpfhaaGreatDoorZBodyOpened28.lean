/- The index of a log:  -/
import Derived.Test.YtfgdoknipbpfhaaGreatDoorZBodyOpened27
import Derived.Test.YtfgdoknipbpfhaaGreatDoorZBodyOpened26
namespace Go.Proofs.YtfgdoknipbpfhaaGreatDoor
open Go.Proofs.Tryz
open Go.Lib (hid)
set_option maxHeartbeats 8000000
set_option maxRecDepth 100000
variable{w w':World}{base bound k n s:Nat}{e:TypeId}{vals xs:List Value}{l x:List Nat}{ls:List (List Nat)}{vL vT:Value}
namespace Idx
open Go.RowKit Go.Maps Mem Own Canon Sift
open Recs
def lZ(r:Rec):List Str:=Hi r.text.data.toList r.source.data.toList
structure IxAt (w:World) (base:Nat) (vT vL:Value) (vals:List Value) (ts:List Str) (ls:List (List Nat)):Prop where
 t:w.ownsRow base 9 1 vT ts.length (Bh ts)
 l:w.ownsRow base 37 1 vL ls.length vals
 r:∀ (i:Nat) v ids,vals[i]? =some v->ls[i]? =some ids->w.ownsRow base 3 1 v ids.length (cZ .i64 ids)
def J6(ts:List (List Str))(w:World)(e:Ending)(w':World):Prop:=
 ∃vT vL vals,e= .returned (.agg #[vT,vL])/\IxAt w' w vT vL vals (AY ts) ((AY ts).map (Cf ts))/\Below w w w'
theorem aK:(prog.info? 3).map (fun i=>(i.zero,i.size,i.bytes))=some (some (.int .i64 0),1,8):=mr
theorem ZZ:(prog.info? 37).map (fun i=>(i.zero,i.size,i.bytes))=some (some (.slice none 0 0),1,24):=mr
theorem U2{r:Rec}{s:Str}(h:s∈lZ r):1<=s.length/\s.length<=25:=by
 unfold lZ at h;rw[XL]at h;unfold Hb at h;rcases BJ.1 h with h|h
 ·have:=Tx _ s h;omega
 ·obtain⟨x,hx,rfl⟩:=Cc.1 h;have:=Tx _ x hx;simp only[List.length_cons];omega
theorem RD(t s:List UInt8):(Hi t s).length<=t.length+s.length:=by have h1:=PY (Hb t s) [];have h2:=LF t;have h3:=LF s;unfold Hi;unfold Hb at h1;rw[Aj,Bc]at h1;unfold Hb;simp only[List.length_nil]at h1;omega
theorem Mr(ts:List (List Str))(u:Str):(Cf ts u).length<=ts.length:=by unfold Cf;exact AN (List.length_filter_le _ _) pI
theorem MG{i s' n':Nat}{e':TypeId}{v v':Value}{z:List Value}(h:w.ownsRow base e s v n xs)(ho:w.ownsRow i e' s' v' n' z)(j:e≠e')(hg:w.grownBy w' v'.ownBlock):w'.ownsRow base e s v n xs:=
 eZ h (fun y hy=>hg.block y (Am h y hy).2 (fun e=>by
  rcases EZ h ho j with h0|h0
  ·rw[h0]at hy;cases hy
  ·exact h0 (hy.trans e)))
section
variable {H:Type} {P:Program} {kt:TypeId} {R:Value->Option (DataW H×List MemPlace)} {w w':World} {mb m:Nat} {D:DataW H}
theorem nG{v:Value}(hm:w.ownsMap P kt R mb m D)(ho:w.ownsRow base e s v n xs)(hg:w.grownBy w' (some mb)):w'.ownsRow base e s v n xs:=
 eZ ho fun b hb=>hg.block b (Am ho b hb).2 fun he=>by
  injection he with he;subst he;obtain⟨es,i,h1,_⟩:=hm;rcases ho.2 with ⟨hv,_⟩|⟨g',j,cur,hv,_,h2,_⟩
  ·rw[hv]at hb;cases hb
  ·rw[hv]at hb;have h:g'=b:=(by simpa[Value.ownBlock]using hb);rw[h,h1]at h2;cases h2
theorem mK{g:Nat}{t:TypeId}{cs:Array Value}(hm:w.ownsMap P kt R mb m D)(h:Blk w g t cs)(hg:w.grownBy w' (some mb)):Blk w' g t cs:=
 h.grown hg fun he=>by injection he with he;subst he;obtain⟨es,i,h1,_⟩:=hm;have h2:w.heap[g]? =some (.cells cs t):=h;rw[h1]at h2;cases h2
end
def Gg(ts:List (List Str))(T:List Str)(j:Nat)(s:Str):List Nat:=Cf ts s++(if s∈T.take j then [ts.length]else [])
theorem ZF(ts:List (List Str))(T:List Str):Gg ts T 0=Cf ts:=by funext s;simp[Gg]
theorem Ym(ts:List (List Str))(T:List Str):Gg ts T T.length=Cf (ts++ [T]):=by
 funext s
 rw[Xt];unfold Gg;rw[List.take_length];simp
theorem Zo{ts:List (List Str)}{T:List Str}(hT:EV T){j:Nat}{t:Str}(h:T[j]? =some t):(fun s=>if s=t then Gg ts T j s++ [ts.length]else Gg ts T j s)=Gg ts T (j+1):=by
 have y:t ∉ T.take j:=fun hm=>by obtain⟨i,hi,e⟩:=List.getElem_of_mem hm;rw[Bd]at hi;rw[List.getElem_take]at e;obtain⟨hj,e2⟩:=CE.1 h;have:=List.pairwise_iff_getElem.1 hT i j mz hj mz;rw[e,e2]at this;exact Ir t this
 funext s
 unfold Gg;rw[Cm,h];by_cases hs:s=t
 ·subst hs;rw[Ae rfl,Ab y];simp
 ·rw[Ab hs];simp[hs]
theorem On(ts:List (List Str))(s:Str):s∈AY ts↔Cf ts s≠ []:=by
 rw[Tp];unfold Cf;rw[ne_eq,List.filter_eq_nil_iff];constructor
 ·rintro⟨t,ht,hs⟩ h;obtain⟨i,hi,rfl⟩:=List.getElem_of_mem ht;have:=h i (Fm.2 hi);rw[Ar,AD hi]at this;simp at this;exact this hs
 ·intro h;refine Ju fun hn=>h fun i hi=> ?_;rw[Fm]at hi;rw[Ar,AD hi];simp only[Option.getD_some,List.contains_iff_mem];exact fun hm=>hn ⟨_,Fo hi,hm⟩
theorem X3{H:Type}{P:Program}{kt:TypeId}{R:Value->Option (DataW H×List MemPlace)}{mb m:Nat}{D:DataW H}(h:w.ownsMap P kt R mb m D):Maps.size D<=m:=by obtain⟨es,i,_,_,hs,rfl⟩:=h;show(List.foldr DataW.insert [] _).length<=m;rw[length_sorted,Bc];simpa using hs
structure St3 (w:World) (mb m base rb bo B2:Nat) (D:DataW Value) (I:Str->List Nat) (V:Str->Value) (vS vT vL:Value) (q nT nL:Nat) (SS:List Str):Prop where
 mi:MI w mb m base D I V
 res:Blk w rb 53 #[(),()]
 box:Blk w bo 53 #[vT,vL]
 ne:rb≠bo
 tt:w.ownsRow B2 9 1 vT nT (Bh (SS.take nT))
 ll:w.ownsRow B2 37 1 vL nL ((SS.take nL).map V)
 ss:w.ownsRow base 9 1 vS q (Bh SS)
 sg:∀g,vS.ownBlock=some g->g<B2
 b2:base<=B2
 bz:B2<=w.heap.size
section
variable {w w4:World} {mb m base rb bo B2 q nT nL:Nat} {D:DataW Value} {I:Str->List Nat} {V:Str->Value} {vS vT vL v4:Value} {SS:List Str} {o:Obj}
theorem St3.putT(h:St3 w mb m base rb bo B2 D I V vS vT vL q nT nL SS)(hg:(w.alloc o).grownBy w4 vT.ownBlock)(j:w4.ownsRow B2 9 1 v4 (nT+1) (Bh (SS.take (nT+1)))):
 St3 (w4.setCell ⟨bo,0,none⟩ v4) mb m base rb bo B2 D I V vS v4 vL q (nT+1) nL SS:=by
 have i:Blk w4 bo 53 #[vT,vL]:=(h.box.alloc o).grown hg (fun e=>gZ h.tt h.box ip e.symm);have G:w4.heap[mb]? =w.heap[mb]? :=(hg.block mb md (fun e=>J8 h.mi h.tt e.symm rfl)).trans (Ed w o mb h.mi.map.lt)
 have y:MI w4 mb m base D I V:=(h.mi.step (aZ (Ag _ _) (o:=o))).kept (hg.block mb md (fun e=>J8 h.mi h.tt e.symm rfl)) fun s b hb=>by
  refine hg.block b (by have:=(Am (h.mi.row s) b hb).2;simp;omega) fun e=> ?_;rcases EZ (h.mi.row s) h.tt ip with h0|h0
  ·rw[h0]at hb;cases hb
  ·exact h0 (hb.trans e)
 have z:mb≠bo:=fun e=>mu
 refine⟨y.kept (AV w4 _ _ mb z) fun s b hb=>AV w4 _ _ b (fun e=>gZ (y.row s) i ip (hb.trans (AE some e))),?_,?_,h.ne,?_,?_,?_,h.sg,h.b2,?_⟩
 ·exact((h.res.alloc o).grown hg (fun e=>gZ h.tt h.res ip e.symm)).far h.ne _
 ·exact i.set 0 v4
 ·exact Fg j (gZ j i ip) _
 ·have:=MG (h.ll.alloc o) (h.tt.alloc o) ip hg;exact Fg this (gZ this i ip) _
 ·have:w4.ownsRow base 9 1 vS q (Bh SS):=eZ h.ss fun b hb=>(hg.block b (by have:=(Am h.ss b hb).2;simp;omega) (fun e=>by have h1:=h.sg b hb;have h2:=(Am h.tt b e.symm).1;omega)).trans (Ed w o b (Am h.ss b hb).2);exact Fg this (gZ this i ip) _
 ·have h1:=hg.size;have h2:=h.bz;simp at h1 ⊢;omega
theorem St3.putL(h:St3 w mb m base rb bo B2 D I V vS vT vL q nT nL SS)(hg:(w.alloc o).grownBy w4 vL.ownBlock)(j:w4.ownsRow B2 37 1 v4 (nL+1) ((SS.take (nL+1)).map V)):
 St3 (w4.setCell ⟨bo,1,none⟩ v4) mb m base rb bo B2 D I V vS vT v4 q nT (nL+1) SS:=by
 have i:Blk w4 bo 53 #[vT,vL]:=(h.box.alloc o).grown hg (fun e=>gZ h.ll h.box ip e.symm)
 have y:MI w4 mb m base D I V:=(h.mi.step (aZ (Ag _ _) (o:=o))).kept (hg.block mb md (fun e=>J8 h.mi h.ll e.symm rfl)) fun s b hb=>by
  refine hg.block b (by have:=(Am (h.mi.row s) b hb).2;simp;omega) fun e=> ?_;rcases EZ (h.mi.row s) h.ll ip with h0|h0
  ·rw[h0]at hb;cases hb
  ·exact h0 (hb.trans e)
 have z:mb≠bo:=fun e=>mu
 refine⟨y.kept (AV w4 _ _ mb z) fun s b hb=>AV w4 _ _ b (fun e=>gZ (y.row s) i ip (hb.trans (AE some e))),?_,?_,h.ne,?_,?_,?_,h.sg,h.b2,?_⟩
 ·exact((h.res.alloc o).grown hg (fun e=>gZ h.ll h.res ip e.symm)).far h.ne _
 ·exact i.set 1 v4
 ·have:=MG (h.tt.alloc o) (h.ll.alloc o) ip hg;exact Fg this (gZ this i ip) _
 ·exact Fg j (gZ j i ip) _
 ·have:=MG (h.ss.alloc o) (h.ll.alloc o) ip hg;exact Fg this (gZ this i ip) _
 ·have h1:=hg.size;have h2:=h.bz;simp at h1 ⊢;omega
end
theorem PK(w:World)(A:Option Addr)(n c:Nat)(l:List Rec)(hn:l.length=n)(hN:n<=20000)(al:∀r∈l,r.source.size<=50000/\r.text.size<=50000)(ha:Row w w A n 4 (BS l)):
 Calls prog 52 #[.slice A n c] w (J6 (l.map lZ) w):=by
 obtain⟨j0,dm,dq,cC,cE⟩:=info_parts aK;have HN:=hid hn;have D1:Hid (∀wx r,r∈l->Calls prog 106 #[.agg #[.int .u64 r.time, .int .u8 r.level, .string r.source, .string r.text]] wx (LL (lZ r) wx)):=fun wx r hr=>Xv wx r.time r.level r.source r.text (al r hr).1 (al r hr).2;have ay:Hid (∀r∈l,(lZ r).length<=100000):=fun r hr=>by have:=RD r.text.data.toList r.source.data.toList;have h1:=Lib.size_eq r.text;have h2:=Lib.size_eq r.source;have:=al r hr;unfold lZ;omega
 have a9:=@run_makeMap prog;unfold LL at D1;unfold J6;clear hn al;go_enter func52,ntmps52;go_wp2_with fail;have ae:Blk (w.alloc (.cells #[(),()] 53)) w 53 #[(),()]:=Blk.made _ _ _;have bn:Below w w (w.alloc (.cells #[(),()] 53)):=aZ (Ag _ _);have bx:(w.alloc (.cells #[(),()] 53)).heap.size=w.heap.size+1:=pI
 generalize w.alloc (.cells #[(),()] 53)=w1 at *;rw[<-bx];have be:Hid (MI (w1.alloc (.map #[] 0)) w1 0 w (.map []) (fun _=> []) (fun _=> .slice none 0 0)):=MI.start w1 w;have ct:=hid (ae.alloc (.map #[] 0));have cw:Hid (Below w w (w1.alloc (.map #[] 0))):=aZ bn;obtain⟨mb,bp⟩:=ii w1.heap.size;rw[<-bp]at be ⊢;have dh:Hid (w.heap.size<=mb):=by show _<=_;rw[bp];exact bn.size
 generalize w1.alloc (.map #[] 0)=w2 at *;clear ae bn bx bp a9;go_loopw [14] (fun iv wr=>∃ (k m:Nat) (D:DataW Value) (V:Str->Value),k<=n/\m<=100000*k/\iv= .int .i64 k/\Hid (MI wr mb m w D (Cf ((l.take k).map lZ)) V)/\Hid (Blk wr w 53 #[(),()])/\Hid (Below w w wr)) (fun iv _=>n-(intOf iv).toNat)
 case atStart=>exact⟨0,0, .map [],fun _=> .slice none 0 0,mz,mz,rfl,be.out,ct.out,cw.out⟩
 case round=>
  obtain⟨k,m,D,V,hk,hm,rfl,HM,HX,HB⟩:=hrel;clear be ct cw;obtain⟨w0,rfl⟩:=ii wr;by_cases cB:k<n
  ·have gk:=ic ((k:Int)<n);have dn:=ic (k<n);have x0:(0:Int)<=(k:Int):=mz;have x1:(k:Int)<(n:Int):=mz;obtain⟨b,dv,r,rfl,du,hg,c0,c1,c2,c3⟩:=Row.rec (ha.below HB.out) HN.out cB;have bb:=Bg hg;have E1:=hid (fun wx=>D1.out wx r bb);have di:=ay.out r bb;have b7:EV (lZ r):=aT _ _;have ac:∀s∈lZ r,1<=s.length/\s.length<=25:=fun s hs=>U2 hs;have bh:(l.take (k+1)).map lZ=(l.take k).map lZ++ [lZ r]:=(by rw[Cm,hg,EN];rfl);have aq:((l.take k).map lZ).length=k:=(by rw[Bc,Bd,HN.out];omega);obtain⟨TS,a4⟩:=ii ((l.take k).map lZ);rw[<-a4]at bh aq HM;have aw:=hid bh;have cv:=hid aq;have cy:=hid b7;have cX:=hid ac;clear hg bb b7 ac bh aq a4;generalize lZ r=T at *;obtain⟨q,hq⟩:=ii T.length;rw[<-hq]at E1 di;have HQ:=hid hq;clear hq;go_wp2_with fail;have an:Below w0 w0 (w0.alloc (.cells #[.int .u64 r.time, .int .u8 r.level, .string r.source, .string r.text] 43)):=aZ (Ag _ _);generalize w0.alloc (.cells #[.int .u64 r.time, .int .u8 r.level, .string r.source, .string r.text] 43)=w3 at *;have M:=hid (HM.out.step an);have ak:=hid (HX.out.step an);have Q:Hid (Below w w w3):=dZ an HB.out;clear an HM HX HB c0 c1 c2 c3;refine(E1.out _).mono ?_;rintro e w4 ⟨v4,rfl,bq,af⟩;obtain⟨A4,c4,rfl⟩:=bZ bq;have cd:=hid (M.out.step af);have ci:=hid (ak.out.step af);have bf:Hid (Below w w w4):=dZ af Q.out;have cm:=hid bq;have cp:=af.size;have cT:=bf.out.size;clear af bq E1 M ak Q;go_wp2_with fail;go_loopw [22] (fun jv wr=>∃ (j m':Nat) (D':DataW Value) (V':Str->Value),j<=q/\m'<=m+j/\jv= .int .i64 j/\Hid (MI wr mb m' w D' (Gg TS T j) V')/\Hid (wr.ownsRow w3 9 1 (.slice A4 q c4) q (Bh T))/\Hid (Blk wr w 53 #[(),()])/\Hid (Below w w wr)) (fun jv _=>q-(intOf jv).toNat)
   case atStart=>exact⟨0,m,D,V,mz,mz,rfl,(by show MI _ _ _ _ _ _ _;rw[ZF];exact cd.out),cm.out,ci.out,bf.out⟩
   case round=>
    obtain⟨j,m',D',V',hj,dC,rfl,HM,HO,HX,HB⟩:=hrel;clear cd cm ci bf cp cT;obtain⟨wi,rfl⟩:=ii wr;by_cases dy:j<q
    ·have gj:=ic ((j:Int)<q);have bj:=ic (j<q);have y0:(0:Int)<=(j:Int):=mz;have y1:(j:Int)<(q:Int):=mz;obtain⟨t,ht⟩:∃t,T[j]? =some t:=⟨_,AD lu⟩;obtain⟨g,cg,bc,cz,_⟩:=HO.out.form mz;injection bc with hA1 hA2 hA3;subst hA1 hA3;have ck:wi.cell? ⟨g,j,none⟩=some (.string (bs t)):=(by rw[HO.out.cellAt j mz];exact Ns ht);have b3:=cX.out t (Bg ht);have ba:=Zo (ts:=TS) cy.out ht;rw[cv.out]at ba;have cr:=hid ba;obtain⟨A5,c5,hV⟩:=bZ (HM.out.row t);have au:=HM.out.look t qg;have ab:=HM.out.row t;rw[hV]at au ab
     have dk:(Gg TS T j t).length<=20001:=by
      have h1:=Mr TS t;have h2:=cv.out;unfold Gg;rw[Aj];split
      ·simp only[List.length_singleton];omega
      ·simp only[List.length_nil];omega
     obtain⟨p,hp⟩:=ii ((Gg TS T j t).length);have dg:=hid hp;rw[<-hp]at au ab dk hV;have G:=hid ab;have HV:=hid hV;have a3:=hid b3;have bt:=HB.out.size;have a9:m'<maxLen:=qg;clear ht b3 ba hV ab hp HQ;go_wp2_with(at_builtin;refine iZ rfl (.tmp 30) (.tmp 32) 37 rfl w 3 j0 _ 1 8 underlying37 dm dq cC cE rfl ip _ _ _ nc (G.out.alloc _) _ 1 1 [.int .i64 (k:Nat)] nc (Src.of_blk (Blk.made _ _ _) 1 1 1 rfl) mj qg mz pQ ?_;intro v6 w6 z E Z;have ca:(some mb:Option Nat)≠(Value.slice A5 p c5).ownBlock:=(fun e=>J8 HM.out G.out e.symm rfl);have bm:=(HM.out.map.alloc (.cells #[.int .i64 (k:Nat)] 3)).kept E ca;obtain⟨w7,ds,bC,b6⟩:=bm.update (string_keyed underlying9) underlying153 a9 (NM t (by have:=a3.out;unfold maxLen;omega)) (show Lq v6=some (.held v6,[]) from rfl);have H6:=hid (And.intro z (And.intro E (And.intro Z bm)));have H7:=hid (And.intro bC b6);clear z E Z ca bm bC b6);have bl:Hid (MI w7 mb (m'+1) w (D'.put (.string t) (.held v6)) (Gg TS T (j+1)) (fun s=>if s=t then v6 else V' s)):=(by show MI _ _ _ _ _ _ _;rw[<-cr.out];exact MI.put HM.out a3.out.2 (aZ (Ag _ _)) (by rw[HV.out];exact H6.out.2.1) (by rw[<-dg.out];exact H6.out.1) (by rw[HV.out];exact H6.out.2.2.1.imp_right fun e=>⟨_,e,Aq _⟩) H7.out.1 H7.out.2);have dj:Hid (w7.ownsRow w3 9 1 (.slice (some ⟨g,0,none⟩) q c4) q (Bh T)):=nG H6.out.2.2.2 (MG (HO.out.alloc _) (G.out.alloc _) ip H6.out.2.1) H7.out.2;have cP:Hid (Blk w7 w 53 #[(),()]):=mK H6.out.2.2.2 ((HX.out.alloc _).grown H6.out.2.1 (fun e=>gZ G.out HX.out ip e.symm)) H7.out.2;have df:Hid (Below w w w7):=((mZ bt HB.out).grown H6.out.2.1 pQ (fun y hy=>(Am G.out y hy).1)).grown H7.out.2 (by have:=(mZ (o:= .cells #[.int .i64 (k:Nat)] 3) bt HB.out).size;have:=H6.out.2.1.size;omega) (fun y hy=>by injection hy with hy;rw[<-hy];exact dh.out);clear H6 H7 HM HO HX HB G HV cr;go_roundw
     case measure=>exact jo
     case rel=>go_light;exact⟨j+1,m'+1,_,_,mz,mz,iu,bl.out,dj.out,cP.out,df.out⟩
    ·obtain rfl:j=q:=by omega
     have gj:=ig ((j:Int)<j);have bj:=ig (j<j);have bl:Hid (MI wi mb m' w D' (Cf ((l.take (k+1)).map lZ)) V'):=(by show MI _ _ _ _ _ _ _;rw[aw.out,<-Ym,<-HQ.out];exact HM.out);clear HM HQ;go_wp2_with fail;go_roundw
     case measure=>exact jo
     case rel=>go_light;exact⟨k+1,m',D',V',mz,mz,iu,bl.out,HX.out,HB.out⟩
  ·obtain rfl:k=n:=by omega
   have gk:=ig ((k:Int)<k);have dn:=ig (k<k);have az:l.take k=l:=BV oq;rw[az]at HM;have ai:(l.map lZ).length=k:=(by rw[Bc,HN.out]);obtain⟨TS,ac⟩:=ii (l.map lZ);rw[<-ac]at HM ai;have aj:=hid ac;have b8:=hid ai;clear az ac ai D1 ay ha;have ae:Blk (w0.alloc (.cells #[(),()] 53)) w0 53 #[(),()]:=Blk.made _ _ _;have am:Below w0 w0 (w0.alloc (.cells #[(),()] 53)):=aZ (Ag _ _);obtain⟨bo,bd⟩:=ii w0.heap.size;go_wp2_with fail;rw[<-bd]at ae ⊢;have bN:w.heap.size<bo:=(by rw[bd];exact HX.out.lt);generalize w0.alloc (.cells #[(),()] 53)=w3 at *;have M:=hid (HM.out.step am);have ak:=hid (HX.out.step am);have Q:Hid (Below w w w3):=dZ am HB.out;have a0:=hid ae;have b9:=X3 M.out.map;have cl:m<=2000000000:=mz;have DK:=hid (callsIn_wide.1 (Tryz.maps_Keys_108 (some mb) w3));have DS:=hid (callsIn_wide.1 (Tryz.slices_Sorted_keys_107_108 mb m D Lq w3 M.out.map qg mz));clear am ae HM HX HB bd;refine DK.out.mono ?_;rintro e w4 ⟨rfl,rfl⟩;clear DK;go_wp2_with fail;refine DS.out.mono ?_;rintro e w5 ⟨vS,ss,rfl,U,ag,bS,cf⟩;have Y:=M.out.keys U (TI TS) (On TS);have bi:ss.length=(AY TS).length:=(by rw[<-Y];exact(List.length_mergeSort ss).symm);rw[bi,show ss.mergeSort (fun x y=>decide (x<=y))=AY TS from Y,Wm]at ag;have J:Below w3 w3 w5:=dZ cf (aZ (Ag _ _));have h:w5.ownsRow w 9 1 vS (AY TS).length (Bh (AY TS)):=kZ ag (by have:=Q.out.size;simp;omega);obtain⟨SS,ar⟩:=ii (AY TS);rw[<-ar]at h;have cx:SS.length<=2000000000:=(by rw[ar,<-bi,U.length_eq];refine AN ?_ (AN b9 cl);unfold strKeys Maps.size;cases D<;>simp);obtain⟨q,hq⟩:=ii SS.length;rw[<-hq]at h cx;obtain⟨AS,cS,rfl⟩:=bZ h
   have bk:Hid (St3 w5 mb m w w bo w5 D (Cf TS) V (.slice AS q cS) (.slice none 0 0) (.slice none 0 0) q 0 0 SS):=
    ⟨M.out.step J,ak.out.step J,a0.out.step J,mz,AK _ _ _ _,AK _ _ _ _,h,fun g hg=>(Am h g hg).2,by have:=Q.out.size;have:=J.size;omega,Aq _⟩
   have cj:Hid (Below w w w5):=dZ J Q.out;have HQ:=hid hq;have aa:=hid ar;have dr:Hid (∀s∈SS,s.length<=25):=fun s hs=>M.out.long s ((On TS s).1 (by rw[<-aa.out];exact hs));have dx:Hid (∀s,(Cf TS s).length<=20000):=fun s=>by have h1:=Mr TS s;have h2:=b8.out;omega
   obtain⟨B2,b4⟩:=ii w5.heap.size;rw[<-b4]at bk;clear U ag bS cf Y bi J h hq ar DS M ak a0 Q b4 b9 cl;obtain⟨i0,dc,cF,dp,dl⟩:=info_parts Oo;obtain⟨i1,dd,cA,cH,de⟩:=info_parts ZZ;go_wp2_with fail;go_loopw [40] (fun iv wr=>∃ (k2:Nat) (vT vL:Value),k2<=q/\iv= .int .i64 k2/\Hid (St3 wr mb m w w bo B2 D (Cf TS) V (.slice AS q cS) vT vL q k2 k2 SS)/\Hid (Below w w wr)) (fun iv _=>q-(intOf iv).toNat)
   case atStart=>exact⟨0,_,_,mz,rfl,bk.out,cj.out⟩
   case round=>
    obtain⟨k2,vT,vL,dz,rfl,HS,HB⟩:=hrel;clear bk cj;by_cases aq:k2<q
    ·have gj:=ic ((k2:Int)<q);have bj:=ic (k2<q);have y0:(0:Int)<=(k2:Int):=mz;have y1:(k2:Int)<(q:Int):=mz;obtain⟨t,ht⟩:∃t,SS[k2]? =some t:=⟨_,AD lu⟩;obtain⟨g,cg,bc,cz,_⟩:=HS.out.ss.form mz;injection bc with hA1 hA2 hA3;subst hA1 hA3;have ck:wr.cell? ⟨g,k2,none⟩=some (.string (bs t)):=(by rw[HS.out.ss.cellAt k2 mz];exact Ns ht);have b5:SS.take (k2+1)=SS.take k2++ [t]:=(by rw[Cm,ht];rfl);have aw:=hid b5;have cq:=dr.out t (Bg ht);have ay:=hid cq;obtain⟨A5,c5,rfl⟩:=bZ HS.out.tt;obtain⟨A8,c8,rfl⟩:=bZ HS.out.ll;obtain⟨A7,c7,hV⟩:=bZ (HS.out.mi.row t);have HV:=hid hV;have b0:=HS.out.box.ia 0;have cG:=HB.out.size;have dt:=HS.out.bz;have a1:=HS.out.b2;obtain⟨p,hp⟩:=ii ((Cf TS t).length);rw[<-hp]at HV;clear ht b5 cq hV hp;go_wp2_with(first|(at_builtin;refine iZ rfl (.tmp 45) (.tmp 47) 50 rfl B2 9 i0 _ 1 16 underlying50 dc cF dp dl rfl ip _ _ _ nc (HS.out.tt.alloc _) _ 1 1 [.string (bs t)] nc (Src.of_blk (Blk.made _ _ _) 1 1 1 rfl) mj qg mz pQ ?_;intro v6 w6 z E Z;obtain⟨A6,c6,rfl⟩:=bZ z;have av:=HS.out.putT E (by rw[aw.out,N3];exact z);have au:=av.mi.look t (by have:=ay.out;unfold maxLen;omega);rw[HV.out]at au;have f6:=((HS.out.box.alloc _).grown E (fun e=>gZ HS.out.tt HS.out.box ip e.symm)).frozen 0;have e6:=((HS.out.box.alloc _).grown E (fun e=>gZ HS.out.tt HS.out.box ip e.symm)).cell 0;have da:=((HS.out.box.alloc _).grown E (fun e=>gZ HS.out.tt HS.out.box ip e.symm)).cell 1;simp only[List.getElem?_toArray,List.getElem?_cons_zero,List.getElem?_cons_succ]at e6 da;have ax:Hid (Below w w w6):=(mZ cG HB.out).grown E pQ (fun y hy=>AN a1 (Am HS.out.tt y hy).1);have H6:=hid av;have ce:=av.bz;clear av z E Z)|(at_builtin;refine iZ rfl (.tmp 51) (.tmp 55) 51 rfl B2 37 i1 _ 1 24 underlying51 dd cA cH de rfl ip _ _ _ nc (H6.out.ll.alloc _) _ 1 1 [.slice A7 p c7] nc (Src.of_blk (Blk.made_at _ _ _ pI) 1 1 1 rfl) mj qg mz (by simp at ce ⊢;omega) ?_;intro v9 w9 N ah cu;obtain⟨A9,c9,rfl⟩:=bZ N;have co:=H6.out.putL ah (by rw[aw.out,EN,List.map_singleton,HV.out];exact N);have f9:=((H6.out.box.alloc _).grown ah (fun e=>gZ H6.out.ll H6.out.box ip e.symm)).frozen 1;have e9:=((H6.out.box.alloc _).grown ah (fun e=>gZ H6.out.ll H6.out.box ip e.symm)).cell 1;simp only[List.getElem?_toArray,List.getElem?_cons_zero,List.getElem?_cons_succ]at e9;have cc:Hid (Below w w w9):=(mZ (by have:=ax.out.size;simp;omega) (B4 (Nat.le_of_lt bN) ax.out)).grown ah (by have:=ax.out.size;simp;omega) (fun y hy=>AN a1 (Am H6.out.ll y hy).1);have H9:=hid co;clear co N ah cu));have cL:Hid (Below w w (w9.setCell ⟨bo,1,none⟩ (.slice A9 (k2+1) c9))):=B4 (Nat.le_of_lt bN) cc.out;clear H6 ax cc HS HB;go_roundw
     case measure=>exact jo
     case rel=>go_light;exact⟨k2+1,_,_,mz,iu,H9.out,cL.out⟩
    ·obtain rfl:k2=q:=by omega
     have gj:=ig ((k2:Int)<k2);have bj:=ig (k2<k2);obtain⟨A5,c5,rfl⟩:=bZ HS.out.tt;obtain⟨A8,c8,rfl⟩:=bZ HS.out.ll;have b0:=HS.out.box.ia 0;have b1:=HS.out.box.ia 1;have r0:=HS.out.res.ia 0;have r1:=HS.out.res.ia 1;have s0:=HS.out.res.frozen 0;have s1:=HS.out.res.frozen 1;go_wp2_with fail;have bg:SS.take k2=SS:=BV (by rw[<-HQ.out];exact Aq _);have a6:=HS.out.tt;have a5:=HS.out.ll;rw[bg]at a6 a5;have bu:=HS.out.b2;have n1:(Value.slice A5 k2 c5).ownBlock≠some w.heap.size:=gZ a6 HS.out.res ip;have n2:(Value.slice A8 k2 c8).ownBlock≠some w.heap.size:=gZ a5 HS.out.res ip;refine CI (v:= .agg #[.slice A5 k2 c5, .slice A8 k2 c8]) ?_ rfl ⟨_,_,SS.map V,rfl,⟨?_,?_,?_⟩,?_⟩
     ·have e0:=(HS.out.res.set 0 (.slice A5 k2 c5)).cell 0;have e1:=((HS.out.res.set 0 (.slice A5 k2 c5)).set 1 (.slice A8 k2 c8)).cell 1;simp at e0 e1;simp[results,results52,go_sem,e0,e1]
     ·rw[<-aj.out,<-aa.out,<-HQ.out];exact Fg (Fg (kZ a6 bu) n1 _) n1 _
     ·rw[<-aj.out,<-aa.out,Bc,<-HQ.out];exact Fg (Fg (kZ a5 bu) n2 _) n2 _
     ·intro i v dw hv hi;rw[<-aj.out,<-aa.out]at hi;rw[BE]at hv hi;cases hs:SS[i]? with
      |none=>rw[hs]at hv;cases hv
      |some s=>rw[hs]at hv hi;injection hv with hv;injection hi with hi;subst hv hi;have hn:=gZ (HS.out.mi.row s) HS.out.res ip;exact Fg (Fg (HS.out.mi.row s) hn _) hn _
     ·exact B4 (Aq _) (B4 (Aq _) HB.out)
end Idx
namespace Idx
open Go.RowKit Mem Own Canon
open NumPut (fZ sZ CY)
open Ef (efO Ca Fs Di Es Hk unary JH Ha ND efW)
open Huff (bytesOf bytesOf_length)
def Dl(bound:Nat)(ls:List (List Nat)):List Nat:=ls.flatMap (efO bound)
def ixO(size bound:Nat)(ts:List Str)(ls:List (List Nat)):List Nat:=Dg size ts++Dl bound ls
theorem aR(bound:Nat)(ls:List (List Nat))(k:Nat)(x:List Nat)(h:ls[k]? =some x):Dl bound (ls.take (k+1))=Dl bound (ls.take k)++efO bound x:=by unfold Dl;rw[Cm,h];simp
theorem Ni:∀ (l:List Nat) (i B:Nat),i<=B->(∀x∈l,i<=x/\x<=B)->l.Pairwise (·<= ·)->(Es i l).length+i<=B+l.length
 | [],i,B,hw,_,_=>by simp[Es];exact hw
 |x :: t,i,B,hw,h,hp=>by rw[Fz]at hp;have hx:=h x CD;have ih:=Ni t x B hx.2 (fun y hy=>⟨hp.1 y hy,(h y (BW _ hy)).2⟩) hp.2;rw[Es,Aj,JH,AI];omega
theorem Nb:∀ (bound:Nat) (l:List Nat) (u:Option Nat),Ca bound u l=true->l.Pairwise (·<= ·)/\∀y,u=some y->∀x∈l,y<=x
 |_,[],_,_=>⟨List.Pairwise.nil,fun _ _ _ hx=>by cases hx⟩
 |bound,a :: t,u,h=>by
  rw[Ca,BX]at h;have ih:=Nb bound t (some a) h.2;have ha:∀y,u=some y->y<=a:=fun y hy=>by have h1:=h.1;unfold Ef.Iq at h1;rw[hy,BX]at h1;have:=h1.2;simp at this;omega
  refine⟨Fz.2 ⟨fun x hx=>ih.2 a rfl x hx,ih.1⟩,fun y hy x hx=> ?_⟩;rcases AQ.1 hx with rfl|hx
  ·exact ha y hy
  ·exact AN (ha y hy) (ih.2 a rfl x hx)
theorem fL(hb:bound<=20000)(hm:Ca bound none l=true)(hn:l.length<=bound):(efO bound l).length<=45010:=by
 unfold efO;split
 ·have:=sZ (x:=0) mz;omega
 ·rename_i h0;have h1:1<=l.length:=FD.2 h0;have hq:1<=bound / l.length:=(Nat.one_le_div_iff mz).2 hn;have hW:efW bound l.length<=14:=by refine Ju fun h=> ?_;have h2:2 ^ 15<=2 ^ efW bound l.length:=Cl mz mz;have h3:=Ef.Lr (q:=bound / l.length) mz;have h4:bound / l.length<=bound:=Ho _ _;unfold efW at h2;omega
  have E:=sZ (x:=l.length) mz;have i:=Hk (efW bound l.length) l;have G:l.length*efW bound l.length<=20000*14:=Hn mz hW;have z:=Ha bound l none hm;have hp:=(Nb bound l none hm).1;have j:=Ni (l.map (·/ 2 ^ efW bound l.length)) 0 bound mz (fun x hx=>by obtain⟨y,hy,rfl⟩:=Cc.1 hx;exact⟨Cr _,AN (Ho _ _) (by have:=z y hy;omega)⟩) (List.Pairwise.map _ (fun a b h=>Nat.div_le_div_right h) hp);rw[Bc]at j;rw[Aj,bytesOf_length];unfold Fs;rw[Aj,i];omega
theorem Vt:∀ (bound:Nat) (l:List Nat) (u:Option Nat),Ca bound u l=true->l.length+(match u with|none=>0|some y=>y+1)<=bound∨l= []
 |_,[],_,_=> .inr rfl
 |bound,a :: t,u,h=>by
  have h':=h;rw[Ca,BX]at h';have i:=Ha bound (a :: t) u h a CD;have h1:=h'.1;unfold Ef.Iq at h1;rw[BX]at h1;refine .inl ?_;rcases Vt bound t (some a) h'.2 with ih|ih
  ·simp only at ih;cases u with
   |none=>simp only[List.length_cons];omega
   |some y=>have:=h1.2;simp at this;simp only[List.length_cons];omega
  ·subst ih;cases u with
   |none=>simp only[List.length_cons,List.length_nil];omega
   |some y=>have:=h1.2;simp at this;simp only[List.length_cons,List.length_nil];omega
theorem Pp(h:Ca bound none l=true)(h0:l≠ []):1<=l.length/\l.length<=bound:=by
 have h1:1<=l.length:=FD.2 h0;rcases Vt bound l none h with h2|h2
 ·exact⟨h1,p6⟩
 ·exact absurd h2 h0
def G4(bound:Nat)(ls:List (List Nat)):Bool:=ls.all (Ca bound none)
theorem Ro(h:G4 bound ls=true)(hx:ls[k]? =some x):Ca bound none x=true:=FW.1 h x (Bg hx)
theorem mE(hb:bound<=20000)(h0:∀l∈ls,l≠ [])(hm:G4 bound ls=true):(Dl bound ls).length<=45010*ls.length:=by
 induction ls with
 |nil=>simp[Dl]
 |cons x t ih=>unfold G4 at hm ih;rw[List.all_cons,BX]at hm;have ih:=ih (fun l hl=>h0 l (BW _ hl)) hm.2;have hx:=fL hb hm.1 (Pp hm.1 (h0 x CD)).2;unfold Dl at ih ⊢;rw[Ct,Aj,AI];omega
theorem Y3{size:Nat}{l:List Str}(hm:Gl l=true)(h1:1<=size)(h2:size<=64)(hN:l.length<=20000):(Dg size l).length<=820010:=by have hs:∀s∈l,s.length<=25:=fun s hs=>(Jj hm s hs).2;have a:=Mu hs h2 mz (nCh size l.length);have b:=MU hs h1 (nCh size l.length);have c:=Np (n:=l.length) h1;have e:Dg size l=hdB size l (nCh size l.length)++bdB size l (nCh size l.length):=Qe h1 l;rw[e,Aj];omega
theorem IxAt.step{ts:List Str}(h:IxAt w base vT vL vals ts ls)(hb:Below w w w'):IxAt w' base vT vL vals ts ls:=
 ⟨eZ h.t fun y hy=>hb.block y (Am h.t y hy).2,eZ h.l fun y hy=>hb.block y (Am h.l y hy).2,fun i v ids hv hi=>eZ (h.r i v ids hv hi) fun y hy=>hb.block y (Am (h.r i v ids hv hi) y hy).2⟩
theorem IxAt.len{ts:List Str}(h:IxAt w base vT vL vals ts ls):vals.length=ls.length:=by have:=h.l.1;omega
end Idx
namespace Body
open Recs Opts Crc Idx
open NumPut (fZ sZ CY)
open Block (Bu)
open Go.Proofs.YtfgdoknipbpfhaaGreatDoor.One (Oc Nc N5 NL)
def Cv(wh pl:Bool):List Nat->List Rec->List (List Nat)
 | [],_=> []
 |c :: t,l=>Bu (wZ wh (l.take c)) pl :: Cv wh pl t (l.drop c)
def yZ(o:Opt)(l:List Rec):List Nat:=Hc o.block.toNat (EJ false l)
def Bf:List Nat->List Nat->List Nat
 |a :: g,b :: s=>fZ a++(fZ b++Bf g s)
 |_,_=> []
def AR(b:List Nat):List Nat:=b++CR (Cn b)
def Ei(n:Nat)(G S:List Nat)(x y:Nat):List Nat:=fZ n++(fZ G.length++(Bf G S++(fZ x++fZ y)))
def EP(n:Nat)(G:List Nat)(FS:List (List Nat))(cols idx:List Nat):List Nat:=
 FS.flatten++(AR cols++(AR idx++(AR (Ei n G (FS.map List.length) (AR cols).length (AR idx).length)++CO (AR (Ei n G (FS.map List.length) (AR cols).length (AR idx).length)).length)))
def ixR(o:Opt)(l:List Rec):List Nat:=ixO o.bucket.toNat l.length (AY (l.map lZ)) ((AY (l.map lZ)).map (Cf (l.map lZ)))
def Cw(o:Opt)(l:List Rec):List Nat:=EP l.length (yZ o l) (Cv false o.plain (yZ o l) l) (Dh l) (ixR o l)
theorem Dy(b:List Nat):(AR b).length=b.length+4:=by unfold AR;rw[Aj];rfl
theorem Oh{b:List Nat}(h:∀x∈b,x<=255):∀x∈AR b,x<=255:=fun x hx=>by
 rcases BJ.1 hx with hx|hx
 ·exact h x hx
 ·have:=UG _ x hx;omega
theorem SF:∀ (g s:List Nat) (a b:Nat),g.length=s.length->Bf (g++ [a]) (s++ [b])=Bf g s++(fZ a++fZ b)
 | [],[],a,b,_=>by simp[Bf]
 |x :: g,y :: s,a,b,h=>by rw[Ec,Ec,Bf,SF g s a b p5,Bf];simp only[List.append_assoc]
 | [],_ :: _,_,_,h=>pJ
 |_ :: _,[],_,_,h=>pJ
theorem Sv{g s:List Nat}{a b:Nat}(ha:g[k]? =some a)(hb:s[k]? =some b):Bf (g.take (k+1)) (s.take (k+1))=Bf (g.take k) (s.take k)++(fZ a++fZ b):=by obtain⟨hk,_⟩:=CE.1 ha;obtain⟨h,_⟩:=CE.1 hb;rw[Cm,ha,Cm,hb];exact SF _ _ a b (by rw[Bd,Bd];omega)
theorem UQ:∀ (g s:List Nat),(∀x∈g,x<18446744073709551616)->(∀x∈s,x<18446744073709551616)->(Bf g s).length<=20*g.length
 | [],_,_,_=>by simp[Bf]
 |_ :: _,[],_,_=>by simp[Bf]
 |x :: g,y :: s,h1,h2=>by have a:=sZ (h1 x CD);have b:=sZ (h2 y CD);have c:=UQ g s (fun z hz=>h1 z (BW _ hz)) (fun z hz=>h2 z (BW _ hz));rw[Bf,Aj,Aj,AI];omega
theorem Rb:∀ (g s:List Nat),∀x∈Bf g s,x<=255
 | [],_,x,h=>by simp[Bf]at h
 |_ :: _,[],x,h=>by simp[Bf]at h
 |a :: g,b :: s,x,h=>by
  rw[Bf]at h;rcases BJ.1 h with h|h
  ·exact CY _ x h
  ·rcases BJ.1 h with h|h
   ·exact CY _ x h
   ·exact Rb g s x h
theorem Oa(n:Nat)(G S:List Nat)(x y:Nat):∀z∈Ei n G S x y,z<=255:=fun z h=>by
 unfold Ei at h;simp only[List.mem_append]at h;rcases h with h|h|h|h|h
 ·exact CY _ z h
 ·exact CY _ z h
 ·exact Rb _ _ z h
 ·exact CY _ z h
 ·exact CY _ z h
theorem PN{G S:List Nat}{x y:Nat}(hn:n<=1000000000)(hg:G.length<=1000000000)(h1:∀z∈G,z<=1000000000)(h2:∀z∈S,z<=1000000000)(hx:x<=1000000000)(hy:y<=1000000000):(Ei n G S x y).length<=40+20*G.length:=by have a:=sZ (x:=n) mz;have b:=sZ (x:=G.length) mz;have c:=sZ (x:=x) mz;have d:=sZ (x:=y) mz;have e:=UQ G S (fun z hz=>by have:=h1 z hz;omega) (fun z hz=>by have:=h2 z hz;omega);unfold Ei;simp only[List.length_append];omega
theorem Ly(wh pl:Bool):∀ (cs:List Nat) (l:List Rec),(Cv wh pl cs l).length=cs.length
 | [],_=>rfl
 |c :: t,l=>by rw[Cv,AI,Ly wh pl t,AI]
theorem Kk(wh pl:Bool):∀ (cs:List Nat) (l:List Rec),(wZ wh l).length<=16000->(Cv wh pl cs l).flatten.length<=(wZ wh l).length+25*cs.length
 | [],_,_=>by simp[Cv]
 |c :: t,l,h=>by have hs:=One.ML wh l c;have ih:=Kk wh pl t (l.drop c) mz;have hf:=One.T8 (bs:=wZ wh (l.take c)) pl mz;rw[Cv,List.flatten_cons,Aj,AI];omega
theorem JR(o:Opt)(l:List Rec):(yZ o l).sum=l.length:=by unfold yZ;rw[Oc,NL]
theorem Lx(o:Opt)(l:List Rec):(yZ o l).length<=l.length:=by have:=N5 (Nc o.block.toNat (EJ false l));rw[Oc,NL]at this;exact this
theorem IJ:∀ {l:List Nat} {x:Nat},x∈l->x<=l.sum
 |y :: t,x,h=>by
  rw[GI];rcases AQ.1 h with rfl|h
  ·omega
  ·have:=IJ h;omega
end Body
namespace Body
open Go.RowKit Mem Own Canon Recs
open NumPut
open Block (nZ)
theorem Vk{x:Nat}(h:l[k]? =some x):(l.take (k+1)).sum=(l.take k).sum+x:=by rw[Cm,h];simp
theorem Lv(l:List Nat)(k:Nat):(l.take k).sum<=l.sum:=by
 conv=>rhs;rw[<-EM k l]
 rw[NH];omega
theorem KQ(w:World)(A:Option Addr)(n c:Nat)(ls:List Nat)(hn:ls.length=n)(hN:n<=1000000)(hs:ls.sum<=1000000000000000)(ha:Row w w A n 1 (jZ .i64 ls)):
 Calls prog 64 #[.slice A n c] w fun e w'=>e= .returned (.int .i64 (ls.sum:Nat))/\w'=w:=by
 have HN:=hid hn;obtain⟨R,hR⟩:=ii ls.sum;have HR:=hid hR;rw[<-hR]at hs ⊢;clear hn hR;go_enter func64,ntmps64;go_wp2_with fail;go_loopw [3,8] (fun sv iv wx=>∃k s:Nat,k<=n/\s<=R/\iv= .int .i64 k/\sv= .int .i64 s/\Hid (s=(ls.take k).sum)/\wx=w) (fun _ iv _=>n-(intOf iv).toNat)
 case atStart=>exact⟨0,0,mz,mz,rfl,rfl,rfl,rfl⟩
 case round=>
  obtain⟨k,s,hk,J,rfl,rfl,HS,rfl⟩:=hrel;by_cases j:k<n
  ·have gk:=ic ((k:Int)<n);have E:=ic (k<n);have x0:(0:Int)<=(k:Int):=mz;have x1:(k:Int)<(n:Int):=mz;obtain⟨b,G,x,rfl,_,hx,ck⟩:=CF ha HN.out j;have h:=Vk hx;have i:=Lv ls (k+1);rw[h,<-HS.out,<-HR.out]at i;have y:Hid (s+x=(ls.take (k+1)).sum):=(by show _=_;rw[h,HS.out]);have s1:IntKind.i64.wrap ((s:Int)+(x:Int))=((s+x:Nat):Int):=nW;clear h hx HS;go_wp2_with fail;go_roundw
   case measure=>exact jo
   case rel=>go_light;exact⟨k+1,s+x,mz,i,iu,iu,y.out,iy⟩
  ·obtain rfl:k=n:=by omega
   have gk:=ig ((k:Int)<k);have E:=ig (k<k);have z:s=R:=(by rw[HS.out,HR.out,BV oq]);subst z;clear HS HR j;go_wp2_with fail;go_ret;exact⟨rfl,rfl⟩
theorem sum_any(w:World)(A:Option Addr)(n c:Nat)(ls:List Nat)(hn:ls.length=n)(hN:n<=1000000)(hs:ls.sum<=1000000000)(ha:Row w w A n 1 (jZ .i64 ls)):
 Calls prog 64 #[.slice A n c] w fun e w'=>e= .returned (.int .i64 (ls.sum:Nat))/\w'=w:=KQ w A n c ls hn hN mz ha
theorem jR(w:World)(db g cG cS x y base:Nat)(AG AS:Option Addr)(G S:List Nat)(hg:G.length=g)(hs:S.length=g)(bi:g<=20000)(hG:G.sum<=1000000000)(hS:∀z∈S,z<=1000000000)(hx:x<=1000000000)(hy:y<=1000000000)
 (hb:Blk w db 87 #[.slice AG g cG, .slice AS g cS, .int .i64 (x:Nat), .int .i64 (y:Nat)])(af:Row w base AG g 1 (jZ .i64 G))(am:Row w base AS g 1 (jZ .i64 S))(N:base<=w.heap.size):
 Calls prog 53 #[.pointer (some ⟨db,0,none⟩)] w fun e w'=>∃v,e= .returned v/\w'.ownsRow w 5 1 v (Ei G.sum G S x y).length (cZ .u8 (Ei G.sum G S x y))/\Below w w w':=by
 have DS:=hid (fun wx (h:Below w w wx)=>sum_any wx AG g cG G hg mz hG (((af.mono N).below h).mono h.size));have D1:=hid (fun wx=>Gf wx G.sum mz);have D2:=hid (fun wx=>Gf wx g mz);have l1:=sZ (x:=G.sum) mz;have l2:=sZ (x:=g) mz;have ai:Ei G.sum G S x y=fZ G.sum++(fZ g++(Bf G S++(fZ x++fZ y))):=by unfold Ei;rw[hg]
 obtain⟨s,ae⟩:=ii G.sum;rw[<-ae]at DS D1 l1 hG ai ⊢;have av:=hid ai;have u1:IntKind.u64.wrap (s:Int)=(s:Int):=n5
 have u2:IntKind.u64.wrap (g:Int)=(g:Int):=n5
 have al:∀z∈G,z<=1000000000:=fun z hz=>AN (IJ hz) mz;have ay:=hid al;have bb:=hid hS;have HG:=hid hg;have HS:=hid hs;have ba:Hid (Row w base AG g 1 (jZ .i64 G)):=af;have az:Hid (Row w base AS g 1 (jZ .i64 S)):=am;have ac:=hid hb;have HC:Hid (∀wx,Below w w wx->wx.cell? ⟨db,0,none⟩=some (.slice AG g cG)):=fun wx h=>(hb.step h).cell 0;have bk:=hid ae;have c0:=hb.ia 0;have bh:=hb.lt;clear hg hs hS ai hb af am al ae;generalize fZ s=N1 at *;generalize fZ g=N2 at *;have a9:∀a1 a2 a3 a4,BM [(⟨a1,a2,N1⟩:Part),⟨a3,a4,N2⟩]<=1000000:=fun _ _ _ _=>pR
 go_enter func53,ntmps53;go_upto_region 1 with fail;go_cut [3] (fun v wx=>Hid (wx.ownsRow w 5 1 v (N1.length+N2.length) (cZ .u8 (N1++N2)))/\Hid (Below w w wx))
 case first=>
  go_region_held3 (fun wx=>wx.cell? ⟨db,0,none⟩=some (.slice AG g cG)) (first|exact HC.out _ ((Ag _ _).drew)|(refine HC.out _ ?_;(repeat (with_reducible first|exact Ag _ _|assumption|refine Az ?_ |refine below_drewN ?_ _|refine qZ ?_ |refine aZ ?_ |refine dZ im ?_ |refine belA ?_ |refine rZ im ?_)))) (first|(go_at_call 64;(with_reducible refine(DS.out _ qh).mono ?_);rintro e wF ⟨rfl,rfl⟩)|(go_at_call 99;first|((with_reducible refine(D1.out _).mono ?_);rintro e wA ⟨vA,rfl,J,ab⟩;obtain⟨AA,cA,rfl⟩:=bZ J;have PA:Part.Ok (⟨AA,cA,N1⟩:Part) wA:=nZ J rfl)|((with_reducible refine(D2.out _).mono ?_);rintro e wB ⟨vB,rfl,E,aa⟩;obtain⟨AB,cB,rfl⟩:=bZ E;have PB:Part.Ok (⟨AB,cB,N2⟩:Part) wB:=nZ E rfl))|(go_at_call 55;(refine(FJ _ _ 2 [(⟨AA,cA,N1⟩:Part),(⟨AB,cB,N2⟩:Part)] rfl mz (a9 _ _ _ _) (fun p hp=>by{rcases AQ.1 hp with rfl|hp;exact PA.step qh;rcases AQ.1 hp with rfl|hp;exact PB.step qh;cases hp}) ir).mono ?_);rintro e w7 ⟨v7,rfl,j,Q⟩;obtain⟨A7,c7,rfl⟩:=bZ j;have B7:Below w w w7:=dZ Q qh))
  all_goals
   have Y:Hid (w7.ownsRow w 5 1 (.slice A7 (N1.length+N2.length) c7) (N1.length+N2.length) (cZ .u8 (N1++N2))):=(by have h:=kZ j (show w.heap.size<=_ from Below.size qh);simp only[List.flatMap_cons,List.flatMap_nil,List.append_nil,List.length_append]at h;exact h);have U:=hid B7;go_wp2_with fail;go_meet
   case rel=>go_light;exact⟨Y.out,U.out⟩
 case rest=>
  obtain⟨ak,ag⟩:=hcut;have be:=HC.out _ ag.out;clear c0;go_wp2_with fail;have au:Hid (wc.ownsRow w 5 1 u3 (N1++N2++Bf (G.take 0) (S.take 0)).length (cZ .u8 (N1++N2++Bf (G.take 0) (S.take 0)))):=by have e:N1++N2++Bf (G.take 0) (S.take 0)=N1++N2:=(by simp[Bf]);show World.ownsRow _ _ _ _ _ _ _;rw[e,Aj];exact ak.out
  have ar:Hid ((N1++N2++Bf (G.take 0) (S.take 0)).length<=20+20*0):=by show _<=_;simp[Bf];omega
  clear be ak;go_loopw [3,27] (fun ov iv wr=>∃k:Nat,k<=g/\iv= .int .i64 k/\Hid (wr.ownsRow w 5 1 ov (N1++N2++Bf (G.take k) (S.take k)).length (cZ .u8 (N1++N2++Bf (G.take k) (S.take k))))/\Hid ((N1++N2++Bf (G.take k) (S.take k)).length<=20+20*k)/\Hid (Below w w wr)) (fun _ iv _=>g-(intOf iv).toNat)
  case atStart=>exact⟨0,mz,rfl,au.out,ar.out,ag.out⟩
  case round=>
   obtain⟨k,hk,rfl,HO,HL,HB⟩:=hrel;clear au ar ag;obtain⟨wi,rfl⟩:=ii wr;have hz:=HB.out.size;by_cases aq:k<g
   ·have gk:=ic ((k:Int)<g);have bd:=ic (k<g);obtain⟨A3,c3,rfl⟩:=bZ HO.out;have x0:(0:Int)<=(k:Int):=mz;have x1:(k:Int)<(g:Int):=mz;obtain⟨bg,og,n,rfl,bf,hn,cn⟩:=CF (ba.out.keep fun p hp=>HB.out.cell (p:=p) (Et hp N)) HG.out aq;obtain⟨bs,os,z,rfl,bj,aj,cz⟩:=CF (az.out.keep fun p hp=>HB.out.cell (p:=p) (Et hp N)) HS.out aq;have aw:=ay.out n (Bg hn);have ax:=bb.out z (Bg aj);have an:=Sv hn aj;have DA:=hid (fun wx=>Gf wx n mz);have DB:=hid (fun wx=>Gf wx z mz);have u3:IntKind.u64.wrap (n:Int)=(n:Int):=n5;have u4:IntKind.u64.wrap (z:Int)=(z:Int):=n5;have la:=sZ (x:=n) mz;have lb:=sZ (x:=z) mz;have M:Hid (∀wx,Below wi wi wx->wx.cell? ⟨db,1,none⟩=some (.slice (some ⟨bs,os,none⟩) g cS)/\wx.cell? ⟨bs,os+k,none⟩=some (.int .i64 (z:Nat))):=fun wx h=>⟨((ac.out.step HB.out).step h).cell 1,(h.cell (p:=⟨bs,os+k,none⟩) (by show bs<_;omega)).trans cz⟩;have PO:Hid (∀wx,Below wi wi wx->Part.Ok (⟨A3,c3,N1++N2++Bf (G.take k) (S.take k)⟩:Part) wx):=fun wx hb=>(nZ HO.out rfl).step hb;generalize fZ n=NA at *;generalize fZ z=NB at *;have Z:Hid (N1++N2++Bf (G.take (k+1)) (S.take (k+1))=N1++N2++Bf (G.take k) (S.take k)++(NA++NB)):=(by show _=_;rw[an];simp only[List.append_assoc]);have bc:=HL.out;generalize N1++N2++Bf (G.take k) (S.take k)=i at *;have ah:∀a1 a2 a3 a4 a5 a6,BM [(⟨a1,a2,i⟩:Part),⟨a3,a4,NA⟩,⟨a5,a6,NB⟩]<=1000000:=fun _ _ _ _ _ _=>by simp[BM];omega
    have c1:=(M.out wi (Ag _ _)).1;clear hn aj an aw ax;go_upto_region 5 with fail;go_region_held3 (fun wx=>wx.cell? ⟨db,1,none⟩=some (.slice (some ⟨bs,os,none⟩) g cS)/\wx.cell? ⟨bs,os+k,none⟩=some (.int .i64 (z:Nat))) (first|exact M.out _ ((Ag _ _).drew)|(refine M.out _ ?_;(repeat (with_reducible first|exact Ag _ _|assumption|refine Az ?_ |refine below_drewN ?_ _|refine qZ ?_ |refine aZ ?_ |refine dZ im ?_ |refine belA ?_ |refine rZ im ?_)))) (first|(go_at_call 99;first|((with_reducible refine(DA.out _).mono ?_);rintro e wA ⟨vA,rfl,J,ab⟩;obtain⟨AA,cA,rfl⟩:=bZ J;have PA:Part.Ok (⟨AA,cA,NA⟩:Part) wA:=nZ J rfl)|((with_reducible refine(DB.out _).mono ?_);rintro e wB ⟨vB,rfl,E,aa⟩;obtain⟨AB,cB,rfl⟩:=bZ E;have PB:Part.Ok (⟨AB,cB,NB⟩:Part) wB:=nZ E rfl))|(go_at_call 55;(refine(FJ _ _ 3 [(⟨A3,c3,i⟩:Part),(⟨AA,cA,NA⟩:Part),(⟨AB,cB,NB⟩:Part)] rfl mz (ah _ _ _ _ _ _) (fun p hp=>by{rcases AQ.1 hp with rfl|hp;exact PO.out _ qh;rcases AQ.1 hp with rfl|hp;exact PA.step qh;rcases AQ.1 hp with rfl|hp;exact PB.step qh;cases hp}) ir).mono ?_);rintro e w7 ⟨v7,rfl,j,Q⟩;obtain⟨A7,c7,rfl⟩:=bZ j;have B7:Below wi wi w7:=dZ Q qh))
    all_goals
     have Y:Hid (w7.ownsRow w 5 1 (.slice A7 (i.length+(NA.length+NB.length)) c7) (i.length+(NA.length+NB.length)) (cZ .u8 (i++(NA++NB)))):=(by have h:=kZ j (show w.heap.size<=_ from AN hz (Below.size qh));simp only[List.flatMap_cons,List.flatMap_nil,List.append_nil,List.length_append]at h;exact h);have U:Hid (Below w w w7):=uZ B7 hz HB.out;have a0:Hid ((i++(NA++NB)).length<=20+20*(k+1)):=(by show _<=_;rw[Aj,Aj];omega);clear j Q PA PB B7 HO HB HL PO J E ab aa M cn cz c1;go_wp2_with fail;go_roundw
     case measure=>exact jo
     case rel=>go_light;exact⟨k+1,mz,iu,by rw[Z.out,Aj,Aj];exact Y.out,by rw[Z.out];exact a0.out,U.out⟩
   ·obtain rfl:k=g:=by omega
    have gk:=ig ((k:Int)<k);have bd:=ig (k<k);have eG:G.take k=G:=BV (by rw[HG.out];exact Aq _);have eS:S.take k=S:=BV (by rw[HS.out];exact Aq _);rw[eG,eS]at HO HL;obtain⟨A3,c3,rfl⟩:=bZ HO.out;have DA:=hid (fun wx=>Gf wx x mz);have DB:=hid (fun wx=>Gf wx y mz);have u3:IntKind.u64.wrap (x:Int)=(x:Int):=n5;have u4:IntKind.u64.wrap (y:Int)=(y:Int):=n5;have la:=sZ (x:=x) mz;have lb:=sZ (x:=y) mz;have M:Hid (∀wx,Below wi wi wx->wx.cell? ⟨db,2,none⟩=some (.int .i64 (x:Nat))/\wx.cell? ⟨db,3,none⟩=some (.int .i64 (y:Nat))):=fun wx h=>⟨((ac.out.step HB.out).step h).cell 2,((ac.out.step HB.out).step h).cell 3⟩;have PO:Hid (∀wx,Below wi wi wx->Part.Ok (⟨A3,c3,N1++N2++Bf G S⟩:Part) wx):=fun wx hb=>(nZ HO.out rfl).step hb;generalize fZ x=NA at *;generalize fZ y=NB at *;have bc:=HL.out;have Z:Hid (Ei s G S x y=N1++N2++Bf G S++(NA++NB)):=(by show _=_;rw[av.out];simp only[List.append_assoc]);generalize N1++N2++Bf G S=i at *;have ah:∀a1 a2 a3 a4 a5 a6,BM [(⟨a1,a2,i⟩:Part),⟨a3,a4,NA⟩,⟨a5,a6,NB⟩]<=1000000:=fun _ _ _ _ _ _=>pR
    clear eG eS av;go_upto_region 7 with fail;go_region_held3 (fun wx=>wx.cell? ⟨db,2,none⟩=some (.int .i64 (x:Nat))/\wx.cell? ⟨db,3,none⟩=some (.int .i64 (y:Nat))) (first|exact M.out _ ((Ag _ _).drew)|(refine M.out _ ?_;(repeat (with_reducible first|exact Ag _ _|assumption|refine Az ?_ |refine below_drewN ?_ _|refine qZ ?_ |refine aZ ?_ |refine dZ im ?_ |refine belA ?_ |refine rZ im ?_)))) (first|(go_at_call 99;first|((with_reducible refine(DA.out _).mono ?_);rintro e wA ⟨vA,rfl,J,ab⟩;obtain⟨AA,cA,rfl⟩:=bZ J;have PA:Part.Ok (⟨AA,cA,NA⟩:Part) wA:=nZ J rfl)|((with_reducible refine(DB.out _).mono ?_);rintro e wB ⟨vB,rfl,E,aa⟩;obtain⟨AB,cB,rfl⟩:=bZ E;have PB:Part.Ok (⟨AB,cB,NB⟩:Part) wB:=nZ E rfl))|(go_at_call 55;(refine(FJ _ _ 3 [(⟨A3,c3,i⟩:Part),(⟨AA,cA,NA⟩:Part),(⟨AB,cB,NB⟩:Part)] rfl mz (ah _ _ _ _ _ _) (fun p hp=>by{rcases AQ.1 hp with rfl|hp;exact PO.out _ qh;rcases AQ.1 hp with rfl|hp;exact PA.step qh;rcases AQ.1 hp with rfl|hp;exact PB.step qh;cases hp}) ir).mono ?_);rintro e w7 ⟨v7,rfl,j,Q⟩;obtain⟨A7,c7,rfl⟩:=bZ j;have B7:Below wi wi w7:=dZ Q qh))
    all_goals
     have Y:Hid (w7.ownsRow w 5 1 (.slice A7 (i.length+(NA.length+NB.length)) c7) (i.length+(NA.length+NB.length)) (cZ .u8 (i++(NA++NB)))):=(by have h:=kZ j (show w.heap.size<=_ from AN hz (Below.size qh));simp only[List.flatMap_cons,List.flatMap_nil,List.append_nil,List.length_append]at h;exact h);have U:Hid (Below w w w7):=uZ B7 hz HB.out;clear j Q PA PB B7 HO HB HL PO J E ab aa M;go_wp2_with fail;go_ret;exact⟨.slice A7 (i.length+(NA.length+NB.length)) c7,rfl,by rw[Z.out,Aj,Aj];exact Y.out,U.out⟩
end Body
namespace Body
open Go.RowKit Mem Own Canon
theorem lG(w:World)(A:Option Addr)(n c:Nat)(ls:List Nat)(hn:ls.length=n)(hN:n<=1000000)(ha:Row w w A n 1 (jZ .i64 ls)):
 Calls prog 192 #[.slice A n c,ij] w fun e w'=>∃r:Int,e= .returned (.int .i64 r)/\(0<=r↔0∈ls)/\w'=w:=by
 have HN:=hid hn;have H0:Hid (0 ∉ ls.take 0):=by simp[Hid]
 clear hn;go_enter func192,ntmps192;go_wp2_with fail;go_loopw [8] (fun iv wx=>∃k:Nat,k<=n/\iv= .int .i64 k/\Hid (0 ∉ ls.take k)/\wx=w) (fun iv _=>n-(intOf iv).toNat)
 case atStart=>exact⟨0,mz,rfl,H0.out,rfl⟩
 case round=>
  obtain⟨k,hk,rfl,HZ,rfl⟩:=hrel;by_cases j:k<n
  ·have gk:=ic ((k:Int)<n);have z:=ic (k<n);have x0:(0:Int)<=(k:Int):=mz;have x1:(k:Int)<(n:Int):=mz;obtain⟨b,E,x,rfl,_,hx,ck⟩:=CF ha HN.out j;by_cases i:x=0
   ·have gz:((0:Int)==(x:Int))=true:=(by rw[i];rfl);have HF:Hid (0∈ls):=(by show 0∈ls;rw[<-i];exact Bg hx);clear hx i HZ;go_wp2_with fail;go_ret;exact⟨(k:Int),rfl,⟨fun _=>HF.out,fun _=>mz⟩,rfl⟩
   ·have gz:((0:Int)==(x:Int))=false:=by rw[FQ];omega
    have y:Hid (0 ∉ ls.take (k+1)):=by
     show ¬_;rw[Cm,hx];intro h;rcases BJ.1 h with h|h
     ·exact HZ.out h
     ·simp at h;exact i h.symm
    clear hx i HZ;go_wp2_with fail;go_roundw
    case measure=>exact jo
    case rel=>go_light;exact⟨k+1,mz,iu,y.out,iy⟩
  ·obtain rfl:k=n:=by omega
   have gk:=ig ((k:Int)<k);have z:=ig (k<k);have HF:Hid (0 ∉ ls):=(by have h:=HZ.out;rw[BV oq]at h;exact h);clear HZ j;go_wp2_with fail;go_ret;exact⟨-1,rfl,⟨fun h=>mz,fun h=>absurd h HF.out⟩,rfl⟩
theorem Vq(w:World)(A:Option Addr)(n c:Nat)(ls:List Nat)(hn:ls.length=n)(hN:n<=1000000)(ha:Row w w A n 1 (jZ .i64 ls)):
 Calls prog 115 #[.slice A n c,ij] w fun e w'=>e= .returned (.bool (decide (0∈ls)))/\w'=w:=by
 have D:=hid (lG w A n c ls hn hN ha);clear hn ha;go_enter func115,ntmps115;go_wp2_with fail;refine D.out.mono ?_;rintro e w1 ⟨r,rfl,hr,rfl⟩;have gr:decide ((0:Int)<=r)=decide (0∈ls):=by rw[decide_eq_decide];exact hr
 clear hr;go_wp2_with fail;go_ret;exact⟨rfl,rfl⟩
end Body
namespace Body
open Go.RowKit Mem Own Canon Nums
theorem XG:(prog.info? 3).map (fun i=>(i.zero,i.size,i.bytes))=some (some (.int .i64 0),1,8):=mr
def NZ(w:World)(gb:Nat)(t:TypeId)(rest:List Value)(room:Nat)(ls:List Nat)(e:Ending)(w':World):Prop:=
 e= .returned (.int .i64 (Gj room ls))/\Kept (fun x=>x<w.heap.size/\x≠gb) w w'/\(Gj room ls=0->∃vc vs,Blk w' gb t (vc :: vs :: .int .i64 (dP ls:Nat) :: .int .i64 (dQ ls:Nat) :: rest).toArray/\w'.ownsRow w 3 1 vc (Dp ls).length (cZ .i64 (Dp ls))/\w'.ownsRow w 3 1 vs (Ea ls).length (cZ .i64 (Ea ls))/\(∀y,vc.ownBlock=some y->vs.ownBlock≠some y))
theorem Z6(w:World)(gb:Nat)(t:TypeId)(x2 x3:Value)(rest:List Value)(A:Option Addr)(m c Z:Nat)(ls:List Nat)(hB:Blk w gb t (.slice none 0 0 :: .slice none 0 0 :: x2 :: x3 :: rest).toArray)(cr:3≠t)(dj:5≠t)(hm:ls.length=m)(cA:m<=100000)(h8:∀x∈ls,x<=255)(b5:A=none->m=0/\c=0)(ha:Row w w A m 1 (jZ .u8 ls)):
 Calls prog 57 #[.pointer (some ⟨gb,0,none⟩), .slice A m c, .int .i64 (Z:Nat)] w (NZ w gb t rest Z ls):=by
 obtain⟨j0,da,dg,cF,cG⟩:=info_parts XG;have D0:=hid (new_any w A m c ls hm cA b5 ha);have b7:ls.length<=100000:=mz
 have DI:=hid (fun wx g B d at_ er most (hm:most<=1000000000) h=>IG wx g w ls B d at_ er most b7 h8 hm h);have az:=hid (fun wx g B d at_ er h=>Dv wx g w ls B d at_ er h);have a4:=hid (fun wx g B d at_ er h=>U8 wx g w ls B d at_ er h);obtain⟨R,hR⟩:=ii (Gj Z ls);unfold NZ;rw[<-hR];have a5:Ek ls<=20000:=Gb h8 _ _;have cB:G7 ls<=20000:=AN (Gb h8 _ _) a5;have ak:Hid (∀ (most a:Nat) (er:Int),Ba most ls a er<=most):=fun most a er=>Gb h8 a er;have c7:=NJ (rec:=Ek ls) (ls:=ls) (G7 ls) (AM (Ek ls) ls (AM 20000 ls 0 0) (AO 20000 ls 0 0)) (AO (Ek ls) ls (AM 20000 ls 0 0) (AO 20000 ls 0 0)) [] [] rfl;have cy:=UA (rec:=Ek ls) h8 (G7 ls) (AM (Ek ls) ls (AM 20000 ls 0 0) (AO 20000 ls 0 0)) (AO (Ek ls) ls (AM 20000 ls 0 0) (AO 20000 ls 0 0)) [] [] (fun x hx=>by simp at hx) (fun x hx=>by simp at hx);have c8:=hid c7;have a6:=hid cy;have HR:=hid hR;have cC:=hid hB;have cw:=hB.lt;clear hm h8 b5 ha hR hB c7 cy cA b7;go_enter func57,ntmps57;go_wp2_with fail;refine D0.out.mono ?_;rintro e w1 ⟨g,B,d,rfl,cm,cg⟩;have cP:=hid cg;have cH:=hid cm;have dn:=cm.lo;have dq:=cg.size;clear cm cg D0;go_wp2_with fail;refine(DI.out _ g B d 0 0 20000 mz cH.out).mono ?_;rintro e w2 ⟨rfl,cX,J⟩;have dc:=hid cX;have cv:Hid (Below w w w2):=cP.out.trans (J.below fun b h=>⟨mz,mz⟩);obtain⟨rec,ah⟩:=ii (Ek ls);have ab:=hid ah;rw[<-ah]at a5;rw[show Ba 20000 ls 0 0=rec from ah.symm];clear cX J cP cH ah;go_wp2_with fail;refine(DI.out _ g B d _ _ rec mz dc.out).mono ?_;rintro e w3 ⟨rfl,df,Y⟩;obtain⟨nb,b4⟩:=ii (G7 ls);have dm:=hid b4;rw[<-b4]at cB;rw[show Ba rec ls (AM 20000 ls 0 0) (AO 20000 ls 0 0)=nb by rw[b4,ab.out];rfl];have cp:Hid (Below w w w3):=cv.out.trans (Y.below fun b h=>⟨by have:=cv.out.size;omega,mz⟩);have c4:=hid (cC.out.below cp.out cw);have cz:Hid (DrI w w3 gb t (x2 :: x3 :: rest) g ls B d (AM rec ls (AM 20000 ls 0 0) (AO 20000 ls 0 0)) (AO rec ls (AM 20000 ls 0 0) (AO 20000 ls 0 0)) [] [] (.slice none 0 0) (.slice none 0 0)):=⟨df,c4.out,AK _ _ _ _,AK _ _ _ _,(fun y h=>by cases h),Kept.of_below cp.out (fun x hx=>hx.1),cw,cr,dj⟩;have dd:Hid (EF rec ls (nb-0) (AM rec ls (AM 20000 ls 0 0) (AO 20000 ls 0 0)) (AO rec ls (AM 20000 ls 0 0) (AO 20000 ls 0 0)) [] []=Gk ls):=by show _=_;rw[ab.out,dm.out];rfl
 generalize AM rec ls (AM 20000 ls 0 0) (AO 20000 ls 0 0)=a0 at *;generalize AO rec ls (AM 20000 ls 0 0) (AO 20000 ls 0 0)=e0 at *;clear df Y dc cv cp c4 cC b4;go_wp2_with fail;go_loopw [10] (fun iv wr=>∃ (k at_:Nat) (er:Int) (C S:List Nat) (vc vs:Value),k<=nb/\iv= .int .i64 k/\Hid (C.length=k)/\Hid (S.length=k)/\Hid (DrI w wr gb t (x2 :: x3 :: rest) g ls B d at_ er C S vc vs)/\Hid (EF rec ls (nb-k) at_ er C S=Gk ls)) (fun iv _=>nb-(intOf iv).toNat)
 case atStart=>exact⟨0,a0,e0,[],[],_,_,mz,rfl,rfl,rfl,cz.out,dd.out⟩
 case round=>
  obtain⟨k,at_,er,C,S,vc,vs,hk,rfl,ar,a9,HI,HG⟩:=hrel;clear cz dd;have zr:=HI.out.kept.size;by_cases bu:k<nb/\er=0
  ·obtain⟨b1,rfl⟩:=bu;have gk:=ic ((k:Int)<nb);have de:=ic (k<nb);have hG:=HG.out;rw[show nb-k=(nb-(k+1))+1 by omega,EF,Ab (show ¬((0:Int)≠0) from fun h=>h rfl)]at hG;have bq:=hid (az.out _ _ _ _ _ _ HI.out.cur);have dt:=ak.out rec at_ 0;have D1:=hid (fun wx hx=>DI.out wx g B d at_ 0 rec mz hx);have D2:=hid (fun wx hx=>DI.out wx g B d (AM rec ls at_ 0) (AO rec ls at_ 0) 8388608 mz hx);have ds:=ak.out 8388608 (AM rec ls at_ 0) (AO rec ls at_ 0);generalize Ba 8388608 ls (AM rec ls at_ 0) (AO rec ls at_ 0)=s at *;generalize AM 8388608 ls (AM rec ls at_ 0) (AO rec ls at_ 0)=a2 at *;generalize AO 8388608 ls (AM rec ls at_ 0) (AO rec ls at_ 0)=e2 at *;generalize Ba rec ls at_ 0=r at *;generalize AM rec ls at_ 0=a1 at *;generalize AO rec ls at_ 0=e1 at *;have di:=hid hG;have c0:=HI.out.cs.1;obtain⟨Ac,cc,rfl⟩:=bZ HI.out.oc;obtain⟨p,hp⟩:=ii C.length;have c5:p=k:=(by rw[hp,ar.out]);rw[<-hp]at c0;have HP:=hid hp;have i:=HI.out.oc;rw[<-hp]at i;have dk:=hid i;clear hG HG hp i c5;go_wp2_with fail;refine bq.out.mono ?_;rintro e w4 ⟨rfl,rfl⟩;have c5:p<=k:=(by rw[HP.out,ar.out];exact Aq _);go_upto_region 7 with fail;go_region_law(first|(go_simp;go_at_call 112;(with_reducible refine(D1.out _ HI.out.cur.drew).mono ?_);rintro e w5 ⟨rfl,aj,ac⟩;have j:=HI.out.call aj ⟨ac.os,ac.tape,ac.output,ac.size,ac.block⟩;have q0:=j.cs.1;rw[<-HP.out]at q0;have a3:=j.oc;rw[<-HP.out]at a3;have z5:=j.kept.size;have q9:=(j.blk.alloc (.cells #[.int .i64 (r:Nat)] 3)).cell 0;simp only[List.getElem?_toArray,List.getElem?_cons_zero,<-HP.out]at q9)|(refine Sr rfl (.tmp 33) (.tmp 37) 37 rfl w 3 j0 _ 1 8 underlying37 da dg cF cG rfl ip (.slice Ac p cc) p (cZ .i64 C) nc (by first|exact a3.alloc _|exact(a3.alloc _).drew) _ 1 1 [.int .i64 (r:Nat)] nc (Src.of_blk (Blk.made_at _ _ _ pI) 1 1 1 rfl) mj qg mz pQ ?_;intro A6 c6 w6 bt ct b8;have b6:=(j.blk.alloc (.cells #[.int .i64 (r:Nat)] 3)).grown ct (by rw[HP.out];exact AZ (gZ j.oc j.blk cr));have r0:=b6.cell 0;have s0:=b6.frozen 0;simp only[List.getElem?_toArray,List.getElem?_cons_zero,<-HP.out]at r0))
   all_goals
    have M:=j.count (x:=r) (aZ (o:= .cells #[.int .i64 (r:Nat)] 3) (Ag w5 w5)) (by rw[<-HP.out];exact ct) (by rw[<-HP.out];exact bt) (by rw[<-HP.out];exact b8);have ag:=hid M;obtain⟨As,cs,rfl⟩:=bZ M.os;obtain⟨p2,bx⟩:=ii S.length;have dp:p2<=k:=(by rw[bx,a9.out];exact Aq _);have bc:=M.os;rw[<-bx]at bc;have cS:=hid bc;have d1:=M.cs.2;rw[<-bx]at d1;have al:=hid bx;have z6:=M.kept.size;clear j M aj ac bt ct b8 b6 r0 s0 q0 q9 a3 bc bx HI c0 D1 dk;generalize w6.setCell ⟨gb,0,none⟩ (.slice A6 (p+1) c6)=w7 at *;go_upto_region 8 with fail;go_region_law(first|(go_simp;go_at_call 112;refine(D2.out _ ag.out.cur.drew).mono ?_;rintro e w8 ⟨rfl,cL,ba⟩;have ai:=ag.out.call cL ⟨ba.os,ba.tape,ba.output,ba.size,ba.block⟩;have q0:=ai.cs.2;rw[<-al.out]at q0;have ay:=ai.os;rw[<-al.out]at ay;have z8:=ai.kept.size;have q9:=(ai.blk.alloc (.cells #[.int .i64 (s:Nat)] 3)).cell 1;simp only[List.getElem?_toArray,List.getElem?_cons_zero,List.getElem?_cons_succ,<-al.out]at q9)|(refine Sr rfl (.tmp 45) (.tmp 48) 37 rfl w 3 j0 _ 1 8 underlying37 da dg cF cG rfl ip (.slice As p2 cs) p2 (cZ .i64 S) nc (by first|exact ay.alloc _|exact(ay.alloc _).drew) _ 1 1 [.int .i64 (s:Nat)] nc (Src.of_blk (Blk.made_at _ _ _ pI) 1 1 1 rfl) mj qg mz pQ ?_;intro A9 c9 w9 bl ce ca;have b9:=(ai.blk.alloc (.cells #[.int .i64 (s:Nat)] 3)).grown ce (by rw[al.out];exact AZ (gZ ai.os ai.blk cr));have r0:=b9.cell 1;have s0:=b9.frozen 1;simp only[List.getElem?_toArray,List.getElem?_cons_zero,List.getElem?_cons_succ,<-al.out]at r0))
    all_goals
     have cx:=ai.size (x:=s) (aZ (o:= .cells #[.int .i64 (s:Nat)] 3) (Ag w8 w8)) (by rw[<-al.out];exact ce) (by rw[<-al.out];exact bl) (by rw[<-al.out];exact ca);have dl:=hid cx;have cE:Hid ((C++ [r]).length=k+1):=(by show _=_;rw[Aj,ar.out];rfl);have dh:Hid ((S++ [s]).length=k+1):=(by show _=_;rw[Aj,a9.out];rfl);clear ai cx cL ba bl ce ca b9 r0 s0 q0 q9 ay ag cS d1;generalize w9.setCell ⟨gb,1,none⟩ (.slice A9 (p2+1) c9)=dr at *;go_wp2_with fail;go_roundw
     case measure=>exact jo
     case rel=>go_light;exact⟨k+1,a2,e2,C++ [r],S++ [s], .slice A6 (p+1) c6, .slice A9 (p2+1) c9,mz,iu,cE.out,dh.out,dl.out,di.out⟩
  ·have ae:Hid (Gk ls=(C,S,at_,er)):=by
    have h:=HG.out;by_cases b1:k<nb
    ·rw[gS (fun h=>bu ⟨b1,h⟩)]at h;exact h.symm
    ·rw[show nb-k=0 by omega,EF]at h;exact h.symm
   have bq:=hid (az.out _ _ _ _ _ _ HI.out.cur);clear HG;by_cases b1:k<nb
   ·have gk:=ic ((k:Int)<nb);have de:=ic (k<nb);have cT:er≠0:=fun h=>bu ⟨b1,h⟩;have gE:(er==0)=false:=(by simpa using cT);clear bu cT;go_wp2_with fail;refine bq.out.mono ?_;rintro e w4 ⟨rfl,rfl⟩;have hP:dP ls=Ba 8388608 ls at_ er:=(by unfold dP;rw[ae.out]);have bS:dPA ls=AM 8388608 ls at_ er:=(by unfold dPA;rw[ae.out]);have bN:dPE ls=AO 8388608 ls at_ er:=(by unfold dPE;rw[ae.out]);have hC:Dp ls=C:=(by unfold Dp;rw[ae.out]);have hS:Ea ls=S:=(by unfold Ea;rw[ae.out]);have D3:=hid (fun wx hx=>DI.out wx g B d at_ er 8388608 mz hx);rw[<-hP,<-bS,<-bN]at D3;have D4:=hid (fun wx hx=>DI.out wx g B d (dPA ls) (dPE ls) 8388608 mz hx);rw[show Ba 8388608 ls (dPA ls) (dPE ls)=dQ ls from rfl]at D4;have D5:=hid (fun wx hx=>a4.out wx g B d (AM 8388608 ls (dPA ls) (dPE ls)) (AO 8388608 ls (dPA ls) (dPE ls)) hx);rw[show Gu ls (AM 8388608 ls (dPA ls) (dPE ls)) (AO 8388608 ls (dPA ls) (dPE ls))=dE ls from rfl]at D5;have cd:dP ls<=8388608:=(by rw[hP];exact ak.out _ _ _);have co:dQ ls<=8388608:=ak.out _ _ _;have hr:=HR.out;unfold Gj at hr;rw[hC,hS]at hr;have cf:=hid hC;have cl:=hid hS;have bi:∀x∈C,x<=rec:=fun x hx=>by have h:=a6.out.1 x (show x∈Dp ls by rw[hC];exact hx);rw[ab.out];exact h
    have bg:∀x∈S,x<=8388608:=fun x hx=>a6.out.2 x (show x∈Ea ls by rw[hS];exact hx);have bj:C.length<=20000:=(by rw[ar.out];omega);have bh:S.length<=20000:=(by rw[a9.out];omega);have be:C.sum<=1000000000000000:=AN (KR C rec bi) (AN (Hn bj a5) ip);have ci:S.sum<=500000000000000:=AN (KR S 8388608 bg) (AN (Gp _ bh) ip);rw[<-ab.out]at hr;obtain⟨P,aq⟩:=ii (dP ls);obtain⟨Q,ax⟩:=ii (dQ ls);obtain⟨E,hE2⟩:=ii (dE ls);rw[<-aq]at D3 cd hr;rw[<-ax]at D4 co hr;have cj:=hid aq.symm;have cq:=hid ax.symm;rw[<-hE2]at D5 hr;generalize dPA ls=pa at *;generalize dPE ls=pe at *;generalize AM 8388608 ls pa pe=qa at *;generalize AO 8388608 ls pa pe=qe at *;obtain⟨k2,J⟩:=ii C.length;obtain⟨k3,Y⟩:=ii S.length;have i:=HI.out.oc;have N:=HI.out.os;rw[<-J]at i bj;rw[<-Y]at N bh;obtain⟨Ac,cc,rfl⟩:=bZ i;obtain⟨As,cs,rfl⟩:=bZ N;have bk:=hid J;have bm:=hid Y;have U:=hid hr;have bd:=hid (fun wx (h:wx.ownsRow w 3 1 (.slice Ac k2 cc) k2 (cZ .i64 C))=>Vq wx Ac k2 cc C J.symm mz (own_ints h J.symm));have aw:=hid (fun wx (h:wx.ownsRow w 3 1 (.slice Ac k2 cc) k2 (cZ .i64 C))=>KQ wx Ac k2 cc C J.symm mz be (own_ints h J.symm));have av:=hid (fun wx (h:wx.ownsRow w 3 1 (.slice As k3 cs) k3 (cZ .i64 S))=>KQ wx As k3 cs S Y.symm mz mz (own_ints h Y.symm));obtain⟨CS,am⟩:=ii C.sum;obtain⟨SS,an⟩:=ii S.sum;rw[<-am]at aw be;rw[<-an]at av ci;have bp:=hid am;have bC:=hid an;clear hP bS bN hC hS hr HR ae bi bg aq ax hE2 J Y am an i N c8 a6 ab ak DI a4 az bq ar a9;go_wp2_with fail;refine(D3.out _ HI.out.cur).mono ?_;rintro e w5 ⟨rfl,aj,ac⟩;have j:=HI.out.call aj ac;have b2:=j.blk.ia 2;have f2:=j.blk.frozen 2;have au:Hid (DrI w (w5.setCell ⟨gb,2,none⟩ (.int .i64 (P:Nat))) gb t (.int .i64 (P:Nat) :: x3 :: rest) g ls B d pa pe C S (.slice Ac C.length cc) (.slice As S.length cs)):=(by rw[<-bk.out,<-bm.out];exact j.third);clear aj ac j D3 HI;go_wp2_with fail;refine(D4.out _ au.out.cur).mono ?_;rintro e w6 ⟨rfl,bb,b0⟩;have M:=au.out.call bb b0;have b3:=M.blk.ia 3;have f3:=M.blk.frozen 3;have ag:=hid (M.fourth (u:= .int .i64 (Q:Nat)));clear bb b0 M D4 au b2 f2;go_wp2_with fail;refine(D5.out _ ag.out.cur).mono ?_;rintro e w7 ⟨rfl,bn,aa⟩;have G:=ag.out.call bn ⟨aa.os,aa.tape,aa.output,aa.size,fun x hx=>aa.block x hx.2⟩;have z:=hid G;clear bn aa D5 ag b3 f3;by_cases hE:E=0
    ·subst hE;have hr:=U.out;rw[Ab (show ¬((0:Int)≠0) from fun h=>h rfl)]at hr;have c0:=G.blk.ia 0;have c1:=G.blk.ia 1;have c2:=G.blk.ia 2;have c3:=G.blk.ia 3;have i:=G.oc;have N:=G.os;rw[<-bk.out]at i c0;rw[<-bm.out]at N c1;have E0:Hid (∀q,Calls prog 115 #[.slice Ac k2 cc,ij] (w7.drewN q) fun e w'=>e= .returned (.bool (decide (0∈C)))/\w'=w7.drewN q):=fun q=>bd.out _ (eZ i (fun y _=>rfl));have E1:Hid (∀q,Calls prog 64 #[.slice Ac k2 cc] (w7.drewN q) fun e w'=>e= .returned (.int .i64 (CS:Nat))/\w'=w7.drewN q):=fun q=>aw.out _ (eZ i (fun y _=>rfl));have E2:Hid (∀q,Calls prog 64 #[.slice As k3 cs] (w7.drewN q) fun e w'=>e= .returned (.int .i64 (SS:Nat))/\w'=w7.drewN q):=fun q=>av.out _ (eZ N (fun y _=>rfl));clear G i N bd aw av;by_cases hz:0∈C
     ·have HF:Hid (R=2):=(by rw[Ae (.inl hz)]at hr;exact hr);rw[Be hz]at E0;clear hz hr U;go_wp2_with fail;go_quiet (first|(go_at_call 115;(with_reducible exact CP (E0.out _)))|(go_at_call 64;first|(with_reducible exact CP (E1.out _))|(with_reducible exact CP (E2.out _))));go_wp2_with fail;go_ret;rw[HF.out];exact⟨rfl,z.out.kept.drewN _,fun h=>absurd h ip⟩
     ·rw[Bi hz]at E0;by_cases h2:CS=rec
      ·have gn:((CS:Int) != (rec:Int))=false:=(by rw[h2];simp);have s1:IntKind.i64.wrap ((SS:Int)+(P:Int))=((SS+P:Nat):Int):=nW;have s2:IntKind.i64.wrap (((SS+P:Nat):Int)+(Q:Int))=((SS+P+Q:Nat):Int):=nW;have bf:IntKind.i64.wrap ((SS:Int)+(P:Int)+(Q:Int))=((SS+P+Q:Nat):Int):=nW;by_cases h3:SS+P+Q=Z
       ·have g3:(((SS+P+Q:Nat):Int) != (Z:Int))=false:=by rw[h3];simp
        have HF:Hid (R=0):=by
         rw[Ab (fun h=>by
          rcases h with h|h|h
          ·exact hz h
          ·exact h nj
          ·exact h ni)]at hr
         exact hr
        obtain⟨TT,af⟩:=ii (SS+P+Q);rw[<-af]at s2 bf g3;clear hz h2 h3 af hr U;go_wp2_with fail;go_quiet (first|(go_at_call 115;(with_reducible exact CP (E0.out _)))|(go_at_call 64;first|(with_reducible exact CP (E1.out _))|(with_reducible exact CP (E2.out _))));go_wp2_with fail;go_ret;rw[HF.out,cj.out,cq.out,cf.out,cl.out];exact⟨rfl,z.out.kept.drewN _,fun _=>⟨_,_,z.out.blk.drewN _,eZ z.out.oc (fun y _=>rfl),eZ z.out.os (fun y _=>rfl),z.out.ap⟩⟩
       ·have g3:(((SS+P+Q:Nat):Int) != (Z:Int))=true:=oO;have HF:Hid (R=2):=nw;obtain⟨TT,af⟩:=ii (SS+P+Q);rw[<-af]at s2 bf g3;clear hz h2 h3 af hr U;go_wp2_with fail;go_quiet (first|(go_at_call 115;(with_reducible exact CP (E0.out _)))|(go_at_call 64;first|(with_reducible exact CP (E1.out _))|(with_reducible exact CP (E2.out _))));go_wp2_with fail;go_ret;rw[HF.out];exact⟨rfl,z.out.kept.drewN _,fun h=>absurd h ip⟩
      ·have gn:((CS:Int) != (rec:Int))=true:=oO;have HF:Hid (R=2):=nu;clear hz h2 hr U;go_wp2_with fail;go_quiet (first|(go_at_call 115;(with_reducible exact CP (E0.out _)))|(go_at_call 64;first|(with_reducible exact CP (E1.out _))|(with_reducible exact CP (E2.out _))));go_wp2_with fail;go_ret;rw[HF.out];exact⟨rfl,z.out.kept.drewN _,fun h=>absurd h ip⟩
    ·have gE:(E != 0)=true:=(by simpa using hE);have HF:Hid (R=E):=(by have h:=U.out;rw[Ae hE]at h;exact h);have cu:=hid hE;clear hE U G;go_wp2_with fail;go_ret;rw[HF.out];exact⟨rfl,z.out.kept,fun h=>absurd h cu.out⟩
   ·have gk:=ig ((k:Int)<nb);have de:=ig (k<nb);clear bu;obtain⟨w4,rfl⟩:=ii wr;have hP:dP ls=Ba 8388608 ls at_ er:=(by unfold dP;rw[ae.out]);have bS:dPA ls=AM 8388608 ls at_ er:=(by unfold dPA;rw[ae.out]);have bN:dPE ls=AO 8388608 ls at_ er:=(by unfold dPE;rw[ae.out]);have hC:Dp ls=C:=(by unfold Dp;rw[ae.out]);have hS:Ea ls=S:=(by unfold Ea;rw[ae.out]);have D3:=hid (fun wx hx=>DI.out wx g B d at_ er 8388608 mz hx);rw[<-hP,<-bS,<-bN]at D3;have D4:=hid (fun wx hx=>DI.out wx g B d (dPA ls) (dPE ls) 8388608 mz hx);rw[show Ba 8388608 ls (dPA ls) (dPE ls)=dQ ls from rfl]at D4;have D5:=hid (fun wx hx=>a4.out wx g B d (AM 8388608 ls (dPA ls) (dPE ls)) (AO 8388608 ls (dPA ls) (dPE ls)) hx);rw[show Gu ls (AM 8388608 ls (dPA ls) (dPE ls)) (AO 8388608 ls (dPA ls) (dPE ls))=dE ls from rfl]at D5;have cd:dP ls<=8388608:=(by rw[hP];exact ak.out _ _ _);have co:dQ ls<=8388608:=ak.out _ _ _;have hr:=HR.out;unfold Gj at hr;rw[hC,hS]at hr;have cf:=hid hC;have cl:=hid hS;have bi:∀x∈C,x<=rec:=fun x hx=>by have h:=a6.out.1 x (show x∈Dp ls by rw[hC];exact hx);rw[ab.out];exact h
    have bg:∀x∈S,x<=8388608:=fun x hx=>a6.out.2 x (show x∈Ea ls by rw[hS];exact hx);have bj:C.length<=20000:=(by rw[ar.out];omega);have bh:S.length<=20000:=(by rw[a9.out];omega);have be:C.sum<=1000000000000000:=AN (KR C rec bi) (AN (Hn bj a5) ip);have ci:S.sum<=500000000000000:=AN (KR S 8388608 bg) (AN (Gp _ bh) ip);rw[<-ab.out]at hr;obtain⟨P,aq⟩:=ii (dP ls);obtain⟨Q,ax⟩:=ii (dQ ls);obtain⟨E,hE2⟩:=ii (dE ls);rw[<-aq]at D3 cd hr;rw[<-ax]at D4 co hr;have cj:=hid aq.symm;have cq:=hid ax.symm;rw[<-hE2]at D5 hr;generalize dPA ls=pa at *;generalize dPE ls=pe at *;generalize AM 8388608 ls pa pe=qa at *;generalize AO 8388608 ls pa pe=qe at *;obtain⟨k2,J⟩:=ii C.length;obtain⟨k3,Y⟩:=ii S.length;have i:=HI.out.oc;have N:=HI.out.os;rw[<-J]at i bj;rw[<-Y]at N bh;obtain⟨Ac,cc,rfl⟩:=bZ i;obtain⟨As,cs,rfl⟩:=bZ N;have bk:=hid J;have bm:=hid Y;have U:=hid hr;have bd:=hid (fun wx (h:wx.ownsRow w 3 1 (.slice Ac k2 cc) k2 (cZ .i64 C))=>Vq wx Ac k2 cc C J.symm mz (own_ints h J.symm));have aw:=hid (fun wx (h:wx.ownsRow w 3 1 (.slice Ac k2 cc) k2 (cZ .i64 C))=>KQ wx Ac k2 cc C J.symm mz be (own_ints h J.symm));have av:=hid (fun wx (h:wx.ownsRow w 3 1 (.slice As k3 cs) k3 (cZ .i64 S))=>KQ wx As k3 cs S Y.symm mz mz (own_ints h Y.symm));obtain⟨CS,am⟩:=ii C.sum;obtain⟨SS,an⟩:=ii S.sum;rw[<-am]at aw be;rw[<-an]at av ci;have bp:=hid am;have bC:=hid an;clear hP bS bN hC hS hr HR ae bi bg aq ax hE2 J Y am an i N c8 a6 ab ak DI a4 az bq ar a9;go_wp2_with fail;refine(D3.out _ HI.out.cur).mono ?_;rintro e w5 ⟨rfl,aj,ac⟩;have j:=HI.out.call aj ac;have b2:=j.blk.ia 2;have f2:=j.blk.frozen 2;have au:Hid (DrI w (w5.setCell ⟨gb,2,none⟩ (.int .i64 (P:Nat))) gb t (.int .i64 (P:Nat) :: x3 :: rest) g ls B d pa pe C S (.slice Ac C.length cc) (.slice As S.length cs)):=(by rw[<-bk.out,<-bm.out];exact j.third);clear aj ac j D3 HI;go_wp2_with fail;refine(D4.out _ au.out.cur).mono ?_;rintro e w6 ⟨rfl,bb,b0⟩;have M:=au.out.call bb b0;have b3:=M.blk.ia 3;have f3:=M.blk.frozen 3;have ag:=hid (M.fourth (u:= .int .i64 (Q:Nat)));clear bb b0 M D4 au b2 f2;go_wp2_with fail;refine(D5.out _ ag.out.cur).mono ?_;rintro e w7 ⟨rfl,bn,aa⟩;have G:=ag.out.call bn ⟨aa.os,aa.tape,aa.output,aa.size,fun x hx=>aa.block x hx.2⟩;have z:=hid G;clear bn aa D5 ag b3 f3;by_cases hE:E=0
    ·subst hE;have hr:=U.out;rw[Ab (show ¬((0:Int)≠0) from fun h=>h rfl)]at hr;have c0:=G.blk.ia 0;have c1:=G.blk.ia 1;have c2:=G.blk.ia 2;have c3:=G.blk.ia 3;have i:=G.oc;have N:=G.os;rw[<-bk.out]at i c0;rw[<-bm.out]at N c1;have E0:Hid (∀q,Calls prog 115 #[.slice Ac k2 cc,ij] (w7.drewN q) fun e w'=>e= .returned (.bool (decide (0∈C)))/\w'=w7.drewN q):=fun q=>bd.out _ (eZ i (fun y _=>rfl));have E1:Hid (∀q,Calls prog 64 #[.slice Ac k2 cc] (w7.drewN q) fun e w'=>e= .returned (.int .i64 (CS:Nat))/\w'=w7.drewN q):=fun q=>aw.out _ (eZ i (fun y _=>rfl));have E2:Hid (∀q,Calls prog 64 #[.slice As k3 cs] (w7.drewN q) fun e w'=>e= .returned (.int .i64 (SS:Nat))/\w'=w7.drewN q):=fun q=>av.out _ (eZ N (fun y _=>rfl));clear G i N bd aw av;by_cases hz:0∈C
     ·have HF:Hid (R=2):=(by rw[Ae (.inl hz)]at hr;exact hr);rw[Be hz]at E0;clear hz hr U;go_wp2_with fail;go_quiet (first|(go_at_call 115;(with_reducible exact CP (E0.out _)))|(go_at_call 64;first|(with_reducible exact CP (E1.out _))|(with_reducible exact CP (E2.out _))));go_wp2_with fail;go_ret;rw[HF.out];exact⟨rfl,z.out.kept.drewN _,fun h=>absurd h ip⟩
     ·rw[Bi hz]at E0;by_cases h2:CS=rec
      ·have gn:((CS:Int) != (rec:Int))=false:=(by rw[h2];simp);have s1:IntKind.i64.wrap ((SS:Int)+(P:Int))=((SS+P:Nat):Int):=nW;have s2:IntKind.i64.wrap (((SS+P:Nat):Int)+(Q:Int))=((SS+P+Q:Nat):Int):=nW;have bf:IntKind.i64.wrap ((SS:Int)+(P:Int)+(Q:Int))=((SS+P+Q:Nat):Int):=nW;by_cases h3:SS+P+Q=Z
       ·have g3:(((SS+P+Q:Nat):Int) != (Z:Int))=false:=by rw[h3];simp
        have HF:Hid (R=0):=by
         rw[Ab (fun h=>by
          rcases h with h|h|h
          ·exact hz h
          ·exact h nj
          ·exact h ni)]at hr
         exact hr
        obtain⟨TT,af⟩:=ii (SS+P+Q);rw[<-af]at s2 bf g3;clear hz h2 h3 af hr U;go_wp2_with fail;go_quiet (first|(go_at_call 115;(with_reducible exact CP (E0.out _)))|(go_at_call 64;first|(with_reducible exact CP (E1.out _))|(with_reducible exact CP (E2.out _))));go_wp2_with fail;go_ret;rw[HF.out,cj.out,cq.out,cf.out,cl.out];exact⟨rfl,z.out.kept.drewN _,fun _=>⟨_,_,z.out.blk.drewN _,eZ z.out.oc (fun y _=>rfl),eZ z.out.os (fun y _=>rfl),z.out.ap⟩⟩
       ·have g3:(((SS+P+Q:Nat):Int) != (Z:Int))=true:=oO;have HF:Hid (R=2):=nw;obtain⟨TT,af⟩:=ii (SS+P+Q);rw[<-af]at s2 bf g3;clear hz h2 h3 af hr U;go_wp2_with fail;go_quiet (first|(go_at_call 115;(with_reducible exact CP (E0.out _)))|(go_at_call 64;first|(with_reducible exact CP (E1.out _))|(with_reducible exact CP (E2.out _))));go_wp2_with fail;go_ret;rw[HF.out];exact⟨rfl,z.out.kept.drewN _,fun h=>absurd h ip⟩
      ·have gn:((CS:Int) != (rec:Int))=true:=oO;have HF:Hid (R=2):=nu;clear hz h2 hr U;go_wp2_with fail;go_quiet (first|(go_at_call 115;(with_reducible exact CP (E0.out _)))|(go_at_call 64;first|(with_reducible exact CP (E1.out _))|(with_reducible exact CP (E2.out _))));go_wp2_with fail;go_ret;rw[HF.out];exact⟨rfl,z.out.kept.drewN _,fun h=>absurd h ip⟩
    ·have gE:(E != 0)=true:=(by simpa using hE);have HF:Hid (R=E):=(by have h:=U.out;rw[Ae hE]at h;exact h);have cu:=hid hE;clear hE U G;go_wp2_with fail;go_ret;rw[HF.out];exact⟨rfl,z.out.kept,fun h=>absurd h cu.out⟩
end Body
namespace Body
open Go.RowKit Mem Own Canon Recs Idx
open Go.Proofs.YtfgdoknipbpfhaaGreatDoor.One (FrsAt FrsAt.step FrsAt.grown FrsAt.snoc FH)
open NumPut
open Ef (Ca Qb)
structure MSt (base db:Nat) (vG pv vS:Value) (ps:List Part) (W:World):Prop where
 dir:Blk W db 87 #[vG,vS,ij,ij]
 pr:W.ownsRow base 28 1 pv ps.length (ps.map Part.v)
 fr:FrsAt W base ps
 sr:W.ownsRow base 3 1 vS ps.length (cZ .i64 (ps.map fun p=>p.ls.length))
 gb:base<=db
section
variable {base db:Nat} {vG pv vS pv' vS':Value} {ps:List Part} {W w' w8 w9:World} {p:Part} {o1 o2:Obj}
theorem MSt.step(h:MSt base db vG pv vS ps W)(b:Below W W w'):MSt base db vG pv vS ps w':=
 ⟨h.dir.step b,eZ h.pr fun y hy=>b.block y (Am h.pr y hy).2,h.fr.step b,eZ h.sr fun y hy=>b.block y (Am h.sr y hy).2,h.gb⟩
theorem MSt.mid(h:MSt base db vG pv vS ps W)(g8:(W.alloc o1).grownBy w8 pv.ownBlock):Blk w8 db 87 #[vG,vS,ij,ij]/\w8.ownsRow base 3 1 vS ps.length (cZ .i64 (ps.map fun p=>p.ls.length)):=
 ⟨(h.dir.alloc o1).grown g8 (AZ (gZ h.pr h.dir ip)),FH (h.sr.alloc o1) (h.pr.alloc o1) ip g8⟩
theorem MSt.round(h:MSt base db vG pv vS ps W)(hp:W.ownsRow base 5 1 p.v p.ls.length (cZ .u8 p.ls))(g8:(W.alloc o1).grownBy w8 pv.ownBlock)(o8:w8.ownsRow base 28 1 pv' (ps.length+1) (ps.map Part.v++ [p.v]))
 (g9:(w8.alloc o2).grownBy w9 vS.ownBlock)(o9:w9.ownsRow base 3 1 vS' (ps.length+1) (cZ .i64 (ps.map fun p=>p.ls.length)++ [.int .i64 (p.ls.length:Nat)])):
 MSt base db vG pv' vS' (ps++ [p]) (w9.setCell ⟨db,1,none⟩ vS')/\Below base W (w9.setCell ⟨db,1,none⟩ vS'):=by
 obtain⟨d8,s8⟩:=h.mid g8;have d9:Blk w9 db 87 #[vG,vS,ij,ij]:=(d8.alloc o2).grown g9 (AZ (gZ s8 d8 ip));have E:=FH (hp.alloc o1) (h.pr.alloc o1) ip g8;have j:=FH (E.alloc o2) (s8.alloc o2) ip g9;have f8:FrsAt w8 base ps:=(h.fr.step (aZ (Ag _ _))).grown (h.pr.alloc o1) g8;have f9:FrsAt w9 base ps:=fun q hq=>FH ((f8 q hq).alloc o2) (s8.alloc o2) ip g9;have z:=FH (o8.alloc o2) (s8.alloc o2) ip g9;have hB:base<=W.heap.size:=by have:=h.dir.lt;have:=h.gb;omega
 have far:∀ {s n:Nat} {e:TypeId} {v:Value} {xs:List Value},w9.ownsRow base e s v n xs->e≠87->(w9.setCell ⟨db,1,none⟩ vS').ownsRow base e s v n xs:=fun ho hne=>eZ ho fun y hy=>AV _ _ _ y fun e=>gZ ho d9 hne o6;refine⟨⟨by simpa using d9.set 1 vS',?_,fun q hq=> ?_,?_,h.gb⟩,?_⟩
 ·rw[Aj,EN];exact far z ip
 ·rcases BJ.1 hq with hq|hq
  ·exact far (f9 q hq) ip
  ·rw[Eu.1 hq];exact far j ip
 ·have e1:cZ .i64 ((ps++ [p]).map fun p=>p.ls.length)=cZ .i64 (ps.map fun p=>p.ls.length)++ [.int .i64 (p.ls.length:Nat)]:=by simp[cZ]
  rw[Aj,e1];exact far o9 ip
 ·have i:base<=w8.heap.size:=AN hB (AN pI g8.size);exact((((Ag base W).alloc hB _).grown g8 pQ fun y hy=>(Am h.pr y hy).1).alloc i _ |>.grown g9 pQ fun y hy=>(Am s8 y hy).1).setCell (p:=⟨db,1,none⟩) h.gb _
theorem MSt.stores(h:MSt base db vG pv vS ps W)(x y:Value):
 Blk ((W.setCell ⟨db,2,none⟩ x).setCell ⟨db,3,none⟩ y) db 87 #[vG,vS,x,y]/\Below base W ((W.setCell ⟨db,2,none⟩ x).setCell ⟨db,3,none⟩ y)/\
  ∀ {b s n:Nat} {e:TypeId} {v:Value} {xs:List Value},W.ownsRow b e s v n xs->e≠87->((W.setCell ⟨db,2,none⟩ x).setCell ⟨db,3,none⟩ y).ownsRow b e s v n xs:=by
 refine⟨by simpa using (h.dir.set 2 x).set 3 y,((Ag base W).setCell (p:=⟨db,2,none⟩) h.gb _).setCell (p:=⟨db,3,none⟩) h.gb _,fun ho hne=> ?_⟩;refine eZ ho fun z hz=> ?_;have hd:z≠db:=fun e=>gZ ho h.dir hne (by rw[hz,e]);exact(AV _ _ _ z hd).trans (AV _ _ _ z hd)
end
theorem QU:∀ (l:List Str) (i:Str),(∀s∈l,i<s)->(∀s∈l,1<=s.length/\s.length<=25)->EV l->Dd i l=true
 | [],_,_,_,_=>rfl
 |s :: t,i,h,hs,hr=>by obtain⟨h1,h2⟩:=Fz.1 hr;rw[Dd,BX];refine⟨?_,QU t s h1 (fun x hx=>hs x (BW _ hx)) h2⟩;unfold El;rw[BX,BX,decide_eq_true_iff,decide_eq_true_iff,decide_eq_true_iff];exact⟨(hs s CD).1,(hs s CD).2,h s CD⟩
theorem QH{l:List Rec}{s:Str}(h:s∈AY (l.map lZ)):1<=s.length/\s.length<=25:=by obtain⟨t,ht,hs⟩:=(Tp s _).1 h;obtain⟨r,_,rfl⟩:=Cc.1 ht;exact U2 hs
theorem KL{l:List Rec}(h:(AY (l.map lZ)).length<=1048576):Gl (AY (l.map lZ))=true:=by
 unfold Gl;rw[BX];refine⟨QU _ _ (fun s hs=> ?_) (fun s hs=>QH hs) (TI _),Be h⟩;have:=(QH hs).1;cases s with
 |nil=>simp at this
 |cons x t=>exact List.nil_lt_cons x t
theorem eC(ts:List (List Str))(u:Str):Ca ts.length none (Cf ts u)=true:=by
 refine Qb _ _ none (fun x hx=> ?_) ?_ (fun y hy=>by cases hy)
 ·unfold Cf at hx;exact Fm.1 (List.mem_filter.1 hx).1
 ·unfold Cf;exact List.Pairwise.filter _ List.pairwise_lt_range
theorem Lf(l:List Rec):G4 l.length ((AY (l.map lZ)).map (Cf (l.map lZ)))=true/\∀x∈(AY (l.map lZ)).map (Cf (l.map lZ)),x≠ []/\x.length<=l.length:=by
 refine⟨FW.2 fun x hx=> ?_,fun x hx=> ?_⟩
 ·obtain⟨u,_,rfl⟩:=Cc.1 hx;have:=eC (l.map lZ) u;rw[Bc]at this;exact this
 ·obtain⟨u,hu,rfl⟩:=Cc.1 hx;have h2:=Mr (l.map lZ) u;rw[Bc]at h2;exact⟨(On _ u).1 hu,h2⟩
theorem UX(s:Str):∀x∈Dc s,x<=255:=fun x h=>by
 unfold Dc G9 at h;rcases BJ.1 h with h|h
 ·exact CY _ x h
 ·obtain⟨c,_,rfl⟩:=Cc.1 h;have:=c.toNat_lt;omega
theorem UL:∀ (t:List Str) (i:Str),∀x∈Eg i t,x<=255
 | [],_,x,h=>by simp[Eg]at h
 |s :: t,i,x,h=>by
  rw[Eg]at h;simp only[List.mem_append]at h;rcases h with (h|h)|h
  ·exact CY _ x h
  ·exact UX _ x h
  ·exact UL t s x h
theorem kG(l:List Str):∀x∈tZ l,x<=255:=fun x h=>by
 cases l with
 |nil=>simp[tZ]at h
 |cons s t=>
  rw[tZ]at h;rcases BJ.1 h with h|h
  ·exact UX _ x h
  ·exact UL t s x h
theorem Xn(size:Nat)(l:List Str):∀x∈Dg size l,x<=255:=fun x h=>by
 unfold Dg at h;simp only[List.mem_append,List.mem_flatMap]at h;rcases h with (h|⟨c,_,h⟩)|⟨c,_,h⟩
 ·exact CY _ x h
 ·exact CY _ x h
 ·exact kG _ x h
theorem i9(bound:Nat)(l:List Nat):∀x∈Ef.efO bound l,x<=255:=fun x h=>by
 unfold Ef.efO at h;split at h
 ·exact CY _ x h
 ·rcases BJ.1 h with h|h
  ·exact CY _ x h
  ·obtain⟨k,_,rfl⟩:=Cc.1 h;exact Huff.Lu _ k
theorem Sh(o:Opts.Opt)(l:List Rec):∀x∈ixR o l,x<=255:=fun x h=>by
 unfold ixR ixO Dl at h;rcases BJ.1 h with h|h
 ·exact Xn _ _ x h
 ·obtain⟨c,_,h⟩:=List.mem_flatMap.1 h;exact i9 _ _ x h
theorem Mo{o:Opts.Opt}(h:Opts.C8 o=0):16<=o.block/\o.block<=32768/\1<=o.bucket/\o.bucket<=64:=by
 unfold Opts.C8 Opts.Im at h;split at h
 ·rename_i hc;exact⟨hc.1.1,hc.1.2,hc.2.1.1,hc.2.1.2⟩
 ·cases h
end Body
namespace Body
open Recs Idx Opts
open NumPut (fZ sZ)
open Ef (efO Ca Fs Hk Ha efW)
open Huff (bytesOf_length)
theorem UD(hb:bound<=20000)(hm:Ca bound none l=true)(h0:l≠ [])(hn:l.length<=bound):(efO bound l).length<=10+(3*bound+7) / 8:=by
 have h1:1<=l.length:=FD.2 h0;have hq:1<=bound / l.length:=(Nat.one_le_div_iff mz).2 hn;have hW:l.length*efW bound l.length<=bound:=jw
 have i:=Hk (efW bound l.length) l;have z:=Ha bound l none hm;have hp:=(Nb bound l none hm).1;have j:=Ni (l.map (·/ 2 ^ efW bound l.length)) 0 bound (Cr _) (fun x hx=>by obtain⟨y,hy,rfl⟩:=Cc.1 hx;exact⟨Cr _,AN (Ho _ _) (by have:=z y hy;omega)⟩) (List.Pairwise.map _ (fun a b h=>Nat.div_le_div_right h) hp);rw[Bc]at j;have E:=sZ (x:=l.length) mz;unfold efO;rw[Ab h0,Aj,bytesOf_length];unfold Fs;rw[Aj,i];omega
theorem N7{bound C:Nat}:∀ {ls:List (List Nat)},(∀x∈ls,(efO bound x).length<=C)->(Dl bound ls).length<=C*ls.length
 | [],_=>by simp[Dl]
 |x :: t,h=>by have ih:=N7 (ls:=t) (fun y hy=>h y (BW _ hy));have hx:=h x CD;unfold Dl at ih ⊢;rw[Ct,Aj,AI,Nat.mul_add];omega
theorem MD(ts:List (List Str)):(AY ts).length<=(ts.map List.length).sum:=by
 have h:∀ (ts:List (List Str)) (i:List Str),(ts.foldl EB i).length<=i.length+(ts.map List.length).sum:=fun ts=>by
  induction ts with
  |nil=>intro i;simp
  |cons t ts ih=>intro i;have h1:=ih (EB i t);have h2:=PY t i;rw[List.foldl_cons,Cs,GI];omega
 have:=h ts [];simpa[AY]using this
theorem Li:∀l:List Rec,((((l.map lZ).map List.length).sum:Nat):Int)<=Bp l
 | []=>by simp[J7]
 |r :: l=>by
  have ih:=Li l;have e:Bp (r :: l)=weigh r+Bp l:=pM
  have h:=RD r.text.data.toList r.source.data.toList;have h1:r.text.data.toList.length=r.text.size:=Array.length_toList;have h2:r.source.data.toList.length=r.source.size:=Array.length_toList;rw[h1,h2]at h;rw[Cs,Cs,GI,e];have h3:(lZ r).length<=r.text.size+r.source.size:=h;unfold weigh;omega
theorem W5{o:Opt}{l:List Rec}{n:Nat}(hn:l.length=n)(h1:(n:Int)<=30)(h2:Bp l<=1500):(AY (l.map lZ)).length<=20000/\(C8 o=0->(ixR o l).length<=99000):=by
 have hT:(AY (l.map lZ)).length<=1500:=by have a:=MD (l.map lZ);have b:=Li l;omega
 refine⟨mz,fun ho=> ?_⟩;obtain⟨_,_,j,y⟩:=Mo ho;have h:=Lf l;have i:=KL (l:=l) mz;have hs:∀s∈AY (l.map lZ),s.length<=25:=fun s hs=>(Jj i s hs).2;have a:=Mu hs (size:=o.bucket.toNat) mz mz (nCh o.bucket.toNat (AY (l.map lZ)).length);have b:=MU hs (size:=o.bucket.toNat) mz (nCh o.bucket.toNat (AY (l.map lZ)).length);have c:=Np (size:=o.bucket.toNat) (n:=(AY (l.map lZ)).length) mz;have d:=N7 (bound:=l.length) (C:=22) (ls:=(AY (l.map lZ)).map (Cf (l.map lZ))) (fun x hx=>by have h3:=h.2 x hx;have h4:=UD (bound:=l.length) (l:=x) mz (FW.1 h.1 x hx) h3.1 h3.2;omega);rw[Bc]at d;have e:Dg o.bucket.toNat (AY (l.map lZ))=hdB o.bucket.toNat (AY (l.map lZ)) (nCh o.bucket.toNat (AY (l.map lZ)).length)++bdB o.bucket.toNat (AY (l.map lZ)) (nCh o.bucket.toNat (AY (l.map lZ)).length):=Qe mz _;unfold ixR ixO;rw[Aj,e,Aj];omega
end Body
namespace Body
open Go.RowKit Mem Own Canon NumPut Crc
open Recs Idx
open Block (nZ)
open Go.Proofs.YtfgdoknipbpfhaaGreatDoor.One (FrsAt FrsAt.step)
structure JS (base:Nat) (O D:List Nat) (vo vd:Value) (W:World):Prop where
 oo:W.ownsRow base 5 1 vo O.length (cZ .u8 O)
 od:W.ownsRow base 5 1 vd D.length (cZ .u8 D)
 ap:Apt vo vd
section
variable {base:Nat} {O D X:List Nat} {vo vd v':Value} {W w':World}
theorem JS.step(h:JS base O D vo vd W)(b:Below W W w'):JS base O D vo vd w':=
 ⟨eZ h.oo fun y hy=>b.block y (Am h.oo y hy).2,eZ h.od fun y hy=>b.block y (Am h.od y hy).2,h.ap⟩
theorem JS.dirA(h:JS base O D vo vd W)(hB:base<=W.heap.size)(g:W.grownBy w' vd.ownBlock)(o:w'.ownsRow base 5 1 v' (D.length+X.length) (cZ .u8 D++cZ .u8 X))(t:v'.ownBlock=vd.ownBlock∨v'.ownBlock=some W.heap.size):
 JS base O (D++X) vo v' w'/\Below base W w':=by
 obtain⟨a,b⟩:=GP h.oo h.ap.symm g t;refine⟨⟨a,?_,b.symm⟩,(Ag base W).grown g hB fun y hy=>(Am h.od y hy).1⟩;rw[Aj,show cZ .u8 (D++X)=cZ .u8 D++cZ .u8 X by simp[cZ]];exact o
theorem JS.outA(h:JS base O D vo vd W)(hB:base<=W.heap.size)(g:W.grownBy w' vo.ownBlock)(o:w'.ownsRow base 5 1 v' (O.length+X.length) (cZ .u8 O++cZ .u8 X))(t:v'.ownBlock=vo.ownBlock∨v'.ownBlock=some W.heap.size):
 JS base (O++X) D v' vd w'/\Below base W w':=by
 obtain⟨a,b⟩:=GP h.od h.ap g t;refine⟨⟨?_,a,b⟩,(Ag base W).grown g hB fun y hy=>(Am h.oo y hy).1⟩;rw[Aj,show cZ .u8 (O++X)=cZ .u8 O++cZ .u8 X by simp[cZ]];exact o
end
structure JE (base:Nat) (vo vd u:Value) (m:Nat) (ys:List Value) (W:World):Prop where
 own:W.ownsRow base 5 1 u m ys
 ao:Apt vo u
 ad:Apt vd u
section
variable {base m:Nat} {O D X:List Nat} {vo vd v' u:Value} {ys:List Value} {W w':World}
theorem JE.new(h:JS base O D vo vd W)(hB:base<=W.heap.size)(o:w'.ownsRow W 5 1 u m ys):JE base vo vd u m ys w':=
 ⟨kZ o hB,(Jo o (Aq _) fun x hx=>(Am h.oo x hx).2).symm,(Jo o (Aq _) fun x hx=>(Am h.od x hx).2).symm⟩
theorem JE.step(h:JE base vo vd u m ys W)(b:Below W W w'):JE base vo vd u m ys w':=⟨eZ h.own fun y hy=>b.block y (Am h.own y hy).2,h.ao,h.ad⟩
theorem JE.dirA(h:JE base vo vd u m ys W)(g:W.grownBy w' vd.ownBlock)(t:v'.ownBlock=vd.ownBlock∨v'.ownBlock=some W.heap.size):JE base vo v' u m ys w':=by obtain⟨a,b⟩:=GP h.own h.ad g t;exact⟨a,h.ao,b⟩
theorem JE.outA(h:JE base vo vd u m ys W)(g:W.grownBy w' vo.ownBlock)(t:v'.ownBlock=vo.ownBlock∨v'.ownBlock=some W.heap.size):JE base v' vd u m ys w':=by obtain⟨a,b⟩:=GP h.own h.ao g t;exact⟨a,b,h.ad⟩
end
theorem src_part{p:Part}(h:p.Ok w):Src w p.A p.ls.length p.c 1 (cZ .u8 p.ls):=by
 refine⟨pT,?_⟩;by_cases h0:0<p.ls.length
 ·obtain⟨b,z,hA,_,hc⟩:=h.row h0;refine .inr ⟨_,hA,fun j u hu=> ?_⟩;have hj:j<p.ls.length:=by refine Ju fun hn=> ?_;have y:(cZ .u8 p.ls).length<=j:=(by simp[cZ];omega);rw[Fp y]at hu;cases hu
  have i:=hc j 0 hj mz;rw[CG,Bj]at i;rw[add_none,i,<-hu];have hg:=Huff.numL_get (k:= .u8) hj;rw[CG,Bj]at hg;rw[hg]
 ·cases hA:p.A with
  |none=>exact .inl ⟨rfl,(h.nil hA).1,(h.nil hA).2⟩
  |some a=>refine .inr ⟨a,rfl,fun j u hu=> ?_⟩;have h1:(cZ .u8 p.ls).length=0:=(by rw[show(cZ .u8 p.ls).length=p.ls.length by simp[cZ]];omega);rw[Fp (by rw[h1];exact Cr _)]at hu;cases hu
theorem ZL(w:World)(n g base cF cG cc cx:Nat)(AF AG AC AX:Option Addr)(ps:List Part)(G CB IX:List Nat)(hn:n<=1000000)(hg:g<=20000)(ew:ps.length=g)(ec:G.length=g)(eB:∀z∈G,z<=1000000)(fi:(ps.map Part.ls).flatten.length<=500000)(hc:CB.length<=900000)(hq:IX.length<=900000)(fk:∀x∈CB,x<=255)(fs:∀x∈IX,x<=255)
 (ho:w.ownsRow base 28 1 (.slice AF g cF) g (ps.map Part.v))(e4:FrsAt w base ps)(hG:Row w w AG g 1 (jZ .i64 G))(hC:Part.Ok (⟨AC,cc,CB⟩:Part) w)(hX:Part.Ok (⟨AX,cx,IX⟩:Part) w):
 Calls prog 27 #[.int .i64 (n:Nat), .slice AF g cF, .slice AG g cG, .slice AC CB.length cc, .slice AX IX.length cx] w fun e w'=>∃v,e= .returned v/\w'.ownsRow w 5 1 v (EP n G (ps.map Part.ls) CB IX).length (cZ .u8 (EP n G (ps.map Part.ls) CB IX))/\Below w w w':=by
 obtain⟨j0,M,Q,N,U⟩:=info_parts Eo;have D1:=hid (fun wx=>JY wx n mz);have D2:=hid (fun wx=>JY wx g mz);have l1:=sZ (x:=n) mz;have l2:=sZ (x:=g) mz;have u1:IntKind.u64.wrap (n:Int)=(n:Int):=n5
 have u2:IntKind.u64.wrap (g:Int)=(g:Int):=n5
 obtain⟨SZ,cy⟩:=ii ((ps.map Part.ls).map List.length);have e9:SZ.length=g:=by rw[cy,Bc,Bc];exact ew
 have d9:Hid (EP n G (ps.map Part.ls) CB IX=(ps.map Part.ls).flatten++(AR CB++(AR IX++(AR (Ei n G SZ (AR CB).length (AR IX).length)++CO (AR (Ei n G SZ (AR CB).length (AR IX).length)).length)))):=by show _=_;unfold EP;rw[cy]
 have fo:Hid (∀x y,Ei n G SZ x y=fZ n++fZ g++Bf G SZ++(fZ x++fZ y)):=fun x y=>by unfold Ei;rw[ec];simp only[List.append_assoc]
 have eV:=hid ew;have fp:=hid ec;have gl:=hid e9;have gB:=hid eB;have ep:=hid fi;have gh:=hid fk;have g3:=hid fs;have HO:=hid ho;have gg:=hid e4;have gy:Hid (Row w w AG g 1 (jZ .i64 G)):=hG;have HC:=hid hC;have HX:=hid hX;have fu:=hid cy;clear ew ec e9 eB fi fk fs ho e4 hG hC hX cy;go_enter func27,ntmps27;go_wp2_with fail;refine(D1.out _).mono ?_;rintro e w1 ⟨v1,rfl,eg,ft⟩;have ez:Hid (JS w [] (fZ n) (.slice none 0 0) v1 w1):=⟨AK _ _ _ _,eg,fun _ h=>by cases h⟩;obtain⟨A1,c1,rfl⟩:=bZ eg;have HB:=hid ft;clear eg ft D1;obtain⟨NA,az⟩:=ii (fZ g);rw[<-az]at D2 l2;have a0:=hid D2.out;have HJ:=hid ez.out;have go:=hid az;clear D2 ez az;go_wp2_with fail;refine(a0.out _).mono ?_;rintro e wA ⟨vA,rfl,am,ag⟩;obtain⟨AA,cA,rfl⟩:=bZ am;have bm:Hid (Src wA AA NA.length cA 1 (cZ .u8 NA)):=Dz am;have ak:=hid (HJ.out.step ag);have aj:Hid (Below w w wA):=uZ ag HB.out.size HB.out;have a1:=aj.out.size;clear am ag a0 HJ HB;go_wp2_with(at_builtin;refine iZ rfl (.tmp 21) (.tmp 25) 28 rfl w 5 j0 _ 1 1 underlying28 M Q N U rfl ip _ _ _ nc ak.out.od _ _ _ _ nc bm.out (Cq _ _) qg mz a1 ?_;intro v2 w2 i bS ab;have q:=ak.out.dirA a1 bS i ab;obtain⟨A2,c2,rfl⟩:=bZ i;have a4:=hid q.1;have ac:Hid (Below w w w2):=aj.out.trans q.2;clear q i bS ab ak bm aj);have al:Hid (fZ n++NA=fZ n++fZ g++Bf (G.take 0) (SZ.take 0)):=by show _=_;rw[go.out];simp[Bf]
 rw[al.out]at a4;have bq:Hid (JS w ((ps.take 0).map Part.ls).flatten (fZ n++fZ g++Bf (G.take 0) (SZ.take 0)) (.slice none 0 0) (.slice A2 ((fZ n).length+NA.length) c2) w2):=a4.out;have dj:Hid ((fZ n++fZ g++Bf (G.take 0) (SZ.take 0)).length<=20+20*0):=by show _<=_;rw[<-al.out,Aj];omega
 clear a4;go_wp2_with fail;go_loopw [11,12,13] (fun ov dv iv wr=>∃k:Nat,k<=g/\iv= .int .i64 k/\Hid (JS w ((ps.take k).map Part.ls).flatten (fZ n++fZ g++Bf (G.take k) (SZ.take k)) ov dv wr)/\Hid ((fZ n++fZ g++Bf (G.take k) (SZ.take k)).length<=20+20*k)/\Hid (Below w w wr)) (fun _ _ iv _=>g-(intOf iv).toNat)
 case atStart=>exact⟨0,mz,rfl,bq.out,dj.out,ac.out⟩
 case round=>
  obtain⟨k,hk,rfl,HJ,b0,HB⟩:=hrel;clear bq dj ac al;obtain⟨wi,rfl⟩:=ii wr;have hz:=HB.out.size;by_cases ed:k<g
  ·have gk:=ic ((k:Int)<g);have gm:=ic (k<g);have x0:(0:Int)<=(k:Int):=mz;have x1:(k:Int)<(g:Int):=mz;obtain⟨bg,og,m,rfl,hi,hm,cm⟩:=CF (gy.out.below HB.out) fp.out ed;have ce:k<ps.length:=(by rw[eV.out];exact ed);obtain⟨P,hP⟩:=ii (ps[k]);have cr:ps[k]? =some P:=(by rw[hP];exact AD ce);have fd:wi.ownsRow base 28 1 (.slice AF g cF) g (ps.map Part.v):=eZ HO.out fun y hy=>HB.out.block y (Am HO.out y hy).2;obtain⟨gf,gc,g0,_,_⟩:=fd.form mz;injection g0 with e1 e2 e3;subst e1 e3;have gs:gf<w.heap.size:=(Am HO.out gf rfl).2;have cf:w.cell? ⟨gf,k,none⟩=some P.v:=(Lz.own_cells HO.out ed).1.trans (by rw[BE,cr];rfl);have cE:Hid (∀wx,Below w w wx->wx.cell? ⟨gf,k,none⟩=some P.v):=fun wx h=>(h.cell (p:=⟨gf,k,none⟩) gs).trans cf;have e8:Hid (∀wx,Below w w wx->Part.Ok P wx):=fun wx h=>(nZ (gg.out P (by rw[hP];exact Fo ce)) rfl).step h;have gq:=gB.out m (Bg hm);have ev:SZ[k]? =some P.ls.length:=(by rw[fu.out,BE,BE,cr];rfl);have fy:P.ls.length<=500000:=AN (One.UJ (Cc.2 ⟨P,by rw[hP];exact Fo ce,rfl⟩)) ep.out;have dw:=Sv hm ev;have dx:((ps.take (k+1)).map Part.ls).flatten=((ps.take k).map Part.ls).flatten++P.ls:=by rw[Cm,cr];simp
   have gr:((ps.take k).map Part.ls).flatten.length<=500000:=by
    refine AN ?_ ep.out
    conv=>rhs;rw[<-EM k ps]
    rw[EN,List.flatten_append,Aj];omega
   have a0:=hid (fun wx=>JY wx m mz);have ct:=hid (fun wx=>JY wx P.ls.length mz);have la:=sZ (x:=m) mz;have lb:=sZ (x:=P.ls.length) mz;have u3:IntKind.u64.wrap (m:Int)=(m:Int):=n5;obtain⟨pA,pc,an⟩:=P;simp only[Part.v]at cE dx dw fy ev lb ct e8;have u4:IntKind.u64.wrap (an.length:Int)=(an.length:Int):=n5;have cu:Hid (fZ n++fZ g++Bf (G.take (k+1)) (SZ.take (k+1))=fZ n++fZ g++Bf (G.take k) (SZ.take k)++fZ m++fZ an.length):=(by show _=_;rw[dw];simp only[List.append_assoc]);obtain⟨NB,f2⟩:=ii (fZ an.length);rw[<-f2]at cu ct lb;obtain⟨NA,az⟩:=ii (fZ m);rw[<-az]at cu a0 la;have g1:Hid (((ps.take (k+1)).map Part.ls).flatten=((ps.take k).map Part.ls).flatten++an):=dx;have gE:=b0.out;generalize fZ n++fZ g++Bf (G.take k) (SZ.take k)=DI at *;generalize ((ps.take k).map Part.ls).flatten=OU at *;obtain⟨Ao,co,rfl⟩:=bZ HJ.out.oo;obtain⟨Ad,cd,rfl⟩:=bZ HJ.out.od;clear hm ce hP cr fd cf gq ev dw dx az f2 b0;go_wp2_with fail;refine(a0.out _).mono ?_;rintro e wA ⟨vA,rfl,am,ag⟩;obtain⟨AA,cA,rfl⟩:=bZ am;have bm:Hid (Src wA AA NA.length cA 1 (cZ .u8 NA)):=Dz am;have ak:=hid (HJ.out.step ag);have aj:Hid (Below w w wA):=uZ ag HB.out.size HB.out;have a1:=aj.out.size;clear am ag a0 HJ HB;go_wp2_with(at_builtin;refine iZ rfl (.tmp 33) (.tmp 39) 28 rfl w 5 j0 _ 1 1 underlying28 M Q N U rfl ip _ _ _ nc ak.out.od _ _ _ _ nc bm.out (Cq _ _) qg mz a1 ?_;intro v2 w2 i bS ab;have q2:=ak.out.dirA a1 bS i ab;obtain⟨A2,c2,rfl⟩:=bZ i;have a4:=hid q2.1;have ac:Hid (Below w w w2):=aj.out.trans q2.2;have hp:=ac.out.size;clear q2 i bS ab;have hB:=cE.out w2 ac.out);clear ak bm aj a1;have hh:(DI++NA).length<=30+20*k:=nz;refine(ct.out _).mono ?_;rintro e wB ⟨vB,rfl,en,d3⟩;obtain⟨AB,cB,rfl⟩:=bZ en;have gC:Hid (Src wB AB NB.length cB 1 (cZ .u8 NB)):=Dz en;have eE:=hid (a4.out.step d3);have d4:Hid (Below w w wB):=uZ d3 ac.out.size ac.out;have fc:=d4.out.size;clear en d3 ct a4 ac;have hA:=cE.out wB d4.out;go_wp2_with(first|(at_builtin;refine iZ rfl (.tmp 41) (.tmp 48) 28 rfl w 5 j0 _ 1 1 underlying28 M Q N U rfl ip _ _ _ nc eE.out.od _ _ _ _ nc gC.out (Cq _ _) qg mz fc ?_;intro v3 w3 ai fB cT;have q3:=eE.out.dirA fc fB ai cT;obtain⟨A3,c3,rfl⟩:=bZ ai;have bq:=hid q3.1;have cg:Hid (Below w w w3):=d4.out.trans q3.2;have f4:=cg.out.size;clear q3 ai fB cT;have hD:=cE.out w3 cg.out;have f9:Src w3 pA an.length pc 1 (cZ .u8 an):=src_part (e8.out w3 cg.out))|(at_builtin;refine iZ rfl (.tmp 50) (.tmp 54) 28 rfl w 5 j0 _ 1 1 underlying28 M Q N U rfl ip _ _ _ nc bq.out.oo _ _ _ _ nc f9 (Cq _ _) qg mz f4 ?_;intro v4 w4 ah fg dk;have q4:=bq.out.outA f4 fg ah dk;obtain⟨A4,c4,rfl⟩:=bZ ah;have ga:=hid q4.1;have fw:Hid (Below w w w4):=cg.out.trans q4.2;have hl:=fw.out.size;clear q4 ah fg dk;skip));have ef:=ga.out;simp only[List.length_append]at ef;have bi:=hid ef;clear ef;have eA:Hid ((DI++NA++NB).length<=20+20*(k+1)):=(by show _<=_;rw[Aj];omega);go_roundw
   case measure=>exact jo
   case rel=>go_light;exact⟨k+1,mz,iu,by rw[cu.out,g1.out];exact bi.out,by rw[cu.out];exact eA.out,fw.out⟩
  ·obtain rfl:k=g:=by omega
   have gk:=ig ((k:Int)<k);have gm:=ig (k<k);have eG:G.take k=G:=BV (by rw[fp.out];exact Aq _);have eS:SZ.take k=SZ:=BV (by rw[gl.out];exact Aq _);have eP:ps.take k=ps:=BV (by rw[eV.out];exact Aq _);rw[eG,eS]at HJ b0;rw[eP]at HJ;have gE:=b0.out;have gr:=ep.out;have b1:=hid (fo.out (AR CB).length (AR IX).length);have f1:=Oa n G SZ (AR CB).length (AR IX).length;rw[Dy CB,Dy IX]at b1 f1 d9;generalize Ei n G SZ (CB.length+4) (IX.length+4)=DD at *;generalize fZ n++fZ k++Bf G SZ=DI at *;generalize (ps.map Part.ls).flatten=OU at *;obtain⟨Ao,co,rfl⟩:=bZ HJ.out.oo;obtain⟨Ad,cd,rfl⟩:=bZ HJ.out.od;have gv:=hid (HC.out);have E1:=hid (PI wi AC CB.length cc CB rfl mz HC.out.nil gh.out ((HC.out.row.below HB.out).mono hz));have E2:=hid (fun wx (h:Below w w wx)=>PI wx AX IX.length cx IX rfl mz HX.out.nil g3.out ((HX.out.row.below h).mono h.size));unfold Hr at E1 E2;obtain⟨cl,bd⟩:=ii (CB.length+4);obtain⟨il,bl⟩:=ii (IX.length+4);rw[<-bd]at E1 b1;rw[<-bl]at E2 b1;have g5:cl<=900004:=mz;have g8:il<=900004:=mz;have dn:=hid bd;have dm:=hid bl;clear eG eS eP b0 bd bl fo fu gv;go_wp2_with fail;refine E1.out.mono ?_;rintro e w5 ⟨v5,rfl,cj,et⟩;obtain⟨A5,c5,rfl⟩:=bZ cj;have cv:Hid (Below w w w5):=uZ et hz HB.out;have bi:=hid (HJ.out.step et);have gj:Hid (w5.ownsRow w 5 1 (.slice A5 cl c5) cl (cZ .u8 (AR CB))):=kZ cj hz;have fq:Hid (JE w (.slice Ao OU.length co) (.slice Ad DI.length cd) (.slice A5 cl c5) cl (cZ .u8 (AR CB)) w5):=JE.new HJ.out hz cj;have fl:=hid (E2.out w5 cv.out);have d8:=cv.out.size;clear cj et E1 E2 HJ HB gj hz;go_wp2_with fail;refine fl.out.mono ?_;rintro e w6 ⟨v6,rfl,ex,ci⟩;obtain⟨A6,c6,rfl⟩:=bZ ex;have ey:Hid (Below w w w6):=uZ ci d8 cv.out;have fz:Hid (JE w (.slice Ao OU.length co) (.slice Ad DI.length cd) (.slice A6 il c6) il (cZ .u8 (AR IX)) w6):=JE.new bi.out d8 ex;have cP:=hid (fq.out.step ci);have fm:=hid (bi.out.step ci);have eH:=ey.out.size;have fn:=hid (fun wx=>JY wx cl mz);have f8:=hid (fun wx=>JY wx il mz);have la:=sZ (x:=cl) mz;have lb:=sZ (x:=il) mz;have u3:IntKind.u64.wrap (cl:Int)=(cl:Int):=n5;have u4:IntKind.u64.wrap (il:Int)=(il:Int):=n5;generalize fZ cl=N1 at *;generalize fZ il=N2 at *;clear ex ci fl bi cv fq d8;go_wp2_with fail;refine(fn.out _).mono ?_;rintro e w7 ⟨v7,rfl,eb,bx⟩;obtain⟨A7,c7,rfl⟩:=bZ eb;have ca:Hid (Src w7 A7 N1.length c7 1 (cZ .u8 N1)):=Dz eb;have ej:=hid (fm.out.step bx);have dh:=hid (cP.out.step bx);have dc:=hid (fz.out.step bx);have eu:Hid (Below w w w7):=uZ bx eH ey.out;have dy:=eu.out.size;clear eb bx fn fm cP fz ey eH;go_wp2_with(at_builtin;refine iZ rfl (.tmp 60) (.tmp 64) 28 rfl w 5 j0 _ 1 1 underlying28 M Q N U rfl ip _ _ _ nc ej.out.od _ _ _ _ nc ca.out (Cq _ _) qg mz dy ?_;intro v8 w8 af cp ar;have da:=hid (dh.out.dirA cp ar);have dr:=hid (dc.out.dirA cp ar);have q8:=ej.out.dirA dy cp af ar;obtain⟨A8,c8,rfl⟩:=bZ af;have fA:=hid q8.1;have eo:Hid (Below w w w8):=eu.out.trans q8.2;have eK:=eo.out.size;clear q8 af cp ar;skip);have g6:(DI++N1).length<=400030:=nz;clear ca ej dh dc eu dy;refine(f8.out _).mono ?_;rintro e w9 ⟨v9,rfl,eh,bu⟩;obtain⟨A9,c9,rfl⟩:=bZ eh;have fh:Hid (Src w9 A9 N2.length c9 1 (cZ .u8 N2)):=Dz eh;have ea:=hid (fA.out.step bu);have cX:=hid (da.out.step bu);have cL:=hid (dr.out.step bu);have ee:Hid (Below w w w9):=uZ bu eK eo.out;have em:=ee.out.size;clear eh bu f8 fA da dr eo eK;go_wp2_with(at_builtin;refine iZ rfl (.tmp 66) (.tmp 70) 28 rfl w 5 j0 _ 1 1 underlying28 M Q N U rfl ip _ _ _ nc ea.out.od _ _ _ _ nc fh.out (Cq _ _) qg mz em ?_;intro hd dz Y ay aa;have be:=hid (cX.out.dirA ay aa);have a9:=hid (cL.out.dirA ay aa);have ek:=ea.out.dirA em ay Y aa;obtain⟨cw,cC,rfl⟩:=bZ Y;have av:=hid ek.1;have bt:Hid (Below w w dz):=ee.out.trans ek.2;have b8:=bt.out.size;clear ek Y ay aa;skip);clear fh ea cX cL ee em;have dF:DD=DI++N1++N2:=(by rw[b1.out,AJ]);have a3:DD.length=DI.length+N1.length+N2.length:=(by rw[dF,Aj,Aj]);have od:=av.out.od;rw[<-dF]at od;have cz:=od;rw[a3]at cz;simp only[List.length_append]at cz;have du:Part.Ok (⟨cw,cC,DD⟩:Part) dz:=(by have h:=nZ (A:=cw) (c:=cC) (ls:=DD) (n:=DI.length+N1.length+N2.length) cz a3;exact h);have cq:=hid (PI dz cw (DI.length+N1.length+N2.length) cC DD a3 mz (fun e=>by have h:=du.nil e;exact⟨by rw[<-a3];exact h.1,h.2⟩) f1 (by have h:=du.row;simp only[a3]at h;exact h));unfold Hr at cq;obtain⟨dl,bb⟩:=ii (DD.length+4);rw[<-bb]at cq;have g9:dl<=400060:=mz;have df:=hid bb;clear dF a3 od cz du bb b1;refine cq.out.mono ?_;rintro e el ⟨ha,rfl,b7,ae⟩;obtain⟨e0,f3,rfl⟩:=bZ b7;have ds:Hid (JE w (.slice Ao OU.length co) (.slice cw ((DI++N1).length+N2.length) cC) (.slice e0 dl f3) dl (cZ .u8 (AR DD)) el):=JE.new av.out b8 b7;have b6:=hid (be.out.step ae);have bC:=hid (a9.out.step ae);have bf:=hid (av.out.step ae);have bc:Hid (Below w w el):=uZ ae b8 bt.out;have dt:=bc.out.size;have fa:Hid (Src el A5 cl c5 1 (cZ .u8 (AR CB))):=Dz b6.out.own;have hw:(OU++AR CB).length<=1500000:=(by rw[Aj,Dy,<-dn.out];omega);have hf:(OU++AR CB++AR IX).length<=2500000:=(by rw[Aj,Dy,<-dm.out];omega);have hu:(OU++AR CB++AR IX++AR DD).length<=3000000:=(by rw[Aj,Dy,<-df.out];omega);have f5:(AR CB).length=cl:=(by rw[Dy,dn.out]);have f6:(AR IX).length=il:=(by rw[Dy,dm.out]);have f7:(AR DD).length=dl:=(by rw[Dy,df.out]);have gp:=hid f5;have g4:=hid f6;have e7:=hid f7;generalize AR CB=KC at *;generalize AR IX=KX at *;generalize AR DD=KD at *;clear b7 ae cq av be a9 bt b8 f5 f6 f7;go_wp2_with(first|(at_builtin;refine iZ rfl (.tmp 73) (.tmp 74) 28 rfl w 5 j0 _ 1 1 underlying28 M Q N U rfl ip _ _ _ nc bf.out.oo _ _ _ _ nc fa.out (Cq _ _) qg mz dt ?_;intro hF fe E aw Z;rw[<-gp.out]at E;have b5:=hid (bC.out.outA aw Z);have au:=hid (ds.out.outA aw Z);have e6:Src fe A6 il c6 1 (cZ .u8 KX):=Dz b5.out.own;have d0:=bf.out.outA dt aw E Z;obtain⟨hx,he,rfl⟩:=bZ E;have b9:=d0.1;(try simp only[List.length_append]at b9);have bp:=hid b9;clear b9;have a5:Hid (Below w w fe):=bc.out.trans d0.2;have dp:=a5.out.size;clear d0 E aw Z;skip)|(at_builtin;refine iZ rfl (.tmp 76) (.tmp 77) 28 rfl w 5 j0 _ 1 1 underlying28 M Q N U rfl ip _ _ _ nc bp.out.oo _ _ _ _ nc e6 (Cq _ _) qg mz dp ?_;intro hr fj J bk aq;rw[<-g4.out]at J;have ax:=hid (au.out.outA bk aq);have ca:Src fj e0 dl f3 1 (cZ .u8 KD):=Dz ax.out.own;have ei:=bp.out.outA dp bk J aq;obtain⟨ht,hj,rfl⟩:=bZ J;have b3:=ei.1;(try simp only[List.length_append]at b3);have a6:=hid b3;clear b3;have bh:Hid (Below w w fj):=a5.out.trans ei.2;have de:=bh.out.size;clear ei J bk aq;skip)|(at_builtin;refine iZ rfl (.tmp 79) (.tmp 80) 28 rfl w 5 j0 _ 1 1 underlying28 M Q N U rfl ip _ _ _ nc a6.out.oo _ _ _ _ nc ca (Cq _ _) qg mz de ?_;intro hv fH j dq bj;rw[<-e7.out]at j;have es:=a6.out.outA de dq j bj;obtain⟨gi,g2,rfl⟩:=bZ j;have bN:=es.1;(try simp only[List.length_append]at bN);have dg:=hid bN;clear bN;have b4:Hid (Below w w fH):=bh.out.trans es.2;have ff:=b4.out.size;clear es j dq bj;skip));have gu:Hid (EP n G (ps.map Part.ls) CB IX=OU++KC++KX++KD++CO dl):=(by show _=_;rw[d9.out,e7.out];simp only[List.append_assoc]);have f0:=hid (cU fH dl mz);have u5:IntKind.u64.wrap (dl:Int)=(dl:Int):=n5;clear bf bp a6 bc a5 bh ds b6 bC b5 au ax fa e6 ca d9;refine f0.out.mono ?_;rintro e dC ⟨hE,rfl,bn,ba⟩;obtain⟨gF,gn,rfl⟩:=bZ bn;have e5:Hid (Src dC gF 4 gn 1 (cZ .u8 (CO dl))):=Dz bn;have c0:=hid (dg.out.step ba);have dd:Hid (Below w w dC):=uZ ba ff b4.out;have cS:=dd.out.size;clear bn ba f0 dg b4;have di:Hid (dC.ownsRow w 5 1 (.slice gi (OU.length+(KC.length+KX.length)+KD.length) g2) (OU++KC++KX++KD).length (cZ .u8 (OU++KC++KX++KD))):=(by have h:=c0.out.oo;show World.ownsRow _ _ _ _ _ _ _;rw[show OU.length+(KC.length+KX.length)+KD.length=OU.length+KC.length+KX.length+KD.length by omega];exact h);clear c0;go_wp2_with(at_builtin;refine iZ rfl (.tmp 89) (.tmp 90) 28 rfl w 5 j0 _ 1 1 underlying28 M Q N U rfl ip _ _ _ nc di.out _ _ _ _ nc e5.out (Cq _ _) qg mz cS ?_;intro gz gx cH fx gw);have eO:Hid (Below w w gx):=dd.out.grown fx cS (fun y hy=>(Am di.out y hy).1);go_ret;refine⟨gz,rfl,?_,eO.out⟩;rw[gu.out];have e1:(OU++KC++KX++KD++CO dl).length=(OU++KC++KX++KD).length+4:=(by rw[Aj];rfl);have e2:cZ .u8 (OU++KC++KX++KD++CO dl)=cZ .u8 (OU++KC++KX++KD)++cZ .u8 (CO dl):=pT;rw[e1,e2];exact cH
end Body
namespace Idx
open Go.RowKit Mem Own Canon Sift
open NumPut Recs
open Ef (Ca efO)
open Huff (numL_get)
theorem iJ{ts:List Str}(h:IxAt w base vT vL vals ts ls)(hx:ls[k]? =some x):
 ∃A c,vals[k]? =some (.slice A x.length c)/\Row w w A x.length 1 (jZ .i64 x):=by
 obtain⟨hk,_⟩:=CE.1 hx;have y:k<vals.length:=by rw[h.len];exact hk
 have hv:vals[k]? =some vals[k]:=AD y;have ho:=h.r k _ x hv hx;obtain⟨A,c,e⟩:=bZ ho;rw[e]at hv ho;exact⟨A,c,hv,Row.of_own ho rfl (fun i j hi hj=>by have e0:j=0:=mz;subst e0;exact numL_get mz)⟩
end Idx
namespace Body
open Go.RowKit Mem Own Canon
theorem Us(w:World)(gb n c:Nat)(A:Option Addr)(ls:List Nat)(hc:w.cell? ⟨gb,0,none⟩=some (.slice A n c))(hn:ls.length=n)(hN:n<=1000000)(hs:ls.sum<=1000000000)(ha:Row w w A n 1 (jZ .i64 ls)):
 Calls prog 18 #[.pointer (some ⟨gb,0,none⟩)] w fun e w'=>e= .returned (.int .i64 (ls.sum:Nat))/\w'=w:=by
 have D:=hid (sum_any w A n c ls hn hN hs ha);generalize ls.sum=S at *;clear hn ha;go_enter func18,ntmps18;go_wp2_with fail;refine D.out.mono ?_;rintro e w1 ⟨rfl,rfl⟩;go_wp2_with fail;go_ret;exact⟨rfl,rfl⟩
end Body
end Go.Proofs.YtfgdoknipbpfhaaGreatDoor
