/- The walk of bits' Wr -/
import Derived.Test.YtfgdoknipbpfhaaGreatDoorZBodyBlocks19
import Derived.Test.YtfgdoknipbpfhaaGreatDoorZBodyBlocks13
namespace Go.Proofs.YtfgdoknipbpfhaaGreatDoor
open Go.Proofs.Tryz
open Go.Lib (hid)
set_option maxRecDepth 100000
variable{w:World}{g n:Nat}{l:List Int}{b:Int}
namespace Huff
open Go.RowKit Mem Canon
theorem U9(w:World)(g:Nat)(A:Option Addr)(n c:Nat)(ls:List Nat)(hn:ls.length=n)(i:n<=100000)(h:A=none->n=0/\c=0)
 (hg:w.cell? ⟨g,0,none⟩=some (.slice A n c))(ha:Row w w A n 1 (jZ .u8 ls)):
 Calls prog 177 #[.pointer (some ⟨g,0,none⟩)] w fun e w'=>∃v,e= .returned v/\w'.ownsRow w 5 1 v n (cZ .u8 ls)/\Below w w w':=by
 have C:=hid (Hw w A n c ls hn i h ha);clear hn i h ha;go_enter func177,ntmps177;go_wp2_with fail;refine C.out.mono ?_;rintro e w1 ⟨v,rfl,hv,hb⟩;go_wp2_with fail;go_ret;exact⟨_,rfl,hv,hb⟩
end Huff
namespace Huff
open Go.RowKit Mem Canon Own
theorem Wr.rowOf{K:Nat->Prop}{base c:Nat}{t:TypeId}{rest:List Value}{bs:List Bool}{A:Option Addr}(h:Wr K w base g t rest bs (.slice A n c)):(bytesOf bs).length=n/\Row w w A n 1 (jZ .u8 (bytesOf bs))/\(A=none->n=0/\c=0):=by
 have ho:=h.own
 have hn:(bytesOf bs).length=n:=by
  rcases ho.2 with ⟨hv,hx⟩|⟨g,y,cur,hv,_⟩
  ·injection hv with _ e _;exact hx.trans e.symm
  ·injection hv with _ e _;exact e.symm
 rw[hn]at ho;exact⟨hn,Row.of_own ho rfl (fun i j hi hj=>by have e0:j=0:=mw;subst e0;exact numL_get mw),(Em ho).1⟩
end Huff
namespace Huff
open Go.RowKit Mem Canon Own
open Toks (Tk Pc oZ Eu AW N3 CountPost)
def Ic(ts:List Tk)(w:World)(e:Ending)(w':World):Prop:=
 ∃v,e= .returned (.tuple #[v, .int .i64 (TW.Ih ts)])/\w'.ownsRow w 5 1 v (TW.GC ts).length (cZ .u8 (TW.GC ts))/\Below w w w'
theorem TR{B:Nat}(h:Blk w g 149 (ints .u32 l))(hg:g<B)(hl:Toks.Within b l)(hn:l.length=n):Row w B (some ⟨g,0,none⟩) n 1 (jZ .u32 (TW.Hr l)):=
 Row.of_blk h hg fun i j hi hj=>by
  obtain rfl:j=0:=mw
  rw[CM,Bf,KJ _ _ _ mw];unfold jZ;rw[TW.Mu,Int.toNat_of_nonneg (hl i).1]
theorem TI(hl:Toks.Within b l)(hb:b<4294967296):∀x∈TW.Hr l,x<4294967296:=by intro x hx;unfold TW.Hr at hx;obtain⟨y,hy,rfl⟩:=Ck.1 hx;obtain⟨i,hi,rfl⟩:=List.mem_iff_getElem.1 hy;have:=hl i;rw[Am,Az hi,Gb]at this;omega
theorem eC{ts:List Tk}(h:∀t∈ts,0<=t.lit/\t.lit<=255)(i:Toks.Dc ts=true):∀t∈ts,AW t.lit t.len t.dist=true/\(TW.lsS ts).getD (oZ t).sym.toNat 0≠0/\(t.len≠0->(TW.lsF ts).getD (oZ t).dist.toNat 0≠0):=by
 intro t ht;unfold Toks.Dc at i;have hm:=FJ.1 i t ht;obtain⟨S,D,L,F,j,hS,hD,_⟩:=Toks.Mm t (h t ht).1 (h t ht).2 hm;have e1:(oZ t).sym.toNat=S:=by rw[j];rfl
 have e2:(oZ t).dist.toNat=D:=by rw[j];rfl
 exact⟨hm,TW.Py ht mw,fun h0=>TW.Ps ht h0 mw⟩
theorem Wr.start4{K:Nat->Prop}(w:World)(base:Nat)(t:TypeId)(rest:List Value)(i:base<=w.heap.size)(hK:∀k,K k->k<w.heap.size):Wr K (w.alloc (.cells (List.toArray (.slice none 0 0 :: .int .i64 0 :: rest)) t)) base w t rest [] (.slice none 0 0):=by refine⟨Blk.made _ _ _,AI _ _ _ _,(fun h=>by cases h),oT,(fun h=>by have:=hK _ h;omega),(fun x h=>by cases h),fun k h=>by have:=hK k h;simp;omega⟩
theorem aW(w:World)(A:Option Addr)(n c:Nat)(ts:List Tk)(hn:ts.length=n)(hN:n<=32768)(i:∀t∈ts,0<=t.lit/\t.lit<=255)(ha:Row w w A n 3 (Toks.GL ts))(j:Toks.Dc ts=false):
 Calls prog 166 #[.slice A n c] w (Ic ts w):=by
 have hE:TW.Ih ts=7:=by unfold TW.Ih;rw[Aa mw,Aa (by rw[j];simp)]
 have hO:TW.GC ts= []:=by unfold TW.GC;rw[hE];rfl
 have C0:=N3 w A n c ts hn hN i ha;unfold Toks.CountPost at C0;have C0:=hid C0;have y:=hid j;unfold Ic;rw[hE,hO];clear hE hO hn i ha j;go_enter func166,ntmps166;go_wp2_with fail;refine C0.out.mono ?_;rintro e w1 ⟨z,h|⟨_,rfl⟩⟩
 ·have:=y.out;rw[h.1]at this;cases this
 ·go_wp2_with fail;go_ret2;exact⟨_,rfl,AI _ _ _ _,z⟩
set_option maxHeartbeats 2000000 in
theorem dD(w:World)(A:Option Addr)(n c:Nat)(ts:List Tk)(hn:ts.length=n)(hN:n<=16000)(U:∀t∈ts,0<=t.lit/\t.lit<=255)(ha:Row w w A n 3 (Toks.GL ts))(af:Toks.Dc ts=true):
 Calls prog 166 #[.slice A n c] w (Ic ts w):=by
 have hE:TW.Ih ts=0:=by unfold TW.Ih;rw[Aa mw,Ab af]
 have hO:TW.GC ts=bytesOf (TW.Fc ts):=by unfold TW.GC;rw[hE];rfl
 have C0:=N3 w A n c ts hn mw U ha;unfold Toks.CountPost at C0;have bt:=Toks.MF ts;have be:Toks.Within 32769 (Toks.symsOf ts):=(bt.1.bump 256).mono mw;have bC:Toks.Within 32769 (Toks.MG ts):=bt.2.mono mw;have cC:=hid be;have cG:=hid bC;have cz:(TW.ksS ts).length=265:=TW.GX ts;have cv:(TW.ksF ts).length=12:=TW.IQ ts;have a1:∀x∈TW.ksS ts,x<4294967296:=TI be mw;have a5:∀x∈TW.ksF ts,x<4294967296:=TI bC mw;have D1:=fun(K:Nat->Prop) wx g base rest v gs (h:Row wx wx (some ⟨gs,0,none⟩) 265 1 (jZ .u32 (TW.ksS ts))) hW=>Vj K wx g base 299 rest v [] (some ⟨gs,0,none⟩) 265 265 (TW.ksS ts) cz mw a1 h oK hW;have D2:=fun(K:Nat->Prop) wx g base rest v gs bs (hle:bs.length+10*12<=5000000) (h:Row wx wx (some ⟨gs,0,none⟩) 12 1 (jZ .u32 (TW.ksF ts))) hW=>Vj K wx g base 299 rest v bs (some ⟨gs,0,none⟩) 12 12 (TW.ksF ts) cv mw a5 h hle hW;have Q:=eC U af;have a4:=TW.Ua ts;have ak:=TW.O2 ts;have ag:=TW.OY ts;have bm:=TW.Rg (TW.lsS ts);have cx:=TW.Rg (TW.lsF ts);rw[TW.Qg]at bm;rw[TW.PY]at cx;have j:TW.Fc ts=DP (TW.lsS ts)++DP (TW.lsF ts)++(ts.flatMap (TW.BH (TW.lsS ts) (TW.lsF ts))++word (TW.lsS ts) 256):=rfl
 change ∀ (K:Nat->Prop) wx g base rest v gs,_->_->Calls _ _ _ _ (Nj K wx base g 299 rest ([]++DP (TW.lsS ts)) (TW.lsS ts))at D1
 change ∀ (K:Nat->Prop) wx g base rest v gs bs,_->_->_->Calls _ _ _ _ (Nj K wx base g 299 rest (bs++DP (TW.lsF ts)) (TW.lsF ts))at D2
 unfold Ic;rw[hE,hO,j];generalize TW.lsS ts=ls at *;generalize TW.lsF ts=lf at *;unfold Nj at D1 D2;simp only[List.nil_append]at D1;obtain⟨hd,aw⟩:=ii (DP ls++DP lf);rw[<-aw];have c8:hd.length<=2770:=by rw[aw,Ae];omega
 have D1:=hid D1;have D2:=hid D2;have C0:=hid C0;have HN:=hid hn;have an:=hid Q;have cd:=hid (show EU ls 256≠0 from Mp (s:=256) a4);have ba:=hid ak;have cq:=hid ag;have b0:=hid af;have b5:=hid U;have cH:=hid aw;have HA:=hid ha;have c3:=hid bm;have Y:=(ok_parts ak).2.1;have am:=(ok_parts ag).2.1;have cL:=hid (TW.OP (ts:=ts) Y am af);have bn:=fun k=>TW.OP (ts:=ts.take k) Y am;have bn:=hid bn;have c5:(word ls 256).length<=15:=by rw[Ep];exact TW.Li Y _
 clear hE hO hn U ha af bt be bC cz cv a1 a5 Q a4 ak ag cx j aw bm Y am;go_enter func166,ntmps166;go_wp2_with fail;refine C0.out.mono ?_;rintro e w1 ⟨ax,⟨_,gs,gf,rfl,ae,al,dd,c9⟩|⟨h,_⟩⟩
 ·have z1:=ax.size;have zs:=ae.lt;have zf:=al.lt;go_wp2_with fail;have bf:=Wr.start4 (K:=fun x=>x<w1.heap.size) w1 w 299 [.pointer none, .pointer none] z1 (fun k h=>h);have J:Below w1 w1 (w1.alloc (.cells #[(),ij, .pointer none, .pointer none] 299)):=aZ (Ag _ _);have z2:(w1.alloc (.cells #[(),ij, .pointer none, .pointer none] 299)).heap.size=w1.heap.size+1:=by simp
  change Wr (fun x=>x<w1.heap.size) (w1.alloc (.cells #[(),ij, .pointer none, .pointer none] 299)) _ _ _ _ _ _ at bf
  generalize w1.alloc (.cells #[(),ij, .pointer none, .pointer none] 299)=w2 at *;have b8:=TR (ae.step J) (B:=w2.heap.size) mw cC.out (TW.Mv _ ▸ TW.GX ts);have C1:=hid (D1.out (fun x=>x<w1.heap.size) w2 w1 w _ _ gs b8 bf);have cT:=hid ax;have ai:Hid (Blk w2 gf _ _):=al.step J;have b3:Hid (Below w w w2):=ax.trans (J.mono z1);generalize hg:w1.heap.size=g at *;clear hg bf b8 ae al J ax D1 C0 cT;refine C1.out.mono ?_;rintro e w3 ⟨gc,lo,v3,rfl,de,bu,y,Z⟩;have z3:=Z.size;have c4:=bu.lt;have d2:=y.blk.cell 2;have f2:=y.blk.frozen 2;simp at d2;have cp:=hid y;have cl:=hid bu;have ab:=hid Z;clear bu y Z C1;go_wp2_with fail;have bd:=cp.out.putRest 0 (.pointer (some ⟨gc,0,none⟩));have G:Kept (fun x=>x≠g) w3 (w3.setCell ⟨g,2,none⟩ (.pointer (some ⟨gc,0,none⟩))):=(Kept.refl _ _).set (fun h=>h rfl) _;have z4:=G.size;simp only[List.set_cons_zero,Nat.zero_add]at bd;generalize w3.setCell ⟨g,2,none⟩ (.pointer (some ⟨gc,0,none⟩))=w4 at *;have b1:Coder w4 lo w3 gc ls:=cl.out.keep (fun b h1 h2=>G.block b mw);have aj:Blk w4 gf _ _:=(G.block gf mw).trans ((ab.out.block gf mw).trans ai.out);have a6:Kept (fun x=>x<g) w2 w4:=ab.out.trans ⟨G.os,G.tape,G.output,G.size,fun b h=>G.block b mw⟩;have cc:=TR (aj) (B:=w4.heap.size) mw cG.out (TW.Mv _ ▸ TW.IQ ts);have C2:=hid (D2.out _ w4 g w _ v3 gf (DP ls) (by have:=c3.out;omega) cc bd);have cB:=hid b1;have a0:=hid a6;clear bd G b1 aj a6 cc cp cl ab d2 f2 D2 ai;refine C2.out.mono ?_;rintro e w5 ⟨gd,ay,v5,rfl,c7,bi,ar,bl⟩;have z5:=bl.size;have c6:=bi.lt;have d3:=ar.blk.cell 3;have f3:=ar.blk.frozen 3;simp at d3;have ca:=hid ar;have cg:=hid bi;have M:=hid bl;clear bi ar bl C2;go_wp2_with fail;have au:=ca.out.putRest 1 (.pointer (some ⟨gd,0,none⟩));have E:Kept (fun x=>x≠g) w5 (w5.setCell ⟨g,3,none⟩ (.pointer (some ⟨gd,0,none⟩))):=(Kept.refl _ _).set (fun h=>h rfl) _;have z6:=E.size;simp only[List.set_cons_succ,List.set_cons_zero,Nat.reduceAdd]at au;generalize w5.setCell ⟨g,3,none⟩ (.pointer (some ⟨gd,0,none⟩))=w6 at *;have b6:Coder w6 lo w3 gc ls:=(cB.out.keep (fun b h1 h2=>M.out.block b (.inr ⟨h1,h2⟩))).keep (fun b h1 h2=>E.block b mw);have bN:Coder w6 ay w5 gd lf:=cg.out.keep (fun b h1 h2=>E.block b mw);have az:Kept (fun x=>x<g) w2 w6:=a0.out.trans (Kept.trans ⟨M.out.os,M.out.tape,M.out.output,M.out.size,fun b h=>M.out.block b (.inl h)⟩ ⟨E.os,E.tape,E.output,E.size,fun b h=>E.block b mw⟩);have b4:Hid (Below w w w6):=b3.out.trans (az.below (fun b h=>by omega));obtain⟨K2,ac⟩:∃K2:Nat->Prop,K2=fun x=>(x<g∨lo<=x/\x<w3.heap.size)∨ay<=x/\x<w5.heap.size:=⟨_,rfl⟩;rw[<-ac]at au;have cy:∀x,x<w.heap.size->K2 x:=fun x h=>by rw[ac];exact .inl (.inl mw)
  have cw:∀x,lo<=x->x<w3.heap.size->K2 x:=fun x h h'=>by rw[ac];exact .inl (.inr ⟨h,h'⟩)
  have cA:∀x,ay<=x->x<w5.heap.size->K2 x:=fun x h h'=>by rw[ac];exact .inr ⟨h,h'⟩
  have co:=hid cy;have ah:=hid cw;have bx:=hid cA;have cf:=hid b6;have cX:=hid bN;have bh:=hid au;generalize w3.heap.size=B1 at *;generalize w5.heap.size=B2 at *;clear ac cy cw cA b6 bN au az E cB cg a0 M ca b3 d3 f3;rw[cH.out.symm]at bh;go_wp2_with fail;go_loopw [38] (fun i wr=>∃ (k:Nat) (v:Value),k<=n/\i= .int .i64 k/\Hid (Wr K2 wr w g 299 [.pointer (some ⟨gc,0,none⟩), .pointer (some ⟨gd,0,none⟩)] (hd++(ts.take k).flatMap (TW.BH ls lf)) v)/\Hid (Kept K2 w6 wr)) (fun i _=>n-(intOf i).toNat)
  case atStart=>exact⟨0,v5,mw,rfl,by simpa using bh,Kept.refl _ _⟩
  case round=>
   clear bh;obtain⟨k,v6,hk,rfl,HW,HK⟩:=hrel;have dc:=HK.out.size;by_cases av:k<n
   ·obtain⟨ob,bq,rfl,cm,z⟩:=HA.out mw;have aq:k<ts.length:=(by rw[HN.out];exact av);have bg:=Fe aq;have N:(World.heap wr)[ob]? =w.heap[ob]? :=(HK.out.block ob (co.out ob cm)).trans (b4.out.block ob cm);have e0:=z k 0 av mw;have e1:=z k 1 av mw;have e2:=z k 2 av mw;simp only[Toks.GL,List.getD_eq_getElem?_getD,List.getElem?_eq_getElem aq,Option.getD_some,Nat.add_zero,<-Nat.add_assoc]at e0 e1 e2;have c0:=(World.cell?_of_block (a:=⟨ob,bq+k*3,none⟩) N).trans e0;have c1:=(World.cell?_of_block (a:=⟨ob,bq+k*3+1,none⟩) N).trans e1;have c2:=(World.cell?_of_block (a:=⟨ob,bq+k*3+2,none⟩) N).trans e2;have a9:Toks.Dc (ts.take k)=true:=(by have h:=b0.out;unfold Toks.Dc at h ⊢;rw[FJ]at h ⊢;exact fun t ht=>h t (CV ht));have a3:=bn.out k a9;rw[AZ]at a3;have b7:=TW.jM (ls:=ls) (lf:=lf) aq;obtain⟨hm,cr,cj⟩:=an.out _ bg;have ce:=b5.out _ bg;have C3:=fun wx (h:Below wr wr wx)=>eJ K2 wx g w gc gd lo B1 ay B2 ls lf (hd++(ts.take k).flatMap (TW.BH ls lf)) v6 ts[k] ce hm ba.out ((cf.out.kept HK.out ah.out).keep (fun b h1 h2=>h.block b (HW.out.kK b (ah.out b h1 h2)))) ah.out cq.out ((cX.out.kept HK.out bx.out).keep (fun b h1 h2=>h.block b (HW.out.kK b (bx.out b h1 h2)))) bx.out cr cj mW (HW.out.step h);rw[AE,<-b7]at C3;generalize ts[k]=tk at *;obtain⟨t1,t2,t3⟩:=tk;simp only[Toks.Tk.val_mk]at C3 c0 c1 c2;unfold Uz at C3;have C3:=hid C3;have cE:=hid HW.out.kK;have x0:(0:Int)<=(k:Int):=mw;have x1:(k:Int)<(n:Int):=mw;clear z aq bg N e0 e1 e2 a9 a3 b7 hm cr cj ce HW;go_wp2_with fail;refine(C3.out _ (aZ (Ag _ _))).mono ?_;rintro e w7 ⟨rfl,v7,cu,ci⟩;have cS:=hid cu;have cP:Hid (Kept K2 w6 w7):=(HK.out.alloc cE.out _).trans ci;clear cu ci C3 c0 c1 c2;go_wp2_with fail;go_roundw
    case measure=>exact jo
    case rel=>go_light;exact⟨k+1,v7,mw,jp,cS.out,cP.out⟩
   ·obtain rfl:k=n:=by omega
    have b9:ts.take k=ts:=BQ nm;rw[b9]at HW;have bS:=cL.out;rw[HN.out]at bS;have C2:=hid (Ng K2 wr.drew lo B1 gc ls g w 299 [.pointer (some ⟨gc,0,none⟩), .pointer (some ⟨gd,0,none⟩)] v6 (hd++ts.flatMap (TW.BH ls lf)) 256 mw ba.out (cf.out.kept HK.out ah.out).drew ah.out cd.out mW HW.out.drew)
    change Hid (Calls _ _ _ _ (fun e w'=>_/\∃v',Wr K2 w' _ g _ _ (hd++ts.flatMap (TW.BH ls lf)++word ls 256) v'/\_))at C2
    rw[AE]at C2;have N:(bytesOf (hd++(ts.flatMap (TW.BH ls lf)++word ls 256))).length<=100000:=(by rw[bytesOf_length,Ae,Ae];omega);obtain⟨L,j⟩:=ii (hd++(ts.flatMap (TW.BH ls lf)++word ls 256));rw[<-j]at C2 N;have bb:=hid j;clear j;have d0:=HW.out.blk.cell 2;simp at d0;clear b9 bS HW;go_upto_region 14 with fail;go_region_held3 (fun wx=>wx.cell? ⟨g,2,none⟩=some (.pointer (some ⟨gc,0,none⟩))) (first|exact d0|exact k0) (first|(go_at_call 227;(with_reducible refine C2.out.mono ?_);rintro e w' ⟨rfl,v2,y,Z⟩;have k0:w'.cell? ⟨g,2,none⟩=some (.pointer (some ⟨gc,0,none⟩)):=y.blk.cell 2));obtain⟨A2,c2,rfl⟩:=bZ y.own;obtain⟨bp,ct,aa⟩:=y.rowOf;have bc:=y.blk.ia 0;have bj:Kept K2 w6 w':=HK.out.trans ((Kept.refl _ _).drew.trans Z);have zk:=bj.size;have C4:=hid (U9 w' g A2 _ c2 (bytesOf L) bp mw aa bc ct);have ab:=hid bj;have da:=hid bp;clear y Z bj bp ct aa bc N C2;go_wp2_with fail;refine C4.out.mono ?_;rintro e w8 ⟨v8,rfl,bk,cF⟩;go_wp2_with fail;go_ret2;refine⟨v8,rfl,?_,?_⟩
    ·rw[<-bb.out];have bk:w8.ownsRow w' 5 1 v8 (bytesOf L).length (cZ .u8 (bytesOf L)):=bk;exact kZ bk mw
    ·exact b4.out.trans ((ab.out.below co.out).trans (cF.mono mw))
 ·have:=b0.out;rw[h]at this;cases this
theorem UW(w:World)(A:Option Addr)(n c:Nat)(ts:List Tk)(hn:ts.length=n)(hN:n<=16000)(h:∀t∈ts,0<=t.lit/\t.lit<=255)(ha:Row w w A n 3 (Toks.GL ts)):
 Calls prog 166 #[.slice A n c] w (Ic ts w):=by
 cases hok:Toks.Dc ts
 ·exact aW w A n c ts hn mw h ha hok
 ·exact dD w A n c ts hn hN h ha hok
end Huff
end Go.Proofs.YtfgdoknipbpfhaaGreatDoor
