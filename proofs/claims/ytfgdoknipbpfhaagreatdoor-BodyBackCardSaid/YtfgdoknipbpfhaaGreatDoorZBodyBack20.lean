/- The walk of bits' Wr -/
import Derived.Test.YtfgdoknipbpfhaaGreatDoorZBodyBack19
import Derived.Test.YtfgdoknipbpfhaaGreatDoorZBodyBack13
namespace Go.Proofs.YtfgdoknipbpfhaaGreatDoor
open Go.Proofs.Tryz
open Go.Lib (hid)
set_option maxRecDepth 100000
variable{w:World}{g n:Nat}{l:List Int}{b:Int}
namespace Huff
open Go.RowKit Mem Canon
theorem TD(w:World)(g:Nat)(A:Option Addr)(n c:Nat)(ls:List Nat)(hn:ls.length=n)(i:n<=100000)(h:A=none->n=0/\c=0)
 (hg:w.cell? ⟨g,0,none⟩=some (.slice A n c))(ha:Row w w A n 1 (jZ .u8 ls)):
 Calls prog 177 #[.pointer (some ⟨g,0,none⟩)] w fun e w'=>∃v,e= .returned v/\w'.ownsRow w 5 1 v n (cZ .u8 ls)/\Below w w w':=by
 have C:=hid (Ic w A n c ls hn i h ha);clear hn i h ha;go_enter func177,ntmps177;go_wp2_with fail;refine C.out.mono ?_;rintro e w1 ⟨v,rfl,hv,hb⟩;go_wp2_with fail;go_ret;exact⟨_,rfl,hv,hb⟩
end Huff
namespace Huff
open Go.RowKit Mem Canon Own
theorem Wr.rowOf{K:Nat->Prop}{base c:Nat}{t:TypeId}{rest:List Value}{bs:List Bool}{A:Option Addr}(h:Wr K w base g t rest bs (.slice A n c)):(bytesOf bs).length=n/\Row w w A n 1 (jZ .u8 (bytesOf bs))/\(A=none->n=0/\c=0):=by
 have ho:=h.own
 have hn:(bytesOf bs).length=n:=by
  rcases ho.2 with ⟨hv,hx⟩|⟨g,y,cur,hv,_⟩
  ·injection hv with _ e _;exact hx.trans e.symm
  ·injection hv with _ e _;exact e.symm
 rw[hn]at ho;exact⟨hn,Row.of_own ho rfl (fun i j hi hj=>by have e0:j=0:=nj;subst e0;exact numL_get nj),(EA ho).1⟩
end Huff
namespace Huff
open Go.RowKit Mem Canon Own
open Toks (Tk Pc qZ EJ Bb OD CountPost)
def Ib(ts:List Tk)(w:World)(e:Ending)(w':World):Prop:=
 ∃v,e= .returned (.tuple #[v, .int .i64 (TW.Ie ts)])/\w'.ownsRow w 5 1 v (TW.G4 ts).length (cZ .u8 (TW.G4 ts))/\Below w w w'
theorem Uz{B:Nat}(h:Blk w g 149 (ints .u32 l))(hg:g<B)(hl:Toks.Within b l)(hn:l.length=n):Row w B (some ⟨g,0,none⟩) n 1 (jZ .u32 (TW.Ix l)):=
 Row.of_blk h hg fun i j hi hj=>by
  obtain rfl:j=0:=nj
  rw[CO,Bi,Ln _ _ _ nj];unfold jZ;rw[TW.MH,Int.toNat_of_nonneg (hl i).1]
theorem Um(hl:Toks.Within b l)(hb:b<4294967296):∀x∈TW.Ix l,x<4294967296:=by intro x hx;unfold TW.Ix at hx;obtain⟨y,hy,rfl⟩:=Co.1 hx;obtain⟨i,hi,rfl⟩:=List.mem_iff_getElem.1 hy;have:=hl i;rw[Am,Aw hi,Gc]at this;omega
theorem Xy{ts:List Tk}(h:∀t∈ts,0<=t.lit/\t.lit<=255)(j:Toks.Dm ts=true):∀t∈ts,Bb t.lit t.len t.dist=true/\(TW.lsS ts).getD (qZ t).sym.toNat 0≠0/\(t.len≠0->(TW.lsF ts).getD (qZ t).dist.toNat 0≠0):=by
 intro t ht;unfold Toks.Dm at j;have hm:=Gh.1 j t ht;obtain⟨S,D,L,F,i,hS,hD,_⟩:=Toks.L6 t (h t ht).1 (h t ht).2 hm;have e1:(qZ t).sym.toNat=S:=by rw[i];rfl
 have e2:(qZ t).dist.toNat=D:=by rw[i];rfl
 exact⟨hm,TW.Pd ht nj,fun h0=>TW.O6 ht h0 nj⟩
theorem Wr.start4{K:Nat->Prop}(w:World)(base:Nat)(t:TypeId)(rest:List Value)(i:base<=w.heap.size)(hK:∀k,K k->k<w.heap.size):Wr K (w.alloc (.cells (List.toArray (.slice none 0 0 :: .int .i64 0 :: rest)) t)) base w t rest [] (.slice none 0 0):=by refine⟨Blk.made _ _ _,AE _ _ _ _,(fun h=>by cases h),rg,(fun h=>by have:=hK _ h;omega),(fun x h=>by cases h),fun k h=>by have:=hK k h;simp;omega⟩
theorem Yo(w:World)(A:Option Addr)(n c:Nat)(ts:List Tk)(hn:ts.length=n)(hN:n<=32768)(i:∀t∈ts,0<=t.lit/\t.lit<=255)(ha:Row w w A n 3 (Toks.G2 ts))(j:Toks.Dm ts=false):
 Calls prog 166 #[.slice A n c] w (Ib ts w):=by
 have hE:TW.Ie ts=7:=by unfold TW.Ie;rw[Aa nj,Aa (by rw[j];simp)]
 have hO:TW.G4 ts= []:=by unfold TW.G4;rw[hE];rfl
 have C0:=OD w A n c ts hn hN i ha;unfold Toks.CountPost at C0;have C0:=hid C0;have z:=hid j;unfold Ib;rw[hE,hO];clear hE hO hn i ha j;go_enter func166,ntmps166;go_wp2_with fail;refine C0.out.mono ?_;rintro e w1 ⟨y,h|⟨_,rfl⟩⟩
 ·have:=z.out;rw[h.1]at this;cases this
 ·go_wp2_with fail;go_ret2;exact⟨_,rfl,AE _ _ _ _,y⟩
set_option maxHeartbeats 2000000 in
theorem Xb(w:World)(A:Option Addr)(n c:Nat)(ts:List Tk)(hn:ts.length=n)(hN:n<=16000)(Q:∀t∈ts,0<=t.lit/\t.lit<=255)(ha:Row w w A n 3 (Toks.G2 ts))(aj:Toks.Dm ts=true):
 Calls prog 166 #[.slice A n c] w (Ib ts w):=by
 have hE:TW.Ie ts=0:=by unfold TW.Ie;rw[Aa nj,Ab aj]
 have hO:TW.G4 ts=bytesOf (TW.Fw ts):=by unfold TW.G4;rw[hE];rfl
 have C0:=OD w A n c ts hn nj Q ha;unfold Toks.CountPost at C0;have bk:=Toks.Nw ts;have bb:Toks.Within 32769 (Toks.symsOf ts):=(bk.1.bump 256).mono nj;have bp:Toks.Within 32769 (Toks.Mn ts):=bk.2.mono nj;have c3:=hid bb;have cX:=hid bp;have ca:(TW.ksS ts).length=265:=TW.Hd ts;have cq:(TW.ksF ts).length=12:=TW.IV ts;have a4:∀x∈TW.ksS ts,x<4294967296:=Um bb nj;have a9:∀x∈TW.ksF ts,x<4294967296:=Um bp nj;have D1:=fun(K:Nat->Prop) wx g base rest v gs (h:Row wx wx (some ⟨gs,0,none⟩) 265 1 (jZ .u32 (TW.ksS ts))) hW=>TQ K wx g base 299 rest v [] (some ⟨gs,0,none⟩) 265 265 (TW.ksS ts) ca nj a4 h qT hW;have D2:=fun(K:Nat->Prop) wx g base rest v gs bs (hle:bs.length+10*12<=5000000) (h:Row wx wx (some ⟨gs,0,none⟩) 12 1 (jZ .u32 (TW.ksF ts))) hW=>TQ K wx g base 299 rest v bs (some ⟨gs,0,none⟩) 12 12 (TW.ksF ts) cq nj a9 h hle hW;have U:=Xy Q aj;have ba:=TW.UL ts;have ag:=TW.QI ts;have ae:=TW.QE ts;have bn:=TW.QN (TW.lsS ts);have cx:=TW.QN (TW.lsF ts);rw[TW.Uu]at bn;rw[TW.Uh]at cx;have j:TW.Fw ts=Ev (TW.lsS ts)++Ev (TW.lsF ts)++(ts.flatMap (TW.BS (TW.lsS ts) (TW.lsF ts))++word (TW.lsS ts) 256):=rfl
 change ∀ (K:Nat->Prop) wx g base rest v gs,_->_->Calls _ _ _ _ (MV K wx base g 299 rest ([]++Ev (TW.lsS ts)) (TW.lsS ts))at D1
 change ∀ (K:Nat->Prop) wx g base rest v gs bs,_->_->_->Calls _ _ _ _ (MV K wx base g 299 rest (bs++Ev (TW.lsF ts)) (TW.lsF ts))at D2
 unfold Ib;rw[hE,hO,j];generalize TW.lsS ts=ls at *;generalize TW.lsF ts=lf at *;unfold MV at D1 D2;simp only[List.nil_append]at D1;obtain⟨hd,aq⟩:=ii (Ev ls++Ev lf);rw[<-aq];have df:hd.length<=2770:=by rw[aq,Ag];omega
 have D1:=hid D1;have D2:=hid D2;have C0:=hid C0;have HN:=hid hn;have au:=hid U;have cr:=hid (show Fl ls 256≠0 from MC (s:=256) ba);have a1:=hid ag;have ci:=hid ae;have cg:=hid aj;have co:=hid Q;have c4:=hid aq;have HA:=hid ha;have cS:=hid bn;have Y:=(ok_parts ag).2.1;have am:=(ok_parts ae).2.1;have cE:=hid (TW.Pz (ts:=ts) Y am aj);have bt:=fun k=>TW.Pz (ts:=ts.take k) Y am;have bt:=hid bt;have c5:(word ls 256).length<=15:=by rw[ET];exact TW.LM Y _
 clear hE hO hn Q ha aj bk bb bp ca cq a4 a9 U ba ag ae cx j aq bn Y am;go_enter func166,ntmps166;go_wp2_with fail;refine C0.out.mono ?_;rintro e w1 ⟨ax,⟨_,gs,gf,rfl,ac,af,c9,dc⟩|⟨h,_⟩⟩
 ·have z1:=ax.size;have zs:=ac.lt;have zf:=af.lt;go_wp2_with fail;have bj:=Wr.start4 (K:=fun x=>x<w1.heap.size) w1 w 299 [.pointer none, .pointer none] z1 (fun k h=>h);have z:Below w1 w1 (w1.alloc (.cells #[(),ij, .pointer none, .pointer none] 299)):=aZ (Ae _ _);have z2:(w1.alloc (.cells #[(),ij, .pointer none, .pointer none] 299)).heap.size=w1.heap.size+1:=by simp
  change Wr (fun x=>x<w1.heap.size) (w1.alloc (.cells #[(),ij, .pointer none, .pointer none] 299)) _ _ _ _ _ _ at bj
  generalize w1.alloc (.cells #[(),ij, .pointer none, .pointer none] 299)=w2 at *;have cA:=Uz (ac.step z) (B:=w2.heap.size) nj c3.out (TW.Nm _ ▸ TW.Hd ts);have C1:=hid (D1.out (fun x=>x<w1.heap.size) w2 w1 w _ _ gs cA bj);have cT:=hid ax;have ah:Hid (Blk w2 gf _ _):=af.step z;have b4:Hid (Below w w w2):=ax.trans (z.mono z1);generalize hg:w1.heap.size=g at *;clear hg bj cA ac af z ax D1 C0 cT;refine C1.out.mono ?_;rintro e w3 ⟨gc,lo,v3,rfl,de,bu,y,Z⟩;have z3:=Z.size;have c7:=bu.lt;have d2:=y.blk.cell 2;have f2:=y.blk.frozen 2;simp at d2;have cz:=hid y;have cd:=hid bu;have al:=hid Z;clear bu y Z C1;go_wp2_with fail;have bC:=cz.out.putRest 0 (.pointer (some ⟨gc,0,none⟩));have J:Kept (fun x=>x≠g) w3 (w3.setCell ⟨g,2,none⟩ (.pointer (some ⟨gc,0,none⟩))):=(Kept.refl _ _).set (fun h=>h rfl) _;have z4:=J.size;simp only[List.set_cons_zero,Nat.zero_add]at bC;generalize w3.setCell ⟨g,2,none⟩ (.pointer (some ⟨gc,0,none⟩))=w4 at *;have cy:Coder w4 lo w3 gc ls:=cd.out.keep (fun b h1 h2=>J.block b nj);have aa:Blk w4 gf _ _:=(J.block gf nj).trans ((al.out.block gf nj).trans ah.out);have a5:Kept (fun x=>x<g) w2 w4:=al.out.trans ⟨J.os,J.tape,J.output,J.size,fun b h=>J.block b nj⟩;have cB:=Uz (aa) (B:=w4.heap.size) nj cX.out (TW.Nm _ ▸ TW.IV ts);have C2:=hid (D2.out _ w4 g w _ v3 gf (Ev ls) (by have:=cS.out;omega) cB bC);have cc:=hid cy;have a6:=hid a5;clear bC J cy aa a5 cB cz cd al d2 f2 D2 ah;refine C2.out.mono ?_;rintro e w5 ⟨gd,ar,v5,rfl,c8,bh,an,bf⟩;have z5:=bf.size;have c6:=bh.lt;have d3:=an.blk.cell 3;have f3:=an.blk.frozen 3;simp at d3;have cv:=hid an;have ce:=hid bh;have M:=hid bf;clear bh an bf C2;go_wp2_with fail;have av:=cv.out.putRest 1 (.pointer (some ⟨gd,0,none⟩));have G:Kept (fun x=>x≠g) w5 (w5.setCell ⟨g,3,none⟩ (.pointer (some ⟨gd,0,none⟩))):=(Kept.refl _ _).set (fun h=>h rfl) _;have z6:=G.size;simp only[List.set_cons_succ,List.set_cons_zero,Nat.reduceAdd]at av;generalize w5.setCell ⟨g,3,none⟩ (.pointer (some ⟨gd,0,none⟩))=w6 at *;have b6:Coder w6 lo w3 gc ls:=(cc.out.keep (fun b h1 h2=>M.out.block b (.inr ⟨h1,h2⟩))).keep (fun b h1 h2=>G.block b nj);have b3:Coder w6 ar w5 gd lf:=ce.out.keep (fun b h1 h2=>G.block b nj);have a3:Kept (fun x=>x<g) w2 w6:=a6.out.trans (Kept.trans ⟨M.out.os,M.out.tape,M.out.output,M.out.size,fun b h=>M.out.block b (.inl h)⟩ ⟨G.os,G.tape,G.output,G.size,fun b h=>G.block b nj⟩);have cp:Hid (Below w w w6):=b4.out.trans (a3.below (fun b h=>by omega));obtain⟨K2,ak⟩:∃K2:Nat->Prop,K2=fun x=>(x<g∨lo<=x/\x<w3.heap.size)∨ar<=x/\x<w5.heap.size:=⟨_,rfl⟩;rw[<-ak]at av;have bS:∀x,x<w.heap.size->K2 x:=fun x h=>by rw[ak];exact .inl (.inl nj)
  have cj:∀x,lo<=x->x<w3.heap.size->K2 x:=fun x h h'=>by rw[ak];exact .inl (.inr ⟨h,h'⟩)
  have b1:∀x,ar<=x->x<w5.heap.size->K2 x:=fun x h h'=>by rw[ak];exact .inr ⟨h,h'⟩
  have b0:=hid bS;have ab:=hid cj;have bl:=hid b1;have ct:=hid b6;have cH:=hid b3;have be:=hid av;generalize w3.heap.size=B1 at *;generalize w5.heap.size=B2 at *;clear ak bS cj b1 b6 b3 av a3 G cc ce a6 M cv b4 d3 f3;rw[c4.out.symm]at be;go_wp2_with fail;go_loopw [38] (fun i wr=>∃ (k:Nat) (v:Value),k<=n/\i= .int .i64 k/\Hid (Wr K2 wr w g 299 [.pointer (some ⟨gc,0,none⟩), .pointer (some ⟨gd,0,none⟩)] (hd++(ts.take k).flatMap (TW.BS ls lf)) v)/\Hid (Kept K2 w6 wr)) (fun i _=>n-(intOf i).toNat)
  case atStart=>exact⟨0,v5,nj,rfl,by simpa using be,Kept.refl _ _⟩
  case round=>
   clear be;obtain⟨k,v6,hk,rfl,HW,HK⟩:=hrel;have da:=HK.out.size;by_cases ay:k<n
   ·obtain⟨ob,bN,rfl,cw,E⟩:=HA.out nj;have aw:k<ts.length:=(by rw[HN.out];exact ay);have bd:=FC aw;have N:(World.heap wr)[ob]? =w.heap[ob]? :=(HK.out.block ob (b0.out ob cw)).trans (cp.out.block ob cw);have e0:=E k 0 ay nj;have e1:=E k 1 ay nj;have e2:=E k 2 ay nj;simp only[Toks.G2,List.getD_eq_getElem?_getD,List.getElem?_eq_getElem aw,Option.getD_some,Nat.add_zero,<-Nat.add_assoc]at e0 e1 e2;have c0:=(World.cell?_of_block (a:=⟨ob,bN+k*3,none⟩) N).trans e0;have c1:=(World.cell?_of_block (a:=⟨ob,bN+k*3+1,none⟩) N).trans e1;have c2:=(World.cell?_of_block (a:=⟨ob,bN+k*3+2,none⟩) N).trans e2;have a0:Toks.Dm (ts.take k)=true:=(by have h:=cg.out;unfold Toks.Dm at h ⊢;rw[Gh]at h ⊢;exact fun t ht=>h t (Dc ht));have az:=bt.out k a0;rw[Ba]at az;have b9:=TW.Zg (ls:=ls) (lf:=lf) aw;obtain⟨hm,cu,cl⟩:=au.out _ bd;have b7:=co.out _ bd;have C3:=fun wx (h:Below wr wr wx)=>Zk K2 wx g w gc gd lo B1 ar B2 ls lf (hd++(ts.take k).flatMap (TW.BS ls lf)) v6 ts[k] b7 hm a1.out ((ct.out.kept HK.out ab.out).keep (fun b h1 h2=>h.block b (HW.out.kK b (ab.out b h1 h2)))) ab.out ci.out ((cH.out.kept HK.out bl.out).keep (fun b h1 h2=>h.block b (HW.out.kK b (bl.out b h1 h2)))) bl.out cu cl pd (HW.out.step h);rw[AI,<-b9]at C3;generalize ts[k]=tk at *;obtain⟨t1,t2,t3⟩:=tk;simp only[Toks.Tk.val_mk]at C3 c0 c1 c2;unfold So at C3;have C3:=hid C3;have cP:=hid HW.out.kK;have x0:(0:Int)<=(k:Int):=nj;have x1:(k:Int)<(n:Int):=nj;clear E aw bd N e0 e1 e2 a0 az b9 hm cu cl b7 HW;go_wp2_with fail;refine(C3.out _ (aZ (Ae _ _))).mono ?_;rintro e w7 ⟨rfl,v7,cm,b8⟩;have cF:=hid cm;have cG:Hid (Kept K2 w6 w7):=(HK.out.alloc cP.out _).trans b8;clear cm b8 C3 c0 c1 c2;go_wp2_with fail;go_roundw
    case measure=>exact jq
    case rel=>go_light;exact⟨k+1,v7,nj,jr,cF.out,cG.out⟩
   ·obtain rfl:k=n:=by omega
    have b5:ts.take k=ts:=Bw pu;rw[b5]at HW;have cC:=cE.out;rw[HN.out]at cC;have C2:=hid (NV K2 wr.drew lo B1 gc ls g w 299 [.pointer (some ⟨gc,0,none⟩), .pointer (some ⟨gd,0,none⟩)] v6 (hd++ts.flatMap (TW.BS ls lf)) 256 nj a1.out (ct.out.kept HK.out ab.out).drew ab.out cr.out pd HW.out.drew)
    change Hid (Calls _ _ _ _ (fun e w'=>_/\∃v',Wr K2 w' _ g _ _ (hd++ts.flatMap (TW.BS ls lf)++word ls 256) v'/\_))at C2
    rw[AI]at C2;have N:(bytesOf (hd++(ts.flatMap (TW.BS ls lf)++word ls 256))).length<=100000:=(by rw[bytesOf_length,Ag,Ag];omega);obtain⟨L,j⟩:=ii (hd++(ts.flatMap (TW.BS ls lf)++word ls 256));rw[<-j]at C2 N;have bg:=hid j;clear j;have d0:=HW.out.blk.cell 2;simp at d0;clear b5 cC HW;go_upto_region 14 with fail;go_region_held3 (fun wx=>wx.cell? ⟨g,2,none⟩=some (.pointer (some ⟨gc,0,none⟩))) (first|exact d0|exact k0) (first|(go_at_call 227;(with_reducible refine C2.out.mono ?_);rintro e w' ⟨rfl,v2,y,Z⟩;have k0:w'.cell? ⟨g,2,none⟩=some (.pointer (some ⟨gc,0,none⟩)):=y.blk.cell 2));obtain⟨A2,c2,rfl⟩:=bZ y.own;obtain⟨bi,cf,ai⟩:=y.rowOf;have bc:=y.blk.ia 0;have bq:Kept K2 w6 w':=HK.out.trans ((Kept.refl _ _).drew.trans Z);have zk:=bq.size;have C4:=hid (TD w' g A2 _ c2 (bytesOf L) bi nj ai bc cf);have al:=hid bq;have dd:=hid bi;clear y Z bq bi cf ai bc N C2;go_wp2_with fail;refine C4.out.mono ?_;rintro e w8 ⟨v8,rfl,bm,cL⟩;go_wp2_with fail;go_ret2;refine⟨v8,rfl,?_,?_⟩
    ·rw[<-bg.out];have bm:w8.ownsRow w' 5 1 v8 (bytesOf L).length (cZ .u8 (bytesOf L)):=bm;exact lZ bm nj
    ·exact cp.out.trans ((al.out.below b0.out).trans (cL.mono nj))
 ·have:=cg.out;rw[h]at this;cases this
theorem Tu(w:World)(A:Option Addr)(n c:Nat)(ts:List Tk)(hn:ts.length=n)(hN:n<=16000)(h:∀t∈ts,0<=t.lit/\t.lit<=255)(ha:Row w w A n 3 (Toks.G2 ts)):
 Calls prog 166 #[.slice A n c] w (Ib ts w):=by
 cases hok:Toks.Dm ts
 ·exact Yo w A n c ts hn nj h ha hok
 ·exact Xb w A n c ts hn hN h ha hok
end Huff
end Go.Proofs.YtfgdoknipbpfhaaGreatDoor
