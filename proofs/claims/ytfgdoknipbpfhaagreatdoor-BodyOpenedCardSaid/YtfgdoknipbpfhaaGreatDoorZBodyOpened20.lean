/- The walk of bits' Wr -/
import Derived.Test.YtfgdoknipbpfhaaGreatDoorZBodyOpened19
import Derived.Test.YtfgdoknipbpfhaaGreatDoorZBodyOpened13
namespace Go.Proofs.YtfgdoknipbpfhaaGreatDoor
open Go.Proofs.Tryz
open Go.Lib (hid)
set_option maxRecDepth 100000
variable{w:World}{g n:Nat}{l:List Int}{b:Int}
namespace Huff
open Go.RowKit Mem Canon
theorem Tw(w:World)(g:Nat)(A:Option Addr)(n c:Nat)(ls:List Nat)(hn:ls.length=n)(i:n<=100000)(h:A=none->n=0/\c=0)
 (hg:w.cell? ⟨g,0,none⟩=some (.slice A n c))(ha:Row w w A n 1 (jZ .u8 ls)):
 Calls prog 177 #[.pointer (some ⟨g,0,none⟩)] w fun e w'=>∃v,e= .returned v/\w'.ownsRow w 5 1 v n (cZ .u8 ls)/\Below w w w':=by
 have C:=hid (If w A n c ls hn i h ha);clear hn i h ha;go_enter func177,ntmps177;go_wp2_with fail;refine C.out.mono ?_;rintro e w1 ⟨v,rfl,hv,hb⟩;go_wp2_with fail;go_ret;exact⟨_,rfl,hv,hb⟩
end Huff
namespace Huff
open Go.RowKit Mem Canon Own
theorem Wr.rowOf{K:Nat->Prop}{base c:Nat}{t:TypeId}{rest:List Value}{bs:List Bool}{A:Option Addr}(h:Wr K w base g t rest bs (.slice A n c)):(bytesOf bs).length=n/\Row w w A n 1 (jZ .u8 (bytesOf bs))/\(A=none->n=0/\c=0):=by
 have ho:=h.own
 have hn:(bytesOf bs).length=n:=by
  rcases ho.2 with ⟨hv,hx⟩|⟨g,y,cur,hv,_⟩
  ·injection hv with _ e _;exact hx.trans e.symm
  ·injection hv with _ e _;exact e.symm
 rw[hn]at ho;exact⟨hn,Row.of_own ho rfl (fun i j hi hj=>by have e0:j=0:=mz;subst e0;exact numL_get mz),(Ex ho).1⟩
end Huff
namespace Huff
open Go.RowKit Mem Canon Own
open Toks (Tk Pc oZ ED A0 NP CountPost)
def Ij(ts:List Tk)(w:World)(e:Ending)(w':World):Prop:=
 ∃v,e= .returned (.tuple #[v, .int .i64 (TW.Io ts)])/\w'.ownsRow w 5 1 v (TW.GY ts).length (cZ .u8 (TW.GY ts))/\Below w w w'
theorem VP{B:Nat}(h:Blk w g 149 (ints .u32 l))(hg:g<B)(hl:Toks.Within b l)(hn:l.length=n):Row w B (some ⟨g,0,none⟩) n 1 (jZ .u32 (TW.Ib l)):=
 Row.of_blk h hg fun i j hi hj=>by
  obtain rfl:j=0:=mz
  rw[CG,Bj,KA _ _ _ mz];unfold jZ;rw[TW.Mk,Int.toNat_of_nonneg (hl i).1]
theorem VD(hl:Toks.Within b l)(hb:b<4294967296):∀x∈TW.Ib l,x<4294967296:=by intro x hx;unfold TW.Ib at hx;obtain⟨y,hy,rfl⟩:=Cc.1 hx;obtain⟨i,hi,rfl⟩:=List.mem_iff_getElem.1 hy;have:=hl i;rw[Ar,AD hi,FU]at this;omega
theorem eW{ts:List Tk}(h:∀t∈ts,0<=t.lit/\t.lit<=255)(i:Toks.Dk ts=true):∀t∈ts,A0 t.lit t.len t.dist=true/\(TW.lsS ts).getD (oZ t).sym.toNat 0≠0/\(t.len≠0->(TW.lsF ts).getD (oZ t).dist.toNat 0≠0):=by
 intro t ht;unfold Toks.Dk at i;have hm:=FW.1 i t ht;obtain⟨S,D,L,F,j,hS,hD,_⟩:=Toks.L1 t (h t ht).1 (h t ht).2 hm;have e1:(oZ t).sym.toNat=S:=by rw[j];rfl
 have e2:(oZ t).dist.toNat=D:=by rw[j];rfl
 exact⟨hm,TW.O1 ht mz,fun h0=>TW.OV ht h0 mz⟩
theorem Wr.start4{K:Nat->Prop}(w:World)(base:Nat)(t:TypeId)(rest:List Value)(i:base<=w.heap.size)(hK:∀k,K k->k<w.heap.size):Wr K (w.alloc (.cells (List.toArray (.slice none 0 0 :: .int .i64 0 :: rest)) t)) base w t rest [] (.slice none 0 0):=by refine⟨Blk.made _ _ _,AK _ _ _ _,(fun h=>by cases h),pQ,(fun h=>by have:=hK _ h;omega),(fun x h=>by cases h),fun k h=>by have:=hK k h;simp;omega⟩
theorem iD(w:World)(A:Option Addr)(n c:Nat)(ts:List Tk)(hn:ts.length=n)(hN:n<=32768)(i:∀t∈ts,0<=t.lit/\t.lit<=255)(ha:Row w w A n 3 (Toks.GQ ts))(j:Toks.Dk ts=false):
 Calls prog 166 #[.slice A n c] w (Ij ts w):=by
 have hE:TW.Io ts=7:=by unfold TW.Io;rw[Ab mz,Ab (by rw[j];simp)]
 have hO:TW.GY ts= []:=by unfold TW.GY;rw[hE];rfl
 have C0:=NP w A n c ts hn hN i ha;unfold Toks.CountPost at C0;have C0:=hid C0;have z:=hid j;unfold Ij;rw[hE,hO];clear hE hO hn i ha j;go_enter func166,ntmps166;go_wp2_with fail;refine C0.out.mono ?_;rintro e w1 ⟨y,h|⟨_,rfl⟩⟩
 ·have:=z.out;rw[h.1]at this;cases this
 ·go_wp2_with fail;go_ret2;exact⟨_,rfl,AK _ _ _ _,y⟩
set_option maxHeartbeats 2000000 in
theorem dR(w:World)(A:Option Addr)(n c:Nat)(ts:List Tk)(hn:ts.length=n)(hN:n<=16000)(Y:∀t∈ts,0<=t.lit/\t.lit<=255)(ha:Row w w A n 3 (Toks.GQ ts))(an:Toks.Dk ts=true):
 Calls prog 166 #[.slice A n c] w (Ij ts w):=by
 have hE:TW.Io ts=0:=by unfold TW.Io;rw[Ab mz,Ae an]
 have hO:TW.GY ts=bytesOf (TW.Fk ts):=by unfold TW.GY;rw[hE];rfl
 have C0:=NP w A n c ts hn mz Y ha;unfold Toks.CountPost at C0;have bC:=Toks.Mn ts;have bp:Toks.Within 32769 (Toks.symsOf ts):=(bC.1.bump 256).mono mz;have bh:Toks.Within 32769 (Toks.L9 ts):=bC.2.mono mz;have cF:=hid bp;have cL:=hid bh;have co:(TW.ksS ts).length=265:=TW.He ts;have b4:(TW.ksF ts).length=12:=TW.IU ts;have a0:∀x∈TW.ksS ts,x<4294967296:=VD bp mz;have a4:∀x∈TW.ksF ts,x<4294967296:=VD bh mz;have D1:=fun(K:Nat->Prop) wx g base rest v gs (h:Row wx wx (some ⟨gs,0,none⟩) 265 1 (jZ .u32 (TW.ksS ts))) hW=>TH K wx g base 299 rest v [] (some ⟨gs,0,none⟩) 265 265 (TW.ksS ts) co mz a0 h pI hW;have D2:=fun(K:Nat->Prop) wx g base rest v gs bs (hle:bs.length+10*12<=5000000) (h:Row wx wx (some ⟨gs,0,none⟩) 12 1 (jZ .u32 (TW.ksF ts))) hW=>TH K wx g base 299 rest v bs (some ⟨gs,0,none⟩) 12 12 (TW.ksF ts) b4 mz a4 h hle hW;have Z:=eW Y an;have a1:=TW.Qo ts;have af:=TW.Of ts;have ae:=TW.N9 ts;have bk:=TW.VB (TW.lsS ts);have cA:=TW.VB (TW.lsF ts);rw[TW.Un]at bk;rw[TW.Ua]at cA;have j:TW.Fk ts=Er (TW.lsS ts)++Er (TW.lsF ts)++(ts.flatMap (TW.BK (TW.lsS ts) (TW.lsF ts))++word (TW.lsS ts) 256):=rfl
 change ∀ (K:Nat->Prop) wx g base rest v gs,_->_->Calls _ _ _ _ (MA K wx base g 299 rest ([]++Er (TW.lsS ts)) (TW.lsS ts))at D1
 change ∀ (K:Nat->Prop) wx g base rest v gs bs,_->_->_->Calls _ _ _ _ (MA K wx base g 299 rest (bs++Er (TW.lsF ts)) (TW.lsF ts))at D2
 unfold Ij;rw[hE,hO,j];generalize TW.lsS ts=ls at *;generalize TW.lsF ts=lf at *;unfold MA at D1 D2;simp only[List.nil_append]at D1;obtain⟨hd,az⟩:=ii (Er ls++Er lf);rw[<-az];have df:hd.length<=2770:=by rw[az,Aj];omega
 have D1:=hid D1;have D2:=hid D2;have C0:=hid C0;have HN:=hid hn;have ay:=hid Z;have cu:=hid (show Fb ls 256≠0 from Mh (s:=256) a1);have a5:=hid af;have cy:=hid ae;have b1:=hid an;have cc:=hid Y;have cH:=hid az;have HA:=hid ha;have c3:=hid bk;have U:=(ok_parts af).2.1;have ac:=(ok_parts ae).2.1;have c4:=hid (TW.OL (ts:=ts) U ac an);have bt:=fun k=>TW.OL (ts:=ts.take k) U ac;have bt:=hid bt;have c6:(word ls 256).length<=15:=by rw[Ez];exact TW.Lg U _
 clear hE hO hn Y ha an bC bp bh co b4 a0 a4 Z a1 af ae cA j az bk U ac;go_enter func166,ntmps166;go_wp2_with fail;refine C0.out.mono ?_;rintro e w1 ⟨ar,⟨_,gs,gf,rfl,ak,al,dc,de⟩|⟨h,_⟩⟩
 ·have z1:=ar.size;have zs:=ak.lt;have zf:=al.lt;go_wp2_with fail;have bx:=Wr.start4 (K:=fun x=>x<w1.heap.size) w1 w 299 [.pointer none, .pointer none] z1 (fun k h=>h);have G:Below w1 w1 (w1.alloc (.cells #[(),ij, .pointer none, .pointer none] 299)):=aZ (Ag _ _);have z2:(w1.alloc (.cells #[(),ij, .pointer none, .pointer none] 299)).heap.size=w1.heap.size+1:=by simp
  change Wr (fun x=>x<w1.heap.size) (w1.alloc (.cells #[(),ij, .pointer none, .pointer none] 299)) _ _ _ _ _ _ at bx
  generalize w1.alloc (.cells #[(),ij, .pointer none, .pointer none] 299)=w2 at *;have b8:=VP (ak.step G) (B:=w2.heap.size) mz cF.out (TW.Md _ ▸ TW.He ts);have C1:=hid (D1.out (fun x=>x<w1.heap.size) w2 w1 w _ _ gs b8 bx);have cG:=hid ar;have ab:Hid (Blk w2 gf _ _):=al.step G;have cC:Hid (Below w w w2):=ar.trans (G.mono z1);generalize hg:w1.heap.size=g at *;clear hg bx b8 ak al G ar D1 C0 cG;refine C1.out.mono ?_;rintro e w3 ⟨gc,lo,v3,rfl,c9,bj,y,aa⟩;have z3:=aa.size;have c5:=bj.lt;have d2:=y.blk.cell 2;have f2:=y.blk.frozen 2;simp at d2;have b6:=hid y;have b5:=hid bj;have aj:=hid aa;clear bj y aa C1;go_wp2_with fail;have bq:=b6.out.putRest 0 (.pointer (some ⟨gc,0,none⟩));have z:Kept (fun x=>x≠g) w3 (w3.setCell ⟨g,2,none⟩ (.pointer (some ⟨gc,0,none⟩))):=(Kept.refl _ _).set (fun h=>h rfl) _;have z4:=z.size;simp only[List.set_cons_zero,Nat.zero_add]at bq;generalize w3.setCell ⟨g,2,none⟩ (.pointer (some ⟨gc,0,none⟩))=w4 at *;have cl:Coder w4 lo w3 gc ls:=b5.out.keep (fun b h1 h2=>z.block b mz);have ai:Blk w4 gf _ _:=(z.block gf mz).trans ((aj.out.block gf mz).trans ab.out);have a9:Kept (fun x=>x<g) w2 w4:=aj.out.trans ⟨z.os,z.tape,z.output,z.size,fun b h=>z.block b mz⟩;have cj:=VP (ai) (B:=w4.heap.size) mz cL.out (TW.Md _ ▸ TW.IU ts);have C2:=hid (D2.out _ w4 g w _ v3 gf (Er ls) (by have:=c3.out;omega) cj bq);have ci:=hid cl;have ba:=hid a9;clear bq z cl ai a9 cj b6 b5 aj d2 f2 D2 ab;refine C2.out.mono ?_;rintro e w5 ⟨gd,ax,v5,rfl,c7,bg,aq,bf⟩;have z5:=bf.size;have c8:=bg.lt;have d3:=aq.blk.cell 3;have f3:=aq.blk.frozen 3;simp at d3;have cr:=hid aq;have cw:=hid bg;have Q:=hid bf;clear bg aq bf C2;go_wp2_with fail;have aw:=cr.out.putRest 1 (.pointer (some ⟨gd,0,none⟩));have J:Kept (fun x=>x≠g) w5 (w5.setCell ⟨g,3,none⟩ (.pointer (some ⟨gd,0,none⟩))):=(Kept.refl _ _).set (fun h=>h rfl) _;have z6:=J.size;simp only[List.set_cons_succ,List.set_cons_zero,Nat.reduceAdd]at aw;generalize w5.setCell ⟨g,3,none⟩ (.pointer (some ⟨gd,0,none⟩))=w6 at *;have cq:Coder w6 lo w3 gc ls:=(ci.out.keep (fun b h1 h2=>Q.out.block b (.inr ⟨h1,h2⟩))).keep (fun b h1 h2=>J.block b mz);have cp:Coder w6 ax w5 gd lf:=cw.out.keep (fun b h1 h2=>J.block b mz);have a6:Kept (fun x=>x<g) w2 w6:=ba.out.trans (Kept.trans ⟨Q.out.os,Q.out.tape,Q.out.output,Q.out.size,fun b h=>Q.out.block b (.inl h)⟩ ⟨J.os,J.tape,J.output,J.size,fun b h=>J.block b mz⟩);have cz:Hid (Below w w w6):=cC.out.trans (a6.below (fun b h=>by omega));obtain⟨K2,am⟩:∃K2:Nat->Prop,K2=fun x=>(x<g∨lo<=x/\x<w3.heap.size)∨ax<=x/\x<w5.heap.size:=⟨_,rfl⟩;rw[<-am]at aw;have b3:∀x,x<w.heap.size->K2 x:=fun x h=>by rw[am];exact .inl (.inl mz)
  have cx:∀x,lo<=x->x<w3.heap.size->K2 x:=fun x h h'=>by rw[am];exact .inl (.inr ⟨h,h'⟩)
  have cB:∀x,ax<=x->x<w5.heap.size->K2 x:=fun x h h'=>by rw[am];exact .inr ⟨h,h'⟩
  have cf:=hid b3;have ah:=hid cx;have bn:=hid cB;have ca:=hid cq;have cP:=hid cp;have bc:=hid aw;generalize w3.heap.size=B1 at *;generalize w5.heap.size=B2 at *;clear am b3 cx cB cq cp aw a6 J ci cw ba Q cr cC d3 f3;rw[cH.out.symm]at bc;go_wp2_with fail;go_loopw [38] (fun i wr=>∃ (k:Nat) (v:Value),k<=n/\i= .int .i64 k/\Hid (Wr K2 wr w g 299 [.pointer (some ⟨gc,0,none⟩), .pointer (some ⟨gd,0,none⟩)] (hd++(ts.take k).flatMap (TW.BK ls lf)) v)/\Hid (Kept K2 w6 wr)) (fun i _=>n-(intOf i).toNat)
  case atStart=>exact⟨0,v5,mz,rfl,by simpa using bc,Kept.refl _ _⟩
  case round=>
   clear bc;obtain⟨k,v6,hk,rfl,HW,HK⟩:=hrel;have da:=HK.out.size;by_cases au:k<n
   ·obtain⟨ob,bd,rfl,bS,E⟩:=HA.out mz;have av:k<ts.length:=(by rw[HN.out];exact au);have be:=Fo av;have N:(World.heap wr)[ob]? =w.heap[ob]? :=(HK.out.block ob (cf.out ob bS)).trans (cz.out.block ob bS);have e0:=E k 0 au mz;have e1:=E k 1 au mz;have e2:=E k 2 au mz;simp only[Toks.GQ,List.getD_eq_getElem?_getD,List.getElem?_eq_getElem av,Option.getD_some,Nat.add_zero,<-Nat.add_assoc]at e0 e1 e2;have c0:=(World.cell?_of_block (a:=⟨ob,bd+k*3,none⟩) N).trans e0;have c1:=(World.cell?_of_block (a:=⟨ob,bd+k*3+1,none⟩) N).trans e1;have c2:=(World.cell?_of_block (a:=⟨ob,bd+k*3+2,none⟩) N).trans e2;have bb:Toks.Dk (ts.take k)=true:=(by have h:=b1.out;unfold Toks.Dk at h ⊢;rw[FW]at h ⊢;exact fun t ht=>h t (C7 ht));have a3:=bt.out k bb;rw[Bd]at a3;have b9:=TW.kD (ls:=ls) (lf:=lf) av;obtain⟨hm,ce,cm⟩:=ay.out _ be;have b7:=cc.out _ be;have C3:=fun wx (h:Below wr wr wx)=>kI K2 wx g w gc gd lo B1 ax B2 ls lf (hd++(ts.take k).flatMap (TW.BK ls lf)) v6 ts[k] b7 hm a5.out ((ca.out.kept HK.out ah.out).keep (fun b h1 h2=>h.block b (HW.out.kK b (ah.out b h1 h2)))) ah.out cy.out ((cP.out.kept HK.out bn.out).keep (fun b h1 h2=>h.block b (HW.out.kK b (bn.out b h1 h2)))) bn.out ce cm nz (HW.out.step h);rw[AJ,<-b9]at C3;generalize ts[k]=tk at *;obtain⟨t1,t2,t3⟩:=tk;simp only[Toks.Tk.val_mk]at C3 c0 c1 c2;unfold U7 at C3;have C3:=hid C3;have cS:=hid HW.out.kK;have x0:(0:Int)<=(k:Int):=mz;have x1:(k:Int)<(n:Int):=mz;clear E av be N e0 e1 e2 bb a3 b9 hm ce cm b7 HW;go_wp2_with fail;refine(C3.out _ (aZ (Ag _ _))).mono ?_;rintro e w7 ⟨rfl,v7,cg,cv⟩;have cT:=hid cg;have cE:Hid (Kept K2 w6 w7):=(HK.out.alloc cS.out _).trans cv;clear cg cv C3 c0 c1 c2;go_wp2_with fail;go_roundw
    case measure=>exact jo
    case rel=>go_light;exact⟨k+1,v7,mz,jp,cT.out,cE.out⟩
   ·obtain rfl:k=n:=by omega
    have cd:ts.take k=ts:=BV oq;rw[cd]at HW;have ct:=c4.out;rw[HN.out]at ct;have C2:=hid (Na K2 wr.drew lo B1 gc ls g w 299 [.pointer (some ⟨gc,0,none⟩), .pointer (some ⟨gd,0,none⟩)] v6 (hd++ts.flatMap (TW.BK ls lf)) 256 mz a5.out (ca.out.kept HK.out ah.out).drew ah.out cu.out nz HW.out.drew)
    change Hid (Calls _ _ _ _ (fun e w'=>_/\∃v',Wr K2 w' _ g _ _ (hd++ts.flatMap (TW.BK ls lf)++word ls 256) v'/\_))at C2
    rw[AJ]at C2;have N:(bytesOf (hd++(ts.flatMap (TW.BK ls lf)++word ls 256))).length<=100000:=(by rw[bytesOf_length,Aj,Aj];omega);obtain⟨M,j⟩:=ii (hd++(ts.flatMap (TW.BK ls lf)++word ls 256));rw[<-j]at C2 N;have bN:=hid j;clear j;have d0:=HW.out.blk.cell 2;simp at d0;clear cd ct HW;go_upto_region 14 with fail;go_region_held3 (fun wx=>wx.cell? ⟨g,2,none⟩=some (.pointer (some ⟨gc,0,none⟩))) (first|exact d0|exact k0) (first|(go_at_call 227;(with_reducible refine C2.out.mono ?_);rintro e w' ⟨rfl,v2,y,aa⟩;have k0:w'.cell? ⟨g,2,none⟩=some (.pointer (some ⟨gc,0,none⟩)):=y.blk.cell 2));obtain⟨A2,c2,rfl⟩:=bZ y.own;obtain⟨bl,b0,ag⟩:=y.rowOf;have bm:=y.blk.ia 0;have bi:Kept K2 w6 w':=HK.out.trans ((Kept.refl _ _).drew.trans aa);have zk:=bi.size;have C4:=hid (Tw w' g A2 _ c2 (bytesOf M) bl mz ag bm b0);have aj:=hid bi;have dd:=hid bl;clear y aa bi bl b0 ag bm N C2;go_wp2_with fail;refine C4.out.mono ?_;rintro e w8 ⟨v8,rfl,bu,cX⟩;go_wp2_with fail;go_ret2;refine⟨v8,rfl,?_,?_⟩
    ·rw[<-bN.out];have bu:w8.ownsRow w' 5 1 v8 (bytesOf M).length (cZ .u8 (bytesOf M)):=bu;exact kZ bu mz
    ·exact cz.out.trans ((aj.out.below cf.out).trans (cX.mono mz))
 ·have:=b1.out;rw[h]at this;cases this
theorem Tj(w:World)(A:Option Addr)(n c:Nat)(ts:List Tk)(hn:ts.length=n)(hN:n<=16000)(h:∀t∈ts,0<=t.lit/\t.lit<=255)(ha:Row w w A n 3 (Toks.GQ ts)):
 Calls prog 166 #[.slice A n c] w (Ij ts w):=by
 cases hok:Toks.Dk ts
 ·exact iD w A n c ts hn mz h ha hok
 ·exact dR w A n c ts hn hN h ha hok
end Huff
end Go.Proofs.YtfgdoknipbpfhaaGreatDoor
