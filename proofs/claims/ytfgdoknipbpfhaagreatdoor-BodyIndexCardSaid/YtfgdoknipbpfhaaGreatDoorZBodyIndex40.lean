/- The walks of toks' r -/
import Derived.Test.YtfgdoknipbpfhaaGreatDoorZBodyIndex39
import Derived.Test.YtfgdoknipbpfhaaGreatDoorZBodyIndex13
namespace Go.Proofs.YtfgdoknipbpfhaaGreatDoor
open Go.Proofs.Tryz
open Go.Lib (hid)
set_option maxHeartbeats 2000000
set_option maxRecDepth 100000
variable{lf ls:List Nat}{f:Nat}{M:Int}
namespace Huff
open Go.RowKit Mem Canon Own
open Toks (Tk Pc Eu EU pw)
theorem YG{w:World}{base c n:Nat}{A:Option Addr}(ho:w.ownsRow base 5 1 (.slice A n c) ls.length (bZ .u8 ls)):ls.length=n/\Row w w A n 1 (kZ .u8 ls)/\(A=none->n=0):=by
 have hn:ls.length=n:=by
  rcases ho.2 with ⟨hv,hx⟩|⟨g,E,cur,hv,_⟩
  ·injection hv with _ e _;exact hx.trans e.symm
  ·injection hv with _ e _;exact e.symm
 rw[hn]at ho;exact⟨hn,Row.of_own ho rfl (fun i j hi hj=>by have e0:j=0:=nB;subst e0;exact numL_get nB),fun h=>((Ew ho).1 h).1⟩
theorem Ji{bs:List Bool}{n:Nat}:∀ (f:Nat) (out:List Nat) (sh:Bool) (at_:Nat),out.length<=n->n+1<=f+out.length->(Bz bs n f out sh at_).2.1=0->okB (Bz bs n f out sh at_).1=true/\(Bz bs n f out sh at_).1.length=n
 |0,out,sh,at_,h1,h2,_=>nB
 |f+1,out,sh,at_,h1,h2,h3=>by
  rw[Bz]at h3 ⊢;split at h3
  ·rename_i h;rw[Ag h]at ⊢;split at h3
   ·rename_i h4;rw[Ag h4];exact⟨h4,pU⟩
   ·cases h3
  ·rename_i h;rw[Ae h]at ⊢;split at h3
   ·cases h3
   ·rename_i h5;rw[Ae h5];split at h3
    ·rename_i h6;rw[Ag h6];exact Ji f _ _ _ (by rw[Aj];simp;omega) (by rw[Aj];simp;omega) h3
    ·rename_i h6;rw[Ae h6];split at h3
     ·cases h3
     ·rename_i h7;rw[Ae h7];split at h3
      ·cases h3
      ·rename_i h8;rw[Ae h8];have h9:¬n-out.length<=AN bs (at_+4) 6:=fun e=>h8 (.inr e);exact Ji f _ _ _ (by rw[Aj,Ez];omega) (by rw[Aj,Ez];omega) h3
def Ni(R:List Nat×Int×Nat)(lo g:Nat)(bs:List Bool)(w:World)(e:Ending)(w':World):Prop:=
 ((R.2.1≠0/\e= .returned (.tuple #[.pointer none, .int .i64 R.2.1]))∨(R.2.1=0/\∃gc,e= .returned (.tuple #[.pointer (some ⟨gc,0,none⟩), .int .i64 0])/\Coder w' w.heap.size w'.heap.size gc R.1))/\
   Rd w' lo g bs R.2.2/\Kept (fun x=>x<w.heap.size/\x≠g) w w'
theorem S0(w:World)(gr lo g:Nat)(bs:List Bool)(E n:Nat)(ac:0<n)(hn:n<=300)(U:lo<=g)(ae:w.cell? ⟨gr,0,none⟩=some (.pointer (some ⟨g,0,none⟩)))(hR:Rd w lo g bs E):
 Calls prog 330 #[.pointer (some ⟨gr,0,none⟩), .int .i64 (n:Nat)] w (Ni (Bz bs n (n+1) [] false E) lo g bs w):=by
 have C1:=aD w lo g bs E n ac hn U hR;have M:=Ji (bs:=bs) (n:=n) (n+1) [] false E pR pR;unfold Tw at C1;generalize Bz bs n (n+1) [] false E=R at *;obtain⟨rl,re,ra⟩:=R;simp only at C1 M;have ag:=hR.lt;have C1:=hid C1;have N:=hid M;clear M hR;unfold Ni;simp only;by_cases he:re=0
 ·subst he;obtain⟨J,L⟩:=N.out rfl;have Z:=hid J;have af:=hid L;clear J L N;go_enter func330,ntmps330;go_wp2_with fail;refine C1.out.mono ?_;rintro e w1 ⟨v,rfl,i,G,j⟩;have z1:=j.size;obtain⟨A1,c1,rfl⟩:=aZ i;have q1:=YG i;have Y:=Ew i;have C2:=hid (new_any w1 A1 _ c1 rl rfl Z.out (fun h=>by have:=Y.1 h;exact this) q1.2.1);have aa:=hid G;have ab:=hid j;clear q1 Y i G j C1;generalize rl.length=nl at *;go_wp2_with fail;refine C2.out.mono ?_;rintro e w2 ⟨gc,rfl,hC,Q⟩;go_wp2_with fail;go_ret2;exact⟨.inr ⟨trivial,gc,rfl,hC.mono z1 (Am _)⟩,aa.out.keep (fun b _ h=>Q.block b nB) U,ab.out.trans (Kept.of_below Q (fun b h=>by have:=h.1;omega))⟩
 ·have hb:(re != 0)=true:=bne_iff_ne.mpr he;have HE:=hid he;clear he N;go_enter func330,ntmps330;go_wp2_with fail;refine C1.out.mono ?_;rintro e w1 ⟨v,rfl,i,G,j⟩;obtain⟨A1,c1,rfl⟩:=aZ i;clear i;go_wp2_with fail;go_ret2;exact⟨.inl ⟨HE.out,rfl⟩,G,j⟩
def EJ(lf:List Nat)(bs:List Bool)(v at_:Nat):Tk×Int×Nat:=
 if ¬at_+(v-257)<=bs.length then(⟨0,0,0⟩,1,at_)else
 let G:=EG lf (head bs (at_+(v-257))) (there bs (at_+(v-257)))
 if G.2.1≠0 then(⟨0,0,0⟩,G.2.1,at_+(v-257)+G.2.2)else
 if ¬at_+(v-257)+G.2.2+G.1.toNat<=bs.length then(⟨0,0,0⟩,1,at_+(v-257)+G.2.2)else
 (Eu ⟨v,(AN bs at_ (v-257):Nat),G.1,(AN bs (at_+(v-257)+G.2.2) G.1.toNat:Nat)⟩,EU ⟨v,(AN bs at_ (v-257):Nat),G.1,(AN bs (at_+(v-257)+G.2.2) G.1.toNat:Nat)⟩,at_+(v-257)+G.2.2+G.1.toNat)
theorem Ng(ls:List Nat)(X th:Nat):(EG ls X th).2.1=0->∃s:Nat,(EG ls X th).1=s/\s<ls.length:=by
 intro h;unfold EG at h ⊢;cases hf:(List.range ls.length).find? (hit ls X th)with
 |some s=>have:=List.mem_of_find?_eq_some hf;exact⟨s,rfl,FA.1 this⟩
 |none=>rw[hf]at h;simp only at h;split at h<;>cases h
theorem Ik:(prog.info? 280).map (·.size)=some 3:=ni
def SK(R:Tk×Int×Nat)(lo g:Nat)(bs:List Bool)(w:World)(e:Ending)(w':World):Prop:=
 e= .returned (.tuple #[R.1.val,R.2.1])/\Rd w' lo g bs R.2.2/\Kept (fun x=>x<w.heap.size/\x≠g) w w'
theorem ZS(w:World)(gr lo g ar cB gf:Nat)(lf:List Nat)(bs:List Bool)(v at_:Nat)(bO:257<=v)(b7:v<=264)(af:lo<=g)(bj:w.cell? ⟨gr,0,none⟩=some (.pointer (some ⟨g,0,none⟩)))(bh:w.cell? ⟨gr,2,none⟩=some (.pointer (some ⟨gf,0,none⟩)))(a9:gr<w.heap.size)(an:gr≠g)
 (bc:okB lf=true)(b0:lf.length<=12)(hC:Coder w ar cB gf lf)(bq:cB<=w.heap.size)(bd:∀b,ar<=b->b<cB->b≠g)(hR:Rd w lo g bs at_):
 Calls prog 354 #[.pointer (some ⟨gr,0,none⟩), .int .i64 (v:Nat)] w (SK (EJ lf bs v at_) lo g bs w):=by
 have bM:=hR.lt;have HR:=hid hR;have HC:=hid hC;have bi:=hid bc;have bm:=hid bd;obtain⟨m,hm⟩:=jc (v-257);have ay:(v:Int)-257=(m:Int):=nB
 have s1:IntKind.i64.wrap ((v:Int)-257)=(m:Int):=by rw[Az _ nB,ay]
 have bn:m<=7:=nB
 have HM:=hid hm;have b6:=hid ay;clear hR hC bc hm ay bd;go_enter func354,ntmps354;go_wp2_with fail;have U:Below w w (w.alloc (.cells #[.int .u8 0,jd,jd] 280)):=cZ (Ak _ _);have ac:Blk (w.alloc (.cells #[.int .u8 0,jd,jd] 280)) w 280 #[.int .u8 0,jd,jd]:=Blk.made _ _ _;generalize w.alloc (.cells #[.int .u8 0,jd,jd] 280)=w0 at *;have aw:Hid (Rd w0 lo g bs at_):=HR.out.keep (fun b _ h=>U.block b nB) af;have C1:=JX w0 lo g bs at_ m nB aw.out;by_cases Y:at_+m<=bs.length
 ·rw[(GK Y).1,(GK Y).2.1,(GK Y).2.2]at C1;have C1:=hid C1;have ax:=hid Y;have a5:=GS bs at_ m;have bg:AN bs at_ m<256:=Fi a5 (by have:2 ^ m<=2 ^ 8:=Cf nB nB;omega);obtain⟨x,hx⟩:=jc (AN bs at_ m);rw[<-hx]at C1 bg;have HX:=hid hx;clear hx a5 Y;refine C1.out.mono ?_;rintro e w1 ⟨rfl,ai,M⟩;have aa:Kept (fun x=>x<w.heap.size/\x≠g) w w1:=(Kept.of_below U (fun _ h=>h.1)).trans ⟨M.os,M.tape,M.output,M.size,fun b h=>M.block b h.2⟩;have J:Blk w1 w _ _:=(M.block w pQ).trans ac;have d0:w1.cell? ⟨gr,0,none⟩=some (.pointer (some ⟨g,0,none⟩)):=(World.cell?_of_block (a:=⟨gr,0,none⟩) (aa.block gr ⟨a9,an⟩)).trans bj;have d2:w1.cell? ⟨gr,2,none⟩=some (.pointer (some ⟨gf,0,none⟩)):=(World.cell?_of_block (a:=⟨gr,2,none⟩) (aa.block gr ⟨a9,an⟩)).trans bh;have a0:Coder w1 ar cB gf lf:=HC.out.keep (fun b h1 h2=>aa.block b ⟨nB,bm.out b h1 h2⟩);have C2:=RY w1.drew ar cB gf lo g lf bs (at_+m) bi.out a0.drew ai.drew;unfold MF at C2;have ab:=Ng lf (head bs (at_+m)) (there bs (at_+m));obtain⟨G,hG⟩:=jc (EG lf (head bs (at_+m)) (there bs (at_+m)));rw[<-hG]at C2 ab;obtain⟨gv,ge,ga⟩:=G;simp only at C2 ab;have C2:=hid C2;have az:=hid hG;have ae:=hid J;have aq:=hid aa;have av:=hid ab;clear hG a0 ai M aa J ac ab C1 aw U HR HC;go_upto_region 4 with fail;go_region_held3 (fun wx=>wx.cell? ⟨gr,0,none⟩=some (.pointer (some ⟨g,0,none⟩))/\wx.cell? ⟨gr,2,none⟩=some (.pointer (some ⟨gf,0,none⟩))) (first|exact⟨d0,d2⟩|exact⟨k0,k2⟩) (first|(go_at_call 353;(with_reducible refine C2.out.mono ?_);rintro e w2 ⟨rfl,bb,Z⟩;have k0:w2.cell? ⟨gr,0,none⟩=some (.pointer (some ⟨g,0,none⟩)):=(World.cell?_of_block (a:=⟨gr,0,none⟩) (Z.block gr an)).trans d0;have k2:w2.cell? ⟨gr,2,none⟩=some (.pointer (some ⟨gf,0,none⟩)):=(World.cell?_of_block (a:=⟨gr,2,none⟩) (Z.block gr an)).trans d2));have ba:Kept (fun x=>x<w.heap.size/\x≠g) w w2:=aq.out.trans ((Kept.refl _ w1).drew.trans ⟨Z.os,Z.tape,Z.output,Z.size,fun b h=>Z.block b h.2⟩);have au:Blk w2 w _ _:=(Z.block w pQ).trans ae.out.drew;have al:=hid bb;have ah:=hid ba;have j:=hid au;clear bb Z ba au ae aq C2 d0 d2;by_cases he:ge=0
  ·subst he;obtain⟨s,rfl,hs⟩:=av.out rfl;have be:s<=11:=nB;have C3:=JX w2 lo g bs (at_+m+ga) s nB al.out;by_cases L:at_+m+ga+s<=bs.length
   ·rw[(GK L).1,(GK L).2.1,(GK L).2.2]at C3;have a6:=GS bs (at_+m+ga) s;have bS:AN bs (at_+m+ga) s<4096:=Fi a6 (by have:2 ^ s<=2 ^ 11:=Cf nB be;omega);have HG:Hid (EJ lf bs v at_=(Eu ⟨v,(x:Nat),(s:Nat),(AN bs (at_+m+ga) s:Nat)⟩,EU ⟨v,(x:Nat),(s:Nat),(AN bs (at_+m+ga) s:Nat)⟩,at_+m+ga+s)):=(by show _=_;unfold EJ;rw[<-HM.out,Ae (fun h=>h ax.out),<-az.out];simp only[ne_eq,not_true_eq_false,if_false,Int.toNat_natCast];rw[Ae (fun h=>h L),HX.out]);generalize AN bs (at_+m+ga) s=y at *;have C3:=hid C3;have C4:=hid (fun wx=>Toks.jU ⟨(v:Int),(x:Int),(s:Int),(y:Int)⟩ wx pU pU);generalize Eu ⟨(v:Int),(x:Int),(s:Int),(y:Int)⟩=T at *;generalize EU ⟨(v:Int),(x:Int),(s:Int),(y:Int)⟩=E at *;obtain⟨ta,tb,tc⟩:=T;unfold Toks.Tk.val Toks.Pc.val at C4;simp only at C4;clear a6 L;go_wp2_with fail;refine C3.out.mono ?_;rintro e w3 ⟨rfl,aj,Q⟩;have am:=hid aj;have ag:Hid (Kept (fun x=>x<w.heap.size/\x≠g) w w3):=ah.out.trans ⟨Q.os,Q.tape,Q.output,Q.size,fun b h=>Q.block b h.2⟩;have i:Hid (Blk w3 w 280 #[.int .u8 0,jd,jd]):=(Q.block w pQ).trans j.out;have b9:=ag.out.size;have bu:=i.out.lt;clear aj Q C3 al ah j;go_wp2_with fail;refine(C4.out _).mono ?_;rintro e w4 ⟨rfl,ak⟩;have bl:Hid (Rd w4 lo g bs (at_+m+ga+s)):=am.out.keep (fun b _ h=>ak.block b nB) af;have bf:Hid (Kept (fun x=>x<w.heap.size/\x≠g) w w4):=ag.out.trans (Kept.of_below ak (fun b h=>by have:=h.1;omega));have N:Hid (Blk w4 w 280 #[.int .u8 0,jd,jd]):=i.out.step ak;have a4:=N.out.iy 0;have b4:=N.out.iy 1;have c4:=N.out.iy 2;have bp:=N.out.frozen 0;have bN:=N.out.frozen 1;have bF:=N.out.frozen 2;clear ak C4 am ag i;go_wp2_with fail;exact Df (Canon.results_cell_tmp rfl _ _ w.heap.size _ #[.int .u8 ta,tb,tc] _ (.int .i64 E) rfl rfl (((N.out.set 0 (.int .u8 ta)).set 1 (.int .i64 tb)).set 2 (.int .i64 tc)) underlying280 rfl Ik) rfl ⟨ow,by rw[HG.out];exact bl.out.keep (fun b _ h=>((Be _ _ _ b pO).trans (Be _ _ _ b pO)).trans (Be _ _ _ b pO)) af,Kept.set (p:=⟨w,2,none⟩) (Kept.set (p:=⟨w,1,none⟩) (Kept.set (p:=⟨w,0,none⟩) bf.out (fun h=>absurd h.1 (CJ _)) _) (fun h=>absurd h.1 (CJ _)) _) (fun h=>absurd h.1 (CJ _)) _⟩
   ·rw[(GJ L).1,(GJ L).2.1,(GJ L).2.2]at C3;have C3:=hid C3;have HG:Hid (EJ lf bs v at_=(⟨0,0,0⟩,1,at_+m+ga)):=(by show _=_;unfold EJ;rw[<-HM.out,Ae (fun h=>h ax.out),<-az.out];simp only[ne_eq,not_true_eq_false,if_false,Int.toNat_natCast];rw[Ag L]);clear L;go_wp2_with fail;refine C3.out.mono ?_;rintro e w3 ⟨rfl,aj,Q⟩;have am:=hid aj;have ag:Hid (Kept (fun x=>x<w.heap.size/\x≠g) w w3):=ah.out.trans ⟨Q.os,Q.tape,Q.output,Q.size,fun b h=>Q.block b h.2⟩;have i:Hid (Blk w3 w 280 #[.int .u8 0,jd,jd]):=(Q.block w pQ).trans j.out;have a3:=i.out.iy 0;have b3:=i.out.iy 1;have c3:=i.out.iy 2;have bG:=i.out.frozen 0;have bt:=i.out.frozen 1;have bC:=i.out.frozen 2;clear aj Q C3 al ah j;go_wp2_with fail;exact Df (Canon.results_cell_tmp rfl _ _ w.heap.size _ #[.int .u8 0,jd,jd] _ (.int .i64 1) rfl rfl (((i.out.set 0 (.int .u8 0)).set 1 (.int .i64 0)).set 2 (.int .i64 0)) underlying280 rfl Ik) rfl ⟨ow,by rw[HG.out];exact am.out.keep (fun b _ h=>((Be _ _ _ b pO).trans (Be _ _ _ b pO)).trans (Be _ _ _ b pO)) af,Kept.set (p:=⟨w,2,none⟩) (Kept.set (p:=⟨w,1,none⟩) (Kept.set (p:=⟨w,0,none⟩) ag.out (fun h=>absurd h.1 (CJ _)) _) (fun h=>absurd h.1 (CJ _)) _) (fun h=>absurd h.1 (CJ _)) _⟩
  ·have hb:(ge != 0)=true:=bne_iff_ne.mpr he;have HG:Hid (EJ lf bs v at_=(⟨0,0,0⟩,ge,at_+m+ga)):=(by show _=_;unfold EJ;rw[<-HM.out,Ae (fun h=>h ax.out),<-az.out];simp only;rw[Ag he]);clear he av;have a2:=j.out.iy 0;have b2:=j.out.iy 1;have c2:=j.out.iy 2;have bU:=j.out.frozen 0;have ca:=j.out.frozen 1;have b5:=j.out.frozen 2;go_wp2_with fail;exact Df (Canon.results_cell_tmp rfl _ _ w.heap.size _ #[.int .u8 0,jd,jd] _ (.int .i64 ge) rfl rfl (((j.out.set 0 (.int .u8 0)).set 1 (.int .i64 0)).set 2 (.int .i64 0)) underlying280 rfl Ik) rfl ⟨ow,by rw[HG.out];exact al.out.keep (fun b _ h=>((Be _ _ _ b pO).trans (Be _ _ _ b pO)).trans (Be _ _ _ b pO)) af,Kept.set (p:=⟨w,2,none⟩) (Kept.set (p:=⟨w,1,none⟩) (Kept.set (p:=⟨w,0,none⟩) ah.out (fun h=>absurd h.1 (CJ _)) _) (fun h=>absurd h.1 (CJ _)) _) (fun h=>absurd h.1 (CJ _)) _⟩
 ·rw[(GJ Y).1,(GJ Y).2.1,(GJ Y).2.2]at C1;have C1:=hid C1;have HG:Hid (EJ lf bs v at_=(⟨0,0,0⟩,1,at_)):=by show _=_;unfold EJ;rw[<-HM.out,Ag Y]
  clear Y;refine C1.out.mono ?_;rintro e w1 ⟨rfl,ai,M⟩;have aa:Kept (fun x=>x<w.heap.size/\x≠g) w w1:=(Kept.of_below U (fun _ h=>h.1)).trans ⟨M.os,M.tape,M.output,M.size,fun b h=>M.block b h.2⟩;have J:Blk w1 w _ _:=(M.block w pQ).trans ac;have a1:=J.iy 0;have b1:=J.iy 1;have c1:=J.iy 2;have b8:=J.frozen 0;have bW:=J.frozen 1;have bX:=J.frozen 2;have bk:=hid ai;have aq:=hid aa;have ae:=hid J;clear ai M aa J ac C1 aw U HR HC;go_wp2_with fail;exact Df (Canon.results_cell_tmp rfl _ _ w.heap.size _ #[.int .u8 0,jd,jd] _ (.int .i64 1) rfl rfl (((ae.out.set 0 (.int .u8 0)).set 1 (.int .i64 0)).set 2 (.int .i64 0)) underlying280 rfl Ik) rfl ⟨ow,by rw[HG.out];exact bk.out.keep (fun b _ h=>((Be _ _ _ b pO).trans (Be _ _ _ b pO)).trans (Be _ _ _ b pO)) af,Kept.set (p:=⟨w,2,none⟩) (Kept.set (p:=⟨w,1,none⟩) (Kept.set (p:=⟨w,0,none⟩) aq.out (fun h=>absurd h.1 (CJ _)) _) (fun h=>absurd h.1 (CJ _)) _) (fun h=>absurd h.1 (CJ _)) _⟩
end Huff
namespace Huff
open Go.RowKit Mem Canon Own
open Toks (Tk Pc Eu EU pw)
theorem K8{P:Program}{fn:Func}{p q r:Tmp}{ty:TypeId}(h:fn.results=#[.cell p ty, .tmp q, .tmp r])(i:Array Value)(w:World)(g:Nat)(t:TypeId)(cs:Array Value)(d:TypeDesc)(u v:Value)
 (hp:i.getD p undef= .pointer (some ⟨g,0,none⟩))(hq:i.getD q undef=u)(hr:i.getD r undef=v)(hg:Blk w g t cs)
 (hu:P.underlying ty=some d)(hd:(match d with| .struct _| .array _ _=>true|_=>false)=true)(hi:(P.info? ty).map (·.size)=some cs.size):
 (results fn i).run P w= .ok (.tuple #[.agg cs,u,v]) w:=by
 have G:i[p]?.getD undef= .pointer (some ⟨g,0,none⟩):=by simpa using hp
 have j:i[q]?.getD undef=u:=by simpa using hq
 have E:i[r]?.getD undef=v:=by simpa using hr
 simp[results,h,G,j,E,asAddr,run_loadVar_row w g t ty cs (0,0) d hg hu hd hi]
def CG(ls lf:List Nat)(bs:List Bool)(at_:Nat):Tk×Bool×Int×Nat:=
 let G:=EG ls (head bs at_) (there bs at_)
 if G.2.1≠0 then(⟨0,0,0⟩,false,G.2.1,at_+G.2.2)else
 if G.1=256 then(⟨0,0,0⟩,false,0,at_+G.2.2)else
 if G.1<256 then(⟨G.1,0,0⟩,true,0,at_+G.2.2)else
 let M:=EJ lf bs G.1.toNat (at_+G.2.2)
 (M.1,decide (M.2.1=0),M.2.1,M.2.2)
def VA(R:Tk×Bool×Int×Nat)(lo g:Nat)(bs:List Bool)(w:World)(e:Ending)(w':World):Prop:=
 e= .returned (.tuple #[R.1.val,R.2.1,R.2.2.1])/\Rd w' lo g bs R.2.2.2/\Kept (fun x=>x<w.heap.size/\x≠g) w w'
theorem Zz(w:World)(gr lo g U cB gs gf:Nat)(ls lf:List Nat)(bs:List Bool)(at_:Nat)(Q:lo<=g)(bf:w.cell? ⟨gr,0,none⟩=some (.pointer (some ⟨g,0,none⟩)))(bb:w.cell? ⟨gr,1,none⟩=some (.pointer (some ⟨gs,0,none⟩)))(bc:w.cell? ⟨gr,2,none⟩=some (.pointer (some ⟨gf,0,none⟩)))(am:gr<w.heap.size)(af:gr≠g)
 (ak:okB ls=true)(bl:ls.length<=265)(a5:Coder w U cB gs ls)(a1:okB lf=true)(bg:lf.length<=12)(hC:Coder w U cB gf lf)(ba:cB<=w.heap.size)(a4:∀b,U<=b->b<cB->b≠g)(hR:Rd w lo g bs at_):
 Calls prog 331 #[.pointer (some ⟨gr,0,none⟩)] w (VA (CG ls lf bs at_) lo g bs w):=by
 have bp:=hR.lt;have HR:=hid hR;have HC:=hid hC;have bi:=hid a5;have bd:=hid a1;have an:=hid ak;have a9:=hid a4;clear hR hC a1 a4 a5 ak;go_enter func331,ntmps331;go_upto_region 1 with fail;have i:Below w w (w.alloc (.cells #[.int .u8 0,jd,jd] 280)):=cZ (Ak _ _);have ai:Blk (w.alloc (.cells #[.int .u8 0,jd,jd] 280)) w 280 #[.int .u8 0,jd,jd]:=Blk.made _ _ _;generalize w.alloc (.cells #[.int .u8 0,jd,jd] 280)=w0 at *;have aq:Hid (Rd w0 lo g bs at_):=HR.out.keep (fun b _ h=>i.block b nB) Q;have aw:Coder w0 U cB gs ls:=bi.out.below i ba;have d0:=(i.cell (p:=⟨gr,0,none⟩) am).trans bf;have d1:=(i.cell (p:=⟨gr,1,none⟩) am).trans bb;have d2:=(i.cell (p:=⟨gr,2,none⟩) am).trans bc;have C2:=RY w0.drew U cB gs lo g ls bs at_ an.out aw.drew aq.out.drew;unfold MF at C2;have Y:=Ng ls (head bs at_) (there bs at_);obtain⟨G,hG⟩:=jc (EG ls (head bs at_) (there bs at_));rw[<-hG]at C2 Y;obtain⟨gv,ge,ga⟩:=G;simp only at C2 Y;have C2:=hid C2;have ag:=hid hG;have aj:=hid ai;have av:=hid i;have al:=hid Y;clear hG aw i ai Y aq;go_region_held3 (fun wx=>wx.cell? ⟨gr,0,none⟩=some (.pointer (some ⟨g,0,none⟩))/\wx.cell? ⟨gr,1,none⟩=some (.pointer (some ⟨gs,0,none⟩))) (first|exact⟨d0,d1⟩|exact⟨k0,k1⟩) (first|(go_at_call 353;(with_reducible refine C2.out.mono ?_);rintro e w2 ⟨rfl,a0,J⟩;have k0:w2.cell? ⟨gr,0,none⟩=some (.pointer (some ⟨g,0,none⟩)):=(World.cell?_of_block (a:=⟨gr,0,none⟩) (J.block gr af)).trans d0;have k1:w2.cell? ⟨gr,1,none⟩=some (.pointer (some ⟨gs,0,none⟩)):=(World.cell?_of_block (a:=⟨gr,1,none⟩) (J.block gr af)).trans d1));have az:Kept (fun x=>x<w.heap.size/\x≠g) w w2:=(Kept.of_below av.out (fun _ h=>h.1)).trans ((Kept.refl _ w0).drew.trans ⟨J.os,J.tape,J.output,J.size,fun b h=>J.block b h.2⟩);have j:Blk w2 w _ _:=(J.block w pQ).trans aj.out.drew;have k2:w2.cell? ⟨gr,2,none⟩=some (.pointer (some ⟨gf,0,none⟩)):=(World.cell?_of_block (a:=⟨gr,2,none⟩) (J.block gr af)).trans d2;have a6:=j.lt;have a2:=j.iy 0;have b2:=j.iy 1;have c2:=j.iy 2;have be:=j.frozen 0;have bj:=j.frozen 1;have bh:=j.frozen 2;have ae:=hid a0;have aa:=hid az;have L:=hid j;clear a0 J az j aj av C2 d0 d1 d2;by_cases he:ge=0
 ·subst he;obtain⟨s,rfl,hs⟩:=al.out rfl;by_cases ac:s=256
  ·subst ac;have HG:Hid (CG ls lf bs at_=(⟨0,0,0⟩,false,0,at_+ga)):=(by show _=_;unfold CG;rw[<-ag.out];rfl);go_wp2_with fail;exact Df (K8 rfl _ _ w.heap.size _ #[.int .u8 0,jd,jd] _ (.bool false) (.int .i64 0) rfl rfl rfl (((L.out.set 0 (.int .u8 0)).set 1 (.int .i64 0)).set 2 (.int .i64 0)) underlying280 rfl Ik) rfl ⟨ow,oq,(Kept.set (p:=⟨w,2,none⟩) (Kept.set (p:=⟨w,1,none⟩) (Kept.set (p:=⟨w,0,none⟩) aa.out (fun h=>absurd h.1 (CJ _)) _) (fun h=>absurd h.1 (CJ _)) _) (fun h=>absurd h.1 (CJ _)) _)⟩
  ·have bq:((s:Int)==256)=false:=p5;by_cases bt:s<256
   ·have HG:Hid (CG ls lf bs at_=(⟨s,0,0⟩,true,0,at_+ga)):=(by show _=_;unfold CG;rw[<-ag.out];simp only;rw[Ae nB,Ae nB,Ag nB]);clear ac;go_wp2_with fail;exact Df (K8 rfl _ _ w.heap.size _ #[.int .u8 (s:Nat),jd,jd] _ (.bool true) (.int .i64 0) rfl rfl rfl (((L.out.set 0 (.int .u8 (s:Nat))).set 1 (.int .i64 0)).set 2 (.int .i64 0)) underlying280 rfl Ik) rfl ⟨ow,oq,(Kept.set (p:=⟨w,2,none⟩) (Kept.set (p:=⟨w,1,none⟩) (Kept.set (p:=⟨w,0,none⟩) aa.out (fun h=>absurd h.1 (CJ _)) _) (fun h=>absurd h.1 (CJ _)) _) (fun h=>absurd h.1 (CJ _)) _)⟩
   ·have au:Coder w2 U cB gf lf:=HC.out.keep (fun b h1 h2=>aa.out.block b ⟨nB,a9.out b h1 h2⟩);have C3:=ZS w2 gr lo g U cB gf lf bs s (at_+ga) nB nB Q k0 k2 nB af bd.out bg au nB a9.out ae.out;have ab:Hid (CG ls lf bs at_=((EJ lf bs s (at_+ga)).1,decide ((EJ lf bs s (at_+ga)).2.1=0),(EJ lf bs s (at_+ga)).2.1,(EJ lf bs s (at_+ga)).2.2)):=(by show _=_;unfold CG;rw[<-ag.out];simp only;rw[Ae nB,Ae nB,Ae nB,Br]);unfold SK at C3;generalize EJ lf bs s (at_+ga)=M at *;obtain⟨⟨ta,tb,tc⟩,me,ma⟩:=M;unfold Toks.Tk.val at C3;simp only at C3 ab;have C3:=hid C3;clear ac au;go_wp2_with fail;refine C3.out.mono ?_;rintro e w3 ⟨rfl,ay,N⟩;have E:Blk w3 w _ _:=(N.block w ⟨a6,nB⟩).trans L.out;have a3:=E.iy 0;have b3:=E.iy 1;have c3:=E.iy 2;have bn:=E.frozen 0;have bk:=E.frozen 1;have bm:=E.frozen 2;have Z:=hid E;have ax:=hid ay;have ar:Hid (Kept (fun x=>x<w.heap.size/\x≠g) w w3):=aa.out.trans ⟨N.os,N.tape,N.output,N.size,fun b h=>N.block b ⟨mU,h.2⟩⟩;clear E ay N C3 a2 b2 c2 be bj bh;by_cases ah:me=0
    ·subst ah;have HG:Hid (CG ls lf bs at_=(⟨ta,tb,tc⟩,true,0,ma)):=ab.out;clear ab;go_wp2_with fail;exact Df (K8 rfl _ _ w.heap.size _ #[.int .u8 ta,tb,tc] _ (.bool true) (.int .i64 0) rfl rfl rfl ((((((Z.out.set 0 (.int .u8 ta)).set 1 (.int .i64 tb)).set 2 (.int .i64 tc)).set 0 (.int .u8 ta)).set 1 (.int .i64 tb)).set 2 (.int .i64 tc)) underlying280 rfl Ik) rfl ⟨ow,ou,(Kept.set (p:=⟨w,2,none⟩) (Kept.set (p:=⟨w,1,none⟩) (Kept.set (p:=⟨w,0,none⟩) (Kept.set (p:=⟨w,2,none⟩) (Kept.set (p:=⟨w,1,none⟩) (Kept.set (p:=⟨w,0,none⟩) ar.out (fun h=>absurd h.1 (CJ _)) _) (fun h=>absurd h.1 (CJ _)) _) (fun h=>absurd h.1 (CJ _)) _) (fun h=>absurd h.1 (CJ _)) _) (fun h=>absurd h.1 (CJ _)) _) (fun h=>absurd h.1 (CJ _)) _)⟩
    ·have bu:(me==0)=false:=(by simp[ah]);have HG:Hid (CG ls lf bs at_=(⟨ta,tb,tc⟩,false,me,ma)):=(by show _=_;rw[ab.out,AV ah]);clear ab ah;go_wp2_with fail;exact Df (K8 rfl _ _ w.heap.size _ #[.int .u8 ta,tb,tc] _ (.bool false) (.int .i64 me) rfl rfl rfl ((((((Z.out.set 0 (.int .u8 ta)).set 1 (.int .i64 tb)).set 2 (.int .i64 tc)).set 0 (.int .u8 ta)).set 1 (.int .i64 tb)).set 2 (.int .i64 tc)) underlying280 rfl Ik) rfl ⟨ow,ou,(Kept.set (p:=⟨w,2,none⟩) (Kept.set (p:=⟨w,1,none⟩) (Kept.set (p:=⟨w,0,none⟩) (Kept.set (p:=⟨w,2,none⟩) (Kept.set (p:=⟨w,1,none⟩) (Kept.set (p:=⟨w,0,none⟩) ar.out (fun h=>absurd h.1 (CJ _)) _) (fun h=>absurd h.1 (CJ _)) _) (fun h=>absurd h.1 (CJ _)) _) (fun h=>absurd h.1 (CJ _)) _) (fun h=>absurd h.1 (CJ _)) _) (fun h=>absurd h.1 (CJ _)) _)⟩
 ·have hb:(ge != 0)=true:=bne_iff_ne.mpr he;have HG:Hid (CG ls lf bs at_=(⟨0,0,0⟩,false,ge,at_+ga)):=by show _=_;unfold CG;rw[<-ag.out];simp only;rw[Ag he]
  clear he al;go_wp2_with fail;exact Df (K8 rfl _ _ w.heap.size _ #[.int .u8 0,jd,jd] _ (.bool false) (.int .i64 ge) rfl rfl rfl (((L.out.set 0 (.int .u8 0)).set 1 (.int .i64 0)).set 2 (.int .i64 0)) underlying280 rfl Ik) rfl ⟨ow,oq,(Kept.set (p:=⟨w,2,none⟩) (Kept.set (p:=⟨w,1,none⟩) (Kept.set (p:=⟨w,0,none⟩) aa.out (fun h=>absurd h.1 (CJ _)) _) (fun h=>absurd h.1 (CJ _)) _) (fun h=>absurd h.1 (CJ _)) _)⟩
end Huff
namespace Huff
open Go.RowKit Mem Canon Own
open Toks (Tk Pc Eu EU pw Bd)
theorem eI{X th:Nat}(h:(EG ls X th).2.1=0):0<(EG ls X th).2.2:=by
 unfold EG at h ⊢;cases hf:(List.range ls.length).find? (hit ls X th)with
 |some s=>obtain⟨x,hx,i,_⟩:=Hq.1 (List.find?_some hf);simp only[List.getD_eq_getElem?_getD,hx,Option.getD_some];omega
 |none=>rw[hf]at h;simp only at h;split at h<;>cases h
def Ka(t:Tk):Prop:=Bd t.lit t.len t.dist=true/\(0<=t.lit/\t.lit<=255)/\(0<=t.len/\t.len<=257)
theorem Yp(i:lf.length<=12)(bs:List Bool){v at_:Nat}(G:257<=v)(j:v<=264)(h:(EJ lf bs v at_).2.1=0):Ka (EJ lf bs v at_).1/\at_<=(EJ lf bs v at_).2.2:=by
 unfold EJ at h ⊢;simp only at h ⊢;split at h
 ·cases h
 ·rename_i h1;rw[Ae h1];split at h
  ·rename_i h2;exact absurd h h2
  ·rename_i h2;rw[Ae h2];split at h
   ·cases h
   ·rename_i h3;rw[Ae h3];obtain⟨s,hs,E⟩:=Ng lf _ _ (Decidable.not_not.1 h2);rw[hs]at h h3 ⊢;rw[Br]at h h3 ⊢;have b1:=GS bs at_ (v-257);have b2:=GS bs (at_+(v-257)+(EG lf (head bs (at_+(v-257))) (there bs (at_+(v-257)))).2.2) s;generalize AN bs at_ (v-257)=x at *;generalize AN bs (at_+(v-257)+(EG lf (head bs (at_+(v-257))) (there bs (at_+(v-257)))).2.2) s=y at *;have p1:pw ((v:Int)-257)=((2 ^ (v-257):Nat):Int):=(by unfold pw;rw[show((v:Int)-257).toNat=v-257 by omega]);have p2:pw (s:Int)=((2 ^ s:Nat):Int):=(by unfold pw;rw[Br]);have q1:2 ^ (v-257)<=2 ^ 7:=Cf nB nB;have q2:2 ^ s<=2 ^ 11:=Cf nB nB;have q3:=Gk (v-257);have q4:=Gk s;have hj:=(Toks.Vk ⟨(v:Int),(x:Int),(s:Int),(y:Int)⟩ pU pU pU pU (by simp only;rw[p1];omega) (by simp only;rw[p2];omega)).1;simp only at hj;rw[p1,p2]at hj;generalize 2 ^ (v-257)=P at *;generalize 2 ^ s=Q at *;refine⟨?_,by show at_<=at_+(v-257)+_+s;omega⟩;rw[hj];refine⟨?_,⟨pR,pR⟩,⟨pU,pU⟩⟩;unfold Bd;simp only;rw[Ae nB,decide_eq_true_eq];exact⟨jm,nB,nB,nB,nB⟩
theorem QR(J:ls.length<=265)(E:lf.length<=12)(bs:List Bool){at_:Nat}(h:(CG ls lf bs at_).2.2.1=0):
 ((CG ls lf bs at_).2.1=true->Ka (CG ls lf bs at_).1)/\at_<(CG ls lf bs at_).2.2.2:=by
 have j:=Ng ls (head bs at_) (there bs at_);have i:=eI (ls:=ls) (X:=head bs at_) (th:=there bs at_);unfold CG at h ⊢;simp only at h ⊢;generalize EG ls (head bs at_) (there bs at_)=G at *;obtain⟨gv,ge,ga⟩:=G;simp only at h j i ⊢;by_cases h1:ge=0
 ·subst h1;obtain⟨s,rfl,hs⟩:=j rfl;have ha:=i rfl;rw[Ae pR]at h ⊢;by_cases h2:(s:Int)=256
  ·rw[Ag h2];exact⟨fun e=>(by cases e),pU⟩
  ·rw[Ae h2]at h ⊢;by_cases h3:(s:Int)<256
   ·rw[Ag h3];refine⟨fun _=>⟨?_,⟨pU,pU⟩,⟨pR,pR⟩⟩,pU⟩;unfold Bd;simp
   ·rw[Ae h3,Br]at h ⊢;have hm:=Yp E bs (v:=s) (at_:=at_+ga) nB nB h;exact⟨fun _=>hm.1,pU⟩
 ·rw[Ag h1]at h;exact absurd h h1
def Fg(ls lf:List Nat)(bs:List Bool):Nat->Int->List Tk->Nat->List Tk×Int
 |0,_,_,_=>([],0)
 |f+1,most,out,at_=>
  let R:=CG ls lf bs at_
  if R.2.2.1≠0 then([],R.2.2.1)
  else if R.2.1=false then(if FZ bs R.2.2.2=0 then(out,0)else([],2))
  else if most-max 1 R.1.len<0 then([],6)
  else Fg ls lf bs f (most-max 1 R.1.len) (out++ [R.1]) R.2.2.2
def Cy(lb:List Nat)(most:Int):List Tk×Int:=
 if most<0 then([],13)else
 if(Bz (Bv lb) 265 266 [] false 0).2.1≠0 then([],(Bz (Bv lb) 265 266 [] false 0).2.1)else
 if(Bz (Bv lb) 12 13 [] false (Bz (Bv lb) 265 266 [] false 0).2.2).2.1≠0 then([],(Bz (Bv lb) 12 13 [] false (Bz (Bv lb) 265 266 [] false 0).2.2).2.1)else
 Fg (Bz (Bv lb) 265 266 [] false 0).1 (Bz (Bv lb) 12 13 [] false (Bz (Bv lb) 265 266 [] false 0).2.2).1 (Bv lb) ((Bv lb).length+1) most [] (Bz (Bv lb) 12 13 [] false (Bz (Bv lb) 265 266 [] false 0).2.2).2.2
def Cu:List Tk->Int
 | []=>0
 |t :: ts=>max 1 t.len+Cu ts
theorem X6(ts:List Tk)(t:Tk):Cu (ts++ [t])=Cu ts+max 1 t.len:=by
 induction ts with
 |nil=>simp[Cu]
 |cons a ts ih=>rw[En,Cu,Cu,ih];omega
theorem QF{ls lf:List Nat}(j:ls.length<=265)(E:lf.length<=12)(bs:List Bool)(i:Int)(h0:0<=i):∀ (f:Nat) (most:Int) (out:List Tk) (at_:Nat),0<=most->Cu out+most=i->(∀t∈out,Ka t)->∀ts e,Fg ls lf bs f most out at_=(ts,e)->
 (e=0->(∀t∈ts,Ka t)/\Cu ts<=i)/\(e≠0->ts= [])
 |0,most,out,at_,hm,hs,hall,ts,e,h=>by rw[Fg]at h;injection h with h1 h2;subst h1 h2;exact⟨fun _=>⟨fun t ht=>(by cases ht),by simp only[Cu];omega⟩,fun _=>rfl⟩
 |f+1,most,out,at_,hm,hs,hall,ts,e,h=>by
  rw[Fg]at h;split at h
  ·rename_i h1;injection h with e1 e2;subst e1 e2;exact⟨fun e=>absurd e h1,fun _=>rfl⟩
  ·rename_i h1;have G:=QR j E bs (Decidable.not_not.1 h1);split at h
   ·split at h
    ·injection h with e1 e2;subst e1 e2;exact⟨fun _=>⟨hall,nB⟩,fun e=>absurd rfl e⟩
    ·injection h with e1 e2;subst e1 e2;exact⟨fun e=>(by cases e),fun _=>rfl⟩
   ·rename_i h2;have h2:(CG ls lf bs at_).2.1=true:=qi;split at h
    ·injection h with e1 e2;subst e1 e2;exact⟨fun e=>(by cases e),fun _=>rfl⟩
    ·rename_i h3;refine QF j E bs i h0 f _ _ _ nB (by rw[X6];omega) ?_ ts e h;intro t ht;rw[Bx,Em]at ht;rcases ht with ht|rfl
     ·exact hall t ht
     ·exact G.1 h2
theorem Pq(lb:List Nat)(most:Int):((Cy lb most).2=0->(∀t∈(Cy lb most).1,Ka t)/\Cu (Cy lb most).1<=most)/\((Cy lb most).2≠0->(Cy lb most).1= []):=by
 unfold Cy;split
 ·exact⟨fun e=>(by cases e),fun _=>rfl⟩
 ·rename_i h0;split
  ·rename_i h1;exact⟨fun e=>absurd e h1,fun _=>rfl⟩
  ·rename_i h1;split
   ·rename_i h2;exact⟨fun e=>absurd e h2,fun _=>rfl⟩
   ·rename_i h2;have k1:=Ji (bs:=Bv lb) (n:=265) 266 [] false 0 pR pR (Decidable.not_not.1 h1);have k2:=Ji (bs:=Bv lb) (n:=12) 13 [] false (Bz (Bv lb) 265 266 [] false 0).2.2 pR pR (Decidable.not_not.1 h2);exact QF (by rw[k1.2];omega) (by rw[k2.2];omega) (Bv lb) most nB _ most [] _ nB (by simp[Cu]) (fun t ht=>(by cases ht)) _ _ rfl
end Huff
namespace Huff
open Go.RowKit Mem Canon Own
open Toks (Tk Pc Eu EU pw Bd)
def Lv(R:List Tk×Int)(w:World)(e:Ending)(w':World):Prop:=
 ∃v,e= .returned (.tuple #[v,R.2])/\w'.ownsRow w 280 3 v R.1.length (Dp R.1)/\Below w w w'
theorem dJ(bs:List Bool)(at_:Nat):FZ bs at_=0∨FZ bs at_=2:=by unfold FZ;split<;>simp
theorem XK{bs:List Bool}{at_:Nat}{out:List Tk}{T:Tk×Bool×Int×Nat}(h:CG ls lf bs at_=T)(he:T.2.2.1≠0):Fg ls lf bs (f+1) M out at_=([],T.2.2.1):=by rw[Fg,h,Ag he]
theorem Xs{bs:List Bool}{at_:Nat}{out:List Tk}{T:Tk×Bool×Int×Nat}(h:CG ls lf bs at_=T)(he:T.2.2.1=0)(hm:T.2.1=false):Fg ls lf bs (f+1) M out at_=if FZ bs T.2.2.2=0 then(out,0)else([],2):=by rw[Fg,h,Ae (by rw[he];simp),Ag hm]
theorem iR{bs:List Bool}{at_:Nat}{out:List Tk}{T:Tk×Bool×Int×Nat}(h:CG ls lf bs at_=T)(he:T.2.2.1=0)(hm:T.2.1=true)(hl:M-max 1 T.1.len<0):Fg ls lf bs (f+1) M out at_=([],6):=by rw[Fg,h,Ae (by rw[he];simp),Ae (by rw[hm];simp),Ag hl]
theorem lM{bs:List Bool}{at_:Nat}{out:List Tk}{T:Tk×Bool×Int×Nat}(h:CG ls lf bs at_=T)(he:T.2.2.1=0)(hm:T.2.1=true)(hl:¬M-max 1 T.1.len<0):Fg ls lf bs (f+1) M out at_=Fg ls lf bs f (M-max 1 T.1.len) (out++ [T.1]) T.2.2.2:=by rw[Fg,h,Ae (by rw[he];simp),Ae (by rw[hm];simp),Ae hl]
theorem Sw(w:World)(A:Option Addr)(n c:Nat)(lb:List Nat)(most:Int)(cm:0<=most)(cl:most<=9223372036854775807)(hn:lb.length=n)(hN:n<=100000)(h8:∀x∈lb,x<=255)(bg:A=none->n=0/\c=0)(ha:Row w w A n 1 (kZ .u8 lb)):
 Calls prog 299 #[.slice A n c,most] w (Lv (Cy lb most) w):=by
 obtain⟨j0,cB,cp,cz,cA⟩:=info_parts MO;have C1:=hid (SD w A n c lb hn hN h8 bg ha);have cT:(Bv lb).length<=800000:=by rw[EY,hn];omega
 obtain⟨RT,ah⟩:=jc (Cy lb most);rw[<-ah];unfold Cy at ah;rw[Ae nB]at ah;clear hn h8 bg ha;generalize Bv lb=bs at *;have a6:=Ji (bs:=bs) (n:=265) 266 [] false 0 pR pR;have D1:=hid (fun wx gr g lo (h1:lo<=g) h2 h3=>S0 wx gr lo g bs 0 265 nB nB h1 h2 h3)
 change Hid (∀wx gr g lo,lo<=g->_->Rd wx lo g bs 0->Calls _ _ _ _ (Ni (Bz bs 265 266 [] false 0) lo g bs wx))at D1
 generalize Bz bs 265 266 [] false 0=R1 at D1 a6 ah;obtain⟨ls,e1,a1⟩:=R1;simp only at a6 ah;have a4:=Ji (bs:=bs) (n:=12) 13 [] false a1 pR pR;have D2:=hid (fun wx gr g lo (h1:lo<=g) h2 h3=>S0 wx gr lo g bs a1 12 nB nB h1 h2 h3)
 change Hid (∀wx gr g lo,lo<=g->_->Rd wx lo g bs a1->Calls _ _ _ _ (Ni (Bz bs 12 13 [] false a1) lo g bs wx))at D2
 generalize Bz bs 12 13 [] false a1=R2 at D2 a4 ah;obtain⟨lf,e2,a2⟩:=R2;simp only at a4 ah;have av:=hid ah;have b8:=hid a6;have bW:=hid a4;clear ah a6 a4;go_enter func299,ntmps299;go_wp2_with fail;refine C1.out.mono ?_;rintro e w1 ⟨g,rfl,bm,hg,bC⟩;have z1:=bC.size;have cS:=bm.lt;go_wp2_with fail;have am:Below w1 w1 (w1.alloc (.cells #[.pointer (some ⟨g,0,none⟩), .pointer none, .pointer none] 419)):=cZ (Ak _ _);have an:Blk (w1.alloc (.cells #[.pointer (some ⟨g,0,none⟩), .pointer none, .pointer none] 419)) w1 419 #[.pointer (some ⟨g,0,none⟩), .pointer none, .pointer none]:=Blk.made _ _ _;generalize w1.alloc (.cells #[.pointer (some ⟨g,0,none⟩), .pointer none, .pointer none] 419)=w2 at *;have b6:Rd w2 w g bs 0:=bm.keep (fun b _ h=>am.block b nB) hg;have z2:=an.lt;have be:Below w w w2:=bC.trans (am.mono z1);refine(D1.out w2 w1 g w hg (an.cell 0) b6).mono ?_;rintro e w3 ⟨Q,bu,a9⟩;simp only at Q bu;have z3:=a9.size;have N:Blk w3 w1 _ _:=(a9.block w1 ⟨nB,nB⟩).trans an;have p0:=N.iy 0;have p1:=N.iy 1;have p2:=N.iy 2;have f1:=N.frozen 1;have f2:=N.frozen 2;have bn:=hid be;have bj:=hid a9;have aw:=hid N;have b1:=hid bu;clear bm b6 bC am an be a9 N bu C1 D1;rcases Q with ⟨ay,rfl⟩|⟨ay,gs,rfl,cd⟩
 ·have hb:(e1 != 0)=true:=bne_iff_ne.mpr ay;have ae:Hid (RT=([],e1)):=by show _=_;rw[av.out,Ag ay]
  clear ay av;go_wp2_with fail;go_ret2;rw[ae.out];exact⟨_,rfl,AE _ _ _ _,BN (p:=⟨w1,1,none⟩) z1 (bn.out.trans (bj.out.below (fun b h=>⟨nB,nB⟩)))⟩
 ·subst ay;obtain⟨bh,ba⟩:=b8.out rfl;have cg:=hid cd;have bN:=hid bh;have cj:=hid ba;clear cd bh ba b8;go_wp2_with fail;have az:=aw.out.set 1 (.pointer (some ⟨gs,0,none⟩));have ak:Kept (fun x=>x<w1.heap.size∨w1.heap.size<x) w3 (w3.setCell ⟨w1,1,none⟩ (.pointer (some ⟨gs,0,none⟩))):=(Kept.refl _ _).set (fun h=>by have h:w1.heap.size<w1.heap.size∨w1.heap.size<w1.heap.size:=h;omega) _;have cq:=ak.size;generalize w3.setCell ⟨w1,1,none⟩ (.pointer (some ⟨gs,0,none⟩))=w4 at *;have b7:Rd w4 w g bs a1:=b1.out.keep (fun b h1 h2=>ak.block b (by left;omega)) hg;have bf:Hid (Coder w4 w2 w3 gs ls):=cg.out.keep (fun b h1 h2=>ak.block b (by right;omega));have ci:Hid (Below w w w4):=(bn.out.trans (bj.out.below (fun b h=>⟨nB,nB⟩))).trans (ak.below (fun b h=>by left;omega));clear p0 p1 p2 f1 f2 aw b1 cg bn bj;refine(D2.out w4 w1 g w hg (az.cell 0) b7).mono ?_;rintro e w5 ⟨Q,bF,a3⟩;simp only at Q bF;have z5:=a3.size;have ac:Blk w5 w1 _ _:=(a3.block w1 ⟨nB,nB⟩).trans az;have p0:=ac.cell 0;have p1:=ac.cell 1;have p2:=ac.cell 2;have f2:=ac.frozen 2;simp at p0 p1 p2;have bk:Hid (Below w w w5):=ci.out.trans (a3.below (fun b h=>⟨nB,nB⟩));have bc:Hid (Coder w5 w2 w3 gs ls):=bf.out.kept a3 (fun b h1 h2=>⟨nB,nB⟩);have ax:=hid ac;have bp:=hid bF;clear b7 ak az bF ac a3 ci bf D2;rcases Q with ⟨a0,rfl⟩|⟨a0,gf,rfl,b9⟩
  ·have hb:(e2 != 0)=true:=bne_iff_ne.mpr a0;have ae:Hid (RT=([],e2)):=(by show _=_;rw[av.out,Ae pR,Ag a0]);clear a0 av;go_wp2_with fail;go_ret2;rw[ae.out];exact⟨_,rfl,AE _ _ _ _,BN (p:=⟨w1,2,none⟩) z1 bk.out⟩
  ·subst a0;obtain⟨bd,ce⟩:=bW.out rfl;have bG:=hid b9;have b5:=hid bd;have b3:=hid ce;have ae:Hid (RT=Fg ls lf bs (bs.length+1) most [] a2):=(by show _=_;rw[av.out,Ae pR,Ae pR]);clear b9 bd ce bW av;have cf:a2<=bs.length:=(by obtain⟨A',n',c',l',h1,h2,h3,h4,h5,h6,h7⟩:=bp.out;rw[h5,EY,h3];exact h6);go_wp2_with fail;have bi:=ax.out.set 2 (.pointer (some ⟨gf,0,none⟩));have af:Kept (fun x=>x<w1.heap.size∨w1.heap.size<x) w5 (w5.setCell ⟨w1,2,none⟩ (.pointer (some ⟨gf,0,none⟩))):=(Kept.refl _ _).set (fun h=>by have h:w1.heap.size<w1.heap.size∨w1.heap.size<w1.heap.size:=h;omega) _;have co:=af.size;generalize w5.setCell ⟨w1,2,none⟩ (.pointer (some ⟨gf,0,none⟩))=w6 at *;have cc:Hid (Rd w6 w g bs a2):=bp.out.keep (fun b h1 h2=>af.block b (by left;omega)) hg;have b4:Hid (Coder w6 w2 w6 gs ls):=Coder.mono (bc.out.keep (fun b h1 h2=>af.block b (by right;omega))) (Am _) nB;have bX:Hid (Coder w6 w2 w6 gf lf):=Coder.mono (bG.out.keep (fun b h1 h2=>af.block b (by right;omega))) nB nB;have a5:Hid (Below w w w6):=bk.out.trans (af.below (fun b h=>by left;omega));have z6:w1.heap.size<w2.heap.size/\w2.heap.size<=w6.heap.size:=nB;have U:=hid bi;clear p0 p1 p2 f2 ax bp bc bG bk af bi co cq z5 z3;generalize w1.heap.size=gr at *;generalize w2.heap.size=cC at *;go_wp2_with fail;go_loopw [1,4] (fun m u wr=>∃ (f at_ k:Nat) (M:Int) (out:List Tk),(0<=M/\M<=9223372036854775807)/\m= .int .i64 M/\k<=at_/\at_<=bs.length/\Hid (out.length=k)/\wr.ownsRow w6 280 3 u k (Dp out)/\Hid (bs.length+1<=f+at_)/\Hid (Fg ls lf bs f M out at_=RT)/\Hid (Rd wr w g bs at_)/\Hid (Kept (fun x=>x<w6.heap.size/\x≠g) w6 wr)) (fun m _ _=>(intOf m).toNat)
   case atStart=>exact⟨bs.length+1,a2,0,most,[],⟨cm,cl⟩,rfl,nB,cf,rfl,AE _ _ _ _,pE,ae.out.symm,cc.out,Kept.refl _ _⟩
   case round=>
    clear cc ae;obtain⟨f,at_,k,M,out,⟨cH,cJ⟩,rfl,cP,cG,bb,J,hf,aj,b0,ai⟩:=hrel;obtain⟨f,rfl⟩:∃f',f=f'+1:=⟨f-1,by have:=hf.out;omega⟩;have ct:=ai.out.size;have aq:Blk wr gr _ _:=(ai.out.block gr ⟨nB,nB⟩).trans U.out;have C3:=Zz wr gr w g cC w6 gs gf ls lf bs at_ hg (aq.cell 0) (aq.cell 1) (aq.cell 2) nB nB bN.out (by rw[cj.out];omega) (b4.out.kept ai.out (fun b h1 h2=>⟨nB,nB⟩)) b5.out (by rw[b3.out];omega) (bX.out.kept ai.out (fun b h1 h2=>⟨nB,nB⟩)) ct (fun b h1 h2=>by omega) b0.out;have aa:=QR (ls:=ls) (lf:=lf) (by rw[cj.out];omega) (by rw[b3.out];omega) bs (at_:=at_);unfold VA at C3;clear aq;have al:=fun he hm=>Xs (T:=CG ls lf bs at_) (bs:=bs) (f:=f) (M:=M) (out:=out) rfl he hm;have ar:=fun he=>XK (T:=CG ls lf bs at_) (bs:=bs) (f:=f) (M:=M) (out:=out) rfl he;have Z:=fun he hm hl=>iR (T:=CG ls lf bs at_) (bs:=bs) (f:=f) (M:=M) (out:=out) rfl he hm hl;have G:=fun he hm hl=>lM (T:=CG ls lf bs at_) (bs:=bs) (f:=f) (M:=M) (out:=out) rfl he hm hl;generalize CG ls lf bs at_=T at *;obtain⟨⟨lit,len,dist⟩,more,te,ta⟩:=T;simp only[Toks.Tk.val]at C3 aa al ar Z G;have C3:=hid C3;by_cases he:te=0
    ·subst he;clear ar;obtain⟨aa,cE⟩:=aa rfl;cases more
     ·have E:=al rfl rfl;rw[aj.out]at E;have ab:=hid E;clear al Z G E aj aa;go_wp2_with fail;refine C3.out.mono ?_;rintro e w7 ⟨rfl,Y,i⟩;have z7:=i.size;have L:Kept (fun x=>x<w6.heap.size/\x≠g) w6 w7:=ai.out.trans ⟨i.os,i.tape,i.output,i.size,fun b h=>i.block b ⟨mU,h.2⟩⟩;have au:Hid (Below w w w7):=a5.out.trans (L.below (fun b h=>⟨nB,nB⟩));have ag:Blk w7 gr _ _:=(L.block gr ⟨nB,nB⟩).trans U.out;have j:w7.ownsRow w6 280 3 _ k (Dp out):=eZ J (fun x hx=>i.block x mN);have cX:=ag.lt;have p0:=ag.cell 0;simp at p0;go_wp2_with fail;have ca:Hid (Below w w (w7.alloc (.cells #[.int .u8 lit,len,dist] 280))):=mZ nB au.out;have bU:=j.alloc (.cells #[.int .u8 lit,len,dist] 280);have bS:=Y.keep (w':=w7.alloc (.cells #[.int .u8 lit,len,dist] 280)) (fun b _ h=>EA w7 _ b nB) hg;generalize w7.alloc (.cells #[.int .u8 lit,len,dist] 280)=w8 at *;have C4:=WV w8 w g bs ta bS;rcases dJ bs ta with hp|hp
      ·rw[hp]at C4;have bt:Hid (RT=(out,0)):=(by show _=_;rw[ab.out,Ag hp]);have C4:=hid C4;clear hp ab;refine C4.out.mono ?_;rintro e w9 ⟨rfl,q,rfl⟩;go_wp2_with fail;go_ret2;rw[bt.out];refine⟨_,rfl,?_,below_drewN ca.out q⟩;show World.ownsRow _ _ _ _ _ out.length _;rw[bb.out];exact lZ bU nB
      ·rw[hp]at C4;have bt:Hid (RT=([],2)):=(by show _=_;rw[ab.out,Ae (by rw[hp];decide)]);have C4:=hid C4;clear hp ab;refine C4.out.mono ?_;rintro e w9 ⟨rfl,q,rfl⟩;go_wp2_with fail;go_ret2;rw[bt.out];exact⟨_,rfl,AE _ _ _ _,below_drewN ca.out q⟩
     ·obtain⟨hm,⟨cx,cr⟩,cv,ba⟩:=aa rfl;simp only at hm cx cr cv ba;clear al aa;obtain⟨d,hd,cL,c0⟩:∃d:Int,d=max 1 len/\1<=d/\d<=257:=⟨_,rfl,nB,nB⟩;rw[<-hd]at Z G;by_cases hl:M-d<0
      ·have E:=Z rfl rfl hl;rw[aj.out]at E;have ab:=hid E;clear Z G E aj;go_wp2_with fail;refine C3.out.mono ?_;rintro e w7 ⟨rfl,Y,i⟩;have z7:=i.size;have L:Kept (fun x=>x<w6.heap.size/\x≠g) w6 w7:=ai.out.trans ⟨i.os,i.tape,i.output,i.size,fun b h=>i.block b ⟨mU,h.2⟩⟩;have au:Hid (Below w w w7):=a5.out.trans (L.below (fun b h=>⟨nB,nB⟩));have ag:Blk w7 gr _ _:=(L.block gr ⟨nB,nB⟩).trans U.out;have j:w7.ownsRow w6 280 3 _ k (Dp out):=eZ J (fun x hx=>i.block x mN);go_wp2_with fail;go_ret2;rw[ab.out];exact⟨_,rfl,AE _ _ _ _,mZ nB au.out⟩
      ·have E:=G rfl rfl hl;rw[aj.out]at E;have ab:=hid E;clear Z G E aj;go_wp2_with fail;refine C3.out.mono ?_;rintro e w7 ⟨rfl,Y,i⟩;have z7:=i.size;have L:Kept (fun x=>x<w6.heap.size/\x≠g) w6 w7:=ai.out.trans ⟨i.os,i.tape,i.output,i.size,fun b h=>i.block b ⟨mU,h.2⟩⟩;have au:Hid (Below w w w7):=a5.out.trans (L.below (fun b h=>⟨nB,nB⟩));have ag:Blk w7 gr _ _:=(L.block gr ⟨nB,nB⟩).trans U.out;have j:w7.ownsRow w6 280 3 _ k (Dp out):=eZ J (fun x hx=>i.block x mN);have ch:k+1<=ta:=nB;have bO:ta<=bs.length:=(by obtain⟨A',n',c',l',h1,h2,h3,h4,h5,h6,h7⟩:=Y;rw[h5,EY,h3];exact h6);obtain⟨va,vc,rfl⟩:=aZ j;have bq:=hid j;have cu:=hid Y;have cw:=hid L;clear j Y L i J ai b0 ag;go_wp2_with(at_builtin;refine fZ rfl (.tmp 57) (.tmp 59) 190 rfl w6 280 j0 _ 3 24 underlying190 cB cp cz cA rfl ji _ _ _ nC ((bq.out.alloc _).alloc _) _ 1 1 [.int .u8 lit, .int .i64 len, .int .i64 dist] nC (Src.of_blk (g:=w7.heap.size+1) (Blk.made_at _ _ _ pR) 1 1 3 rfl) m8 qn nB p5 ?_;intro v4 w9 bl bM cF);go_roundw
       case measure=>go_light;show(M-max 1 len).toNat<M.toNat;omega
       case rel=>
        go_light;have cy:∀b,(b<w6.heap.size/\b≠g)->b<((w7.alloc (.cells #[.int .u8 lit,len,dist] 280)).alloc (.cells #[.int .u8 lit,len,dist] 280)).heap.size:=(by intro b h;have:=h.1;simp;omega);refine⟨f,ta,k+1,M-d,out++ [⟨lit,len,dist⟩],⟨hl,nB⟩,by rw[hd],ch,bO,?_,?_,?_,hid ab.out.symm,?_,?_⟩
        ·show(out++ [_]).length=k+1;rw[Aj,bb.out];rfl
        ·rw[Jw];exact bl
        ·show _<=_;have:=hf.out;omega
        ·exact cu.out.keep (fun b _ h2=>(bM.block b p5 (fun h=>by have:=(Ai bq.out b h.symm).1;omega)).trans ((EA _ _ b p5).trans (EA w7 _ b nB))) hg
        ·exact((cw.out.alloc (fun b h=>by have:=h.1;omega) _).alloc (fun b h=>by have:=h.1;simp;omega) _).grown bM cy (fun b hb hh=>by have:=(Ai bq.out b hb).1;have:=hh.1;omega)
    ·have hb:(te != 0)=true:=bne_iff_ne.mpr he;have E:=ar he;rw[aj.out]at E;have ab:=hid E;clear al Z G E aj aa he ar;go_wp2_with fail;refine C3.out.mono ?_;rintro e w7 ⟨rfl,Y,i⟩;have z7:=i.size;have L:Kept (fun x=>x<w6.heap.size/\x≠g) w6 w7:=ai.out.trans ⟨i.os,i.tape,i.output,i.size,fun b h=>i.block b ⟨mU,h.2⟩⟩;have au:Hid (Below w w w7):=a5.out.trans (L.below (fun b h=>⟨nB,nB⟩));have ag:Blk w7 gr _ _:=(L.block gr ⟨nB,nB⟩).trans U.out;have j:w7.ownsRow w6 280 3 _ k (Dp out):=eZ J (fun x hx=>i.block x mN);go_wp2_with fail;go_ret2;rw[ab.out];exact⟨_,rfl,AE _ _ _ _,mZ nB au.out⟩
end Huff
end Go.Proofs.YtfgdoknipbpfhaaGreatDoor
