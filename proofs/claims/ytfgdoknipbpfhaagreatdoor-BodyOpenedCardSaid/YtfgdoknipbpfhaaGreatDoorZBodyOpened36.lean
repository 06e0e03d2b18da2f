/- The walks of toks' r -/
import Derived.Test.YtfgdoknipbpfhaaGreatDoorZBodyOpened35
import Derived.Test.YtfgdoknipbpfhaaGreatDoorZBodyOpened13
namespace Go.Proofs.YtfgdoknipbpfhaaGreatDoor
open Go.Proofs.Tryz
open Go.Lib (hid)
set_option maxHeartbeats 2000000
set_option maxRecDepth 100000
variable{lf ls:List Nat}{f:Nat}{M:Int}
namespace Huff
open Go.RowKit Mem Canon Own
open Toks (Tk Pc Du Em pw)
theorem Y6{w:World}{base c n:Nat}{A:Option Addr}(ho:w.ownsRow base 5 1 (.slice A n c) ls.length (cZ .u8 ls)):ls.length=n/\Row w w A n 1 (jZ .u8 ls)/\(A=none->n=0):=by
 have hn:ls.length=n:=by
  rcases ho.2 with ⟨hv,hx⟩|⟨g,y,cur,hv,_⟩
  ·injection hv with _ e _;exact hx.trans e.symm
  ·injection hv with _ e _;exact e.symm
 rw[hn]at ho;exact⟨hn,Row.of_own ho rfl (fun i j hi hj=>by have e0:j=0:=mz;subst e0;exact numL_get mz),fun h=>((Ex ho).1 h).1⟩
theorem Jn{bs:List Bool}{n:Nat}:∀ (f:Nat) (out:List Nat) (sh:Bool) (at_:Nat),out.length<=n->n+1<=f+out.length->(Bz bs n f out sh at_).2.1=0->okB (Bz bs n f out sh at_).1=true/\(Bz bs n f out sh at_).1.length=n
 |0,out,sh,at_,h1,h2,_=>mz
 |f+1,out,sh,at_,h1,h2,h3=>by
  rw[Bz]at h3 ⊢;split at h3
  ·rename_i h;rw[Ae h]at ⊢;split at h3
   ·rename_i h4;rw[Ae h4];exact⟨h4,pL⟩
   ·cases h3
  ·rename_i h;rw[Ab h]at ⊢;split at h3
   ·cases h3
   ·rename_i h5;rw[Ab h5];split at h3
    ·rename_i h6;rw[Ae h6];exact Jn f _ _ _ (by rw[Aj];simp;omega) (by rw[Aj];simp;omega) h3
    ·rename_i h6;rw[Ab h6];split at h3
     ·cases h3
     ·rename_i h7;rw[Ab h7];split at h3
      ·cases h3
      ·rename_i h8;rw[Ab h8];have h9:¬n-out.length<=zZ bs (at_+4) 6:=fun e=>h8 (.inr e);exact Jn f _ _ _ (by rw[Aj,Dr];omega) (by rw[Aj,Dr];omega) h3
def L0(R:List Nat×Int×Nat)(lo g:Nat)(bs:List Bool)(w:World)(e:Ending)(w':World):Prop:=
 ((R.2.1≠0/\e= .returned (.tuple #[.pointer none, .int .i64 R.2.1]))∨(R.2.1=0/\∃gc,e= .returned (.tuple #[.pointer (some ⟨gc,0,none⟩), .int .i64 0])/\Coder w' w.heap.size w'.heap.size gc R.1))/\
   Rd w' lo g bs R.2.2/\Kept (fun x=>x<w.heap.size/\x≠g) w w'
theorem Vw(w:World)(gr lo g:Nat)(bs:List Bool)(y n:Nat)(Y:0<n)(hn:n<=300)(U:lo<=g)(ae:w.cell? ⟨gr,0,none⟩=some (.pointer (some ⟨g,0,none⟩)))(hR:Rd w lo g bs y):
 Calls prog 330 #[.pointer (some ⟨gr,0,none⟩), .int .i64 (n:Nat)] w (L0 (Bz bs n (n+1) [] false y) lo g bs w):=by
 have C1:=Zn w lo g bs y n Y hn U hR;have M:=Jn (bs:=bs) (n:=n) (n+1) [] false y pI pI;unfold SX at C1;generalize Bz bs n (n+1) [] false y=R at *;obtain⟨rl,re,ra⟩:=R;simp only at C1 M;have ac:=hR.lt;have C1:=hid C1;have J:=hid M;clear M hR;unfold L0;simp only;by_cases he:re=0
 ·subst he;obtain⟨E,G⟩:=J.out rfl;have aa:=hid E;have af:=hid G;clear E G J;go_enter func330,ntmps330;go_wp2_with fail;refine C1.out.mono ?_;rintro e w1 ⟨v,rfl,i,z,j⟩;have z1:=j.size;obtain⟨A1,c1,rfl⟩:=bZ i;have q1:=Y6 i;have Q:=Ex i;have C2:=hid (new_any w1 A1 _ c1 rl rfl aa.out (fun h=>by have:=Q.1 h;exact this) q1.2.1);have ab:=hid z;have Z:=hid j;clear q1 Q i z j C1;generalize rl.length=nl at *;go_wp2_with fail;refine C2.out.mono ?_;rintro e w2 ⟨gc,rfl,hC,N⟩;go_wp2_with fail;go_ret2;exact⟨.inr ⟨trivial,gc,rfl,hC.mono z1 (Aq _)⟩,ab.out.keep (fun b _ h=>N.block b mz) U,Z.out.trans (Kept.of_below N (fun b h=>by have:=h.1;omega))⟩
 ·have hb:(re != 0)=true:=bne_iff_ne.mpr he;have HE:=hid he;clear he J;go_enter func330,ntmps330;go_wp2_with fail;refine C1.out.mono ?_;rintro e w1 ⟨v,rfl,i,z,j⟩;obtain⟨A1,c1,rfl⟩:=bZ i;clear i;go_wp2_with fail;go_ret2;exact⟨.inl ⟨HE.out,rfl⟩,z,j⟩
def Ep(lf:List Nat)(bs:List Bool)(v at_:Nat):Tk×Int×Nat:=
 if ¬at_+(v-257)<=bs.length then(⟨0,0,0⟩,1,at_)else
 let G:=En lf (head bs (at_+(v-257))) (there bs (at_+(v-257)))
 if G.2.1≠0 then(⟨0,0,0⟩,G.2.1,at_+(v-257)+G.2.2)else
 if ¬at_+(v-257)+G.2.2+G.1.toNat<=bs.length then(⟨0,0,0⟩,1,at_+(v-257)+G.2.2)else
 (Du ⟨v,(zZ bs at_ (v-257):Nat),G.1,(zZ bs (at_+(v-257)+G.2.2) G.1.toNat:Nat)⟩,Em ⟨v,(zZ bs at_ (v-257):Nat),G.1,(zZ bs (at_+(v-257)+G.2.2) G.1.toNat:Nat)⟩,at_+(v-257)+G.2.2+G.1.toNat)
theorem L6(ls:List Nat)(X th:Nat):(En ls X th).2.1=0->∃s:Nat,(En ls X th).1=s/\s<ls.length:=by
 intro h;unfold En at h ⊢;cases hf:(List.range ls.length).find? (hit ls X th)with
 |some s=>have:=List.mem_of_find?_eq_some hf;exact⟨s,rfl,Fm.1 this⟩
 |none=>rw[hf]at h;simp only at h;split at h<;>cases h
theorem Il:(prog.info? 280).map (·.size)=some 3:=mr
def Vm(R:Tk×Int×Nat)(lo g:Nat)(bs:List Bool)(w:World)(e:Ending)(w':World):Prop:=
 e= .returned (.tuple #[R.1.val,R.2.1])/\Rd w' lo g bs R.2.2/\Kept (fun x=>x<w.heap.size/\x≠g) w w'
theorem Y1(w:World)(gr lo g am cB gf:Nat)(lf:List Nat)(bs:List Bool)(v at_:Nat)(ca:257<=v)(b9:v<=264)(af:lo<=g)(bm:w.cell? ⟨gr,0,none⟩=some (.pointer (some ⟨g,0,none⟩)))(bj:w.cell? ⟨gr,2,none⟩=some (.pointer (some ⟨gf,0,none⟩)))(ba:gr<w.heap.size)(an:gr≠g)
 (be:okB lf=true)(bN:lf.length<=12)(hC:Coder w am cB gf lf)(b7:cB<=w.heap.size)(a6:∀b,am<=b->b<cB->b≠g)(hR:Rd w lo g bs at_):
 Calls prog 354 #[.pointer (some ⟨gr,0,none⟩), .int .i64 (v:Nat)] w (Vm (Ep lf bs v at_) lo g bs w):=by
 have bx:=hR.lt;have HR:=hid hR;have HC:=hid hC;have bf:=hid be;have bi:=hid a6;obtain⟨m,hm⟩:=ii (v-257);have aw:(v:Int)-257=(m:Int):=mz
 have s1:IntKind.i64.wrap ((v:Int)-257)=(m:Int):=by rw[Aw _ mz,aw]
 have bu:m<=7:=mz
 have HM:=hid hm;have bq:=hid aw;clear hR hC be hm aw a6;go_enter func354,ntmps354;go_wp2_with fail;have U:Below w w (w.alloc (.cells #[.int .u8 0,ij,ij] 280)):=aZ (Ag _ _);have ae:Blk (w.alloc (.cells #[.int .u8 0,ij,ij] 280)) w 280 #[.int .u8 0,ij,ij]:=Blk.made _ _ _;generalize w.alloc (.cells #[.int .u8 0,ij,ij] 280)=w0 at *;have az:Hid (Rd w0 lo g bs at_):=HR.out.keep (fun b _ h=>U.block b mz) af;have C1:=JG w0 lo g bs at_ m mz az.out;by_cases Y:at_+m<=bs.length
 ·rw[(Gy Y).1,(Gy Y).2.1,(Gy Y).2.2]at C1;have C1:=hid C1;have ax:=hid Y;have bd:=GO bs at_ m;have bg:zZ bs at_ m<256:=Et bd (by have:2 ^ m<=2 ^ 8:=Cl mz mz;omega);obtain⟨x,hx⟩:=ii (zZ bs at_ m);rw[<-hx]at C1 bg;have HX:=hid hx;clear hx bd Y;refine C1.out.mono ?_;rintro e w1 ⟨rfl,ag,Q⟩;have aa:Kept (fun x=>x<w.heap.size/\x≠g) w w1:=(Kept.of_below U (fun _ h=>h.1)).trans ⟨Q.os,Q.tape,Q.output,Q.size,fun b h=>Q.block b h.2⟩;have z:Blk w1 w _ _:=(Q.block w pH).trans ae;have d0:w1.cell? ⟨gr,0,none⟩=some (.pointer (some ⟨g,0,none⟩)):=(World.cell?_of_block (a:=⟨gr,0,none⟩) (aa.block gr ⟨ba,an⟩)).trans bm;have d2:w1.cell? ⟨gr,2,none⟩=some (.pointer (some ⟨gf,0,none⟩)):=(World.cell?_of_block (a:=⟨gr,2,none⟩) (aa.block gr ⟨ba,an⟩)).trans bj;have bc:Coder w1 am cB gf lf:=HC.out.keep (fun b h1 h2=>aa.block b ⟨mz,bi.out b h1 h2⟩);have C2:=Sy w1.drew am cB gf lo g lf bs (at_+m) bf.out bc.drew ag.drew;unfold Nx at C2;have ac:=L6 lf (head bs (at_+m)) (there bs (at_+m));obtain⟨G,hG⟩:=ii (En lf (head bs (at_+m)) (there bs (at_+m)));rw[<-hG]at C2 ac;obtain⟨gv,ge,ga⟩:=G;simp only at C2 ac;have C2:=hid C2;have ay:=hid hG;have ab:=hid z;have al:=hid aa;have av:=hid ac;clear hG bc ag Q aa z ae ac C1 az U HR HC;go_upto_region 4 with fail;go_region_held3 (fun wx=>wx.cell? ⟨gr,0,none⟩=some (.pointer (some ⟨g,0,none⟩))/\wx.cell? ⟨gr,2,none⟩=some (.pointer (some ⟨gf,0,none⟩))) (first|exact⟨d0,d2⟩|exact⟨k0,k2⟩) (first|(go_at_call 353;(with_reducible refine C2.out.mono ?_);rintro e w2 ⟨rfl,a9,Z⟩;have k0:w2.cell? ⟨gr,0,none⟩=some (.pointer (some ⟨g,0,none⟩)):=(World.cell?_of_block (a:=⟨gr,0,none⟩) (Z.block gr an)).trans d0;have k2:w2.cell? ⟨gr,2,none⟩=some (.pointer (some ⟨gf,0,none⟩)):=(World.cell?_of_block (a:=⟨gr,2,none⟩) (Z.block gr an)).trans d2));have bb:Kept (fun x=>x<w.heap.size/\x≠g) w w2:=al.out.trans ((Kept.refl _ w1).drew.trans ⟨Z.os,Z.tape,Z.output,Z.size,fun b h=>Z.block b h.2⟩);have au:Blk w2 w _ _:=(Z.block w pH).trans ab.out.drew;have ar:=hid a9;have ah:=hid bb;have j:=hid au;clear a9 Z bb au ab al C2 d0 d2;by_cases he:ge=0
  ·subst he;obtain⟨s,rfl,hs⟩:=av.out rfl;have a0:s<=11:=mz;have C3:=JG w2 lo g bs (at_+m+ga) s mz ar.out;by_cases J:at_+m+ga+s<=bs.length
   ·rw[(Gy J).1,(Gy J).2.1,(Gy J).2.2]at C3;have a5:=GO bs (at_+m+ga) s;have bS:zZ bs (at_+m+ga) s<4096:=Et a5 (by have:2 ^ s<=2 ^ 11:=Cl mz a0;omega);have HG:Hid (Ep lf bs v at_=(Du ⟨v,(x:Nat),(s:Nat),(zZ bs (at_+m+ga) s:Nat)⟩,Em ⟨v,(x:Nat),(s:Nat),(zZ bs (at_+m+ga) s:Nat)⟩,at_+m+ga+s)):=(by show _=_;unfold Ep;rw[<-HM.out,Ab (fun h=>h ax.out),<-ay.out];simp only[ne_eq,not_true_eq_false,if_false,Int.toNat_natCast];rw[Ab (fun h=>h J),HX.out]);generalize zZ bs (at_+m+ga) s=y at *;have C3:=hid C3;have C4:=hid (fun wx=>Toks.iU ⟨(v:Int),(x:Int),(s:Int),(y:Int)⟩ wx pL pL);generalize Du ⟨(v:Int),(x:Int),(s:Int),(y:Int)⟩=T at *;generalize Em ⟨(v:Int),(x:Int),(s:Int),(y:Int)⟩=E at *;obtain⟨ta,tb,tc⟩:=T;unfold Toks.Tk.val Toks.Pc.val at C4;simp only at C4;clear a5 J;go_wp2_with fail;refine C3.out.mono ?_;rintro e w3 ⟨rfl,aj,M⟩;have aq:=hid aj;have ai:Hid (Kept (fun x=>x<w.heap.size/\x≠g) w w3):=ah.out.trans ⟨M.os,M.tape,M.output,M.size,fun b h=>M.block b h.2⟩;have i:Hid (Blk w3 w 280 #[.int .u8 0,ij,ij]):=(M.block w pH).trans j.out;have cg:=ai.out.size;have b8:=i.out.lt;clear aj M C3 ar ah j;go_wp2_with fail;refine(C4.out _).mono ?_;rintro e w4 ⟨rfl,ak⟩;have bl:Hid (Rd w4 lo g bs (at_+m+ga+s)):=aq.out.keep (fun b _ h=>ak.block b mz) af;have bk:Hid (Kept (fun x=>x<w.heap.size/\x≠g) w w4):=ai.out.trans (Kept.of_below ak (fun b h=>by have:=h.1;omega));have N:Hid (Blk w4 w 280 #[.int .u8 0,ij,ij]):=i.out.step ak;have a4:=N.out.ia 0;have b4:=N.out.ia 1;have c4:=N.out.ia 2;have cd:=N.out.frozen 0;have b6:=N.out.frozen 1;have bn:=N.out.frozen 2;clear ak C4 aq ai i;go_wp2_with fail;exact CI (Canon.results_cell_tmp rfl _ _ w.heap.size _ #[.int .u8 ta,tb,tc] _ (.int .i64 E) rfl rfl (((N.out.set 0 (.int .u8 ta)).set 1 (.int .i64 tb)).set 2 (.int .i64 tc)) underlying280 rfl Il) rfl ⟨oj,by rw[HG.out];exact bl.out.keep (fun b _ h=>((AV _ _ _ b pF).trans (AV _ _ _ b pF)).trans (AV _ _ _ b pF)) af,Kept.set (p:=⟨w,2,none⟩) (Kept.set (p:=⟨w,1,none⟩) (Kept.set (p:=⟨w,0,none⟩) bk.out (fun h=>absurd h.1 (Cz _)) _) (fun h=>absurd h.1 (Cz _)) _) (fun h=>absurd h.1 (Cz _)) _⟩
   ·rw[(Gx J).1,(Gx J).2.1,(Gx J).2.2]at C3;have C3:=hid C3;have HG:Hid (Ep lf bs v at_=(⟨0,0,0⟩,1,at_+m+ga)):=(by show _=_;unfold Ep;rw[<-HM.out,Ab (fun h=>h ax.out),<-ay.out];simp only[ne_eq,not_true_eq_false,if_false,Int.toNat_natCast];rw[Ae J]);clear J;go_wp2_with fail;refine C3.out.mono ?_;rintro e w3 ⟨rfl,aj,M⟩;have aq:=hid aj;have ai:Hid (Kept (fun x=>x<w.heap.size/\x≠g) w w3):=ah.out.trans ⟨M.os,M.tape,M.output,M.size,fun b h=>M.block b h.2⟩;have i:Hid (Blk w3 w 280 #[.int .u8 0,ij,ij]):=(M.block w pH).trans j.out;have a3:=i.out.ia 0;have b3:=i.out.ia 1;have c3:=i.out.ia 2;have b0:=i.out.frozen 0;have b5:=i.out.frozen 1;have cc:=i.out.frozen 2;clear aj M C3 ar ah j;go_wp2_with fail;exact CI (Canon.results_cell_tmp rfl _ _ w.heap.size _ #[.int .u8 0,ij,ij] _ (.int .i64 1) rfl rfl (((i.out.set 0 (.int .u8 0)).set 1 (.int .i64 0)).set 2 (.int .i64 0)) underlying280 rfl Il) rfl ⟨oj,by rw[HG.out];exact aq.out.keep (fun b _ h=>((AV _ _ _ b pF).trans (AV _ _ _ b pF)).trans (AV _ _ _ b pF)) af,Kept.set (p:=⟨w,2,none⟩) (Kept.set (p:=⟨w,1,none⟩) (Kept.set (p:=⟨w,0,none⟩) ai.out (fun h=>absurd h.1 (Cz _)) _) (fun h=>absurd h.1 (Cz _)) _) (fun h=>absurd h.1 (Cz _)) _⟩
  ·have hb:(ge != 0)=true:=bne_iff_ne.mpr he;have HG:Hid (Ep lf bs v at_=(⟨0,0,0⟩,ge,at_+m+ga)):=(by show _=_;unfold Ep;rw[<-HM.out,Ab (fun h=>h ax.out),<-ay.out];simp only;rw[Ae he]);clear he av;have a2:=j.out.ia 0;have b2:=j.out.ia 1;have c2:=j.out.ia 2;have cf:=j.out.frozen 0;have bt:=j.out.frozen 1;have ci:=j.out.frozen 2;go_wp2_with fail;exact CI (Canon.results_cell_tmp rfl _ _ w.heap.size _ #[.int .u8 0,ij,ij] _ (.int .i64 ge) rfl rfl (((j.out.set 0 (.int .u8 0)).set 1 (.int .i64 0)).set 2 (.int .i64 0)) underlying280 rfl Il) rfl ⟨oj,by rw[HG.out];exact ar.out.keep (fun b _ h=>((AV _ _ _ b pF).trans (AV _ _ _ b pF)).trans (AV _ _ _ b pF)) af,Kept.set (p:=⟨w,2,none⟩) (Kept.set (p:=⟨w,1,none⟩) (Kept.set (p:=⟨w,0,none⟩) ah.out (fun h=>absurd h.1 (Cz _)) _) (fun h=>absurd h.1 (Cz _)) _) (fun h=>absurd h.1 (Cz _)) _⟩
 ·rw[(Gx Y).1,(Gx Y).2.1,(Gx Y).2.2]at C1;have C1:=hid C1;have HG:Hid (Ep lf bs v at_=(⟨0,0,0⟩,1,at_)):=by show _=_;unfold Ep;rw[<-HM.out,Ae Y]
  clear Y;refine C1.out.mono ?_;rintro e w1 ⟨rfl,ag,Q⟩;have aa:Kept (fun x=>x<w.heap.size/\x≠g) w w1:=(Kept.of_below U (fun _ h=>h.1)).trans ⟨Q.os,Q.tape,Q.output,Q.size,fun b h=>Q.block b h.2⟩;have z:Blk w1 w _ _:=(Q.block w pH).trans ae;have a1:=z.ia 0;have b1:=z.ia 1;have c1:=z.ia 2;have bp:=z.frozen 0;have ce:=z.frozen 1;have bC:=z.frozen 2;have bh:=hid ag;have al:=hid aa;have ab:=hid z;clear ag Q aa z ae C1 az U HR HC;go_wp2_with fail;exact CI (Canon.results_cell_tmp rfl _ _ w.heap.size _ #[.int .u8 0,ij,ij] _ (.int .i64 1) rfl rfl (((ab.out.set 0 (.int .u8 0)).set 1 (.int .i64 0)).set 2 (.int .i64 0)) underlying280 rfl Il) rfl ⟨oj,by rw[HG.out];exact bh.out.keep (fun b _ h=>((AV _ _ _ b pF).trans (AV _ _ _ b pF)).trans (AV _ _ _ b pF)) af,Kept.set (p:=⟨w,2,none⟩) (Kept.set (p:=⟨w,1,none⟩) (Kept.set (p:=⟨w,0,none⟩) al.out (fun h=>absurd h.1 (Cz _)) _) (fun h=>absurd h.1 (Cz _)) _) (fun h=>absurd h.1 (Cz _)) _⟩
end Huff
namespace Huff
open Go.RowKit Mem Canon Own
open Toks (Tk Pc Du Em pw)
theorem LA{P:Program}{fn:Func}{p q r:Tmp}{ty:TypeId}(h:fn.results=#[.cell p ty, .tmp q, .tmp r])(i:Array Value)(w:World)(g:Nat)(t:TypeId)(cs:Array Value)(d:TypeDesc)(u v:Value)
 (hp:i.getD p undef= .pointer (some ⟨g,0,none⟩))(hq:i.getD q undef=u)(hr:i.getD r undef=v)(hg:Blk w g t cs)
 (hu:P.underlying ty=some d)(hd:(match d with| .struct _| .array _ _=>true|_=>false)=true)(hi:(P.info? ty).map (·.size)=some cs.size):
 (results fn i).run P w= .ok (.tuple #[.agg cs,u,v]) w:=by
 have j:i[p]?.getD undef= .pointer (some ⟨g,0,none⟩):=by simpa using hp
 have y:i[q]?.getD undef=u:=by simpa using hq
 have z:i[r]?.getD undef=v:=by simpa using hr
 simp[results,h,j,y,z,asAddr,run_loadVar_row w g t ty cs (0,0) d hg hu hd hi]
def Cy(ls lf:List Nat)(bs:List Bool)(at_:Nat):Tk×Bool×Int×Nat:=
 let G:=En ls (head bs at_) (there bs at_)
 if G.2.1≠0 then(⟨0,0,0⟩,false,G.2.1,at_+G.2.2)else
 if G.1=256 then(⟨0,0,0⟩,false,0,at_+G.2.2)else
 if G.1<256 then(⟨G.1,0,0⟩,true,0,at_+G.2.2)else
 let M:=Ep lf bs G.1.toNat (at_+G.2.2)
 (M.1,decide (M.2.1=0),M.2.1,M.2.2)
def Rv(R:Tk×Bool×Int×Nat)(lo g:Nat)(bs:List Bool)(w:World)(e:Ending)(w':World):Prop:=
 e= .returned (.tuple #[R.1.val,R.2.1,R.2.2.1])/\Rd w' lo g bs R.2.2.2/\Kept (fun x=>x<w.heap.size/\x≠g) w w'
theorem YH(w:World)(gr lo g Q cB gs gf:Nat)(ls lf:List Nat)(bs:List Bool)(at_:Nat)(N:lo<=g)(bg:w.cell? ⟨gr,0,none⟩=some (.pointer (some ⟨g,0,none⟩)))(bb:w.cell? ⟨gr,1,none⟩=some (.pointer (some ⟨gs,0,none⟩)))(bd:w.cell? ⟨gr,2,none⟩=some (.pointer (some ⟨gf,0,none⟩)))(al:gr<w.heap.size)(ac:gr≠g)
 (aj:okB ls=true)(bj:ls.length<=265)(am:Coder w Q cB gs ls)(a5:okB lf=true)(bc:lf.length<=12)(hC:Coder w Q cB gf lf)(bf:cB<=w.heap.size)(an:∀b,Q<=b->b<cB->b≠g)(hR:Rd w lo g bs at_):
 Calls prog 331 #[.pointer (some ⟨gr,0,none⟩)] w (Rv (Cy ls lf bs at_) lo g bs w):=by
 have bm:=hR.lt;have HR:=hid hR;have HC:=hid hC;have be:=hid am;have a9:=hid a5;have ay:=hid aj;have av:=hid an;clear hR hC a5 an am aj;go_enter func331,ntmps331;go_upto_region 1 with fail;have i:Below w w (w.alloc (.cells #[.int .u8 0,ij,ij] 280)):=aZ (Ag _ _);have ai:Blk (w.alloc (.cells #[.int .u8 0,ij,ij] 280)) w 280 #[.int .u8 0,ij,ij]:=Blk.made _ _ _;generalize w.alloc (.cells #[.int .u8 0,ij,ij] 280)=w0 at *;have a6:Hid (Rd w0 lo g bs at_):=HR.out.keep (fun b _ h=>i.block b mz) N;have a1:Coder w0 Q cB gs ls:=be.out.below i bf;have d0:=(i.cell (p:=⟨gr,0,none⟩) al).trans bg;have d1:=(i.cell (p:=⟨gr,1,none⟩) al).trans bb;have d2:=(i.cell (p:=⟨gr,2,none⟩) al).trans bd;have C2:=Sy w0.drew Q cB gs lo g ls bs at_ ay.out a1.drew a6.out.drew;unfold Nx at C2;have U:=L6 ls (head bs at_) (there bs at_);obtain⟨G,hG⟩:=ii (En ls (head bs at_) (there bs at_));rw[<-hG]at C2 U;obtain⟨gv,ge,ga⟩:=G;simp only at C2 U;have C2:=hid C2;have ag:=hid hG;have ah:=hid ai;have ar:=hid i;have ak:=hid U;clear hG a1 i ai U a6;go_region_held3 (fun wx=>wx.cell? ⟨gr,0,none⟩=some (.pointer (some ⟨g,0,none⟩))/\wx.cell? ⟨gr,1,none⟩=some (.pointer (some ⟨gs,0,none⟩))) (first|exact⟨d0,d1⟩|exact⟨k0,k1⟩) (first|(go_at_call 353;(with_reducible refine C2.out.mono ?_);rintro e w2 ⟨rfl,aq,z⟩;have k0:w2.cell? ⟨gr,0,none⟩=some (.pointer (some ⟨g,0,none⟩)):=(World.cell?_of_block (a:=⟨gr,0,none⟩) (z.block gr ac)).trans d0;have k1:w2.cell? ⟨gr,1,none⟩=some (.pointer (some ⟨gs,0,none⟩)):=(World.cell?_of_block (a:=⟨gr,1,none⟩) (z.block gr ac)).trans d1));have a0:Kept (fun x=>x<w.heap.size/\x≠g) w w2:=(Kept.of_below ar.out (fun _ h=>h.1)).trans ((Kept.refl _ w0).drew.trans ⟨z.os,z.tape,z.output,z.size,fun b h=>z.block b h.2⟩);have j:Blk w2 w _ _:=(z.block w pH).trans ah.out.drew;have k2:w2.cell? ⟨gr,2,none⟩=some (.pointer (some ⟨gf,0,none⟩)):=(World.cell?_of_block (a:=⟨gr,2,none⟩) (z.block gr ac)).trans d2;have ax:=j.lt;have a2:=j.ia 0;have b2:=j.ia 1;have c2:=j.ia 2;have bh:=j.frozen 0;have ba:=j.frozen 1;have bi:=j.frozen 2;have af:=hid aq;have Z:=hid a0;have E:=hid j;clear aq z a0 j ah ar C2 d0 d1 d2;by_cases he:ge=0
 ·subst he;obtain⟨s,rfl,hs⟩:=ak.out rfl;by_cases aa:s=256
  ·subst aa;have HG:Hid (Cy ls lf bs at_=(⟨0,0,0⟩,false,0,at_+ga)):=(by show _=_;unfold Cy;rw[<-ag.out];rfl);go_wp2_with fail;exact CI (LA rfl _ _ w.heap.size _ #[.int .u8 0,ij,ij] _ (.bool false) (.int .i64 0) rfl rfl rfl (((E.out.set 0 (.int .u8 0)).set 1 (.int .i64 0)).set 2 (.int .i64 0)) underlying280 rfl Il) rfl ⟨oj,n9,(Kept.set (p:=⟨w,2,none⟩) (Kept.set (p:=⟨w,1,none⟩) (Kept.set (p:=⟨w,0,none⟩) Z.out (fun h=>absurd h.1 (Cz _)) _) (fun h=>absurd h.1 (Cz _)) _) (fun h=>absurd h.1 (Cz _)) _)⟩
  ·have bk:((s:Int)==256)=false:=pQ;by_cases bl:s<256
   ·have HG:Hid (Cy ls lf bs at_=(⟨s,0,0⟩,true,0,at_+ga)):=(by show _=_;unfold Cy;rw[<-ag.out];simp only;rw[Ab mz,Ab mz,Ae mz]);clear aa;go_wp2_with fail;exact CI (LA rfl _ _ w.heap.size _ #[.int .u8 (s:Nat),ij,ij] _ (.bool true) (.int .i64 0) rfl rfl rfl (((E.out.set 0 (.int .u8 (s:Nat))).set 1 (.int .i64 0)).set 2 (.int .i64 0)) underlying280 rfl Il) rfl ⟨oj,n9,(Kept.set (p:=⟨w,2,none⟩) (Kept.set (p:=⟨w,1,none⟩) (Kept.set (p:=⟨w,0,none⟩) Z.out (fun h=>absurd h.1 (Cz _)) _) (fun h=>absurd h.1 (Cz _)) _) (fun h=>absurd h.1 (Cz _)) _)⟩
   ·have au:Coder w2 Q cB gf lf:=HC.out.keep (fun b h1 h2=>Z.out.block b ⟨mz,av.out b h1 h2⟩);have C3:=Y1 w2 gr lo g Q cB gf lf bs s (at_+ga) mz mz N k0 k2 mz ac a9.out bc au mz av.out af.out;have ab:Hid (Cy ls lf bs at_=((Ep lf bs s (at_+ga)).1,decide ((Ep lf bs s (at_+ga)).2.1=0),(Ep lf bs s (at_+ga)).2.1,(Ep lf bs s (at_+ga)).2.2)):=(by show _=_;unfold Cy;rw[<-ag.out];simp only;rw[Ab mz,Ab mz,Ab mz,Bw]);unfold Vm at C3;generalize Ep lf bs s (at_+ga)=M at *;obtain⟨⟨ta,tb,tc⟩,me,ma⟩:=M;unfold Toks.Tk.val at C3;simp only at C3 ab;have C3:=hid C3;clear aa au;go_wp2_with fail;refine C3.out.mono ?_;rintro e w3 ⟨rfl,a4,J⟩;have y:Blk w3 w _ _:=(J.block w ⟨ax,mz⟩).trans E.out;have a3:=y.ia 0;have b3:=y.ia 1;have c3:=y.ia 2;have bn:=y.frozen 0;have bp:=y.frozen 1;have bq:=y.frozen 2;have Y:=hid y;have aw:=hid a4;have az:Hid (Kept (fun x=>x<w.heap.size/\x≠g) w w3):=Z.out.trans ⟨J.os,J.tape,J.output,J.size,fun b h=>J.block b ⟨lz,h.2⟩⟩;clear y a4 J C3 a2 b2 c2 bh ba bi;by_cases ae:me=0
    ·subst ae;have HG:Hid (Cy ls lf bs at_=(⟨ta,tb,tc⟩,true,0,ma)):=ab.out;clear ab;go_wp2_with fail;exact CI (LA rfl _ _ w.heap.size _ #[.int .u8 ta,tb,tc] _ (.bool true) (.int .i64 0) rfl rfl rfl ((((((Y.out.set 0 (.int .u8 ta)).set 1 (.int .i64 tb)).set 2 (.int .i64 tc)).set 0 (.int .u8 ta)).set 1 (.int .i64 tb)).set 2 (.int .i64 tc)) underlying280 rfl Il) rfl ⟨oj,oi,(Kept.set (p:=⟨w,2,none⟩) (Kept.set (p:=⟨w,1,none⟩) (Kept.set (p:=⟨w,0,none⟩) (Kept.set (p:=⟨w,2,none⟩) (Kept.set (p:=⟨w,1,none⟩) (Kept.set (p:=⟨w,0,none⟩) az.out (fun h=>absurd h.1 (Cz _)) _) (fun h=>absurd h.1 (Cz _)) _) (fun h=>absurd h.1 (Cz _)) _) (fun h=>absurd h.1 (Cz _)) _) (fun h=>absurd h.1 (Cz _)) _) (fun h=>absurd h.1 (Cz _)) _)⟩
    ·have bt:(me==0)=false:=(by simp[ae]);have HG:Hid (Cy ls lf bs at_=(⟨ta,tb,tc⟩,false,me,ma)):=(by show _=_;rw[ab.out,Bi ae]);clear ab ae;go_wp2_with fail;exact CI (LA rfl _ _ w.heap.size _ #[.int .u8 ta,tb,tc] _ (.bool false) (.int .i64 me) rfl rfl rfl ((((((Y.out.set 0 (.int .u8 ta)).set 1 (.int .i64 tb)).set 2 (.int .i64 tc)).set 0 (.int .u8 ta)).set 1 (.int .i64 tb)).set 2 (.int .i64 tc)) underlying280 rfl Il) rfl ⟨oj,oi,(Kept.set (p:=⟨w,2,none⟩) (Kept.set (p:=⟨w,1,none⟩) (Kept.set (p:=⟨w,0,none⟩) (Kept.set (p:=⟨w,2,none⟩) (Kept.set (p:=⟨w,1,none⟩) (Kept.set (p:=⟨w,0,none⟩) az.out (fun h=>absurd h.1 (Cz _)) _) (fun h=>absurd h.1 (Cz _)) _) (fun h=>absurd h.1 (Cz _)) _) (fun h=>absurd h.1 (Cz _)) _) (fun h=>absurd h.1 (Cz _)) _) (fun h=>absurd h.1 (Cz _)) _)⟩
 ·have hb:(ge != 0)=true:=bne_iff_ne.mpr he;have HG:Hid (Cy ls lf bs at_=(⟨0,0,0⟩,false,ge,at_+ga)):=by show _=_;unfold Cy;rw[<-ag.out];simp only;rw[Ae he]
  clear he ak;go_wp2_with fail;exact CI (LA rfl _ _ w.heap.size _ #[.int .u8 0,ij,ij] _ (.bool false) (.int .i64 ge) rfl rfl rfl (((E.out.set 0 (.int .u8 0)).set 1 (.int .i64 0)).set 2 (.int .i64 0)) underlying280 rfl Il) rfl ⟨oj,n9,(Kept.set (p:=⟨w,2,none⟩) (Kept.set (p:=⟨w,1,none⟩) (Kept.set (p:=⟨w,0,none⟩) Z.out (fun h=>absurd h.1 (Cz _)) _) (fun h=>absurd h.1 (Cz _)) _) (fun h=>absurd h.1 (Cz _)) _)⟩
end Huff
namespace Huff
open Go.RowKit Mem Canon Own
open Toks (Tk Pc Du Em pw A0)
theorem Yl{X th:Nat}(h:(En ls X th).2.1=0):0<(En ls X th).2.2:=by
 unfold En at h ⊢;cases hf:(List.range ls.length).find? (hit ls X th)with
 |some s=>obtain⟨x,hx,i,_⟩:=Hd.1 (List.find?_some hf);simp only[List.getD_eq_getElem?_getD,hx,Option.getD_some];omega
 |none=>rw[hf]at h;simp only at h;split at h<;>cases h
def JI(t:Tk):Prop:=A0 t.lit t.len t.dist=true/\(0<=t.lit/\t.lit<=255)/\(0<=t.len/\t.len<=257)
theorem YL(i:lf.length<=12)(bs:List Bool){v at_:Nat}(z:257<=v)(j:v<=264)(h:(Ep lf bs v at_).2.1=0):JI (Ep lf bs v at_).1/\at_<=(Ep lf bs v at_).2.2:=by
 unfold Ep at h ⊢;simp only at h ⊢;split at h
 ·cases h
 ·rename_i h1;rw[Ab h1];split at h
  ·rename_i h2;exact absurd h h2
  ·rename_i h2;rw[Ab h2];split at h
   ·cases h
   ·rename_i h3;rw[Ab h3];obtain⟨s,hs,E⟩:=L6 lf _ _ (Decidable.not_not.1 h2);rw[hs]at h h3 ⊢;rw[Bw]at h h3 ⊢;have b1:=GO bs at_ (v-257);have b2:=GO bs (at_+(v-257)+(En lf (head bs (at_+(v-257))) (there bs (at_+(v-257)))).2.2) s;generalize zZ bs at_ (v-257)=x at *;generalize zZ bs (at_+(v-257)+(En lf (head bs (at_+(v-257))) (there bs (at_+(v-257)))).2.2) s=y at *;have p1:pw ((v:Int)-257)=((2 ^ (v-257):Nat):Int):=(by unfold pw;rw[show((v:Int)-257).toNat=v-257 by omega]);have p2:pw (s:Int)=((2 ^ s:Nat):Int):=(by unfold pw;rw[Bw]);have q1:2 ^ (v-257)<=2 ^ 7:=Cl mz mz;have q2:2 ^ s<=2 ^ 11:=Cl mz mz;have q3:=FV (v-257);have q4:=FV s;have hj:=(Toks.Qw ⟨(v:Int),(x:Int),(s:Int),(y:Int)⟩ pL pL pL pL (by simp only;rw[p1];omega) (by simp only;rw[p2];omega)).1;simp only at hj;rw[p1,p2]at hj;generalize 2 ^ (v-257)=P at *;generalize 2 ^ s=Q at *;refine⟨?_,by show at_<=at_+(v-257)+_+s;omega⟩;rw[hj];refine⟨?_,⟨pI,pI⟩,⟨pL,pL⟩⟩;unfold A0;simp only;rw[Ab mz,decide_eq_true_eq];exact⟨iy,mz,mz,mz,mz⟩
theorem zV(z:ls.length<=265)(y:lf.length<=12)(bs:List Bool){at_:Nat}(h:(Cy ls lf bs at_).2.2.1=0):
 ((Cy ls lf bs at_).2.1=true->JI (Cy ls lf bs at_).1)/\at_<(Cy ls lf bs at_).2.2.2:=by
 have i:=L6 ls (head bs at_) (there bs at_);have j:=Yl (ls:=ls) (X:=head bs at_) (th:=there bs at_);unfold Cy at h ⊢;simp only at h ⊢;generalize En ls (head bs at_) (there bs at_)=G at *;obtain⟨gv,ge,ga⟩:=G;simp only at h i j ⊢;by_cases h1:ge=0
 ·subst h1;obtain⟨s,rfl,hs⟩:=i rfl;have ha:=j rfl;rw[Ab pI]at h ⊢;by_cases h2:(s:Int)=256
  ·rw[Ae h2];exact⟨fun e=>(by cases e),pL⟩
  ·rw[Ab h2]at h ⊢;by_cases h3:(s:Int)<256
   ·rw[Ae h3];refine⟨fun _=>⟨?_,⟨pL,pL⟩,⟨pI,pI⟩⟩,pL⟩;unfold A0;simp
   ·rw[Ab h3,Bw]at h ⊢;have hm:=YL y bs (v:=s) (at_:=at_+ga) mz mz h;exact⟨fun _=>hm.1,pL⟩
 ·rw[Ae h1]at h;exact absurd h h1
def EA(ls lf:List Nat)(bs:List Bool):Nat->Int->List Tk->Nat->List Tk×Int
 |0,_,_,_=>([],0)
 |f+1,most,out,at_=>
  let R:=Cy ls lf bs at_
  if R.2.2.1≠0 then([],R.2.2.1)
  else if R.2.1=false then(if FP bs R.2.2.2=0 then(out,0)else([],2))
  else if most-max 1 R.1.len<0 then([],6)
  else EA ls lf bs f (most-max 1 R.1.len) (out++ [R.1]) R.2.2.2
def Cp(lb:List Nat)(most:Int):List Tk×Int:=
 if most<0 then([],13)else
 if(Bz (Bq lb) 265 266 [] false 0).2.1≠0 then([],(Bz (Bq lb) 265 266 [] false 0).2.1)else
 if(Bz (Bq lb) 12 13 [] false (Bz (Bq lb) 265 266 [] false 0).2.2).2.1≠0 then([],(Bz (Bq lb) 12 13 [] false (Bz (Bq lb) 265 266 [] false 0).2.2).2.1)else
 EA (Bz (Bq lb) 265 266 [] false 0).1 (Bz (Bq lb) 12 13 [] false (Bz (Bq lb) 265 266 [] false 0).2.2).1 (Bq lb) ((Bq lb).length+1) most [] (Bz (Bq lb) 12 13 [] false (Bz (Bq lb) 265 266 [] false 0).2.2).2.2
def Cg:List Tk->Int
 | []=>0
 |t :: ts=>max 1 t.len+Cg ts
theorem Ys(ts:List Tk)(t:Tk):Cg (ts++ [t])=Cg ts+max 1 t.len:=by
 induction ts with
 |nil=>simp[Cg]
 |cons a ts ih=>rw[Ec,Cg,Cg,ih];omega
theorem SD{ls lf:List Nat}(z:ls.length<=265)(j:lf.length<=12)(bs:List Bool)(i:Int)(h0:0<=i):∀ (f:Nat) (most:Int) (out:List Tk) (at_:Nat),0<=most->Cg out+most=i->(∀t∈out,JI t)->∀ts e,EA ls lf bs f most out at_=(ts,e)->
 (e=0->(∀t∈ts,JI t)/\Cg ts<=i)/\(e≠0->ts= [])
 |0,most,out,at_,hm,hs,hall,ts,e,h=>by rw[EA]at h;injection h with h1 h2;subst h1 h2;exact⟨fun _=>⟨fun t ht=>(by cases ht),by simp only[Cg];omega⟩,fun _=>rfl⟩
 |f+1,most,out,at_,hm,hs,hall,ts,e,h=>by
  rw[EA]at h;split at h
  ·rename_i h1;injection h with e1 e2;subst e1 e2;exact⟨fun e=>absurd e h1,fun _=>rfl⟩
  ·rename_i h1;have y:=zV z j bs (Decidable.not_not.1 h1);split at h
   ·split at h
    ·injection h with e1 e2;subst e1 e2;exact⟨fun _=>⟨hall,mz⟩,fun e=>absurd rfl e⟩
    ·injection h with e1 e2;subst e1 e2;exact⟨fun e=>(by cases e),fun _=>rfl⟩
   ·rename_i h2;have h2:(Cy ls lf bs at_).2.1=true:=p6;split at h
    ·injection h with e1 e2;subst e1 e2;exact⟨fun e=>(by cases e),fun _=>rfl⟩
    ·rename_i h3;refine SD z j bs i h0 f _ _ _ mz (by rw[Ys];omega) ?_ ts e h;intro t ht;rw[BJ,Eu]at ht;rcases ht with ht|rfl
     ·exact hall t ht
     ·exact y.1 h2
theorem PG(lb:List Nat)(most:Int):((Cp lb most).2=0->(∀t∈(Cp lb most).1,JI t)/\Cg (Cp lb most).1<=most)/\((Cp lb most).2≠0->(Cp lb most).1= []):=by
 unfold Cp;split
 ·exact⟨fun e=>(by cases e),fun _=>rfl⟩
 ·rename_i h0;split
  ·rename_i h1;exact⟨fun e=>absurd e h1,fun _=>rfl⟩
  ·rename_i h1;split
   ·rename_i h2;exact⟨fun e=>absurd e h2,fun _=>rfl⟩
   ·rename_i h2;have k1:=Jn (bs:=Bq lb) (n:=265) 266 [] false 0 pI pI (Decidable.not_not.1 h1);have k2:=Jn (bs:=Bq lb) (n:=12) 13 [] false (Bz (Bq lb) 265 266 [] false 0).2.2 pI pI (Decidable.not_not.1 h2);exact SD (by rw[k1.2];omega) (by rw[k2.2];omega) (Bq lb) most mz _ most [] _ mz (by simp[Cg]) (fun t ht=>(by cases ht)) _ _ rfl
end Huff
namespace Huff
open Go.RowKit Mem Canon Own
open Toks (Tk Pc Du Em pw A0)
def KO(R:List Tk×Int)(w:World)(e:Ending)(w':World):Prop:=
 ∃v,e= .returned (.tuple #[v,R.2])/\w'.ownsRow w 280 3 v R.1.length (Dx R.1)/\Below w w w'
theorem X0(bs:List Bool)(at_:Nat):FP bs at_=0∨FP bs at_=2:=by unfold FP;split<;>simp
theorem Ya{bs:List Bool}{at_:Nat}{out:List Tk}{T:Tk×Bool×Int×Nat}(h:Cy ls lf bs at_=T)(he:T.2.2.1≠0):EA ls lf bs (f+1) M out at_=([],T.2.2.1):=by rw[EA,h,Ae he]
theorem XO{bs:List Bool}{at_:Nat}{out:List Tk}{T:Tk×Bool×Int×Nat}(h:Cy ls lf bs at_=T)(he:T.2.2.1=0)(hm:T.2.1=false):EA ls lf bs (f+1) M out at_=if FP bs T.2.2.2=0 then(out,0)else([],2):=by rw[EA,h,Ab (by rw[he];simp),Ae hm]
theorem Zb{bs:List Bool}{at_:Nat}{out:List Tk}{T:Tk×Bool×Int×Nat}(h:Cy ls lf bs at_=T)(he:T.2.2.1=0)(hm:T.2.1=true)(hl:M-max 1 T.1.len<0):EA ls lf bs (f+1) M out at_=([],6):=by rw[EA,h,Ab (by rw[he];simp),Ab (by rw[hm];simp),Ae hl]
theorem Yu{bs:List Bool}{at_:Nat}{out:List Tk}{T:Tk×Bool×Int×Nat}(h:Cy ls lf bs at_=T)(he:T.2.2.1=0)(hm:T.2.1=true)(hl:¬M-max 1 T.1.len<0):EA ls lf bs (f+1) M out at_=EA ls lf bs f (M-max 1 T.1.len) (out++ [T.1]) T.2.2.2:=by rw[EA,h,Ab (by rw[he];simp),Ab (by rw[hm];simp),Ab hl]
theorem Vc(w:World)(A:Option Addr)(n c:Nat)(lb:List Nat)(most:Int)(cP:0<=most)(cG:most<=9223372036854775807)(hn:lb.length=n)(hN:n<=100000)(h8:∀x∈lb,x<=255)(ba:A=none->n=0/\c=0)(ha:Row w w A n 1 (jZ .u8 lb)):
 Calls prog 299 #[.slice A n c,most] w (KO (Cp lb most) w):=by
 obtain⟨j0,cH,cL,cu,cv⟩:=info_parts MF;have C1:=hid (VN w A n c lb hn hN h8 ba ha);have c1:(Bq lb).length<=800000:=by rw[EC,hn];omega
 obtain⟨RT,ag⟩:=ii (Cp lb most);rw[<-ag];unfold Cp at ag;rw[Ab mz]at ag;clear hn h8 ba ha;generalize Bq lb=bs at *;have a5:=Jn (bs:=bs) (n:=265) 266 [] false 0 pI pI;have D1:=hid (fun wx gr g lo (h1:lo<=g) h2 h3=>Vw wx gr lo g bs 0 265 mz mz h1 h2 h3)
 change Hid (∀wx gr g lo,lo<=g->_->Rd wx lo g bs 0->Calls _ _ _ _ (L0 (Bz bs 265 266 [] false 0) lo g bs wx))at D1
 generalize Bz bs 265 266 [] false 0=R1 at D1 a5 ag;obtain⟨ls,e1,a1⟩:=R1;simp only at a5 ag;have a6:=Jn (bs:=bs) (n:=12) 13 [] false a1 pI pI;have D2:=hid (fun wx gr g lo (h1:lo<=g) h2 h3=>Vw wx gr lo g bs a1 12 mz mz h1 h2 h3)
 change Hid (∀wx gr g lo,lo<=g->_->Rd wx lo g bs a1->Calls _ _ _ _ (L0 (Bz bs 12 13 [] false a1) lo g bs wx))at D2
 generalize Bz bs 12 13 [] false a1=R2 at D2 a6 ag;obtain⟨lf,e2,a2⟩:=R2;simp only at a6 ag;have ar:=hid ag;have b4:=hid a5;have ca:=hid a6;clear ag a5 a6;go_enter func299,ntmps299;go_wp2_with fail;refine C1.out.mono ?_;rintro e w1 ⟨g,rfl,bk,hg,bi⟩;have z1:=bi.size;have c3:=bk.lt;go_wp2_with fail;have al:Below w1 w1 (w1.alloc (.cells #[.pointer (some ⟨g,0,none⟩), .pointer none, .pointer none] 419)):=aZ (Ag _ _);have am:Blk (w1.alloc (.cells #[.pointer (some ⟨g,0,none⟩), .pointer none, .pointer none] 419)) w1 419 #[.pointer (some ⟨g,0,none⟩), .pointer none, .pointer none]:=Blk.made _ _ _;generalize w1.alloc (.cells #[.pointer (some ⟨g,0,none⟩), .pointer none, .pointer none] 419)=w2 at *;have b3:Rd w2 w g bs 0:=bk.keep (fun b _ h=>al.block b mz) hg;have z2:=am.lt;have bg:Below w w w2:=bi.trans (al.mono z1);refine(D1.out w2 w1 g w hg (am.cell 0) b3).mono ?_;rintro e w3 ⟨Z,bt,a4⟩;simp only at Z bt;have z3:=a4.size;have N:Blk w3 w1 _ _:=(a4.block w1 ⟨mz,mz⟩).trans am;have p0:=N.ia 0;have p1:=N.ia 1;have p2:=N.ia 2;have f1:=N.frozen 1;have f2:=N.frozen 2;have bx:=hid bg;have bp:=hid a4;have ax:=hid N;have cf:=hid bt;clear bk b3 bi al am bg a4 N bt C1 D1;rcases Z with ⟨az,rfl⟩|⟨az,gs,rfl,b0⟩
 ·have hb:(e1 != 0)=true:=bne_iff_ne.mpr az;have ac:Hid (RT=([],e1)):=by show _=_;rw[ar.out,Ae az]
  clear az ar;go_wp2_with fail;go_ret2;rw[ac.out];exact⟨_,rfl,AK _ _ _ _,B4 (p:=⟨w1,1,none⟩) z1 (bx.out.trans (bp.out.below (fun b h=>⟨mz,mz⟩)))⟩
 ·subst az;obtain⟨bd,a3⟩:=b4.out rfl;have cr:=hid b0;have b7:=hid bd;have cj:=hid a3;clear b0 bd a3 b4;go_wp2_with fail;have aw:=ax.out.set 1 (.pointer (some ⟨gs,0,none⟩));have aj:Kept (fun x=>x<w1.heap.size∨w1.heap.size<x) w3 (w3.setCell ⟨w1,1,none⟩ (.pointer (some ⟨gs,0,none⟩))):=(Kept.refl _ _).set (fun h=>by have h:w1.heap.size<w1.heap.size∨w1.heap.size<w1.heap.size:=h;omega) _;have cC:=aj.size;generalize w3.setCell ⟨w1,1,none⟩ (.pointer (some ⟨gs,0,none⟩))=w4 at *;have ce:Rd w4 w g bs a1:=cf.out.keep (fun b h1 h2=>aj.block b (by left;omega)) hg;have bc:Hid (Coder w4 w2 w3 gs ls):=cr.out.keep (fun b h1 h2=>aj.block b (by right;omega));have b8:Hid (Below w w w4):=(bx.out.trans (bp.out.below (fun b h=>⟨mz,mz⟩))).trans (aj.below (fun b h=>by left;omega));clear p0 p1 p2 f1 f2 ax cf cr bx bp;refine(D2.out w4 w1 g w hg (aw.cell 0) ce).mono ?_;rintro e w5 ⟨Z,bu,ay⟩;simp only at Z bu;have z5:=ay.size;have af:Blk w5 w1 _ _:=(ay.block w1 ⟨mz,mz⟩).trans aw;have p0:=af.cell 0;have p1:=af.cell 1;have p2:=af.cell 2;have f2:=af.frozen 2;simp at p0 p1 p2;have bm:Hid (Below w w w5):=b8.out.trans (ay.below (fun b h=>⟨mz,mz⟩));have bb:Hid (Coder w5 w2 w3 gs ls):=bc.out.kept ay (fun b h1 h2=>⟨mz,mz⟩);have av:=hid af;have bn:=hid bu;clear ce aj aw bu af ay b8 bc D2;rcases Z with ⟨a0,rfl⟩|⟨a0,gf,rfl,ci⟩
  ·have hb:(e2 != 0)=true:=bne_iff_ne.mpr a0;have ac:Hid (RT=([],e2)):=(by show _=_;rw[ar.out,Ab pI,Ae a0]);clear a0 ar;go_wp2_with fail;go_ret2;rw[ac.out];exact⟨_,rfl,AK _ _ _ _,B4 (p:=⟨w1,2,none⟩) z1 bm.out⟩
  ·subst a0;obtain⟨bh,b9⟩:=ca.out rfl;have cq:=hid ci;have cp:=hid bh;have cl:=hid b9;have ac:Hid (RT=EA ls lf bs (bs.length+1) most [] a2):=(by show _=_;rw[ar.out,Ab pI,Ab pI]);clear ci bh b9 ca ar;have b6:a2<=bs.length:=(by obtain⟨A',n',c',l',h1,h2,h3,h4,h5,h6,h7⟩:=bn.out;rw[h5,EC,h3];exact h6);go_wp2_with fail;have bf:=av.out.set 2 (.pointer (some ⟨gf,0,none⟩));have ab:Kept (fun x=>x<w1.heap.size∨w1.heap.size<x) w5 (w5.setCell ⟨w1,2,none⟩ (.pointer (some ⟨gf,0,none⟩))):=(Kept.refl _ _).set (fun h=>by have h:w1.heap.size<w1.heap.size∨w1.heap.size<w1.heap.size:=h;omega) _;have cF:=ab.size;generalize w5.setCell ⟨w1,2,none⟩ (.pointer (some ⟨gf,0,none⟩))=w6 at *;have b5:Hid (Rd w6 w g bs a2):=bn.out.keep (fun b h1 h2=>ab.block b (by left;omega)) hg;have bN:Hid (Coder w6 w2 w6 gs ls):=Coder.mono (bb.out.keep (fun b h1 h2=>ab.block b (by right;omega))) (Aq _) mz;have cc:Hid (Coder w6 w2 w6 gf lf):=Coder.mono (cq.out.keep (fun b h1 h2=>ab.block b (by right;omega))) mz mz;have a9:Hid (Below w w w6):=bm.out.trans (ab.below (fun b h=>by left;omega));have z6:w1.heap.size<w2.heap.size/\w2.heap.size<=w6.heap.size:=mz;have Y:=hid bf;clear p0 p1 p2 f2 av bn bb cq bm ab bf cF cC z5 z3;generalize w1.heap.size=gr at *;generalize w2.heap.size=cx at *;go_wp2_with fail;go_loopw [1,4] (fun m u wr=>∃ (f at_ k:Nat) (M:Int) (out:List Tk),(0<=M/\M<=9223372036854775807)/\m= .int .i64 M/\k<=at_/\at_<=bs.length/\Hid (out.length=k)/\wr.ownsRow w6 280 3 u k (Dx out)/\Hid (bs.length+1<=f+at_)/\Hid (EA ls lf bs f M out at_=RT)/\Hid (Rd wr w g bs at_)/\Hid (Kept (fun x=>x<w6.heap.size/\x≠g) w6 wr)) (fun m _ _=>(intOf m).toNat)
   case atStart=>exact⟨bs.length+1,a2,0,most,[],⟨cP,cG⟩,rfl,mz,b6,rfl,AK _ _ _ _,pp,ac.out.symm,b5.out,Kept.refl _ _⟩
   case round=>
    clear b5 ac;obtain⟨f,at_,k,M,out,⟨c2,c0⟩,rfl,c7,c6,be,E,hf,ak,bC,ah⟩:=hrel;obtain⟨f,rfl⟩:∃f',f=f'+1:=⟨f-1,by have:=hf.out;omega⟩;have cy:=ah.out.size;have aq:Blk wr gr _ _:=(ah.out.block gr ⟨mz,mz⟩).trans Y.out;have C3:=YH wr gr w g cx w6 gs gf ls lf bs at_ hg (aq.cell 0) (aq.cell 1) (aq.cell 2) mz mz b7.out (by rw[cj.out];omega) (bN.out.kept ah.out (fun b h1 h2=>⟨mz,mz⟩)) cp.out (by rw[cl.out];omega) (cc.out.kept ah.out (fun b h1 h2=>⟨mz,mz⟩)) cy (fun b h1 h2=>by omega) bC.out;have Q:=zV (ls:=ls) (lf:=lf) (by rw[cj.out];omega) (by rw[cl.out];omega) bs (at_:=at_);unfold Rv at C3;clear aq;have ai:=fun he hm=>XO (T:=Cy ls lf bs at_) (bs:=bs) (f:=f) (M:=M) (out:=out) rfl he hm;have an:=fun he=>Ya (T:=Cy ls lf bs at_) (bs:=bs) (f:=f) (M:=M) (out:=out) rfl he;have U:=fun he hm hl=>Zb (T:=Cy ls lf bs at_) (bs:=bs) (f:=f) (M:=M) (out:=out) rfl he hm hl;have y:=fun he hm hl=>Yu (T:=Cy ls lf bs at_) (bs:=bs) (f:=f) (M:=M) (out:=out) rfl he hm hl;generalize Cy ls lf bs at_=T at *;obtain⟨⟨lit,len,dist⟩,more,te,ta⟩:=T;simp only[Toks.Tk.val]at C3 Q ai an U y;have C3:=hid C3;by_cases he:te=0
    ·subst he;clear an;obtain⟨Q,cS⟩:=Q rfl;cases more
     ·have j:=ai rfl rfl;rw[ak.out]at j;have aa:=hid j;clear ai U y j ak Q;go_wp2_with fail;refine C3.out.mono ?_;rintro e w7 ⟨rfl,J,i⟩;have z7:=i.size;have G:Kept (fun x=>x<w6.heap.size/\x≠g) w6 w7:=ah.out.trans ⟨i.os,i.tape,i.output,i.size,fun b h=>i.block b ⟨lz,h.2⟩⟩;have au:Hid (Below w w w7):=a9.out.trans (G.below (fun b h=>⟨mz,mz⟩));have ae:Blk w7 gr _ _:=(G.block gr ⟨mz,mz⟩).trans Y.out;have z:w7.ownsRow w6 280 3 _ k (Dx out):=eZ E (fun x hx=>i.block x lc);have c4:=ae.lt;have p0:=ae.cell 0;simp at p0;go_wp2_with fail;have b1:Hid (Below w w (w7.alloc (.cells #[.int .u8 lit,len,dist] 280))):=mZ mz au.out;have cm:=z.alloc (.cells #[.int .u8 lit,len,dist] 280);have cg:=J.keep (w':=w7.alloc (.cells #[.int .u8 lit,len,dist] 280)) (fun b _ h=>Ed w7 _ b mz) hg;generalize w7.alloc (.cells #[.int .u8 lit,len,dist] 280)=w8 at *;have C4:=eD w8 w g bs ta cg;rcases X0 bs ta with hp|hp
      ·rw[hp]at C4;have bj:Hid (RT=(out,0)):=(by show _=_;rw[aa.out,Ae hp]);have C4:=hid C4;clear hp aa;refine C4.out.mono ?_;rintro e w9 ⟨rfl,q,rfl⟩;go_wp2_with fail;go_ret2;rw[bj.out];refine⟨_,rfl,?_,below_drewN b1.out q⟩;show World.ownsRow _ _ _ _ _ out.length _;rw[be.out];exact kZ cm mz
      ·rw[hp]at C4;have bj:Hid (RT=([],2)):=(by show _=_;rw[aa.out,Ab (by rw[hp];decide)]);have C4:=hid C4;clear hp aa;refine C4.out.mono ?_;rintro e w9 ⟨rfl,q,rfl⟩;go_wp2_with fail;go_ret2;rw[bj.out];exact⟨_,rfl,AK _ _ _ _,below_drewN b1.out q⟩
     ·obtain⟨hm,⟨cA,cB⟩,cz,a3⟩:=Q rfl;simp only at hm cA cB cz a3;clear ai Q;obtain⟨d,hd,cX,c5⟩:∃d:Int,d=max 1 len/\1<=d/\d<=257:=⟨_,rfl,mz,mz⟩;rw[<-hd]at U y;by_cases hl:M-d<0
      ·have j:=U rfl rfl hl;rw[ak.out]at j;have aa:=hid j;clear U y j ak;go_wp2_with fail;refine C3.out.mono ?_;rintro e w7 ⟨rfl,J,i⟩;have z7:=i.size;have G:Kept (fun x=>x<w6.heap.size/\x≠g) w6 w7:=ah.out.trans ⟨i.os,i.tape,i.output,i.size,fun b h=>i.block b ⟨lz,h.2⟩⟩;have au:Hid (Below w w w7):=a9.out.trans (G.below (fun b h=>⟨mz,mz⟩));have ae:Blk w7 gr _ _:=(G.block gr ⟨mz,mz⟩).trans Y.out;have z:w7.ownsRow w6 280 3 _ k (Dx out):=eZ E (fun x hx=>i.block x lc);go_wp2_with fail;go_ret2;rw[aa.out];exact⟨_,rfl,AK _ _ _ _,mZ mz au.out⟩
      ·have j:=y rfl rfl hl;rw[ak.out]at j;have aa:=hid j;clear U y j ak;go_wp2_with fail;refine C3.out.mono ?_;rintro e w7 ⟨rfl,J,i⟩;have z7:=i.size;have G:Kept (fun x=>x<w6.heap.size/\x≠g) w6 w7:=ah.out.trans ⟨i.os,i.tape,i.output,i.size,fun b h=>i.block b ⟨lz,h.2⟩⟩;have au:Hid (Below w w w7):=a9.out.trans (G.below (fun b h=>⟨mz,mz⟩));have ae:Blk w7 gr _ _:=(G.block gr ⟨mz,mz⟩).trans Y.out;have z:w7.ownsRow w6 280 3 _ k (Dx out):=eZ E (fun x hx=>i.block x lc);have co:k+1<=ta:=mz;have cd:ta<=bs.length:=(by obtain⟨A',n',c',l',h1,h2,h3,h4,h5,h6,h7⟩:=J;rw[h5,EC,h3];exact h6);obtain⟨va,vc,rfl⟩:=bZ z;have bq:=hid z;have cw:=hid J;have ct:=hid G;clear z J G i E ah bC ae;go_wp2_with(at_builtin;refine iZ rfl (.tmp 57) (.tmp 59) 190 rfl w6 280 j0 _ 3 24 underlying190 cH cL cu cv rfl ip _ _ _ nc ((bq.out.alloc _).alloc _) _ 1 1 [.int .u8 lit, .int .i64 len, .int .i64 dist] nc (Src.of_blk (g:=w7.heap.size+1) (Blk.made_at _ _ _ pI) 1 1 3 rfl) mm qg mz pQ ?_;intro v4 w9 bl bS cT);go_roundw
       case measure=>go_light;show(M-max 1 len).toNat<M.toNat;omega
       case rel=>
        go_light;have cE:∀b,(b<w6.heap.size/\b≠g)->b<((w7.alloc (.cells #[.int .u8 lit,len,dist] 280)).alloc (.cells #[.int .u8 lit,len,dist] 280)).heap.size:=(by intro b h;have:=h.1;simp;omega);refine⟨f,ta,k+1,M-d,out++ [⟨lit,len,dist⟩],⟨hl,mz⟩,by rw[hd],co,cd,?_,?_,?_,hid aa.out.symm,?_,?_⟩
        ·show(out++ [_]).length=k+1;rw[Aj,be.out];rfl
        ·rw[Lo];exact bl
        ·show _<=_;have:=hf.out;omega
        ·exact cw.out.keep (fun b _ h2=>(bS.block b pQ (fun h=>by have:=(Am bq.out b h.symm).1;omega)).trans ((Ed _ _ b pQ).trans (Ed w7 _ b mz))) hg
        ·exact((ct.out.alloc (fun b h=>by have:=h.1;omega) _).alloc (fun b h=>by have:=h.1;simp;omega) _).grown bS cE (fun b hb hh=>by have:=(Am bq.out b hb).1;have:=hh.1;omega)
    ·have hb:(te != 0)=true:=bne_iff_ne.mpr he;have j:=an he;rw[ak.out]at j;have aa:=hid j;clear ai U y j ak Q he an;go_wp2_with fail;refine C3.out.mono ?_;rintro e w7 ⟨rfl,J,i⟩;have z7:=i.size;have G:Kept (fun x=>x<w6.heap.size/\x≠g) w6 w7:=ah.out.trans ⟨i.os,i.tape,i.output,i.size,fun b h=>i.block b ⟨lz,h.2⟩⟩;have au:Hid (Below w w w7):=a9.out.trans (G.below (fun b h=>⟨mz,mz⟩));have ae:Blk w7 gr _ _:=(G.block gr ⟨mz,mz⟩).trans Y.out;have z:w7.ownsRow w6 280 3 _ k (Dx out):=eZ E (fun x hx=>i.block x lc);go_wp2_with fail;go_ret2;rw[aa.out];exact⟨_,rfl,AK _ _ _ _,mZ mz au.out⟩
end Huff
end Go.Proofs.YtfgdoknipbpfhaaGreatDoor
