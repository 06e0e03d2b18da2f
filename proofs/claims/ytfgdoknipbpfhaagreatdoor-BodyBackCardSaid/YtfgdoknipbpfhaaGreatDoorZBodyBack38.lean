/- The walks of toks' r -/
import Derived.Test.YtfgdoknipbpfhaaGreatDoorZBodyBack37
import Derived.Test.YtfgdoknipbpfhaaGreatDoorZBodyBack13
namespace Go.Proofs.YtfgdoknipbpfhaaGreatDoor
open Go.Proofs.Tryz
open Go.Lib (hid)
set_option maxHeartbeats 2000000
set_option maxRecDepth 100000
variable{lf ls:List Nat}{f:Nat}{M:Int}
namespace Huff
open Go.RowKit Mem Canon Own
open Toks (Tk Pc Du Et pw)
theorem jC{w:World}{base c n:Nat}{A:Option Addr}(ho:w.ownsRow base 5 1 (.slice A n c) ls.length (cZ .u8 ls)):ls.length=n/\Row w w A n 1 (jZ .u8 ls)/\(A=none->n=0):=by
 have hn:ls.length=n:=by
  rcases ho.2 with ⟨hv,hx⟩|⟨g,y,cur,hv,_⟩
  ·injection hv with _ e _;exact hx.trans e.symm
  ·injection hv with _ e _;exact e.symm
 rw[hn]at ho;exact⟨hn,Row.of_own ho rfl (fun i j hi hj=>by have e0:j=0:=nj;subst e0;exact numL_get nj),fun h=>((EA ho).1 h).1⟩
theorem Jy{bs:List Bool}{n:Nat}:∀ (f:Nat) (out:List Nat) (sh:Bool) (at_:Nat),out.length<=n->n+1<=f+out.length->(Bz bs n f out sh at_).2.1=0->okB (Bz bs n f out sh at_).1=true/\(Bz bs n f out sh at_).1.length=n
 |0,out,sh,at_,h1,h2,_=>nj
 |f+1,out,sh,at_,h1,h2,h3=>by
  rw[Bz]at h3 ⊢;split at h3
  ·rename_i h;rw[Ab h]at ⊢;split at h3
   ·rename_i h4;rw[Ab h4];exact⟨h4,qW⟩
   ·cases h3
  ·rename_i h;rw[Aa h]at ⊢;split at h3
   ·cases h3
   ·rename_i h5;rw[Aa h5];split at h3
    ·rename_i h6;rw[Ab h6];exact Jy f _ _ _ (by rw[Ag];simp;omega) (by rw[Ag];simp;omega) h3
    ·rename_i h6;rw[Aa h6];split at h3
     ·cases h3
     ·rename_i h7;rw[Aa h7];split at h3
      ·cases h3
      ·rename_i h8;rw[Aa h8];have h9:¬n-out.length<=yZ bs (at_+4) 6:=fun e=>h8 (.inr e);exact Jy f _ _ _ (by rw[Ag,DQ];omega) (by rw[Ag,DQ];omega) h3
def L5(R:List Nat×Int×Nat)(lo g:Nat)(bs:List Bool)(w:World)(e:Ending)(w':World):Prop:=
 ((R.2.1≠0/\e= .returned (.tuple #[.pointer none, .int .i64 R.2.1]))∨(R.2.1=0/\∃gc,e= .returned (.tuple #[.pointer (some ⟨gc,0,none⟩), .int .i64 0])/\Coder w' w.heap.size w'.heap.size gc R.1))/\
   Rd w' lo g bs R.2.2/\Kept (fun x=>x<w.heap.size/\x≠g) w w'
theorem U2(w:World)(gr lo g:Nat)(bs:List Bool)(j n:Nat)(aa:0<n)(hn:n<=300)(N:lo<=g)(ab:w.cell? ⟨gr,0,none⟩=some (.pointer (some ⟨g,0,none⟩)))(hR:Rd w lo g bs j):
 Calls prog 330 #[.pointer (some ⟨gr,0,none⟩), .int .i64 (n:Nat)] w (L5 (Bz bs n (n+1) [] false j) lo g bs w):=by
 have C1:=jT w lo g bs j n aa hn N hR;have J:=Jy (bs:=bs) (n:=n) (n+1) [] false j qT qT;unfold Vs at C1;generalize Bz bs n (n+1) [] false j=R at *;obtain⟨rl,re,ra⟩:=R;simp only at C1 J;have ac:=hR.lt;have C1:=hid C1;have L:=hid J;clear J hR;unfold L5;simp only;by_cases he:re=0
 ·subst he;obtain⟨G,E⟩:=L.out rfl;have Z:=hid G;have ae:=hid E;clear G E L;go_enter func330,ntmps330;go_wp2_with fail;refine C1.out.mono ?_;rintro e w1 ⟨v,rfl,i,z,y⟩;have z1:=y.size;obtain⟨A1,c1,rfl⟩:=bZ i;have q1:=jC i;have M:=EA i;have C2:=hid (new_any w1 A1 _ c1 rl rfl Z.out (fun h=>by have:=M.1 h;exact this) q1.2.1);have U:=hid z;have Y:=hid y;clear q1 M i z y C1;generalize rl.length=nl at *;go_wp2_with fail;refine C2.out.mono ?_;rintro e w2 ⟨gc,rfl,hC,Q⟩;go_wp2_with fail;go_ret2;exact⟨.inr ⟨trivial,gc,rfl,hC.mono z1 (Ak _)⟩,U.out.keep (fun b _ h=>Q.block b nj) N,Y.out.trans (Kept.of_below Q (fun b h=>by have:=h.1;omega))⟩
 ·have hb:(re != 0)=true:=bne_iff_ne.mpr he;have HE:=hid he;clear he L;go_enter func330,ntmps330;go_wp2_with fail;refine C1.out.mono ?_;rintro e w1 ⟨v,rfl,i,z,y⟩;obtain⟨A1,c1,rfl⟩:=bZ i;clear i;go_wp2_with fail;go_ret2;exact⟨.inl ⟨HE.out,rfl⟩,z,y⟩
def Eu(lf:List Nat)(bs:List Bool)(v at_:Nat):Tk×Int×Nat:=
 if ¬at_+(v-257)<=bs.length then(⟨0,0,0⟩,1,at_)else
 let G:=Es lf (head bs (at_+(v-257))) (there bs (at_+(v-257)))
 if G.2.1≠0 then(⟨0,0,0⟩,G.2.1,at_+(v-257)+G.2.2)else
 if ¬at_+(v-257)+G.2.2+G.1.toNat<=bs.length then(⟨0,0,0⟩,1,at_+(v-257)+G.2.2)else
 (Du ⟨v,(yZ bs at_ (v-257):Nat),G.1,(yZ bs (at_+(v-257)+G.2.2) G.1.toNat:Nat)⟩,Et ⟨v,(yZ bs at_ (v-257):Nat),G.1,(yZ bs (at_+(v-257)+G.2.2) G.1.toNat:Nat)⟩,at_+(v-257)+G.2.2+G.1.toNat)
theorem ML(ls:List Nat)(X th:Nat):(Es ls X th).2.1=0->∃s:Nat,(Es ls X th).1=s/\s<ls.length:=by
 intro h;unfold Es at h ⊢;cases hf:(List.range ls.length).find? (hit ls X th)with
 |some s=>have:=List.mem_of_find?_eq_some hf;exact⟨s,rfl,FN.1 this⟩
 |none=>rw[hf]at h;simp only at h;split at h<;>cases h
theorem Il:(prog.info? 280).map (·.size)=some 3:=my
def UP(R:Tk×Int×Nat)(lo g:Nat)(bs:List Bool)(w:World)(e:Ending)(w':World):Prop:=
 e= .returned (.tuple #[R.1.val,R.2.1])/\Rd w' lo g bs R.2.2/\Kept (fun x=>x<w.heap.size/\x≠g) w w'
theorem i8(w:World)(gr lo g al cB gf:Nat)(lf:List Nat)(bs:List Bool)(v at_:Nat)(b6:257<=v)(bS:v<=264)(ae:lo<=g)(bj:w.cell? ⟨gr,0,none⟩=some (.pointer (some ⟨g,0,none⟩)))(bg:w.cell? ⟨gr,2,none⟩=some (.pointer (some ⟨gf,0,none⟩)))(a5:gr<w.heap.size)(aj:gr≠g)
 (bb:okB lf=true)(b9:lf.length<=12)(hC:Coder w al cB gf lf)(cf:cB<=w.heap.size)(a6:∀b,al<=b->b<cB->b≠g)(hR:Rd w lo g bs at_):
 Calls prog 354 #[.pointer (some ⟨gr,0,none⟩), .int .i64 (v:Nat)] w (UP (Eu lf bs v at_) lo g bs w):=by
 have b7:=hR.lt;have HR:=hid hR;have HC:=hid hC;have bi:=hid bb;have bl:=hid a6;obtain⟨m,hm⟩:=ii (v-257);have ay:(v:Int)-257=(m:Int):=nj
 have s1:IntKind.i64.wrap ((v:Int)-257)=(m:Int):=by rw[Ar _ nj,ay]
 have ca:m<=7:=nj
 have HM:=hid hm;have cc:=hid ay;clear hR hC bb hm ay a6;go_enter func354,ntmps354;go_wp2_with fail;have Q:Below w w (w.alloc (.cells #[.int .u8 0,ij,ij] 280)):=aZ (Ae _ _);have ac:Blk (w.alloc (.cells #[.int .u8 0,ij,ij] 280)) w 280 #[.int .u8 0,ij,ij]:=Blk.made _ _ _;generalize w.alloc (.cells #[.int .u8 0,ij,ij] 280)=w0 at *;have ax:Hid (Rd w0 lo g bs at_):=HR.out.keep (fun b _ h=>Q.block b nj) ae;have C1:=Kb w0 lo g bs at_ m nj ax.out;by_cases U:at_+m<=bs.length
 ·rw[(GE U).1,(GE U).2.1,(GE U).2.2]at C1;have C1:=hid C1;have aw:=hid U;have ba:=Ha bs at_ m;have bf:yZ bs at_ m<256:=EE ba (by have:2 ^ m<=2 ^ 8:=Cn nj nj;omega);obtain⟨x,hx⟩:=ii (yZ bs at_ m);rw[<-hx]at C1 bf;have HX:=hid hx;clear hx ba U;refine C1.out.mono ?_;rintro e w1 ⟨rfl,ag,N⟩;have Z:Kept (fun x=>x<w.heap.size/\x≠g) w w1:=(Kept.of_below Q (fun _ h=>h.1)).trans ⟨N.os,N.tape,N.output,N.size,fun b h=>N.block b h.2⟩;have z:Blk w1 w _ _:=(N.block w qS).trans ac;have d0:w1.cell? ⟨gr,0,none⟩=some (.pointer (some ⟨g,0,none⟩)):=(World.cell?_of_block (a:=⟨gr,0,none⟩) (Z.block gr ⟨a5,aj⟩)).trans bj;have d2:w1.cell? ⟨gr,2,none⟩=some (.pointer (some ⟨gf,0,none⟩)):=(World.cell?_of_block (a:=⟨gr,2,none⟩) (Z.block gr ⟨a5,aj⟩)).trans bg;have az:Coder w1 al cB gf lf:=HC.out.keep (fun b h1 h2=>Z.block b ⟨nj,bl.out b h1 h2⟩);have C2:=Wy w1.drew al cB gf lo g lf bs (at_+m) bi.out az.drew ag.drew;unfold NJ at C2;have aa:=ML lf (head bs (at_+m)) (there bs (at_+m));obtain⟨G,hG⟩:=ii (Es lf (head bs (at_+m)) (there bs (at_+m)));rw[<-hG]at C2 aa;obtain⟨gv,ge,ga⟩:=G;simp only at C2 aa;have C2:=hid C2;have av:=hid hG;have ab:=hid z;have am:=hid Z;have ar:=hid aa;clear hG az ag N Z z ac aa C1 ax Q HR HC;go_upto_region 4 with fail;go_region_held3 (fun wx=>wx.cell? ⟨gr,0,none⟩=some (.pointer (some ⟨g,0,none⟩))/\wx.cell? ⟨gr,2,none⟩=some (.pointer (some ⟨gf,0,none⟩))) (first|exact⟨d0,d2⟩|exact⟨k0,k2⟩) (first|(go_at_call 353;(with_reducible refine C2.out.mono ?_);rintro e w2 ⟨rfl,a9,Y⟩;have k0:w2.cell? ⟨gr,0,none⟩=some (.pointer (some ⟨g,0,none⟩)):=(World.cell?_of_block (a:=⟨gr,0,none⟩) (Y.block gr aj)).trans d0;have k2:w2.cell? ⟨gr,2,none⟩=some (.pointer (some ⟨gf,0,none⟩)):=(World.cell?_of_block (a:=⟨gr,2,none⟩) (Y.block gr aj)).trans d2));have bc:Kept (fun x=>x<w.heap.size/\x≠g) w w2:=am.out.trans ((Kept.refl _ w1).drew.trans ⟨Y.os,Y.tape,Y.output,Y.size,fun b h=>Y.block b h.2⟩);have au:Blk w2 w _ _:=(Y.block w qS).trans ab.out.drew;have aq:=hid a9;have af:=hid bc;have j:=hid au;clear a9 Y bc au ab am C2 d0 d2;by_cases he:ge=0
  ·subst he;obtain⟨s,rfl,hs⟩:=ar.out rfl;have bd:s<=11:=nj;have C3:=Kb w2 lo g bs (at_+m+ga) s nj aq.out;by_cases J:at_+m+ga+s<=bs.length
   ·rw[(GE J).1,(GE J).2.1,(GE J).2.2]at C3;have a0:=Ha bs (at_+m+ga) s;have b0:yZ bs (at_+m+ga) s<4096:=EE a0 (by have:2 ^ s<=2 ^ 11:=Cn nj bd;omega);have HG:Hid (Eu lf bs v at_=(Du ⟨v,(x:Nat),(s:Nat),(yZ bs (at_+m+ga) s:Nat)⟩,Et ⟨v,(x:Nat),(s:Nat),(yZ bs (at_+m+ga) s:Nat)⟩,at_+m+ga+s)):=(by show _=_;unfold Eu;rw[<-HM.out,Aa (fun h=>h aw.out),<-av.out];simp only[ne_eq,not_true_eq_false,if_false,Int.toNat_natCast];rw[Aa (fun h=>h J),HX.out]);generalize yZ bs (at_+m+ga) s=y at *;have C3:=hid C3;have C4:=hid (fun wx=>Toks.YF ⟨(v:Int),(x:Int),(s:Int),(y:Int)⟩ wx qW qW);generalize Du ⟨(v:Int),(x:Int),(s:Int),(y:Int)⟩=T at *;generalize Et ⟨(v:Int),(x:Int),(s:Int),(y:Int)⟩=E at *;obtain⟨ta,tb,tc⟩:=T;unfold Toks.Tk.val Toks.Pc.val at C4;simp only at C4;clear a0 J;go_wp2_with fail;refine C3.out.mono ?_;rintro e w3 ⟨rfl,ai,M⟩;have an:=hid ai;have ah:Hid (Kept (fun x=>x<w.heap.size/\x≠g) w w3):=af.out.trans ⟨M.os,M.tape,M.output,M.size,fun b h=>M.block b h.2⟩;have i:Hid (Blk w3 w 280 #[.int .u8 0,ij,ij]):=(M.block w qS).trans j.out;have bC:=ah.out.size;have ci:=i.out.lt;clear ai M C3 aq af j;go_wp2_with fail;refine(C4.out _).mono ?_;rintro e w4 ⟨rfl,ak⟩;have bh:Hid (Rd w4 lo g bs (at_+m+ga+s)):=an.out.keep (fun b _ h=>ak.block b nj) ae;have bk:Hid (Kept (fun x=>x<w.heap.size/\x≠g) w w4):=ah.out.trans (Kept.of_below ak (fun b h=>by have:=h.1;omega));have L:Hid (Blk w4 w 280 #[.int .u8 0,ij,ij]):=i.out.step ak;have a4:=L.out.ia 0;have b4:=L.out.ia 1;have c4:=L.out.ia 2;have ce:=L.out.frozen 0;have b8:=L.out.frozen 1;have cg:=L.out.frozen 2;clear ak C4 an ah i;go_wp2_with fail;exact CF (Canon.results_cell_tmp rfl _ _ w.heap.size _ #[.int .u8 ta,tb,tc] _ (.int .i64 E) rfl rfl (((L.out.set 0 (.int .u8 ta)).set 1 (.int .i64 tb)).set 2 (.int .i64 tc)) underlying280 rfl Il) rfl ⟨pq,by rw[HG.out];exact bh.out.keep (fun b _ h=>((AY _ _ _ b qQ).trans (AY _ _ _ b qQ)).trans (AY _ _ _ b qQ)) ae,Kept.set (p:=⟨w,2,none⟩) (Kept.set (p:=⟨w,1,none⟩) (Kept.set (p:=⟨w,0,none⟩) bk.out (fun h=>absurd h.1 (CD _)) _) (fun h=>absurd h.1 (CD _)) _) (fun h=>absurd h.1 (CD _)) _⟩
   ·rw[(GD J).1,(GD J).2.1,(GD J).2.2]at C3;have C3:=hid C3;have HG:Hid (Eu lf bs v at_=(⟨0,0,0⟩,1,at_+m+ga)):=(by show _=_;unfold Eu;rw[<-HM.out,Aa (fun h=>h aw.out),<-av.out];simp only[ne_eq,not_true_eq_false,if_false,Int.toNat_natCast];rw[Ab J]);clear J;go_wp2_with fail;refine C3.out.mono ?_;rintro e w3 ⟨rfl,ai,M⟩;have an:=hid ai;have ah:Hid (Kept (fun x=>x<w.heap.size/\x≠g) w w3):=af.out.trans ⟨M.os,M.tape,M.output,M.size,fun b h=>M.block b h.2⟩;have i:Hid (Blk w3 w 280 #[.int .u8 0,ij,ij]):=(M.block w qS).trans j.out;have a3:=i.out.ia 0;have b3:=i.out.ia 1;have c3:=i.out.ia 2;have bm:=i.out.frozen 0;have cd:=i.out.frozen 1;have b5:=i.out.frozen 2;clear ai M C3 aq af j;go_wp2_with fail;exact CF (Canon.results_cell_tmp rfl _ _ w.heap.size _ #[.int .u8 0,ij,ij] _ (.int .i64 1) rfl rfl (((i.out.set 0 (.int .u8 0)).set 1 (.int .i64 0)).set 2 (.int .i64 0)) underlying280 rfl Il) rfl ⟨pq,by rw[HG.out];exact an.out.keep (fun b _ h=>((AY _ _ _ b qQ).trans (AY _ _ _ b qQ)).trans (AY _ _ _ b qQ)) ae,Kept.set (p:=⟨w,2,none⟩) (Kept.set (p:=⟨w,1,none⟩) (Kept.set (p:=⟨w,0,none⟩) ah.out (fun h=>absurd h.1 (CD _)) _) (fun h=>absurd h.1 (CD _)) _) (fun h=>absurd h.1 (CD _)) _⟩
  ·have hb:(ge != 0)=true:=bne_iff_ne.mpr he;have HG:Hid (Eu lf bs v at_=(⟨0,0,0⟩,ge,at_+m+ga)):=(by show _=_;unfold Eu;rw[<-HM.out,Aa (fun h=>h aw.out),<-av.out];simp only;rw[Ab he]);clear he ar;have a2:=j.out.ia 0;have b2:=j.out.ia 1;have c2:=j.out.ia 2;have bt:=j.out.frozen 0;have bq:=j.out.frozen 1;have bp:=j.out.frozen 2;go_wp2_with fail;exact CF (Canon.results_cell_tmp rfl _ _ w.heap.size _ #[.int .u8 0,ij,ij] _ (.int .i64 ge) rfl rfl (((j.out.set 0 (.int .u8 0)).set 1 (.int .i64 0)).set 2 (.int .i64 0)) underlying280 rfl Il) rfl ⟨pq,by rw[HG.out];exact aq.out.keep (fun b _ h=>((AY _ _ _ b qQ).trans (AY _ _ _ b qQ)).trans (AY _ _ _ b qQ)) ae,Kept.set (p:=⟨w,2,none⟩) (Kept.set (p:=⟨w,1,none⟩) (Kept.set (p:=⟨w,0,none⟩) af.out (fun h=>absurd h.1 (CD _)) _) (fun h=>absurd h.1 (CD _)) _) (fun h=>absurd h.1 (CD _)) _⟩
 ·rw[(GD U).1,(GD U).2.1,(GD U).2.2]at C1;have C1:=hid C1;have HG:Hid (Eu lf bs v at_=(⟨0,0,0⟩,1,at_)):=by show _=_;unfold Eu;rw[<-HM.out,Ab U]
  clear U;refine C1.out.mono ?_;rintro e w1 ⟨rfl,ag,N⟩;have Z:Kept (fun x=>x<w.heap.size/\x≠g) w w1:=(Kept.of_below Q (fun _ h=>h.1)).trans ⟨N.os,N.tape,N.output,N.size,fun b h=>N.block b h.2⟩;have z:Blk w1 w _ _:=(N.block w qS).trans ac;have a1:=z.ia 0;have b1:=z.ia 1;have c1:=z.ia 2;have bN:=z.frozen 0;have bn:=z.frozen 1;have bu:=z.frozen 2;have be:=hid ag;have am:=hid Z;have ab:=hid z;clear ag N Z z ac C1 ax Q HR HC;go_wp2_with fail;exact CF (Canon.results_cell_tmp rfl _ _ w.heap.size _ #[.int .u8 0,ij,ij] _ (.int .i64 1) rfl rfl (((ab.out.set 0 (.int .u8 0)).set 1 (.int .i64 0)).set 2 (.int .i64 0)) underlying280 rfl Il) rfl ⟨pq,by rw[HG.out];exact be.out.keep (fun b _ h=>((AY _ _ _ b qQ).trans (AY _ _ _ b qQ)).trans (AY _ _ _ b qQ)) ae,Kept.set (p:=⟨w,2,none⟩) (Kept.set (p:=⟨w,1,none⟩) (Kept.set (p:=⟨w,0,none⟩) am.out (fun h=>absurd h.1 (CD _)) _) (fun h=>absurd h.1 (CD _)) _) (fun h=>absurd h.1 (CD _)) _⟩
end Huff
namespace Huff
open Go.RowKit Mem Canon Own
open Toks (Tk Pc Du Et pw)
theorem Lx{P:Program}{fn:Func}{p q r:Tmp}{ty:TypeId}(h:fn.results=#[.cell p ty, .tmp q, .tmp r])(i:Array Value)(w:World)(g:Nat)(t:TypeId)(cs:Array Value)(d:TypeDesc)(u v:Value)
 (hp:i.getD p undef= .pointer (some ⟨g,0,none⟩))(hq:i.getD q undef=u)(hr:i.getD r undef=v)(hg:Blk w g t cs)
 (hu:P.underlying ty=some d)(hd:(match d with| .struct _| .array _ _=>true|_=>false)=true)(hi:(P.info? ty).map (·.size)=some cs.size):
 (results fn i).run P w= .ok (.tuple #[.agg cs,u,v]) w:=by
 have y:i[p]?.getD undef= .pointer (some ⟨g,0,none⟩):=by simpa using hp
 have j:i[q]?.getD undef=u:=by simpa using hq
 have z:i[r]?.getD undef=v:=by simpa using hr
 simp[results,h,y,j,z,asAddr,run_loadVar_row w g t ty cs (0,0) d hg hu hd hi]
def Cx(ls lf:List Nat)(bs:List Bool)(at_:Nat):Tk×Bool×Int×Nat:=
 let G:=Es ls (head bs at_) (there bs at_)
 if G.2.1≠0 then(⟨0,0,0⟩,false,G.2.1,at_+G.2.2)else
 if G.1=256 then(⟨0,0,0⟩,false,0,at_+G.2.2)else
 if G.1<256 then(⟨G.1,0,0⟩,true,0,at_+G.2.2)else
 let M:=Eu lf bs G.1.toNat (at_+G.2.2)
 (M.1,decide (M.2.1=0),M.2.1,M.2.2)
def UX(R:Tk×Bool×Int×Nat)(lo g:Nat)(bs:List Bool)(w:World)(e:Ending)(w':World):Prop:=
 e= .returned (.tuple #[R.1.val,R.2.1,R.2.2.1])/\Rd w' lo g bs R.2.2.2/\Kept (fun x=>x<w.heap.size/\x≠g) w w'
theorem iH(w:World)(gr lo g J cB gs gf:Nat)(ls lf:List Nat)(bs:List Bool)(at_:Nat)(L:lo<=g)(bf:w.cell? ⟨gr,0,none⟩=some (.pointer (some ⟨g,0,none⟩)))(be:w.cell? ⟨gr,1,none⟩=some (.pointer (some ⟨gs,0,none⟩)))(a6:w.cell? ⟨gr,2,none⟩=some (.pointer (some ⟨gf,0,none⟩)))(ak:gr<w.heap.size)(ab:gr≠g)
 (ah:okB ls=true)(bm:ls.length<=265)(aw:Coder w J cB gs ls)(av:okB lf=true)(bg:lf.length<=12)(hC:Coder w J cB gf lf)(bh:cB<=w.heap.size)(ar:∀b,J<=b->b<cB->b≠g)(hR:Rd w lo g bs at_):
 Calls prog 331 #[.pointer (some ⟨gr,0,none⟩)] w (UX (Cx ls lf bs at_) lo g bs w):=by
 have bk:=hR.lt;have HR:=hid hR;have HC:=hid hC;have bc:=hid aw;have bd:=hid av;have al:=hid ah;have a5:=hid ar;clear hR hC av ar aw ah;go_enter func331,ntmps331;go_upto_region 1 with fail;have i:Below w w (w.alloc (.cells #[.int .u8 0,ij,ij] 280)):=aZ (Ae _ _);have aj:Blk (w.alloc (.cells #[.int .u8 0,ij,ij] 280)) w 280 #[.int .u8 0,ij,ij]:=Blk.made _ _ _;generalize w.alloc (.cells #[.int .u8 0,ij,ij] 280)=w0 at *;have ay:Hid (Rd w0 lo g bs at_):=HR.out.keep (fun b _ h=>i.block b nj) L;have a1:Coder w0 J cB gs ls:=bc.out.below i bh;have d0:=(i.cell (p:=⟨gr,0,none⟩) ak).trans bf;have d1:=(i.cell (p:=⟨gr,1,none⟩) ak).trans be;have d2:=(i.cell (p:=⟨gr,2,none⟩) ak).trans a6;have C2:=Wy w0.drew J cB gs lo g ls bs at_ al.out a1.drew ay.out.drew;unfold NJ at C2;have Q:=ML ls (head bs at_) (there bs at_);obtain⟨G,hG⟩:=ii (Es ls (head bs at_) (there bs at_));rw[<-hG]at C2 Q;obtain⟨gv,ge,ga⟩:=G;simp only at C2 Q;have C2:=hid C2;have ac:=hid hG;have ai:=hid aj;have am:=hid i;have ag:=hid Q;clear hG a1 i aj Q ay;go_region_held3 (fun wx=>wx.cell? ⟨gr,0,none⟩=some (.pointer (some ⟨g,0,none⟩))/\wx.cell? ⟨gr,1,none⟩=some (.pointer (some ⟨gs,0,none⟩))) (first|exact⟨d0,d1⟩|exact⟨k0,k1⟩) (first|(go_at_call 353;(with_reducible refine C2.out.mono ?_);rintro e w2 ⟨rfl,au,z⟩;have k0:w2.cell? ⟨gr,0,none⟩=some (.pointer (some ⟨g,0,none⟩)):=(World.cell?_of_block (a:=⟨gr,0,none⟩) (z.block gr ab)).trans d0;have k1:w2.cell? ⟨gr,1,none⟩=some (.pointer (some ⟨gs,0,none⟩)):=(World.cell?_of_block (a:=⟨gr,1,none⟩) (z.block gr ab)).trans d1));have az:Kept (fun x=>x<w.heap.size/\x≠g) w w2:=(Kept.of_below am.out (fun _ h=>h.1)).trans ((Kept.refl _ w0).drew.trans ⟨z.os,z.tape,z.output,z.size,fun b h=>z.block b h.2⟩);have j:Blk w2 w _ _:=(z.block w qS).trans ai.out.drew;have k2:w2.cell? ⟨gr,2,none⟩=some (.pointer (some ⟨gf,0,none⟩)):=(World.cell?_of_block (a:=⟨gr,2,none⟩) (z.block gr ab)).trans d2;have an:=j.lt;have a2:=j.ia 0;have b2:=j.ia 1;have c2:=j.ia 2;have bb:=j.frozen 0;have ba:=j.frozen 1;have a9:=j.frozen 2;have af:=hid au;have aa:=hid az;have E:=hid j;clear au z az j ai am C2 d0 d1 d2;by_cases he:ge=0
 ·subst he;obtain⟨s,rfl,hs⟩:=ag.out rfl;by_cases Z:s=256
  ·subst Z;have HG:Hid (Cx ls lf bs at_=(⟨0,0,0⟩,false,0,at_+ga)):=(by show _=_;unfold Cx;rw[<-ac.out];rfl);go_wp2_with fail;exact CF (Lx rfl _ _ w.heap.size _ #[.int .u8 0,ij,ij] _ (.bool false) (.int .i64 0) rfl rfl rfl (((E.out.set 0 (.int .u8 0)).set 1 (.int .i64 0)).set 2 (.int .i64 0)) underlying280 rfl Il) rfl ⟨pq,pn,(Kept.set (p:=⟨w,2,none⟩) (Kept.set (p:=⟨w,1,none⟩) (Kept.set (p:=⟨w,0,none⟩) aa.out (fun h=>absurd h.1 (CD _)) _) (fun h=>absurd h.1 (CD _)) _) (fun h=>absurd h.1 (CD _)) _)⟩
  ·have bp:((s:Int)==256)=false:=rg;by_cases bq:s<256
   ·have HG:Hid (Cx ls lf bs at_=(⟨s,0,0⟩,true,0,at_+ga)):=(by show _=_;unfold Cx;rw[<-ac.out];simp only;rw[Aa nj,Aa nj,Ab nj]);clear Z;go_wp2_with fail;exact CF (Lx rfl _ _ w.heap.size _ #[.int .u8 (s:Nat),ij,ij] _ (.bool true) (.int .i64 0) rfl rfl rfl (((E.out.set 0 (.int .u8 (s:Nat))).set 1 (.int .i64 0)).set 2 (.int .i64 0)) underlying280 rfl Il) rfl ⟨pq,pn,(Kept.set (p:=⟨w,2,none⟩) (Kept.set (p:=⟨w,1,none⟩) (Kept.set (p:=⟨w,0,none⟩) aa.out (fun h=>absurd h.1 (CD _)) _) (fun h=>absurd h.1 (CD _)) _) (fun h=>absurd h.1 (CD _)) _)⟩
   ·have aq:Coder w2 J cB gf lf:=HC.out.keep (fun b h1 h2=>aa.out.block b ⟨nj,a5.out b h1 h2⟩);have C3:=i8 w2 gr lo g J cB gf lf bs s (at_+ga) nj nj L k0 k2 nj ab bd.out bg aq nj a5.out af.out;have U:Hid (Cx ls lf bs at_=((Eu lf bs s (at_+ga)).1,decide ((Eu lf bs s (at_+ga)).2.1=0),(Eu lf bs s (at_+ga)).2.1,(Eu lf bs s (at_+ga)).2.2)):=(by show _=_;unfold Cx;rw[<-ac.out];simp only;rw[Aa nj,Aa nj,Aa nj,Bu]);unfold UP at C3;generalize Eu lf bs s (at_+ga)=M at *;obtain⟨⟨ta,tb,tc⟩,me,ma⟩:=M;unfold Toks.Tk.val at C3;simp only at C3 U;have C3:=hid C3;clear Z aq;go_wp2_with fail;refine C3.out.mono ?_;rintro e w3 ⟨rfl,a4,N⟩;have y:Blk w3 w _ _:=(N.block w ⟨an,nj⟩).trans E.out;have a3:=y.ia 0;have b3:=y.ia 1;have c3:=y.ia 2;have bi:=y.frozen 0;have bl:=y.frozen 1;have bj:=y.frozen 2;have Y:=hid y;have ax:=hid a4;have a0:Hid (Kept (fun x=>x<w.heap.size/\x≠g) w w3):=aa.out.trans ⟨N.os,N.tape,N.output,N.size,fun b h=>N.block b ⟨mj,h.2⟩⟩;clear y a4 N C3 a2 b2 c2 bb ba a9;by_cases ae:me=0
    ·subst ae;have HG:Hid (Cx ls lf bs at_=(⟨ta,tb,tc⟩,true,0,ma)):=U.out;clear U;go_wp2_with fail;exact CF (Lx rfl _ _ w.heap.size _ #[.int .u8 ta,tb,tc] _ (.bool true) (.int .i64 0) rfl rfl rfl ((((((Y.out.set 0 (.int .u8 ta)).set 1 (.int .i64 tb)).set 2 (.int .i64 tc)).set 0 (.int .u8 ta)).set 1 (.int .i64 tb)).set 2 (.int .i64 tc)) underlying280 rfl Il) rfl ⟨pq,pp,(Kept.set (p:=⟨w,2,none⟩) (Kept.set (p:=⟨w,1,none⟩) (Kept.set (p:=⟨w,0,none⟩) (Kept.set (p:=⟨w,2,none⟩) (Kept.set (p:=⟨w,1,none⟩) (Kept.set (p:=⟨w,0,none⟩) a0.out (fun h=>absurd h.1 (CD _)) _) (fun h=>absurd h.1 (CD _)) _) (fun h=>absurd h.1 (CD _)) _) (fun h=>absurd h.1 (CD _)) _) (fun h=>absurd h.1 (CD _)) _) (fun h=>absurd h.1 (CD _)) _)⟩
    ·have bn:(me==0)=false:=(by simp[ae]);have HG:Hid (Cx ls lf bs at_=(⟨ta,tb,tc⟩,false,me,ma)):=(by show _=_;rw[U.out,AU ae]);clear U ae;go_wp2_with fail;exact CF (Lx rfl _ _ w.heap.size _ #[.int .u8 ta,tb,tc] _ (.bool false) (.int .i64 me) rfl rfl rfl ((((((Y.out.set 0 (.int .u8 ta)).set 1 (.int .i64 tb)).set 2 (.int .i64 tc)).set 0 (.int .u8 ta)).set 1 (.int .i64 tb)).set 2 (.int .i64 tc)) underlying280 rfl Il) rfl ⟨pq,pp,(Kept.set (p:=⟨w,2,none⟩) (Kept.set (p:=⟨w,1,none⟩) (Kept.set (p:=⟨w,0,none⟩) (Kept.set (p:=⟨w,2,none⟩) (Kept.set (p:=⟨w,1,none⟩) (Kept.set (p:=⟨w,0,none⟩) a0.out (fun h=>absurd h.1 (CD _)) _) (fun h=>absurd h.1 (CD _)) _) (fun h=>absurd h.1 (CD _)) _) (fun h=>absurd h.1 (CD _)) _) (fun h=>absurd h.1 (CD _)) _) (fun h=>absurd h.1 (CD _)) _)⟩
 ·have hb:(ge != 0)=true:=bne_iff_ne.mpr he;have HG:Hid (Cx ls lf bs at_=(⟨0,0,0⟩,false,ge,at_+ga)):=by show _=_;unfold Cx;rw[<-ac.out];simp only;rw[Ab he]
  clear he ag;go_wp2_with fail;exact CF (Lx rfl _ _ w.heap.size _ #[.int .u8 0,ij,ij] _ (.bool false) (.int .i64 ge) rfl rfl rfl (((E.out.set 0 (.int .u8 0)).set 1 (.int .i64 0)).set 2 (.int .i64 0)) underlying280 rfl Il) rfl ⟨pq,pn,(Kept.set (p:=⟨w,2,none⟩) (Kept.set (p:=⟨w,1,none⟩) (Kept.set (p:=⟨w,0,none⟩) aa.out (fun h=>absurd h.1 (CD _)) _) (fun h=>absurd h.1 (CD _)) _) (fun h=>absurd h.1 (CD _)) _)⟩
end Huff
namespace Huff
open Go.RowKit Mem Canon Own
open Toks (Tk Pc Du Et pw Bb)
theorem cV{X th:Nat}(h:(Es ls X th).2.1=0):0<(Es ls X th).2.2:=by
 unfold Es at h ⊢;cases hf:(List.range ls.length).find? (hit ls X th)with
 |some s=>obtain⟨x,hx,i,_⟩:=Hu.1 (List.find?_some hf);simp only[List.getD_eq_getElem?_getD,hx,Option.getD_some];omega
 |none=>rw[hf]at h;simp only at h;split at h<;>cases h
def JQ(t:Tk):Prop:=Bb t.lit t.len t.dist=true/\(0<=t.lit/\t.lit<=255)/\(0<=t.len/\t.len<=257)
theorem iM(z:lf.length<=12)(bs:List Bool){v at_:Nat}(i:257<=v)(E:v<=264)(h:(Eu lf bs v at_).2.1=0):JQ (Eu lf bs v at_).1/\at_<=(Eu lf bs v at_).2.2:=by
 unfold Eu at h ⊢;simp only at h ⊢;split at h
 ·cases h
 ·rename_i h1;rw[Aa h1];split at h
  ·rename_i h2;exact absurd h h2
  ·rename_i h2;rw[Aa h2];split at h
   ·cases h
   ·rename_i h3;rw[Aa h3];obtain⟨s,hs,j⟩:=ML lf _ _ (Decidable.not_not.1 h2);rw[hs]at h h3 ⊢;rw[Bu]at h h3 ⊢;have b1:=Ha bs at_ (v-257);have b2:=Ha bs (at_+(v-257)+(Es lf (head bs (at_+(v-257))) (there bs (at_+(v-257)))).2.2) s;generalize yZ bs at_ (v-257)=x at *;generalize yZ bs (at_+(v-257)+(Es lf (head bs (at_+(v-257))) (there bs (at_+(v-257)))).2.2) s=y at *;have p1:pw ((v:Int)-257)=((2 ^ (v-257):Nat):Int):=(by unfold pw;rw[show((v:Int)-257).toNat=v-257 by omega]);have p2:pw (s:Int)=((2 ^ s:Nat):Int):=(by unfold pw;rw[Bu]);have q1:2 ^ (v-257)<=2 ^ 7:=Cn nj nj;have q2:2 ^ s<=2 ^ 11:=Cn nj nj;have q3:=Gd (v-257);have q4:=Gd s;have hj:=(Toks.WF ⟨(v:Int),(x:Int),(s:Int),(y:Int)⟩ qW qW qW qW (by simp only;rw[p1];omega) (by simp only;rw[p2];omega)).1;simp only at hj;rw[p1,p2]at hj;generalize 2 ^ (v-257)=P at *;generalize 2 ^ s=Q at *;refine⟨?_,by show at_<=at_+(v-257)+_+s;omega⟩;rw[hj];refine⟨?_,⟨qT,qT⟩,⟨qW,qW⟩⟩;unfold Bb;simp only;rw[Aa nj,decide_eq_true_eq];exact⟨iz,nj,nj,nj,nj⟩
theorem Tf(z:ls.length<=265)(y:lf.length<=12)(bs:List Bool){at_:Nat}(h:(Cx ls lf bs at_).2.2.1=0):
 ((Cx ls lf bs at_).2.1=true->JQ (Cx ls lf bs at_).1)/\at_<(Cx ls lf bs at_).2.2.2:=by
 have i:=ML ls (head bs at_) (there bs at_);have j:=cV (ls:=ls) (X:=head bs at_) (th:=there bs at_);unfold Cx at h ⊢;simp only at h ⊢;generalize Es ls (head bs at_) (there bs at_)=G at *;obtain⟨gv,ge,ga⟩:=G;simp only at h i j ⊢;by_cases h1:ge=0
 ·subst h1;obtain⟨s,rfl,hs⟩:=i rfl;have ha:=j rfl;rw[Aa qT]at h ⊢;by_cases h2:(s:Int)=256
  ·rw[Ab h2];exact⟨fun e=>(by cases e),qW⟩
  ·rw[Aa h2]at h ⊢;by_cases h3:(s:Int)<256
   ·rw[Ab h3];refine⟨fun _=>⟨?_,⟨qW,qW⟩,⟨qT,qT⟩⟩,qW⟩;unfold Bb;simp
   ·rw[Aa h3,Bu]at h ⊢;have hm:=iM y bs (v:=s) (at_:=at_+ga) nj nj h;exact⟨fun _=>hm.1,qW⟩
 ·rw[Ab h1]at h;exact absurd h h1
def ER(ls lf:List Nat)(bs:List Bool):Nat->Int->List Tk->Nat->List Tk×Int
 |0,_,_,_=>([],0)
 |f+1,most,out,at_=>
  let R:=Cx ls lf bs at_
  if R.2.2.1≠0 then([],R.2.2.1)
  else if R.2.1=false then(if FU bs R.2.2.2=0 then(out,0)else([],2))
  else if most-max 1 R.1.len<0 then([],6)
  else ER ls lf bs f (most-max 1 R.1.len) (out++ [R.1]) R.2.2.2
def Cs(lb:List Nat)(most:Int):List Tk×Int:=
 if most<0 then([],13)else
 if(Bz (Bp lb) 265 266 [] false 0).2.1≠0 then([],(Bz (Bp lb) 265 266 [] false 0).2.1)else
 if(Bz (Bp lb) 12 13 [] false (Bz (Bp lb) 265 266 [] false 0).2.2).2.1≠0 then([],(Bz (Bp lb) 12 13 [] false (Bz (Bp lb) 265 266 [] false 0).2.2).2.1)else
 ER (Bz (Bp lb) 265 266 [] false 0).1 (Bz (Bp lb) 12 13 [] false (Bz (Bp lb) 265 266 [] false 0).2.2).1 (Bp lb) ((Bp lb).length+1) most [] (Bz (Bp lb) 12 13 [] false (Bz (Bp lb) 265 266 [] false 0).2.2).2.2
def Cl:List Tk->Int
 | []=>0
 |t :: ts=>max 1 t.len+Cl ts
theorem gN(ts:List Tk)(t:Tk):Cl (ts++ [t])=Cl ts+max 1 t.len:=by
 induction ts with
 |nil=>simp[Cl]
 |cons a ts ih=>rw[Ei,Cl,Cl,ih];omega
theorem SO{ls lf:List Nat}(y:ls.length<=265)(j:lf.length<=12)(bs:List Bool)(i:Int)(h0:0<=i):∀ (f:Nat) (most:Int) (out:List Tk) (at_:Nat),0<=most->Cl out+most=i->(∀t∈out,JQ t)->∀ts e,ER ls lf bs f most out at_=(ts,e)->
 (e=0->(∀t∈ts,JQ t)/\Cl ts<=i)/\(e≠0->ts= [])
 |0,most,out,at_,hm,hs,hall,ts,e,h=>by rw[ER]at h;injection h with h1 h2;subst h1 h2;exact⟨fun _=>⟨fun t ht=>(by cases ht),by simp only[Cl];omega⟩,fun _=>rfl⟩
 |f+1,most,out,at_,hm,hs,hall,ts,e,h=>by
  rw[ER]at h;split at h
  ·rename_i h1;injection h with e1 e2;subst e1 e2;exact⟨fun e=>absurd e h1,fun _=>rfl⟩
  ·rename_i h1;have z:=Tf y j bs (Decidable.not_not.1 h1);split at h
   ·split at h
    ·injection h with e1 e2;subst e1 e2;exact⟨fun _=>⟨hall,nj⟩,fun e=>absurd rfl e⟩
    ·injection h with e1 e2;subst e1 e2;exact⟨fun e=>(by cases e),fun _=>rfl⟩
   ·rename_i h2;have h2:(Cx ls lf bs at_).2.1=true:=ry;split at h
    ·injection h with e1 e2;subst e1 e2;exact⟨fun e=>(by cases e),fun _=>rfl⟩
    ·rename_i h3;refine SO y j bs i h0 f _ _ _ nj (by rw[gN];omega) ?_ ts e h;intro t ht;rw[BQ,Ex]at ht;rcases ht with ht|rfl
     ·exact hall t ht
     ·exact z.1 h2
theorem Qr(lb:List Nat)(most:Int):((Cs lb most).2=0->(∀t∈(Cs lb most).1,JQ t)/\Cl (Cs lb most).1<=most)/\((Cs lb most).2≠0->(Cs lb most).1= []):=by
 unfold Cs;split
 ·exact⟨fun e=>(by cases e),fun _=>rfl⟩
 ·rename_i h0;split
  ·rename_i h1;exact⟨fun e=>absurd e h1,fun _=>rfl⟩
  ·rename_i h1;split
   ·rename_i h2;exact⟨fun e=>absurd e h2,fun _=>rfl⟩
   ·rename_i h2;have k1:=Jy (bs:=Bp lb) (n:=265) 266 [] false 0 qT qT (Decidable.not_not.1 h1);have k2:=Jy (bs:=Bp lb) (n:=12) 13 [] false (Bz (Bp lb) 265 266 [] false 0).2.2 qT qT (Decidable.not_not.1 h2);exact SO (by rw[k1.2];omega) (by rw[k2.2];omega) (Bp lb) most nj _ most [] _ nj (by simp[Cl]) (fun t ht=>(by cases ht)) _ _ rfl
end Huff
namespace Huff
open Go.RowKit Mem Canon Own
open Toks (Tk Pc Du Et pw Bb)
def Ld(R:List Tk×Int)(w:World)(e:Ending)(w':World):Prop:=
 ∃v,e= .returned (.tuple #[v,R.2])/\w'.ownsRow w 280 3 v R.1.length (Dv R.1)/\Below w w w'
theorem bO(bs:List Bool)(at_:Nat):FU bs at_=0∨FU bs at_=2:=by unfold FU;split<;>simp
theorem fN{bs:List Bool}{at_:Nat}{out:List Tk}{T:Tk×Bool×Int×Nat}(h:Cx ls lf bs at_=T)(he:T.2.2.1≠0):ER ls lf bs (f+1) M out at_=([],T.2.2.1):=by rw[ER,h,Ab he]
theorem eJ{bs:List Bool}{at_:Nat}{out:List Tk}{T:Tk×Bool×Int×Nat}(h:Cx ls lf bs at_=T)(he:T.2.2.1=0)(hm:T.2.1=false):ER ls lf bs (f+1) M out at_=if FU bs T.2.2.2=0 then(out,0)else([],2):=by rw[ER,h,Aa (by rw[he];simp),Ab hm]
theorem pI{bs:List Bool}{at_:Nat}{out:List Tk}{T:Tk×Bool×Int×Nat}(h:Cx ls lf bs at_=T)(he:T.2.2.1=0)(hm:T.2.1=true)(hl:M-max 1 T.1.len<0):ER ls lf bs (f+1) M out at_=([],6):=by rw[ER,h,Aa (by rw[he];simp),Aa (by rw[hm];simp),Ab hl]
theorem lT{bs:List Bool}{at_:Nat}{out:List Tk}{T:Tk×Bool×Int×Nat}(h:Cx ls lf bs at_=T)(he:T.2.2.1=0)(hm:T.2.1=true)(hl:¬M-max 1 T.1.len<0):ER ls lf bs (f+1) M out at_=ER ls lf bs f (M-max 1 T.1.len) (out++ [T.1]) T.2.2.2:=by rw[ER,h,Aa (by rw[he];simp),Aa (by rw[hm];simp),Aa hl]
theorem UE(w:World)(A:Option Addr)(n c:Nat)(lb:List Nat)(most:Int)(cB:0<=most)(cA:most<=9223372036854775807)(hn:lb.length=n)(hN:n<=100000)(h8:∀x∈lb,x<=255)(bb:A=none->n=0/\c=0)(ha:Row w w A n 1 (jZ .u8 lb)):
 Calls prog 299 #[.slice A n c,most] w (Ld (Cs lb most) w):=by
 obtain⟨j0,cF,cE,cw,cG⟩:=info_parts Nl;have C1:=hid (Q0 w A n c lb hn hN h8 bb ha);have c2:(Bp lb).length<=800000:=by rw[EK,hn];omega
 obtain⟨RT,af⟩:=ii (Cs lb most);rw[<-af];unfold Cs at af;rw[Aa nj]at af;clear hn h8 bb ha;generalize Bp lb=bs at *;have a6:=Jy (bs:=bs) (n:=265) 266 [] false 0 qT qT;have D1:=hid (fun wx gr g lo (h1:lo<=g) h2 h3=>U2 wx gr lo g bs 0 265 nj nj h1 h2 h3)
 change Hid (∀wx gr g lo,lo<=g->_->Rd wx lo g bs 0->Calls _ _ _ _ (L5 (Bz bs 265 266 [] false 0) lo g bs wx))at D1
 generalize Bz bs 265 266 [] false 0=R1 at D1 a6 af;obtain⟨ls,e1,a1⟩:=R1;simp only at a6 af;have a5:=Jy (bs:=bs) (n:=12) 13 [] false a1 qT qT;have D2:=hid (fun wx gr g lo (h1:lo<=g) h2 h3=>U2 wx gr lo g bs a1 12 nj nj h1 h2 h3)
 change Hid (∀wx gr g lo,lo<=g->_->Rd wx lo g bs a1->Calls _ _ _ _ (L5 (Bz bs 12 13 [] false a1) lo g bs wx))at D2
 generalize Bz bs 12 13 [] false a1=R2 at D2 a5 af;obtain⟨lf,e2,a2⟩:=R2;simp only at a5 af;have aq:=hid af;have b3:=hid a6;have b5:=hid a5;clear af a6 a5;go_enter func299,ntmps299;go_wp2_with fail;refine C1.out.mono ?_;rintro e w1 ⟨g,rfl,bl,hg,bq⟩;have z1:=bq.size;have c4:=bl.lt;go_wp2_with fail;have ak:Below w1 w1 (w1.alloc (.cells #[.pointer (some ⟨g,0,none⟩), .pointer none, .pointer none] 419)):=aZ (Ae _ _);have an:Blk (w1.alloc (.cells #[.pointer (some ⟨g,0,none⟩), .pointer none, .pointer none] 419)) w1 419 #[.pointer (some ⟨g,0,none⟩), .pointer none, .pointer none]:=Blk.made _ _ _;generalize w1.alloc (.cells #[.pointer (some ⟨g,0,none⟩), .pointer none, .pointer none] 419)=w2 at *;have b9:Rd w2 w g bs 0:=bl.keep (fun b _ h=>ak.block b nj) hg;have z2:=an.lt;have ba:Below w w w2:=bq.trans (ak.mono z1);refine(D1.out w2 w1 g w hg (an.cell 0) b9).mono ?_;rintro e w3 ⟨N,bu,a4⟩;simp only at N bu;have z3:=a4.size;have J:Blk w3 w1 _ _:=(a4.block w1 ⟨nj,nj⟩).trans an;have p0:=J.ia 0;have p1:=J.ia 1;have p2:=J.ia 2;have f1:=J.frozen 1;have f2:=J.frozen 2;have bi:=hid ba;have bt:=hid a4;have av:=hid J;have cm:=hid bu;clear bl b9 bq ak an ba a4 J bu C1 D1;rcases N with ⟨ax,rfl⟩|⟨ax,gs,rfl,cl⟩
 ·have hb:(e1 != 0)=true:=bne_iff_ne.mpr ax;have ab:Hid (RT=([],e1)):=by show _=_;rw[aq.out,Ab ax]
  clear ax aq;go_wp2_with fail;go_ret2;rw[ab.out];exact⟨_,rfl,AE _ _ _ _,BF (p:=⟨w1,1,none⟩) z1 (bi.out.trans (bt.out.below (fun b h=>⟨nj,nj⟩)))⟩
 ·subst ax;obtain⟨bd,a0⟩:=b3.out rfl;have cf:=hid cl;have b6:=hid bd;have cp:=hid a0;clear cl bd a0 b3;go_wp2_with fail;have aw:=av.out.set 1 (.pointer (some ⟨gs,0,none⟩));have ah:Kept (fun x=>x<w1.heap.size∨w1.heap.size<x) w3 (w3.setCell ⟨w1,1,none⟩ (.pointer (some ⟨gs,0,none⟩))):=(Kept.refl _ _).set (fun h=>by have h:w1.heap.size<w1.heap.size∨w1.heap.size<w1.heap.size:=h;omega) _;have cH:=ah.size;generalize w3.setCell ⟨w1,1,none⟩ (.pointer (some ⟨gs,0,none⟩))=w4 at *;have bS:Rd w4 w g bs a1:=cm.out.keep (fun b h1 h2=>ah.block b (by left;omega)) hg;have bf:Hid (Coder w4 w2 w3 gs ls):=cf.out.keep (fun b h1 h2=>ah.block b (by right;omega));have b8:Hid (Below w w w4):=(bi.out.trans (bt.out.below (fun b h=>⟨nj,nj⟩))).trans (ah.below (fun b h=>by left;omega));clear p0 p1 p2 f1 f2 av cm cf bi bt;refine(D2.out w4 w1 g w hg (aw.cell 0) bS).mono ?_;rintro e w5 ⟨N,bj,au⟩;simp only at N bj;have z5:=au.size;have aa:Blk w5 w1 _ _:=(au.block w1 ⟨nj,nj⟩).trans aw;have p0:=aa.cell 0;have p1:=aa.cell 1;have p2:=aa.cell 2;have f2:=aa.frozen 2;simp at p0 p1 p2;have bn:Hid (Below w w w5):=b8.out.trans (au.below (fun b h=>⟨nj,nj⟩));have bc:Hid (Coder w5 w2 w3 gs ls):=bf.out.kept au (fun b h1 h2=>⟨nj,nj⟩);have ay:=hid aa;have bm:=hid bj;clear bS ah aw bj aa au b8 bf D2;rcases N with ⟨az,rfl⟩|⟨az,gf,rfl,cd⟩
  ·have hb:(e2 != 0)=true:=bne_iff_ne.mpr az;have ab:Hid (RT=([],e2)):=(by show _=_;rw[aq.out,Aa qT,Ab az]);clear az aq;go_wp2_with fail;go_ret2;rw[ab.out];exact⟨_,rfl,AE _ _ _ _,BF (p:=⟨w1,2,none⟩) z1 bn.out⟩
  ·subst az;obtain⟨bg,cg⟩:=b5.out rfl;have bN:=hid cd;have ce:=hid bg;have b7:=hid cg;have ab:Hid (RT=ER ls lf bs (bs.length+1) most [] a2):=(by show _=_;rw[aq.out,Aa qT,Aa qT]);clear cd bg cg b5 aq;have b1:a2<=bs.length:=(by obtain⟨A',n',c',l',h1,h2,h3,h4,h5,h6,h7⟩:=bm.out;rw[h5,EK,h3];exact h6);go_wp2_with fail;have be:=ay.out.set 2 (.pointer (some ⟨gf,0,none⟩));have ac:Kept (fun x=>x<w1.heap.size∨w1.heap.size<x) w5 (w5.setCell ⟨w1,2,none⟩ (.pointer (some ⟨gf,0,none⟩))):=(Kept.refl _ _).set (fun h=>by have h:w1.heap.size<w1.heap.size∨w1.heap.size<w1.heap.size:=h;omega) _;have cP:=ac.size;generalize w5.setCell ⟨w1,2,none⟩ (.pointer (some ⟨gf,0,none⟩))=w6 at *;have ca:Hid (Rd w6 w g bs a2):=bm.out.keep (fun b h1 h2=>ac.block b (by left;omega)) hg;have cc:Hid (Coder w6 w2 w6 gs ls):=Coder.mono (bc.out.keep (fun b h1 h2=>ac.block b (by right;omega))) (Ak _) nj;have cq:Hid (Coder w6 w2 w6 gf lf):=Coder.mono (bN.out.keep (fun b h1 h2=>ac.block b (by right;omega))) nj nj;have a3:Hid (Below w w w6):=bn.out.trans (ac.below (fun b h=>by left;omega));have z6:w1.heap.size<w2.heap.size/\w2.heap.size<=w6.heap.size:=nj;have L:=hid be;clear p0 p1 p2 f2 ay bm bc bN bn ac be cP cH z5 z3;generalize w1.heap.size=gr at *;generalize w2.heap.size=cx at *;go_wp2_with fail;go_loopw [1,4] (fun m u wr=>∃ (f at_ k:Nat) (M:Int) (out:List Tk),(0<=M/\M<=9223372036854775807)/\m= .int .i64 M/\k<=at_/\at_<=bs.length/\Hid (out.length=k)/\wr.ownsRow w6 280 3 u k (Dv out)/\Hid (bs.length+1<=f+at_)/\Hid (ER ls lf bs f M out at_=RT)/\Hid (Rd wr w g bs at_)/\Hid (Kept (fun x=>x<w6.heap.size/\x≠g) w6 wr)) (fun m _ _=>(intOf m).toNat)
   case atStart=>exact⟨bs.length+1,a2,0,most,[],⟨cB,cA⟩,rfl,nj,b1,rfl,AE _ _ _ _,qG,ab.out.symm,ca.out,Kept.refl _ _⟩
   case round=>
    clear ca ab;obtain⟨f,at_,k,M,out,⟨c6,c0⟩,rfl,c7,c5,a9,E,hf,ai,bC,ag⟩:=hrel;obtain⟨f,rfl⟩:∃f',f=f'+1:=⟨f-1,by have:=hf.out;omega⟩;have cu:=ag.out.size;have al:Blk wr gr _ _:=(ag.out.block gr ⟨nj,nj⟩).trans L.out;have C3:=iH wr gr w g cx w6 gs gf ls lf bs at_ hg (al.cell 0) (al.cell 1) (al.cell 2) nj nj b6.out (by rw[cp.out];omega) (cc.out.kept ag.out (fun b h1 h2=>⟨nj,nj⟩)) ce.out (by rw[b7.out];omega) (cq.out.kept ag.out (fun b h1 h2=>⟨nj,nj⟩)) cu (fun b h1 h2=>by omega) bC.out;have U:=Tf (ls:=ls) (lf:=lf) (by rw[cp.out];omega) (by rw[b7.out];omega) bs (at_:=at_);unfold UX at C3;clear al;have aj:=fun he hm=>eJ (T:=Cx ls lf bs at_) (bs:=bs) (f:=f) (M:=M) (out:=out) rfl he hm;have am:=fun he=>fN (T:=Cx ls lf bs at_) (bs:=bs) (f:=f) (M:=M) (out:=out) rfl he;have Q:=fun he hm hl=>pI (T:=Cx ls lf bs at_) (bs:=bs) (f:=f) (M:=M) (out:=out) rfl he hm hl;have z:=fun he hm hl=>lT (T:=Cx ls lf bs at_) (bs:=bs) (f:=f) (M:=M) (out:=out) rfl he hm hl;generalize Cx ls lf bs at_=T at *;obtain⟨⟨lit,len,dist⟩,more,te,ta⟩:=T;simp only[Toks.Tk.val]at C3 U aj am Q z;have C3:=hid C3;by_cases he:te=0
    ·subst he;clear am;obtain⟨U,cT⟩:=U rfl;cases more
     ·have y:=aj rfl rfl;rw[ai.out]at y;have Z:=hid y;clear aj Q z y ai U;go_wp2_with fail;refine C3.out.mono ?_;rintro e w7 ⟨rfl,Y,i⟩;have z7:=i.size;have G:Kept (fun x=>x<w6.heap.size/\x≠g) w6 w7:=ag.out.trans ⟨i.os,i.tape,i.output,i.size,fun b h=>i.block b ⟨mj,h.2⟩⟩;have ar:Hid (Below w w w7):=a3.out.trans (G.below (fun b h=>⟨nj,nj⟩));have ae:Blk w7 gr _ _:=(G.block gr ⟨nj,nj⟩).trans L.out;have j:w7.ownsRow w6 280 3 _ k (Dv out):=eZ E (fun x hx=>i.block x lp);have cX:=ae.lt;have p0:=ae.cell 0;simp at p0;go_wp2_with fail;have co:Hid (Below w w (w7.alloc (.cells #[.int .u8 lit,len,dist] 280))):=mZ nj ar.out;have ci:=j.alloc (.cells #[.int .u8 lit,len,dist] 280);have b0:=Y.keep (w':=w7.alloc (.cells #[.int .u8 lit,len,dist] 280)) (fun b _ h=>Ej w7 _ b nj) hg;generalize w7.alloc (.cells #[.int .u8 lit,len,dist] 280)=w8 at *;have C4:=kF w8 w g bs ta b0;rcases bO bs ta with hp|hp
      ·rw[hp]at C4;have bh:Hid (RT=(out,0)):=(by show _=_;rw[Z.out,Ab hp]);have C4:=hid C4;clear hp Z;refine C4.out.mono ?_;rintro e w9 ⟨rfl,q,rfl⟩;go_wp2_with fail;go_ret2;rw[bh.out];refine⟨_,rfl,?_,below_drewN co.out q⟩;show World.ownsRow _ _ _ _ _ out.length _;rw[a9.out];exact lZ ci nj
      ·rw[hp]at C4;have bh:Hid (RT=([],2)):=(by show _=_;rw[Z.out,Aa (by rw[hp];decide)]);have C4:=hid C4;clear hp Z;refine C4.out.mono ?_;rintro e w9 ⟨rfl,q,rfl⟩;go_wp2_with fail;go_ret2;rw[bh.out];exact⟨_,rfl,AE _ _ _ _,below_drewN co.out q⟩
     ·obtain⟨hm,⟨ct,cz⟩,cy,a0⟩:=U rfl;simp only at hm ct cz cy a0;clear aj U;obtain⟨d,hd,c1,c3⟩:∃d:Int,d=max 1 len/\1<=d/\d<=257:=⟨_,rfl,nj,nj⟩;rw[<-hd]at Q z;by_cases hl:M-d<0
      ·have y:=Q rfl rfl hl;rw[ai.out]at y;have Z:=hid y;clear Q z y ai;go_wp2_with fail;refine C3.out.mono ?_;rintro e w7 ⟨rfl,Y,i⟩;have z7:=i.size;have G:Kept (fun x=>x<w6.heap.size/\x≠g) w6 w7:=ag.out.trans ⟨i.os,i.tape,i.output,i.size,fun b h=>i.block b ⟨mj,h.2⟩⟩;have ar:Hid (Below w w w7):=a3.out.trans (G.below (fun b h=>⟨nj,nj⟩));have ae:Blk w7 gr _ _:=(G.block gr ⟨nj,nj⟩).trans L.out;have j:w7.ownsRow w6 280 3 _ k (Dv out):=eZ E (fun x hx=>i.block x lp);go_wp2_with fail;go_ret2;rw[Z.out];exact⟨_,rfl,AE _ _ _ _,mZ nj ar.out⟩
      ·have y:=z rfl rfl hl;rw[ai.out]at y;have Z:=hid y;clear Q z y ai;go_wp2_with fail;refine C3.out.mono ?_;rintro e w7 ⟨rfl,Y,i⟩;have z7:=i.size;have G:Kept (fun x=>x<w6.heap.size/\x≠g) w6 w7:=ag.out.trans ⟨i.os,i.tape,i.output,i.size,fun b h=>i.block b ⟨mj,h.2⟩⟩;have ar:Hid (Below w w w7):=a3.out.trans (G.below (fun b h=>⟨nj,nj⟩));have ae:Blk w7 gr _ _:=(G.block gr ⟨nj,nj⟩).trans L.out;have j:w7.ownsRow w6 280 3 _ k (Dv out):=eZ E (fun x hx=>i.block x lp);have cj:k+1<=ta:=nj;have b4:ta<=bs.length:=(by obtain⟨A',n',c',l',h1,h2,h3,h4,h5,h6,h7⟩:=Y;rw[h5,EK,h3];exact h6);obtain⟨va,vc,rfl⟩:=bZ j;have bp:=hid j;have cC:=hid Y;have cv:=hid G;clear j Y G i E ag bC ae;go_wp2_with(at_builtin;refine iZ rfl (.tmp 57) (.tmp 59) 190 rfl w6 280 j0 _ 3 24 underlying190 cF cE cw cG rfl ip _ _ _ nm ((bp.out.alloc _).alloc _) _ 1 1 [.int .u8 lit, .int .i64 len, .int .i64 dist] nm (Src.of_blk (g:=w7.heap.size+1) (Blk.made_at _ _ _ qT) 1 1 3 rfl) mt rE nj rg ?_;intro v4 w9 bk cr cS);go_roundw
       case measure=>go_light;show(M-max 1 len).toNat<M.toNat;omega
       case rel=>
        go_light;have cL:∀b,(b<w6.heap.size/\b≠g)->b<((w7.alloc (.cells #[.int .u8 lit,len,dist] 280)).alloc (.cells #[.int .u8 lit,len,dist] 280)).heap.size:=(by intro b h;have:=h.1;simp;omega);refine⟨f,ta,k+1,M-d,out++ [⟨lit,len,dist⟩],⟨hl,nj⟩,by rw[hd],cj,b4,?_,?_,?_,hid Z.out.symm,?_,?_⟩
        ·show(out++ [_]).length=k+1;rw[Ag,a9.out];rfl
        ·rw[KT];exact bk
        ·show _<=_;have:=hf.out;omega
        ·exact cC.out.keep (fun b _ h2=>(cr.block b rg (fun h=>by have:=(Aj bp.out b h.symm).1;omega)).trans ((Ej _ _ b rg).trans (Ej w7 _ b nj))) hg
        ·exact((cv.out.alloc (fun b h=>by have:=h.1;omega) _).alloc (fun b h=>by have:=h.1;simp;omega) _).grown cr cL (fun b hb hh=>by have:=(Aj bp.out b hb).1;have:=hh.1;omega)
    ·have hb:(te != 0)=true:=bne_iff_ne.mpr he;have y:=am he;rw[ai.out]at y;have Z:=hid y;clear aj Q z y ai U he am;go_wp2_with fail;refine C3.out.mono ?_;rintro e w7 ⟨rfl,Y,i⟩;have z7:=i.size;have G:Kept (fun x=>x<w6.heap.size/\x≠g) w6 w7:=ag.out.trans ⟨i.os,i.tape,i.output,i.size,fun b h=>i.block b ⟨mj,h.2⟩⟩;have ar:Hid (Below w w w7):=a3.out.trans (G.below (fun b h=>⟨nj,nj⟩));have ae:Blk w7 gr _ _:=(G.block gr ⟨nj,nj⟩).trans L.out;have j:w7.ownsRow w6 280 3 _ k (Dv out):=eZ E (fun x hx=>i.block x lp);go_wp2_with fail;go_ret2;rw[Z.out];exact⟨_,rfl,AE _ _ _ _,mZ nj ar.out⟩
end Huff
end Go.Proofs.YtfgdoknipbpfhaaGreatDoor
