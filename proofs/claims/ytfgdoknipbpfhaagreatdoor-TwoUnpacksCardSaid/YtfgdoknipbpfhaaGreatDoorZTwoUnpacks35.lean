/- The walks of toks' r -/
import Derived.Test.YtfgdoknipbpfhaaGreatDoorZTwoUnpacks34
import Derived.Test.YtfgdoknipbpfhaaGreatDoorZTwoUnpacks18
namespace Go.Proofs.YtfgdoknipbpfhaaGreatDoor
open Go.Proofs.Tryz
open Go.Lib (hid)
set_option maxHeartbeats 2000000
set_option maxRecDepth 100000
variable{at_ f n:Nat}{lf ls:List Nat}{M:Int}
namespace Huff
open Go.RowKit Mem Canon Own
open Toks (Tk Pc CH Dv pw)
theorem YZ{w:World}{base c:Nat}{A:Option Addr}(ho:w.ownsRow base 5 1 (.slice A n c) ls.length (cZ .u8 ls)):ls.length=n/\Row w w A n 1 (jZ .u8 ls)/\(A=none->n=0):=by
 have hn:ls.length=n:=by
  rcases ho.2 with ⟨hv,hx⟩|⟨g,y,cur,hv,_⟩
  ·injection hv with _ e _;exact hx.trans e.symm
  ·injection hv with _ e _;exact e.symm
 rw[hn]at ho;exact⟨hn,Row.of_own ho rfl (fun i j hi hj=>by have e0:j=0:=kR;subst e0;exact numL_get kR),fun h=>((Da ho).1 h).1⟩
theorem G3{bs:List Bool}:∀ (f:Nat) (out:List Nat) (sh:Bool) (at_:Nat),out.length<=n->n+1<=f+out.length->(Bp bs n f out sh at_).2.1=0->okB (Bp bs n f out sh at_).1=true/\(Bp bs n f out sh at_).1.length=n
 |0,out,sh,at_,h1,h2,_=>kR
 |f+1,out,sh,at_,h1,h2,h3=>by
  rw[Bp]at h3 ⊢;split at h3
  ·rename_i h;rw[Ab h]at ⊢;split at h3
   ·rename_i h4;rw[Ab h4];exact⟨h4,m8⟩
   ·cases h3
  ·rename_i h;rw[Aa h]at ⊢;split at h3
   ·cases h3
   ·rename_i h5;rw[Aa h5];split at h3
    ·rename_i h6;rw[Ab h6];exact G3 f _ _ _ lz lz h3
    ·rename_i h6;rw[Aa h6];split at h3
     ·cases h3
     ·rename_i h7;rw[Aa h7];split at h3
      ·cases h3
      ·rename_i h8;rw[Aa h8];have h9:¬n-out.length<=yZ bs (at_+4) 6:=fun e=>h8 (.inr e);exact G3 f _ _ _ ly ly h3
def Lw(R:List Nat×Int×Nat)(lo g:Nat)(bs:List Bool)(w:World)(e:Ending)(w':World):Prop:=
 ((R.2.1≠0/\e= .returned (.tuple #[.pointer none,R.2.1]))∨(R.2.1=0/\∃gc,e= .returned (.tuple #[.pointer (some ⟨gc,0,none⟩),iT])/\Coder w' w w' gc R.1))/\
   Rd w' lo g bs R.2.2/\Kept (fun x=>x<w.heap.size/\x≠g) w w'
theorem Oo(w:World)(gr lo g:Nat)(bs:List Bool)(j n:Nat)(aa:0<n)(hn:n<=300)(M:lo<=g)(ab:w.cell? ⟨gr,0,none⟩=some (.pointer (some ⟨g,0,none⟩)))(hR:Rd w lo g bs j):
 Calls prog 330 #[.pointer (some ⟨gr,0,none⟩), .int .i64 (n:Nat)] w (Lw (Bp bs n (n+1) [] false j) lo g bs w):=by
 have C1:=Xp w lo g bs j n aa hn M hR;have J:=G3 (bs:=bs) (n:=n) (n+1) [] false j mY mY;unfold Ro at C1;generalize Bp bs n (n+1) [] false j=R at *;obtain⟨rl,re,ra⟩:=R;simp only at C1 J;have ae:=hR.lt;have C1:=hid C1;have L:=hid J;clear J hR;unfold Lw;simp only;by_cases he:re=0
 ·subst he;obtain⟨E,G⟩:=L.out rfl;have Z:=hid E;have ac:=hid G;clear E G L;go_enter func330,ntmps330;go_wp2_with fail;refine C1.out.mono ?_;rintro e w1 ⟨v,rfl,i,z,y⟩;have z1:=y.size;obtain⟨A1,c1,rfl⟩:=aZ i;have q1:=YZ i;have Q:=Da i;have C2:=hid (new_any w1 A1 _ c1 rl rfl Z.out (fun h=>by have:=Q.1 h;exact this) q1.2.1);have U:=hid z;have Y:=hid y;clear q1 Q i z y C1;generalize rl.length=nl at *;go_wp2_with fail;refine C2.out.mono ?_;rintro e w2 ⟨gc,rfl,hC,N⟩;go_wp2_with fail;go_ret2;exact⟨.inr ⟨trivial,gc,rfl,hC.mono z1 (Ai _)⟩,U.out.keep (fun b _ h=>N.block b kR) M,Y.out.trans (Kept.of_below N (fun b h=>by have:=h.1;omega))⟩
 ·have hb:(re != 0)=true:=bne_iff_ne.mpr he;have HE:=hid he;clear he L;go_enter func330,ntmps330;go_wp2_with fail;refine C1.out.mono ?_;rintro e w1 ⟨v,rfl,i,z,y⟩;obtain⟨A1,c1,rfl⟩:=aZ i;clear i;go_wp2_with fail;go_ret2;exact⟨.inl ⟨HE.out,rfl⟩,z,y⟩
def Cj(lf:List Nat)(bs:List Bool)(v at_:Nat):Tk×Int×Nat:=
 if ¬at_+(v-257)<=bs.length then(⟨0,0,0⟩,1,at_)else
 let G:=Cy lf (head bs (at_+(v-257))) (there bs (at_+(v-257)))
 if G.2.1≠0 then(⟨0,0,0⟩,G.2.1,at_+(v-257)+G.2.2)else
 if ¬at_+(v-257)+G.2.2+G.1.toNat<=bs.length then(⟨0,0,0⟩,1,at_+(v-257)+G.2.2)else
 (CH ⟨v,(yZ bs at_ (v-257):Nat),G.1,(yZ bs (at_+(v-257)+G.2.2) G.1.toNat:Nat)⟩,Dv ⟨v,(yZ bs at_ (v-257):Nat),G.1,(yZ bs (at_+(v-257)+G.2.2) G.1.toNat:Nat)⟩,at_+(v-257)+G.2.2+G.1.toNat)
theorem Jm(ls:List Nat)(X th:Nat):(Cy ls X th).2.1=0->∃s:Nat,(Cy ls X th).1=s/\s<ls.length:=by
 intro h;unfold Cy at h ⊢;cases hf:(List.range ls.length).find? (hit ls X th)with
 |some s=>have:=List.mem_of_find?_eq_some hf;exact⟨s,rfl,ES.1 this⟩
 |none=>rw[hf]at h;simp only at h;split at h<;>cases h
theorem G4:(prog.info? 280).map (·.size)=some 3:=kG
def TB(R:Tk×Int×Nat)(lo g:Nat)(bs:List Bool)(w:World)(e:Ending)(w':World):Prop:=
 e= .returned (.tuple #[R.1.val,R.2.1])/\Rd w' lo g bs R.2.2/\Kept (fun x=>x<w.heap.size/\x≠g) w w'
theorem W7(w:World)(gr lo g ak cB gf:Nat)(lf:List Nat)(bs:List Bool)(v at_:Nat)(bp:257<=v)(bB:v<=264)(ae:lo<=g)(a8:w.cell? ⟨gr,0,none⟩=some (.pointer (some ⟨g,0,none⟩)))(aY:w.cell? ⟨gr,2,none⟩=some (.pointer (some ⟨gf,0,none⟩)))(aW:gr<w.heap.size)(al:gr≠g)
 (aU:okB lf=true)(be:lf.length<=12)(hC:Coder w ak cB gf lf)(bm:cB<=w.heap.size)(aS:∀b,ak<=b->b<cB->b≠g)(hR:Rd w lo g bs at_):
 Calls prog 354 #[.pointer (some ⟨gr,0,none⟩), .int .i64 (v:Nat)] w (TB (Cj lf bs v at_) lo g bs w):=by
 have bi:=hR.lt;have HR:=hid hR;have HC:=hid hC;have a0:=hid aU;have a5:=hid aS;obtain⟨m,hm⟩:=iS (v-257);have ay:(v:Int)-257=(m:Int):=kR
 have s1:IntKind.i64.wrap ((v:Int)-257)=(m:Int):=by rw[Am _ kR,ay]
 have bf:m<=7:=kR
 have HM:=hid hm;have bb:=hid ay;clear hR hC aU hm ay aS;go_enter func354,ntmps354;go_wp2_with fail;have Q:aO w (w.alloc (.cells #[.int .u8 0,iT,iT] 280)):=bZ (Ag _ _);have aa:Blk (w.alloc (.cells #[.int .u8 0,iT,iT] 280)) w 280 #[.int .u8 0,iT,iT]:=Blk.made _ _ _;generalize w.alloc (.cells #[.int .u8 0,iT,iT] 280)=w0 at *;have ax:Hid (Rd w0 lo g bs at_):=HR.out.keep (fun b _ h=>Q.block b kR) ae;have C1:=JB w0 lo g bs at_ m kR ax.out;by_cases U:at_+m<=bs.length
 ·rw[(CQ U).1,(CQ U).2.1,(CQ U).2.2]at C1;have C1:=hid C1;have av:=hid U;have aQ:=Ev bs at_ m;have a9:yZ bs at_ m<256:=Em aQ jT;obtain⟨x,hx⟩:=iS (yZ bs at_ m);rw[<-hx]at C1 a9;have HX:=hid hx;clear hx aQ U;refine C1.out.mono ?_;rintro e w1 ⟨rfl,af,N⟩;have Z:Kept (fun x=>x<w.heap.size/\x≠g) w w1:=(Kept.of_below Q (fun _ h=>h.1)).trans ⟨N.os,N.tape,N.output,N.size,fun b h=>N.block b h.2⟩;have z:Blk w1 w _ _:=(N.block w mX).trans aa;have d0:w1.cell? ⟨gr,0,none⟩=some (.pointer (some ⟨g,0,none⟩)):=(World.cell?_of_block (a:=⟨gr,0,none⟩) (Z.block gr ⟨aW,al⟩)).trans a8;have d2:w1.cell? ⟨gr,2,none⟩=some (.pointer (some ⟨gf,0,none⟩)):=(World.cell?_of_block (a:=⟨gr,2,none⟩) (Z.block gr ⟨aW,al⟩)).trans aY;have aR:Coder w1 ak cB gf lf:=HC.out.keep (fun b h1 h2=>Z.block b ⟨kR,a5.out b h1 h2⟩);have C2:=Tx w1.drew ak cB gf lo g lf bs (at_+m) a0.out aR.drew af.drew;unfold L0 at C2;have ab:=Jm lf (head bs (at_+m)) (there bs (at_+m));obtain⟨G,hG⟩:=iS (Cy lf (head bs (at_+m)) (there bs (at_+m)));rw[<-hG]at C2 ab;obtain⟨gv,ge,ga⟩:=G;simp only at C2 ab;have C2:=hid C2;have aw:=hid hG;have ac:=hid z;have aj:=hid Z;have ar:=hid ab;clear hG aR af N Z z aa ab C1 ax Q HR HC;go_upto_region 4 with fail;go_region_held3 (fun wx=>wx.cell? ⟨gr,0,none⟩=some (.pointer (some ⟨g,0,none⟩))/\wx.cell? ⟨gr,2,none⟩=some (.pointer (some ⟨gf,0,none⟩))) (first|exact⟨d0,d2⟩|exact⟨k0,k2⟩) (first|(go_at_call 353;(with_reducible refine C2.out.mono ?_);rintro e w2 ⟨rfl,aT,Y⟩;have k0:w2.cell? ⟨gr,0,none⟩=some (.pointer (some ⟨g,0,none⟩)):=(World.cell?_of_block (a:=⟨gr,0,none⟩) (Y.block gr al)).trans d0;have k2:w2.cell? ⟨gr,2,none⟩=some (.pointer (some ⟨gf,0,none⟩)):=(World.cell?_of_block (a:=⟨gr,2,none⟩) (Y.block gr al)).trans d2));have aV:Kept (fun x=>x<w.heap.size/\x≠g) w w2:=aj.out.trans ((Kept.refl _ w1).drew.trans ⟨Y.os,Y.tape,Y.output,Y.size,fun b h=>Y.block b h.2⟩);have au:Blk w2 w _ _:=(Y.block w mX).trans ac.out.drew;have an:=hid aT;have ai:=hid aV;have i:=hid au;clear aT Y aV au ac aj C2 d0 d2;by_cases he:ge=0
  ·subst he;obtain⟨s,rfl,hs⟩:=ar.out rfl;have aP:s<=11:=kR;have C3:=JB w2 lo g bs (at_+m+ga) s kR an.out;by_cases J:at_+m+ga+s<=bs.length
   ·rw[(CQ J).1,(CQ J).2.1,(CQ J).2.2]at C3;have az:=Ev bs (at_+m+ga) s;have bC:yZ bs (at_+m+ga) s<4096:=Em az (by have:2 ^ s<=2 ^ 11:=BQ kR aP;omega);have HG:Hid (Cj lf bs v at_=(CH ⟨v,(x:Nat),(s:Nat),(yZ bs (at_+m+ga) s:Nat)⟩,Dv ⟨v,(x:Nat),(s:Nat),(yZ bs (at_+m+ga) s:Nat)⟩,at_+m+ga+s)):=(by show _=_;unfold Cj;rw[<-HM.out,Aa (fun h=>h av.out),<-aw.out];simp only[ne_eq,not_true_eq_false,if_false,Int.toNat_natCast];rw[Aa (fun h=>h J),HX.out]);generalize yZ bs (at_+m+ga) s=y at *;have C3:=hid C3;have C4:=hid (fun wx=>Toks.V1 ⟨(v:Int),(x:Int),(s:Int),(y:Int)⟩ wx m8 m8);generalize CH ⟨(v:Int),(x:Int),(s:Int),(y:Int)⟩=T at *;generalize Dv ⟨(v:Int),(x:Int),(s:Int),(y:Int)⟩=E at *;obtain⟨ta,tb,tc⟩:=T;unfold Toks.Tk.val Toks.Pc.val at C4;simp only at C4;clear az J;go_wp2_with fail;refine C3.out.mono ?_;rintro e w3 ⟨rfl,ag,L⟩;have am:=hid ag;have ah:Hid (Kept (fun x=>x<w.heap.size/\x≠g) w w3):=ai.out.trans ⟨L.os,L.tape,L.output,L.size,fun b h=>L.block b h.2⟩;have j:Hid (Blk w3 w 280 #[.int .u8 0,iT,iT]):=(L.block w mX).trans i.out;have bq:=ah.out.size;have bA:=j.out.lt;clear ag L C3 an ai i;go_wp2_with fail;refine(C4.out _).mono ?_;rintro e w4 ⟨rfl,aq⟩;have a7:Hid (Rd w4 lo g bs (at_+m+ga+s)):=am.out.keep (fun b _ h=>aq.block b kR) ae;have a6:Hid (Kept (fun x=>x<w.heap.size/\x≠g) w w4):=ah.out.trans (Kept.of_below aq (fun b h=>by have:=h.1;omega));have M:Hid (Blk w4 w 280 #[.int .u8 0,iT,iT]):=j.out.step aq;have a4:=M.out.iO 0;have b4:=M.out.iO 1;have c4:=M.out.iO 2;have bt:=M.out.frozen 0;have ba:=M.out.frozen 1;have bg:=M.out.frozen 2;clear aq C4 am ah j;go_wp2_with fail;exact AV (Canon.results_cell_tmp rfl _ _ w.heap.size _ #[.int .u8 ta,tb,tc] _ (.int .i64 E) rfl rfl (((M.out.set 0 (.int .u8 ta)).set 1 (.int .i64 tb)).set 2 (.int .i64 tc)) underlying280 rfl G4) rfl ⟨lN,by rw[HG.out];exact a7.out.keep (fun b _ h=>((AJ _ _ _ b mU).trans (AJ _ _ _ b mU)).trans (AJ _ _ _ b mU)) ae,Kept.set (p:=⟨w,2,none⟩) (Kept.set (p:=⟨w,1,none⟩) (Kept.set (p:=⟨w,0,none⟩) a6.out (fun h=>absurd h.1 (BY _)) _) (fun h=>absurd h.1 (BY _)) _) (fun h=>absurd h.1 (BY _)) _⟩
   ·rw[(CP J).1,(CP J).2.1,(CP J).2.2]at C3;have C3:=hid C3;have HG:Hid (Cj lf bs v at_=(⟨0,0,0⟩,1,at_+m+ga)):=(by show _=_;unfold Cj;rw[<-HM.out,Aa (fun h=>h av.out),<-aw.out];simp only[ne_eq,not_true_eq_false,if_false,Int.toNat_natCast];rw[Ab J]);clear J;go_wp2_with fail;refine C3.out.mono ?_;rintro e w3 ⟨rfl,ag,L⟩;have am:=hid ag;have ah:Hid (Kept (fun x=>x<w.heap.size/\x≠g) w w3):=ai.out.trans ⟨L.os,L.tape,L.output,L.size,fun b h=>L.block b h.2⟩;have j:Hid (Blk w3 w 280 #[.int .u8 0,iT,iT]):=(L.block w mX).trans i.out;have a3:=j.out.iO 0;have b3:=j.out.iO 1;have c3:=j.out.iO 2;have bk:=j.out.frozen 0;have bD:=j.out.frozen 1;have bj:=j.out.frozen 2;clear ag L C3 an ai i;go_wp2_with fail;exact AV (Canon.results_cell_tmp rfl _ _ w.heap.size _ #[.int .u8 0,iT,iT] _ (.int .i64 1) rfl rfl (((j.out.set 0 (.int .u8 0)).set 1 (.int .i64 0)).set 2 (.int .i64 0)) underlying280 rfl G4) rfl ⟨lN,by rw[HG.out];exact am.out.keep (fun b _ h=>((AJ _ _ _ b mU).trans (AJ _ _ _ b mU)).trans (AJ _ _ _ b mU)) ae,Kept.set (p:=⟨w,2,none⟩) (Kept.set (p:=⟨w,1,none⟩) (Kept.set (p:=⟨w,0,none⟩) ah.out (fun h=>absurd h.1 (BY _)) _) (fun h=>absurd h.1 (BY _)) _) (fun h=>absurd h.1 (BY _)) _⟩
  ·have hb:(ge != 0)=true:=bne_iff_ne.mpr he;have HG:Hid (Cj lf bs v at_=(⟨0,0,0⟩,ge,at_+m+ga)):=(by show _=_;unfold Cj;rw[<-HM.out,Aa (fun h=>h av.out),<-aw.out];simp only;rw[Ab he]);clear he ar;have a2:=i.out.iO 0;have b2:=i.out.iO 1;have c2:=i.out.iO 2;have bl:=i.out.frozen 0;have bh:=i.out.frozen 1;have bd:=i.out.frozen 2;go_wp2_with fail;exact AV (Canon.results_cell_tmp rfl _ _ w.heap.size _ #[.int .u8 0,iT,iT] _ (.int .i64 ge) rfl rfl (((i.out.set 0 (.int .u8 0)).set 1 (.int .i64 0)).set 2 (.int .i64 0)) underlying280 rfl G4) rfl ⟨lN,by rw[HG.out];exact an.out.keep (fun b _ h=>((AJ _ _ _ b mU).trans (AJ _ _ _ b mU)).trans (AJ _ _ _ b mU)) ae,Kept.set (p:=⟨w,2,none⟩) (Kept.set (p:=⟨w,1,none⟩) (Kept.set (p:=⟨w,0,none⟩) ai.out (fun h=>absurd h.1 (BY _)) _) (fun h=>absurd h.1 (BY _)) _) (fun h=>absurd h.1 (BY _)) _⟩
 ·rw[(CP U).1,(CP U).2.1,(CP U).2.2]at C1;have C1:=hid C1;have HG:Hid (Cj lf bs v at_=(⟨0,0,0⟩,1,at_)):=by show _=_;unfold Cj;rw[<-HM.out,Ab U]
  clear U;refine C1.out.mono ?_;rintro e w1 ⟨rfl,af,N⟩;have Z:Kept (fun x=>x<w.heap.size/\x≠g) w w1:=(Kept.of_below Q (fun _ h=>h.1)).trans ⟨N.os,N.tape,N.output,N.size,fun b h=>N.block b h.2⟩;have z:Blk w1 w _ _:=(N.block w mX).trans aa;have a1:=z.iO 0;have b1:=z.iO 1;have c1:=z.iO 2;have bc:=z.frozen 0;have bn:=z.frozen 1;have bu:=z.frozen 2;have aX:=hid af;have aj:=hid Z;have ac:=hid z;clear af N Z z aa C1 ax Q HR HC;go_wp2_with fail;exact AV (Canon.results_cell_tmp rfl _ _ w.heap.size _ #[.int .u8 0,iT,iT] _ (.int .i64 1) rfl rfl (((ac.out.set 0 (.int .u8 0)).set 1 (.int .i64 0)).set 2 (.int .i64 0)) underlying280 rfl G4) rfl ⟨lN,by rw[HG.out];exact aX.out.keep (fun b _ h=>((AJ _ _ _ b mU).trans (AJ _ _ _ b mU)).trans (AJ _ _ _ b mU)) ae,Kept.set (p:=⟨w,2,none⟩) (Kept.set (p:=⟨w,1,none⟩) (Kept.set (p:=⟨w,0,none⟩) aj.out (fun h=>absurd h.1 (BY _)) _) (fun h=>absurd h.1 (BY _)) _) (fun h=>absurd h.1 (BY _)) _⟩
end Huff
namespace Huff
open Go.RowKit Mem Canon Own
open Toks (Tk Pc CH Dv pw)
theorem Kk{P:Program}{fn:Func}{p q r:Tmp}{ty:TypeId}(h:fn.results=#[.cell p ty, .tmp q, .tmp r])(i:Array Value)(w:World)(g:Nat)(t:TypeId)(cs:Array Value)(d:TypeDesc)(u v:Value)
 (hp:i.getD p undef= .pointer (some ⟨g,0,none⟩))(hq:i.getD q undef=u)(hr:i.getD r undef=v)(hg:Blk w g t cs)
 (hu:P.underlying ty=some d)(hd:(match d with| .struct _| .array _ _=>true|_=>false)=true)(hi:(P.info? ty).map (·.size)=some cs.size):
 (results fn i).run P w= .ok (.tuple #[.agg cs,u,v]) w:=by
 have y:i[p]?.getD undef= .pointer (some ⟨g,0,none⟩):=by simpa using hp
 have z:i[q]?.getD undef=u:=by simpa using hq
 have j:i[r]?.getD undef=v:=by simpa using hr
 simp[results,h,y,z,j,asAddr,run_loadVar_row w g t ty cs (0,0) d hg hu hd hi]
def BJ(ls lf:List Nat)(bs:List Bool)(at_:Nat):Tk×Bool×Int×Nat:=
 let G:=Cy ls (head bs at_) (there bs at_)
 if G.2.1≠0 then(⟨0,0,0⟩,false,G.2.1,at_+G.2.2)else
 if G.1=256 then(⟨0,0,0⟩,false,0,at_+G.2.2)else
 if G.1<256 then(⟨G.1,0,0⟩,true,0,at_+G.2.2)else
 let M:=Cj lf bs G.1.toNat (at_+G.2.2)
 (M.1,decide (M.2.1=0),M.2.1,M.2.2)
def Tl(R:Tk×Bool×Int×Nat)(lo g:Nat)(bs:List Bool)(w:World)(e:Ending)(w':World):Prop:=
 e= .returned (.tuple #[R.1.val,R.2.1,R.2.2.1])/\Rd w' lo g bs R.2.2.2/\Kept (fun x=>x<w.heap.size/\x≠g) w w'
theorem WM(w:World)(gr lo g N cB gs gf:Nat)(ls lf:List Nat)(bs:List Bool)(at_:Nat)(L:lo<=g)(a4:w.cell? ⟨gr,0,none⟩=some (.pointer (some ⟨g,0,none⟩)))(a5:w.cell? ⟨gr,1,none⟩=some (.pointer (some ⟨gs,0,none⟩)))(aX:w.cell? ⟨gr,2,none⟩=some (.pointer (some ⟨gf,0,none⟩)))(ak:gr<w.heap.size)(ab:gr≠g)
 (ai:okB ls=true)(bc:ls.length<=265)(al:Coder w N cB gs ls)(aQ:okB lf=true)(aV:lf.length<=12)(hC:Coder w N cB gf lf)(a1:cB<=w.heap.size)(av:∀b,N<=b->b<cB->b≠g)(hR:Rd w lo g bs at_):
 Calls prog 331 #[.pointer (some ⟨gr,0,none⟩)] w (Tl (BJ ls lf bs at_) lo g bs w):=by
 have a7:=hR.lt;have HR:=hid hR;have HC:=hid hC;have aT:=hid al;have aY:=hid aQ;have aS:=hid ai;have au:=hid av;clear hR hC aQ av al ai;go_enter func331,ntmps331;go_upto_region 1 with fail;have i:aO w (w.alloc (.cells #[.int .u8 0,iT,iT] 280)):=bZ (Ag _ _);have ah:Blk (w.alloc (.cells #[.int .u8 0,iT,iT] 280)) w 280 #[.int .u8 0,iT,iT]:=Blk.made _ _ _;generalize w.alloc (.cells #[.int .u8 0,iT,iT] 280)=w0 at *;have ax:Hid (Rd w0 lo g bs at_):=HR.out.keep (fun b _ h=>i.block b kR) L;have aw:Coder w0 N cB gs ls:=aT.out.below i a1;have d0:=(i.cell (p:=⟨gr,0,none⟩) ak).trans a4;have d1:=(i.cell (p:=⟨gr,1,none⟩) ak).trans a5;have d2:=(i.cell (p:=⟨gr,2,none⟩) ak).trans aX;have C2:=Tx w0.drew N cB gs lo g ls bs at_ aS.out aw.drew ax.out.drew;unfold L0 at C2;have Q:=Jm ls (head bs at_) (there bs at_);obtain⟨G,hG⟩:=iS (Cy ls (head bs at_) (there bs at_));rw[<-hG]at C2 Q;obtain⟨gv,ge,ga⟩:=G;simp only at C2 Q;have C2:=hid C2;have ac:=hid hG;have aj:=hid ah;have ar:=hid i;have ag:=hid Q;clear hG aw i ah Q ax;go_region_held3 (fun wx=>wx.cell? ⟨gr,0,none⟩=some (.pointer (some ⟨g,0,none⟩))/\wx.cell? ⟨gr,1,none⟩=some (.pointer (some ⟨gs,0,none⟩))) (first|exact⟨d0,d1⟩|exact⟨k0,k1⟩) (first|(go_at_call 353;(with_reducible refine C2.out.mono ?_);rintro e w2 ⟨rfl,ay,z⟩;have k0:w2.cell? ⟨gr,0,none⟩=some (.pointer (some ⟨g,0,none⟩)):=(World.cell?_of_block (a:=⟨gr,0,none⟩) (z.block gr ab)).trans d0;have k1:w2.cell? ⟨gr,1,none⟩=some (.pointer (some ⟨gs,0,none⟩)):=(World.cell?_of_block (a:=⟨gr,1,none⟩) (z.block gr ab)).trans d1));have aR:Kept (fun x=>x<w.heap.size/\x≠g) w w2:=(Kept.of_below ar.out (fun _ h=>h.1)).trans ((Kept.refl _ w0).drew.trans ⟨z.os,z.tape,z.output,z.size,fun b h=>z.block b h.2⟩);have j:Blk w2 w _ _:=(z.block w mX).trans aj.out.drew;have k2:w2.cell? ⟨gr,2,none⟩=some (.pointer (some ⟨gf,0,none⟩)):=(World.cell?_of_block (a:=⟨gr,2,none⟩) (z.block gr ab)).trans d2;have an:=j.lt;have a2:=j.iO 0;have b2:=j.iO 1;have c2:=j.iO 2;have a0:=j.frozen 0;have aW:=j.frozen 1;have aU:=j.frozen 2;have af:=hid ay;have Z:=hid aR;have E:=hid j;clear ay z aR j aj ar C2 d0 d1 d2;by_cases he:ge=0
 ·subst he;obtain⟨s,rfl,hs⟩:=ag.out rfl;by_cases aa:s=256
  ·subst aa;have HG:Hid (BJ ls lf bs at_=(⟨0,0,0⟩,false,0,at_+ga)):=(by show _=_;unfold BJ;rw[<-ac.out];rfl);go_wp2_with fail;exact AV (Kk rfl _ _ w.heap.size _ #[.int .u8 0,iT,iT] _ (.bool false) (.int .i64 0) rfl rfl rfl (((E.out.set 0 (.int .u8 0)).set 1 (.int .i64 0)).set 2 (.int .i64 0)) underlying280 rfl G4) rfl ⟨lN,lL,(Kept.set (p:=⟨w,2,none⟩) (Kept.set (p:=⟨w,1,none⟩) (Kept.set (p:=⟨w,0,none⟩) Z.out (fun h=>absurd h.1 (BY _)) _) (fun h=>absurd h.1 (BY _)) _) (fun h=>absurd h.1 (BY _)) _)⟩
  ·have a6:((s:Int)==256)=false:=ni;by_cases a9:s<256
   ·have HG:Hid (BJ ls lf bs at_=(⟨s,0,0⟩,true,0,at_+ga)):=(by show _=_;unfold BJ;rw[<-ac.out];simp only;rw[Aa kR,Aa kR,Ab kR]);clear aa;go_wp2_with fail;exact AV (Kk rfl _ _ w.heap.size _ #[.int .u8 (s:Nat),iT,iT] _ (.bool true) (.int .i64 0) rfl rfl rfl (((E.out.set 0 (.int .u8 (s:Nat))).set 1 (.int .i64 0)).set 2 (.int .i64 0)) underlying280 rfl G4) rfl ⟨lN,lL,(Kept.set (p:=⟨w,2,none⟩) (Kept.set (p:=⟨w,1,none⟩) (Kept.set (p:=⟨w,0,none⟩) Z.out (fun h=>absurd h.1 (BY _)) _) (fun h=>absurd h.1 (BY _)) _) (fun h=>absurd h.1 (BY _)) _)⟩
   ·have am:Coder w2 N cB gf lf:=HC.out.keep (fun b h1 h2=>Z.out.block b ⟨kR,au.out b h1 h2⟩);have C3:=W7 w2 gr lo g N cB gf lf bs s (at_+ga) kR kR L k0 k2 kR ab aY.out aV am kR au.out af.out;have Y:Hid (BJ ls lf bs at_=((Cj lf bs s (at_+ga)).1,decide ((Cj lf bs s (at_+ga)).2.1=0),(Cj lf bs s (at_+ga)).2.1,(Cj lf bs s (at_+ga)).2.2)):=(by show _=_;unfold BJ;rw[<-ac.out];simp only;rw[Aa kR,Aa kR,Aa kR,CA]);unfold TB at C3;generalize Cj lf bs s (at_+ga)=M at *;obtain⟨⟨ta,tb,tc⟩,me,ma⟩:=M;unfold Toks.Tk.val at C3;simp only at C3 Y;have C3:=hid C3;clear aa am;go_wp2_with fail;refine C3.out.mono ?_;rintro e w3 ⟨rfl,az,J⟩;have y:Blk w3 w _ _:=(J.block w ⟨an,kR⟩).trans E.out;have a3:=y.iO 0;have b3:=y.iO 1;have c3:=y.iO 2;have ba:=y.frozen 0;have bd:=y.frozen 1;have a8:=y.frozen 2;have U:=hid y;have aq:=hid az;have aP:Hid (Kept (fun x=>x<w.heap.size/\x≠g) w w3):=Z.out.trans ⟨J.os,J.tape,J.output,J.size,fun b h=>J.block b ⟨ko,h.2⟩⟩;clear y az J C3 a2 b2 c2 a0 aW aU;by_cases ae:me=0
    ·subst ae;have HG:Hid (BJ ls lf bs at_=(⟨ta,tb,tc⟩,true,0,ma)):=Y.out;clear Y;go_wp2_with fail;exact AV (Kk rfl _ _ w.heap.size _ #[.int .u8 ta,tb,tc] _ (.bool true) (.int .i64 0) rfl rfl rfl ((((((U.out.set 0 (.int .u8 ta)).set 1 (.int .i64 tb)).set 2 (.int .i64 tc)).set 0 (.int .u8 ta)).set 1 (.int .i64 tb)).set 2 (.int .i64 tc)) underlying280 rfl G4) rfl ⟨lN,lM,(Kept.set (p:=⟨w,2,none⟩) (Kept.set (p:=⟨w,1,none⟩) (Kept.set (p:=⟨w,0,none⟩) (Kept.set (p:=⟨w,2,none⟩) (Kept.set (p:=⟨w,1,none⟩) (Kept.set (p:=⟨w,0,none⟩) aP.out (fun h=>absurd h.1 (BY _)) _) (fun h=>absurd h.1 (BY _)) _) (fun h=>absurd h.1 (BY _)) _) (fun h=>absurd h.1 (BY _)) _) (fun h=>absurd h.1 (BY _)) _) (fun h=>absurd h.1 (BY _)) _)⟩
    ·have bb:(me==0)=false:=(by simp[ae]);have HG:Hid (BJ ls lf bs at_=(⟨ta,tb,tc⟩,false,me,ma)):=(by show _=_;rw[Y.out,Az ae]);clear Y ae;go_wp2_with fail;exact AV (Kk rfl _ _ w.heap.size _ #[.int .u8 ta,tb,tc] _ (.bool false) (.int .i64 me) rfl rfl rfl ((((((U.out.set 0 (.int .u8 ta)).set 1 (.int .i64 tb)).set 2 (.int .i64 tc)).set 0 (.int .u8 ta)).set 1 (.int .i64 tb)).set 2 (.int .i64 tc)) underlying280 rfl G4) rfl ⟨lN,lM,(Kept.set (p:=⟨w,2,none⟩) (Kept.set (p:=⟨w,1,none⟩) (Kept.set (p:=⟨w,0,none⟩) (Kept.set (p:=⟨w,2,none⟩) (Kept.set (p:=⟨w,1,none⟩) (Kept.set (p:=⟨w,0,none⟩) aP.out (fun h=>absurd h.1 (BY _)) _) (fun h=>absurd h.1 (BY _)) _) (fun h=>absurd h.1 (BY _)) _) (fun h=>absurd h.1 (BY _)) _) (fun h=>absurd h.1 (BY _)) _) (fun h=>absurd h.1 (BY _)) _)⟩
 ·have hb:(ge != 0)=true:=bne_iff_ne.mpr he;have HG:Hid (BJ ls lf bs at_=(⟨0,0,0⟩,false,ge,at_+ga)):=by show _=_;unfold BJ;rw[<-ac.out];simp only;rw[Ab he]
  clear he ag;go_wp2_with fail;exact AV (Kk rfl _ _ w.heap.size _ #[.int .u8 0,iT,iT] _ (.bool false) (.int .i64 ge) rfl rfl rfl (((E.out.set 0 (.int .u8 0)).set 1 (.int .i64 0)).set 2 (.int .i64 0)) underlying280 rfl G4) rfl ⟨lN,lL,(Kept.set (p:=⟨w,2,none⟩) (Kept.set (p:=⟨w,1,none⟩) (Kept.set (p:=⟨w,0,none⟩) Z.out (fun h=>absurd h.1 (BY _)) _) (fun h=>absurd h.1 (BY _)) _) (fun h=>absurd h.1 (BY _)) _)⟩
end Huff
namespace Huff
open Go.RowKit Mem Canon Own
open Toks (Tk Pc CH Dv pw BS)
theorem XA{X th:Nat}(h:(Cy ls X th).2.1=0):0<(Cy ls X th).2.2:=by
 unfold Cy at h ⊢;cases hf:(List.range ls.length).find? (hit ls X th)with
 |some s=>obtain⟨x,hx,i,_⟩:=FA.1 (List.find?_some hf);simp only[List.getD_eq_getElem?_getD,hx,Option.getD_some];omega
 |none=>rw[hf]at h;simp only at h;split at h<;>cases h
def Jk(t:Tk):Prop:=BS t.lit t.len t.dist=true/\(0<=t.lit/\t.lit<=255)/\(0<=t.len/\t.len<=257)
theorem YM(z:lf.length<=12)(bs:List Bool){v:Nat}(E:257<=v)(i:v<=264)(h:(Cj lf bs v at_).2.1=0):Jk (Cj lf bs v at_).1/\at_<=(Cj lf bs v at_).2.2:=by
 unfold Cj at h ⊢;simp only at h ⊢;split at h
 ·cases h
 ·rename_i h1;rw[Aa h1];split at h
  ·rename_i h2;exact absurd h h2
  ·rename_i h2;rw[Aa h2];split at h
   ·cases h
   ·rename_i h3;rw[Aa h3];obtain⟨s,hs,j⟩:=Jm lf _ _ (Decidable.not_not.1 h2);rw[hs]at h h3 ⊢;rw[CA]at h h3 ⊢;have b1:=Ev bs at_ (v-257);have b2:=Ev bs (at_+(v-257)+(Cy lf (head bs (at_+(v-257))) (there bs (at_+(v-257)))).2.2) s;generalize yZ bs at_ (v-257)=x at *;generalize yZ bs (at_+(v-257)+(Cy lf (head bs (at_+(v-257))) (there bs (at_+(v-257)))).2.2) s=y at *;have p1:pw ((v:Int)-257)=((2 ^ (v-257):Nat):Int):=(by unfold pw;rw[show((v:Int)-257).toNat=v-257 by omega]);have p2:pw (s:Int)=((2 ^ s:Nat):Int):=(by unfold pw;rw[CA]);have q1:2 ^ (v-257)<=2 ^ 7:=BQ kR kR;have q2:2 ^ s<=2 ^ 11:=BQ kR kR;have q3:=GE (v-257);have q4:=GE s;have hj:=(Toks.Ns ⟨(v:Int),(x:Int),(s:Int),(y:Int)⟩ m8 m8 m8 m8 (by simp only;rw[p1];omega) (by simp only;rw[p2];omega)).1;simp only at hj;rw[p1,p2]at hj;generalize 2 ^ (v-257)=P at *;generalize 2 ^ s=Q at *;refine⟨?_,by show at_<=at_+(v-257)+_+s;omega⟩;rw[hj];refine⟨?_,⟨mY,mY⟩,⟨m8,m8⟩⟩;unfold BS;simp only;rw[Aa kR,decide_eq_true_eq];exact⟨i7,kR,kR,kR,kR⟩
theorem KV(z:ls.length<=265)(y:lf.length<=12)(bs:List Bool)(h:(BJ ls lf bs at_).2.2.1=0):
 ((BJ ls lf bs at_).2.1=true->Jk (BJ ls lf bs at_).1)/\at_<(BJ ls lf bs at_).2.2.2:=by
 have i:=Jm ls (head bs at_) (there bs at_);have j:=XA (ls:=ls) (X:=head bs at_) (th:=there bs at_);unfold BJ at h ⊢;simp only at h ⊢;generalize Cy ls (head bs at_) (there bs at_)=G at *;obtain⟨gv,ge,ga⟩:=G;simp only at h i j ⊢;by_cases h1:ge=0
 ·subst h1;obtain⟨s,rfl,hs⟩:=i rfl;have ha:=j rfl;rw[Aa mY]at h ⊢;by_cases h2:(s:Int)=256
  ·rw[Ab h2];exact⟨fun e=>(by cases e),m8⟩
  ·rw[Aa h2]at h ⊢;by_cases h3:(s:Int)<256
   ·rw[Ab h3];refine⟨fun _=>⟨?_,⟨m8,m8⟩,⟨mY,mY⟩⟩,m8⟩;unfold BS;simp
   ·rw[Aa h3,CA]at h ⊢;have hm:=YM y bs (v:=s) (at_:=at_+ga) kR kR h;exact⟨fun _=>hm.1,m8⟩
 ·rw[Ab h1]at h;exact absurd h h1
def Dk(ls lf:List Nat)(bs:List Bool):Nat->Int->List Tk->Nat->List Tk×Int
 |0,_,_,_=>([],0)
 |f+1,most,out,at_=>
  let R:=BJ ls lf bs at_
  if R.2.2.1≠0 then([],R.2.2.1)
  else if R.2.1=false then(if Eb bs R.2.2.2=0 then(out,0)else([],2))
  else if most-max 1 R.1.len<0 then([],6)
  else Dk ls lf bs f (most-max 1 R.1.len) (out++ [R.1]) R.2.2.2
def BX(lb:List Nat)(most:Int):List Tk×Int:=
 if most<0 then([],13)else
 if(Bp (Bg lb) 265 266 [] false 0).2.1≠0 then([],(Bp (Bg lb) 265 266 [] false 0).2.1)else
 if(Bp (Bg lb) 12 13 [] false (Bp (Bg lb) 265 266 [] false 0).2.2).2.1≠0 then([],(Bp (Bg lb) 12 13 [] false (Bp (Bg lb) 265 266 [] false 0).2.2).2.1)else
 Dk (Bp (Bg lb) 265 266 [] false 0).1 (Bp (Bg lb) 12 13 [] false (Bp (Bg lb) 265 266 [] false 0).2.2).1 (Bg lb) ((Bg lb).length+1) most [] (Bp (Bg lb) 12 13 [] false (Bp (Bg lb) 265 266 [] false 0).2.2).2.2
def Fg:List Tk->Int
 | []=>0
 |t :: ts=>max 1 t.len+Fg ts
theorem Yw(ts:List Tk)(t:Tk):Fg (ts++ [t])=Fg ts+max 1 t.len:=by
 induction ts with
 |nil=>simp[Fg]
 |cons a ts ih=>rw[Ix,Fg,Fg,ih];omega
theorem QV(z:ls.length<=265)(y:lf.length<=12)(bs:List Bool)(i:Int)(h0:0<=i):∀ (f:Nat) (most:Int) (out:List Tk) (at_:Nat),0<=most->Fg out+most=i->(∀t∈out,Jk t)->∀ts e,Dk ls lf bs f most out at_=(ts,e)->
 (e=0->(∀t∈ts,Jk t)/\Fg ts<=i)/\(e≠0->ts= [])
 |0,most,out,at_,hm,hs,hall,ts,e,h=>by rw[Dk]at h;injection h with h1 h2;subst h1 h2;exact⟨fun _=>⟨fun t ht=>(by cases ht),by simp only[Fg];omega⟩,fun _=>rfl⟩
 |f+1,most,out,at_,hm,hs,hall,ts,e,h=>by
  rw[Dk]at h;split at h
  ·rename_i h1;injection h with e1 e2;subst e1 e2;exact⟨fun e=>absurd e h1,fun _=>rfl⟩
  ·rename_i h1;have j:=KV z y bs (Decidable.not_not.1 h1);split at h
   ·split at h
    ·injection h with e1 e2;subst e1 e2;exact⟨fun _=>⟨hall,kR⟩,fun e=>absurd rfl e⟩
    ·injection h with e1 e2;subst e1 e2;exact⟨fun e=>(by cases e),fun _=>rfl⟩
   ·rename_i h2;have h2:(BJ ls lf bs at_).2.1=true:=nA;split at h
    ·injection h with e1 e2;subst e1 e2;exact⟨fun e=>(by cases e),fun _=>rfl⟩
    ·rename_i h3;refine QV z y bs i h0 f _ _ _ kR (by rw[Yw];omega) ?_ ts e h;intro t ht;rw[BN,Dw]at ht;rcases ht with ht|rfl
     ·exact hall t ht
     ·exact j.1 h2
theorem NW(lb:List Nat)(most:Int):((BX lb most).2=0->(∀t∈(BX lb most).1,Jk t)/\Fg (BX lb most).1<=most)/\((BX lb most).2≠0->(BX lb most).1= []):=by
 unfold BX;split
 ·exact⟨fun e=>(by cases e),fun _=>rfl⟩
 ·rename_i h0;split
  ·rename_i h1;exact⟨fun e=>absurd e h1,fun _=>rfl⟩
  ·rename_i h1;split
   ·rename_i h2;exact⟨fun e=>absurd e h2,fun _=>rfl⟩
   ·rename_i h2;have k1:=G3 (bs:=Bg lb) (n:=265) 266 [] false 0 mY mY (Decidable.not_not.1 h1);have k2:=G3 (bs:=Bg lb) (n:=12) 13 [] false (Bp (Bg lb) 265 266 [] false 0).2.2 mY mY (Decidable.not_not.1 h2);exact QV (by rw[k1.2];omega) (by rw[k2.2];omega) (Bg lb) most kR _ most [] _ kR (by simp[Fg]) (fun t ht=>(by cases ht)) _ _ rfl
end Huff
namespace Huff
open Go.RowKit Mem Canon Own
open Toks (Tk Pc CH Dv pw BS)
def Il(R:List Tk×Int)(w:World)(e:Ending)(w':World):Prop:=
 ∃v,e= .returned (.tuple #[v,R.2])/\w'.ownsRow w 280 3 v R.1.length (CW R.1)/\aO w w'
theorem O9(bs:List Bool)(at_:Nat):Eb bs at_=0∨Eb bs at_=2:=by unfold Eb;split<;>simp
theorem QL{bs:List Bool}{out:List Tk}{T:Tk×Bool×Int×Nat}(h:BJ ls lf bs at_=T)(he:T.2.2.1≠0):Dk ls lf bs (f+1) M out at_=([],T.2.2.1):=by rw[Dk,h,Ab he]
theorem QD{bs:List Bool}{out:List Tk}{T:Tk×Bool×Int×Nat}(h:BJ ls lf bs at_=T)(he:T.2.2.1=0)(hm:T.2.1=false):Dk ls lf bs (f+1) M out at_=if Eb bs T.2.2.2=0 then(out,0)else([],2):=by rw[Dk,h,Aa (by rw[he];simp),Ab hm]
theorem O4{bs:List Bool}{out:List Tk}{T:Tk×Bool×Int×Nat}(h:BJ ls lf bs at_=T)(he:T.2.2.1=0)(hm:T.2.1=true)(hl:M-max 1 T.1.len<0):Dk ls lf bs (f+1) M out at_=([],6):=by rw[Dk,h,Aa (by rw[he];simp),Aa (by rw[hm];simp),Ab hl]
theorem P0{bs:List Bool}{out:List Tk}{T:Tk×Bool×Int×Nat}(h:BJ ls lf bs at_=T)(he:T.2.2.1=0)(hm:T.2.1=true)(hl:¬M-max 1 T.1.len<0):Dk ls lf bs (f+1) M out at_=Dk ls lf bs f (M-max 1 T.1.len) (out++ [T.1]) T.2.2.2:=by rw[Dk,h,Aa (by rw[he];simp),Aa (by rw[hm];simp),Aa hl]
theorem tread_any(w:World)(A:Option Addr)(n c:Nat)(lb:List Nat)(most:Int)(bO:0<=most)(bR:most<=9223372036854775807)(hn:lb.length=n)(hN:n<=100000)(h8:∀x∈lb,x<=255)(a4:A=none->n=0/\c=0)(ha:Row w w A n 1 (jZ .u8 lb)):
 Calls prog 299 #[.slice A n c,most] w (Il (BX lb most) w):=by
 obtain⟨j0,bY,b5,bU,b3⟩:=info_parts Lq;have C1:=hid (P8 w A n c lb hn hN h8 a4 ha);have cc:(Bg lb).length<=800000:=by rw[Dy,hn];omega
 obtain⟨RT,ag⟩:=iS (BX lb most);rw[<-ag];unfold BX at ag;rw[Aa kR]at ag;clear hn h8 a4 ha;generalize Bg lb=bs at *;have aT:=G3 (bs:=bs) (n:=265) 266 [] false 0 mY mY;have D1:=hid (fun wx gr g lo (h1:lo<=g) h2 h3=>Oo wx gr lo g bs 0 265 kR kR h1 h2 h3)
 change Hid (∀wx gr g lo,lo<=g->_->Rd wx lo g bs 0->Calls _ _ _ _ (Lw (Bp bs 265 266 [] false 0) lo g bs wx))at D1
 generalize Bp bs 265 266 [] false 0=R1 at D1 aT ag;obtain⟨ls,e1,a1⟩:=R1;simp only at aT ag;have aQ:=G3 (bs:=bs) (n:=12) 13 [] false a1 mY mY;have D2:=hid (fun wx gr g lo (h1:lo<=g) h2 h3=>Oo wx gr lo g bs a1 12 kR kR h1 h2 h3)
 change Hid (∀wx gr g lo,lo<=g->_->Rd wx lo g bs a1->Calls _ _ _ _ (Lw (Bp bs 12 13 [] false a1) lo g bs wx))at D2
 generalize Bp bs 12 13 [] false a1=R2 at D2 aQ ag;obtain⟨lf,e2,a2⟩:=R2;simp only at aQ ag;have ar:=hid ag;have bh:=hid aT;have bK:=hid aQ;clear ag aT aQ;go_enter func299,ntmps299;go_wp2_with fail;refine C1.out.mono ?_;rintro e w1 ⟨g,rfl,a6,hg,a7⟩;have z1:=a7.size;have ca:=a6.lt;go_wp2_with fail;have ak:aO w1 (w1.alloc (.cells #[.pointer (some ⟨g,0,none⟩), .pointer none, .pointer none] 419)):=bZ (Ag _ _);have an:Blk (w1.alloc (.cells #[.pointer (some ⟨g,0,none⟩), .pointer none, .pointer none] 419)) w1 419 #[.pointer (some ⟨g,0,none⟩), .pointer none, .pointer none]:=Blk.made _ _ _;generalize w1.alloc (.cells #[.pointer (some ⟨g,0,none⟩), .pointer none, .pointer none] 419)=w2 at *;have bG:Rd w2 w g bs 0:=a6.keep (fun b _ h=>ak.block b kR) hg;have z2:=an.lt;have aX:aO w w2:=a7.trans (ak.mono z1);refine(D1.out w2 w1 g w hg (an.cell 0) bG).mono ?_;rintro e w3 ⟨Q,ba,aP⟩;simp only at Q ba;have z3:=aP.size;have N:Blk w3 w1 _ _:=(aP.block w1 ⟨kR,kR⟩).trans an;have p0:=N.iO 0;have p1:=N.iO 1;have p2:=N.iO 2;have f1:=N.frozen 1;have f2:=N.frozen 2;have a9:=hid aX;have bc:=hid aP;have ay:=hid N;have bu:=hid ba;clear a6 bG a7 ak an aX aP N ba C1 D1;rcases Q with ⟨az,rfl⟩|⟨az,gs,rfl,bg⟩
 ·have hb:(e1 != 0)=true:=bne_iff_ne.mpr az;have ae:Hid (RT=([],e1)):=by show _=_;rw[ar.out,Ab az]
  clear az ar;go_wp2_with fail;go_ret2;rw[ae.out];exact⟨_,rfl,Aq _ _ _ _,kZ (p:=⟨w1,1,none⟩) z1 (a9.out.trans (bc.out.below (fun b h=>⟨kR,kR⟩)))⟩
 ·subst az;obtain⟨aY,aS⟩:=bh.out rfl;have bl:=hid bg;have bH:=hid aY;have bp:=hid aS;clear bg aY aS bh;go_wp2_with fail;have au:=ay.out.set 1 (.pointer (some ⟨gs,0,none⟩));have aj:Kept (fun x=>x<w1.heap.size∨w1.heap.size<x) w3 (w3.setCell ⟨w1,1,none⟩ (.pointer (some ⟨gs,0,none⟩))):=(Kept.refl _ _).set (fun h=>by have h:w1.heap.size<w1.heap.size∨w1.heap.size<w1.heap.size:=h;omega) _;have b0:=aj.size;generalize w3.setCell ⟨w1,1,none⟩ (.pointer (some ⟨gs,0,none⟩))=w4 at *;have bi:Rd w4 w g bs a1:=bu.out.keep (fun b h1 h2=>aj.block b (by left;omega)) hg;have a3:Hid (Coder w4 w2 w3 gs ls):=bl.out.keep (fun b h1 h2=>aj.block b (by right;omega));have bL:Hid (aO w w4):=(a9.out.trans (bc.out.below (fun b h=>⟨kR,kR⟩))).trans (aj.below (fun b h=>by left;omega));clear p0 p1 p2 f1 f2 ay bu bl a9 bc;refine(D2.out w4 w1 g w hg (au.cell 0) bi).mono ?_;rintro e w5 ⟨Q,be,ax⟩;simp only at Q be;have z5:=ax.size;have ab:Blk w5 w1 _ _:=(ax.block w1 ⟨kR,kR⟩).trans au;have p0:=ab.cell 0;have p1:=ab.cell 1;have p2:=ab.cell 2;have f2:=ab.frozen 2;simp at p0 p1 p2;have a5:Hid (aO w w5):=bL.out.trans (ax.below (fun b h=>⟨kR,kR⟩));have aW:Hid (Coder w5 w2 w3 gs ls):=a3.out.kept ax (fun b h1 h2=>⟨kR,kR⟩);have aw:=hid ab;have bd:=hid be;clear bi aj au be ab ax bL a3 D2;rcases Q with ⟨av,rfl⟩|⟨av,gf,rfl,bM⟩
  ·have hb:(e2 != 0)=true:=bne_iff_ne.mpr av;have ae:Hid (RT=([],e2)):=(by show _=_;rw[ar.out,Aa mY,Ab av]);clear av ar;go_wp2_with fail;go_ret2;rw[ae.out];exact⟨_,rfl,Aq _ _ _ _,kZ (p:=⟨w1,2,none⟩) z1 a5.out⟩
  ·subst av;obtain⟨a0,bF⟩:=bK.out rfl;have bA:=hid bM;have bI:=hid a0;have bD:=hid bF;have ae:Hid (RT=Dk ls lf bs (bs.length+1) most [] a2):=(by show _=_;rw[ar.out,Aa mY,Aa mY]);clear bM a0 bF bK ar;have bt:a2<=bs.length:=(by obtain⟨A',n',c',l',h1,h2,h3,h4,h5,h6,h7⟩:=bd.out;rw[h5,Dy,h3];exact h6);go_wp2_with fail;have aV:=aw.out.set 2 (.pointer (some ⟨gf,0,none⟩));have ac:Kept (fun x=>x<w1.heap.size∨w1.heap.size<x) w5 (w5.setCell ⟨w1,2,none⟩ (.pointer (some ⟨gf,0,none⟩))):=(Kept.refl _ _).set (fun h=>by have h:w1.heap.size<w1.heap.size∨w1.heap.size<w1.heap.size:=h;omega) _;have bT:=ac.size;generalize w5.setCell ⟨w1,2,none⟩ (.pointer (some ⟨gf,0,none⟩))=w6 at *;have bN:Hid (Rd w6 w g bs a2):=bd.out.keep (fun b h1 h2=>ac.block b (by left;omega)) hg;have bm:Hid (Coder w6 w2 w6 gs ls):=Coder.mono (aW.out.keep (fun b h1 h2=>ac.block b (by right;omega))) (Ai _) kR;have bq:Hid (Coder w6 w2 w6 gf lf):=Coder.mono (bA.out.keep (fun b h1 h2=>ac.block b (by right;omega))) kR kR;have aR:Hid (aO w w6):=a5.out.trans (ac.below (fun b h=>by left;omega));have z6:w1.heap.size<w2.heap.size/\w2.heap.size<=w6.heap.size:=kR;have Y:=hid aV;clear p0 p1 p2 f2 aw bd aW bA a5 ac aV bT b0 z5 z3;generalize w1.heap.size=gr at *;generalize w2.heap.size=bQ at *;go_wp2_with fail;go_loopw [1,4] (fun m u wr=>∃ (f at_ k:Nat) (M:Int) (out:List Tk),(0<=M/\M<=9223372036854775807)/\m= .int .i64 M/\k<=at_/\at_<=bs.length/\Hid (out.length=k)/\wr.ownsRow w6 280 3 u k (CW out)/\Hid (bs.length+1<=f+at_)/\Hid (Dk ls lf bs f M out at_=RT)/\Hid (Rd wr w g bs at_)/\Hid (Kept (fun x=>x<w6.heap.size/\x≠g) w6 wr)) (fun m _ _=>(intOf m).toNat)
   case atStart=>exact⟨bs.length+1,a2,0,most,[],⟨bO,bR⟩,rfl,kR,bt,rfl,Aq _ _ _ _,mI,ae.out.symm,bN.out,Kept.refl _ _⟩
   case round=>
    clear bN ae;obtain⟨f,at_,k,M,out,⟨b9,ch⟩,rfl,cd,cg,aU,E,hf,ah,bE,af⟩:=hrel;obtain⟨f,rfl⟩:∃f',f=f'+1:=⟨f-1,by have:=hf.out;omega⟩;have bV:=af.out.size;have am:Blk wr gr _ _:=(af.out.block gr ⟨kR,kR⟩).trans Y.out;have C3:=WM wr gr w g bQ w6 gs gf ls lf bs at_ hg (am.cell 0) (am.cell 1) (am.cell 2) kR kR bH.out (by rw[bp.out];omega) (bm.out.kept af.out (fun b h1 h2=>⟨kR,kR⟩)) bI.out (by rw[bD.out];omega) (bq.out.kept af.out (fun b h1 h2=>⟨kR,kR⟩)) bV (fun b h1 h2=>by omega) bE.out;have J:=KV (ls:=ls) (lf:=lf) (by rw[bp.out];omega) (by rw[bD.out];omega) bs (at_:=at_);unfold Tl at C3;clear am;have ai:=fun he hm=>QD (T:=BJ ls lf bs at_) (bs:=bs) (f:=f) (M:=M) (out:=out) rfl he hm;have al:=fun he=>QL (T:=BJ ls lf bs at_) (bs:=bs) (f:=f) (M:=M) (out:=out) rfl he;have L:=fun he hm hl=>O4 (T:=BJ ls lf bs at_) (bs:=bs) (f:=f) (M:=M) (out:=out) rfl he hm hl;have j:=fun he hm hl=>P0 (T:=BJ ls lf bs at_) (bs:=bs) (f:=f) (M:=M) (out:=out) rfl he hm hl;generalize BJ ls lf bs at_=T at *;obtain⟨⟨lit,len,dist⟩,more,te,ta⟩:=T;simp only[Toks.Tk.val]at C3 J ai al L j;have C3:=hid C3;by_cases he:te=0
    ·subst he;clear al;obtain⟨J,b7⟩:=J rfl;cases more
     ·have z:=ai rfl rfl;rw[ah.out]at z;have Z:=hid z;clear ai L j z ah J;go_wp2_with fail;refine C3.out.mono ?_;rintro e w7 ⟨rfl,U,i⟩;have z7:=i.size;have G:Kept (fun x=>x<w6.heap.size/\x≠g) w6 w7:=af.out.trans ⟨i.os,i.tape,i.output,i.size,fun b h=>i.block b ⟨ko,h.2⟩⟩;have aq:Hid (aO w w7):=aR.out.trans (G.below (fun b h=>⟨kR,kR⟩));have aa:Blk w7 gr _ _:=(G.block gr ⟨kR,kR⟩).trans Y.out;have y:w7.ownsRow w6 280 3 _ k (CW out):=dZ E (fun x hx=>i.block x jY);have ce:=aa.lt;have p0:=aa.cell 0;simp at p0;go_wp2_with fail;have bB:Hid (aO w (w7.alloc (.cells #[.int .u8 lit,len,dist] 280))):=lZ kR aq.out;have bJ:=y.alloc (.cells #[.int .u8 lit,len,dist] 280);have bk:=U.keep (w':=w7.alloc (.cells #[.int .u8 lit,len,dist] 280)) (fun b _ h=>Ca w7 _ b kR) hg;generalize w7.alloc (.cells #[.int .u8 lit,len,dist] 280)=w8 at *;have C4:=ZS w8 w g bs ta bk;rcases O9 bs ta with hp|hp
      ·rw[hp]at C4;have bb:Hid (RT=(out,0)):=(by show _=_;rw[Z.out,Ab hp]);have C4:=hid C4;clear hp Z;refine C4.out.mono ?_;rintro e w9 ⟨rfl,q,rfl⟩;go_wp2_with fail;go_ret2;rw[bb.out];refine⟨_,rfl,?_,below_drewN bB.out q⟩;show World.ownsRow _ _ _ _ _ out.length _;rw[aU.out];exact iZ bJ kR
      ·rw[hp]at C4;have bb:Hid (RT=([],2)):=(by show _=_;rw[Z.out,Aa (by rw[hp];decide)]);have C4:=hid C4;clear hp Z;refine C4.out.mono ?_;rintro e w9 ⟨rfl,q,rfl⟩;go_wp2_with fail;go_ret2;rw[bb.out];exact⟨_,rfl,Aq _ _ _ _,below_drewN bB.out q⟩
     ·obtain⟨hm,⟨b4,bX⟩,bW,aS⟩:=J rfl;simp only at hm b4 bX bW aS;clear ai J;obtain⟨d,hd,cf,b8⟩:∃d:Int,d=max 1 len/\1<=d/\d<=257:=⟨_,rfl,kR,kR⟩;rw[<-hd]at L j;by_cases hl:M-d<0
      ·have z:=L rfl rfl hl;rw[ah.out]at z;have Z:=hid z;clear L j z ah;go_wp2_with fail;refine C3.out.mono ?_;rintro e w7 ⟨rfl,U,i⟩;have z7:=i.size;have G:Kept (fun x=>x<w6.heap.size/\x≠g) w6 w7:=af.out.trans ⟨i.os,i.tape,i.output,i.size,fun b h=>i.block b ⟨ko,h.2⟩⟩;have aq:Hid (aO w w7):=aR.out.trans (G.below (fun b h=>⟨kR,kR⟩));have aa:Blk w7 gr _ _:=(G.block gr ⟨kR,kR⟩).trans Y.out;have y:w7.ownsRow w6 280 3 _ k (CW out):=dZ E (fun x hx=>i.block x jY);go_wp2_with fail;go_ret2;rw[Z.out];exact⟨_,rfl,Aq _ _ _ _,lZ kR aq.out⟩
      ·have z:=j rfl rfl hl;rw[ah.out]at z;have Z:=hid z;clear L j z ah;go_wp2_with fail;refine C3.out.mono ?_;rintro e w7 ⟨rfl,U,i⟩;have z7:=i.size;have G:Kept (fun x=>x<w6.heap.size/\x≠g) w6 w7:=af.out.trans ⟨i.os,i.tape,i.output,i.size,fun b h=>i.block b ⟨ko,h.2⟩⟩;have aq:Hid (aO w w7):=aR.out.trans (G.below (fun b h=>⟨kR,kR⟩));have aa:Blk w7 gr _ _:=(G.block gr ⟨kR,kR⟩).trans Y.out;have y:w7.ownsRow w6 280 3 _ k (CW out):=dZ E (fun x hx=>i.block x jY);have bn:k+1<=ta:=kR;have bC:ta<=bs.length:=(by obtain⟨A',n',c',l',h1,h2,h3,h4,h5,h6,h7⟩:=U;rw[h5,Dy,h3];exact h6);obtain⟨va,vc,rfl⟩:=aZ y;have a8:=hid y;have bP:=hid U;have b1:=hid G;clear y U G i E af bE aa;go_wp2_with(at_builtin;refine gZ rfl (.tmp 57) (.tmp 59) 190 rfl w6 280 j0 _ 3 24 underlying190 bY b5 bU b3 rfl iX _ _ _ kU ((a8.out.alloc _).alloc _) _ 1 1 [.int .u8 lit, .int .i64 len, .int .i64 dist] kU (Src.of_blk (g:=w7.heap.size+1) (Blk.made_at _ _ _ mY) 1 1 3 rfl) kx nI kR ni ?_;intro v4 w9 bf bj b6);go_roundw
       case measure=>go_light;show(M-max 1 len).toNat<M.toNat;omega
       case rel=>
        go_light;have bS:∀b,(b<w6.heap.size/\b≠g)->b<((w7.alloc (.cells #[.int .u8 lit,len,dist] 280)).alloc (.cells #[.int .u8 lit,len,dist] 280)).heap.size:=(by intro b h;have:=h.1;simp;omega);refine⟨f,ta,k+1,M-d,out++ [⟨lit,len,dist⟩],⟨hl,kR⟩,by rw[hd],bn,bC,?_,?_,?_,hid Z.out.symm,?_,?_⟩
        ·show(out++ [_]).length=k+1;rw[Aj,aU.out];rfl
        ·rw[IU];exact bf
        ·show _<=_;have:=hf.out;omega
        ·exact bP.out.keep (fun b _ h2=>(bj.block b ni (fun h=>by have:=(Ae a8.out b h.symm).1;omega)).trans ((Ca _ _ b ni).trans (Ca w7 _ b kR))) hg
        ·exact((b1.out.alloc (fun b h=>by have:=h.1;omega) _).alloc (fun b h=>by have:=h.1;simp;omega) _).grown bj bS (fun b hb hh=>by have:=(Ae a8.out b hb).1;have:=hh.1;omega)
    ·have hb:(te != 0)=true:=bne_iff_ne.mpr he;have z:=al he;rw[ah.out]at z;have Z:=hid z;clear ai L j z ah J he al;go_wp2_with fail;refine C3.out.mono ?_;rintro e w7 ⟨rfl,U,i⟩;have z7:=i.size;have G:Kept (fun x=>x<w6.heap.size/\x≠g) w6 w7:=af.out.trans ⟨i.os,i.tape,i.output,i.size,fun b h=>i.block b ⟨ko,h.2⟩⟩;have aq:Hid (aO w w7):=aR.out.trans (G.below (fun b h=>⟨kR,kR⟩));have aa:Blk w7 gr _ _:=(G.block gr ⟨kR,kR⟩).trans Y.out;have y:w7.ownsRow w6 280 3 _ k (CW out):=dZ E (fun x hx=>i.block x jY);go_wp2_with fail;go_ret2;rw[Z.out];exact⟨_,rfl,Aq _ _ _ _,lZ kR aq.out⟩
end Huff
end Go.Proofs.YtfgdoknipbpfhaaGreatDoor
