/- The walks of toks' r -/
import Derived.Test.YtfgdoknipbpfhaaGreatDoorZBodyBlocks35
import Derived.Test.YtfgdoknipbpfhaaGreatDoorZBodyBlocks13
namespace Go.Proofs.YtfgdoknipbpfhaaGreatDoor
open Go.Proofs.Tryz
open Go.Lib (hid)
set_option maxHeartbeats 2000000
set_option maxRecDepth 100000
variable{lf ls:List Nat}{f:Nat}{M:Int}
namespace Huff
open Go.RowKit Mem Canon Own
open Toks (Tk Pc Dz El pw)
theorem WY{w:World}{base c n:Nat}{A:Option Addr}(ho:w.ownsRow base 5 1 (.slice A n c) ls.length (cZ .u8 ls)):ls.length=n/\Row w w A n 1 (jZ .u8 ls)/\(A=none->n=0):=by
 have hn:ls.length=n:=by
  rcases ho.2 with ⟨hv,hx⟩|⟨g,y,cur,hv,_⟩
  ·injection hv with _ e _;exact hx.trans e.symm
  ·injection hv with _ e _;exact e.symm
 rw[hn]at ho;exact⟨hn,Row.of_own ho rfl (fun i j hi hj=>by have e0:j=0:=mw;subst e0;exact numL_get mw),fun h=>((Em ho).1 h).1⟩
theorem Jj{bs:List Bool}{n:Nat}:∀ (f:Nat) (out:List Nat) (sh:Bool) (at_:Nat),out.length<=n->n+1<=f+out.length->(Bw bs n f out sh at_).2.1=0->okB (Bw bs n f out sh at_).1=true/\(Bw bs n f out sh at_).1.length=n
 |0,out,sh,at_,h1,h2,_=>mw
 |f+1,out,sh,at_,h1,h2,h3=>by
  rw[Bw]at h3 ⊢;split at h3
  ·rename_i h;rw[Ab h]at ⊢;split at h3
   ·rename_i h4;rw[Ab h4];exact⟨h4,oO⟩
   ·cases h3
  ·rename_i h;rw[Aa h]at ⊢;split at h3
   ·cases h3
   ·rename_i h5;rw[Aa h5];split at h3
    ·rename_i h6;rw[Ab h6];exact Jj f _ _ _ (by rw[Ae];simp;omega) (by rw[Ae];simp;omega) h3
    ·rename_i h6;rw[Aa h6];split at h3
     ·cases h3
     ·rename_i h7;rw[Aa h7];split at h3
      ·cases h3
      ·rename_i h8;rw[Aa h8];have h9:¬n-out.length<=yZ bs (at_+4) 6:=fun e=>h8 (.inr e);exact Jj f _ _ _ (by rw[Ae,Di];omega) (by rw[Ae,Di];omega) h3
def Mr(R:List Nat×Int×Nat)(lo g:Nat)(bs:List Bool)(w:World)(e:Ending)(w':World):Prop:=
 ((R.2.1≠0/\e= .returned (.tuple #[.pointer none, .int .i64 R.2.1]))∨(R.2.1=0/\∃gc,e= .returned (.tuple #[.pointer (some ⟨gc,0,none⟩), .int .i64 0])/\Coder w' w.heap.size w'.heap.size gc R.1))/\
   Rd w' lo g bs R.2.2/\Kept (fun x=>x<w.heap.size/\x≠g) w w'
theorem Ra(w:World)(gr lo g:Nat)(bs:List Bool)(j n:Nat)(aa:0<n)(hn:n<=300)(Q:lo<=g)(ab:w.cell? ⟨gr,0,none⟩=some (.pointer (some ⟨g,0,none⟩)))(hR:Rd w lo g bs j):
 Calls prog 330 #[.pointer (some ⟨gr,0,none⟩), .int .i64 (n:Nat)] w (Mr (Bw bs n (n+1) [] false j) lo g bs w):=by
 have C1:=Yj w lo g bs j n aa hn Q hR;have L:=Jj (bs:=bs) (n:=n) (n+1) [] false j oK oK;unfold RV at C1;generalize Bw bs n (n+1) [] false j=R at *;obtain⟨rl,re,ra⟩:=R;simp only at C1 L;have ae:=hR.lt;have C1:=hid C1;have J:=hid L;clear L hR;unfold Mr;simp only;by_cases he:re=0
 ·subst he;obtain⟨E,G⟩:=J.out rfl;have Z:=hid E;have ac:=hid G;clear E G J;go_enter func330,ntmps330;go_wp2_with fail;refine C1.out.mono ?_;rintro e w1 ⟨v,rfl,i,z,y⟩;have z1:=y.size;obtain⟨A1,c1,rfl⟩:=bZ i;have q1:=WY i;have N:=Em i;have C2:=hid (new_any w1 A1 _ c1 rl rfl Z.out (fun h=>by have:=N.1 h;exact this) q1.2.1);have U:=hid z;have Y:=hid y;clear q1 N i z y C1;generalize rl.length=nl at *;go_wp2_with fail;refine C2.out.mono ?_;rintro e w2 ⟨gc,rfl,hC,M⟩;go_wp2_with fail;go_ret2;exact⟨.inr ⟨trivial,gc,rfl,hC.mono z1 (Ak _)⟩,U.out.keep (fun b _ h=>M.block b mw) Q,Y.out.trans (Kept.of_below M (fun b h=>by have:=h.1;omega))⟩
 ·have hb:(re != 0)=true:=bne_iff_ne.mpr he;have HE:=hid he;clear he J;go_enter func330,ntmps330;go_wp2_with fail;refine C1.out.mono ?_;rintro e w1 ⟨v,rfl,i,z,y⟩;obtain⟨A1,c1,rfl⟩:=bZ i;clear i;go_wp2_with fail;go_ret2;exact⟨.inl ⟨HE.out,rfl⟩,z,y⟩
def Eg(lf:List Nat)(bs:List Bool)(v at_:Nat):Tk×Int×Nat:=
 if ¬at_+(v-257)<=bs.length then(⟨0,0,0⟩,1,at_)else
 let G:=Ed lf (head bs (at_+(v-257))) (there bs (at_+(v-257)))
 if G.2.1≠0 then(⟨0,0,0⟩,G.2.1,at_+(v-257)+G.2.2)else
 if ¬at_+(v-257)+G.2.2+G.1.toNat<=bs.length then(⟨0,0,0⟩,1,at_+(v-257)+G.2.2)else
 (Dz ⟨v,(yZ bs at_ (v-257):Nat),G.1,(yZ bs (at_+(v-257)+G.2.2) G.1.toNat:Nat)⟩,El ⟨v,(yZ bs at_ (v-257):Nat),G.1,(yZ bs (at_+(v-257)+G.2.2) G.1.toNat:Nat)⟩,at_+(v-257)+G.2.2+G.1.toNat)
theorem Ms(ls:List Nat)(X th:Nat):(Ed ls X th).2.1=0->∃s:Nat,(Ed ls X th).1=s/\s<ls.length:=by
 intro h;unfold Ed at h ⊢;cases hf:(List.range ls.length).find? (hit ls X th)with
 |some s=>have:=List.mem_of_find?_eq_some hf;exact⟨s,rfl,Fs.1 this⟩
 |none=>rw[hf]at h;simp only at h;split at h<;>cases h
theorem Hz:(prog.info? 280).map (·.size)=some 3:=mr
def QT(R:Tk×Int×Nat)(lo g:Nat)(bs:List Bool)(w:World)(e:Ending)(w':World):Prop:=
 e= .returned (.tuple #[R.1.val,R.2.1])/\Rd w' lo g bs R.2.2/\Kept (fun x=>x<w.heap.size/\x≠g) w w'
theorem XV(w:World)(gr lo g an cB gf:Nat)(lf:List Nat)(bs:List Bool)(v at_:Nat)(bq:257<=v)(b0:v<=264)(ae:lo<=g)(bg:w.cell? ⟨gr,0,none⟩=some (.pointer (some ⟨g,0,none⟩)))(bi:w.cell? ⟨gr,2,none⟩=some (.pointer (some ⟨gf,0,none⟩)))(a0:gr<w.heap.size)(ak:gr≠g)
 (ba:okB lf=true)(bS:lf.length<=12)(hC:Coder w an cB gf lf)(bu:cB<=w.heap.size)(a9:∀b,an<=b->b<cB->b≠g)(hR:Rd w lo g bs at_):
 Calls prog 354 #[.pointer (some ⟨gr,0,none⟩), .int .i64 (v:Nat)] w (QT (Eg lf bs v at_) lo g bs w):=by
 have bx:=hR.lt;have HR:=hid hR;have HC:=hid hC;have be:=hid ba;have bj:=hid a9;obtain⟨m,hm⟩:=ii (v-257);have ax:(v:Int)-257=(m:Int):=mw
 have s1:IntKind.i64.wrap ((v:Int)-257)=(m:Int):=by rw[Aq _ mw,ax]
 have ce:m<=7:=mw
 have HM:=hid hm;have bN:=hid ax;clear hR hC ba hm ax a9;go_enter func354,ntmps354;go_wp2_with fail;have Q:Below w w (w.alloc (.cells #[.int .u8 0,ij,ij] 280)):=aZ (Ag _ _);have aa:Blk (w.alloc (.cells #[.int .u8 0,ij,ij] 280)) w 280 #[.int .u8 0,ij,ij]:=Blk.made _ _ _;generalize w.alloc (.cells #[.int .u8 0,ij,ij] 280)=w0 at *;have av:Hid (Rd w0 lo g bs at_):=HR.out.keep (fun b _ h=>Q.block b mw) ae;have C1:=JA w0 lo g bs at_ m mw av.out;by_cases U:at_+m<=bs.length
 ·rw[(Gs U).1,(Gs U).2.1,(Gs U).2.2]at C1;have C1:=hid C1;have aw:=hid U;have bc:=GK bs at_ m;have bh:yZ bs at_ m<256:=Eh bc (by have:2 ^ m<=2 ^ 8:=Cc mw mw;omega);obtain⟨x,hx⟩:=ii (yZ bs at_ m);rw[<-hx]at C1 bh;have HX:=hid hx;clear hx bc U;refine C1.out.mono ?_;rintro e w1 ⟨rfl,ai,M⟩;have Z:Kept (fun x=>x<w.heap.size/\x≠g) w w1:=(Kept.of_below Q (fun _ h=>h.1)).trans ⟨M.os,M.tape,M.output,M.size,fun b h=>M.block b h.2⟩;have z:Blk w1 w _ _:=(M.block w oJ).trans aa;have d0:w1.cell? ⟨gr,0,none⟩=some (.pointer (some ⟨g,0,none⟩)):=(World.cell?_of_block (a:=⟨gr,0,none⟩) (Z.block gr ⟨a0,ak⟩)).trans bg;have d2:w1.cell? ⟨gr,2,none⟩=some (.pointer (some ⟨gf,0,none⟩)):=(World.cell?_of_block (a:=⟨gr,2,none⟩) (Z.block gr ⟨a0,ak⟩)).trans bi;have az:Coder w1 an cB gf lf:=HC.out.keep (fun b h1 h2=>Z.block b ⟨mw,bj.out b h1 h2⟩);have C2:=Qs w1.drew an cB gf lo g lf bs (at_+m) be.out az.drew ai.drew;unfold LZ at C2;have ac:=Ms lf (head bs (at_+m)) (there bs (at_+m));obtain⟨G,hG⟩:=ii (Ed lf (head bs (at_+m)) (there bs (at_+m)));rw[<-hG]at C2 ac;obtain⟨gv,ge,ga⟩:=G;simp only at C2 ac;have C2:=hid C2;have ay:=hid hG;have ab:=hid z;have aq:=hid Z;have au:=hid ac;clear hG az ai M Z z aa ac C1 av Q HR HC;go_upto_region 4 with fail;go_region_held3 (fun wx=>wx.cell? ⟨gr,0,none⟩=some (.pointer (some ⟨g,0,none⟩))/\wx.cell? ⟨gr,2,none⟩=some (.pointer (some ⟨gf,0,none⟩))) (first|exact⟨d0,d2⟩|exact⟨k0,k2⟩) (first|(go_at_call 353;(with_reducible refine C2.out.mono ?_);rintro e w2 ⟨rfl,bb,Y⟩;have k0:w2.cell? ⟨gr,0,none⟩=some (.pointer (some ⟨g,0,none⟩)):=(World.cell?_of_block (a:=⟨gr,0,none⟩) (Y.block gr ak)).trans d0;have k2:w2.cell? ⟨gr,2,none⟩=some (.pointer (some ⟨gf,0,none⟩)):=(World.cell?_of_block (a:=⟨gr,2,none⟩) (Y.block gr ak)).trans d2));have a6:Kept (fun x=>x<w.heap.size/\x≠g) w w2:=aq.out.trans ((Kept.refl _ w1).drew.trans ⟨Y.os,Y.tape,Y.output,Y.size,fun b h=>Y.block b h.2⟩);have ar:Blk w2 w _ _:=(Y.block w oJ).trans ab.out.drew;have am:=hid bb;have af:=hid a6;have j:=hid ar;clear bb Y a6 ar ab aq C2 d0 d2;by_cases he:ge=0
  ·subst he;obtain⟨s,rfl,hs⟩:=au.out rfl;have bd:s<=11:=mw;have C3:=JA w2 lo g bs (at_+m+ga) s mw am.out;by_cases J:at_+m+ga+s<=bs.length
   ·rw[(Gs J).1,(Gs J).2.1,(Gs J).2.2]at C3;have a5:=GK bs (at_+m+ga) s;have b8:yZ bs (at_+m+ga) s<4096:=Eh a5 (by have:2 ^ s<=2 ^ 11:=Cc mw bd;omega);have HG:Hid (Eg lf bs v at_=(Dz ⟨v,(x:Nat),(s:Nat),(yZ bs (at_+m+ga) s:Nat)⟩,El ⟨v,(x:Nat),(s:Nat),(yZ bs (at_+m+ga) s:Nat)⟩,at_+m+ga+s)):=(by show _=_;unfold Eg;rw[<-HM.out,Aa (fun h=>h aw.out),<-ay.out];simp only[ne_eq,not_true_eq_false,if_false,Int.toNat_natCast];rw[Aa (fun h=>h J),HX.out]);generalize yZ bs (at_+m+ga) s=y at *;have C3:=hid C3;have C4:=hid (fun wx=>Toks.iE ⟨(v:Int),(x:Int),(s:Int),(y:Int)⟩ wx oO oO);generalize Dz ⟨(v:Int),(x:Int),(s:Int),(y:Int)⟩=T at *;generalize El ⟨(v:Int),(x:Int),(s:Int),(y:Int)⟩=E at *;obtain⟨ta,tb,tc⟩:=T;unfold Toks.Tk.val Toks.Pc.val at C4;simp only at C4;clear a5 J;go_wp2_with fail;refine C3.out.mono ?_;rintro e w3 ⟨rfl,ah,N⟩;have aj:=hid ah;have ag:Hid (Kept (fun x=>x<w.heap.size/\x≠g) w w3):=af.out.trans ⟨N.os,N.tape,N.output,N.size,fun b h=>N.block b h.2⟩;have i:Hid (Blk w3 w 280 #[.int .u8 0,ij,ij]):=(N.block w oJ).trans j.out;have bp:=ag.out.size;have bt:=i.out.lt;clear ah N C3 am af j;go_wp2_with fail;refine(C4.out _).mono ?_;rintro e w4 ⟨rfl,al⟩;have bf:Hid (Rd w4 lo g bs (at_+m+ga+s)):=aj.out.keep (fun b _ h=>al.block b mw) ae;have bk:Hid (Kept (fun x=>x<w.heap.size/\x≠g) w w4):=ag.out.trans (Kept.of_below al (fun b h=>by have:=h.1;omega));have L:Hid (Blk w4 w 280 #[.int .u8 0,ij,ij]):=i.out.step al;have a4:=L.out.ia 0;have b4:=L.out.ia 1;have c4:=L.out.ia 2;have cc:=L.out.frozen 0;have cf:=L.out.frozen 1;have cg:=L.out.frozen 2;clear al C4 aj ag i;go_wp2_with fail;exact Cz (Canon.results_cell_tmp rfl _ _ w.heap.size _ #[.int .u8 ta,tb,tc] _ (.int .i64 E) rfl rfl (((L.out.set 0 (.int .u8 ta)).set 1 (.int .i64 tb)).set 2 (.int .i64 tc)) underlying280 rfl Hz) rfl ⟨nk,by rw[HG.out];exact bf.out.keep (fun b _ h=>((AR _ _ _ b oG).trans (AR _ _ _ b oG)).trans (AR _ _ _ b oG)) ae,Kept.set (p:=⟨w,2,none⟩) (Kept.set (p:=⟨w,1,none⟩) (Kept.set (p:=⟨w,0,none⟩) bk.out (fun h=>absurd h.1 (Cs _)) _) (fun h=>absurd h.1 (Cs _)) _) (fun h=>absurd h.1 (Cs _)) _⟩
   ·rw[(Gr J).1,(Gr J).2.1,(Gr J).2.2]at C3;have C3:=hid C3;have HG:Hid (Eg lf bs v at_=(⟨0,0,0⟩,1,at_+m+ga)):=(by show _=_;unfold Eg;rw[<-HM.out,Aa (fun h=>h aw.out),<-ay.out];simp only[ne_eq,not_true_eq_false,if_false,Int.toNat_natCast];rw[Ab J]);clear J;go_wp2_with fail;refine C3.out.mono ?_;rintro e w3 ⟨rfl,ah,N⟩;have aj:=hid ah;have ag:Hid (Kept (fun x=>x<w.heap.size/\x≠g) w w3):=af.out.trans ⟨N.os,N.tape,N.output,N.size,fun b h=>N.block b h.2⟩;have i:Hid (Blk w3 w 280 #[.int .u8 0,ij,ij]):=(N.block w oJ).trans j.out;have a3:=i.out.ia 0;have b3:=i.out.ia 1;have c3:=i.out.ia 2;have bm:=i.out.frozen 0;have b5:=i.out.frozen 1;have b9:=i.out.frozen 2;clear ah N C3 am af j;go_wp2_with fail;exact Cz (Canon.results_cell_tmp rfl _ _ w.heap.size _ #[.int .u8 0,ij,ij] _ (.int .i64 1) rfl rfl (((i.out.set 0 (.int .u8 0)).set 1 (.int .i64 0)).set 2 (.int .i64 0)) underlying280 rfl Hz) rfl ⟨nk,by rw[HG.out];exact aj.out.keep (fun b _ h=>((AR _ _ _ b oG).trans (AR _ _ _ b oG)).trans (AR _ _ _ b oG)) ae,Kept.set (p:=⟨w,2,none⟩) (Kept.set (p:=⟨w,1,none⟩) (Kept.set (p:=⟨w,0,none⟩) ag.out (fun h=>absurd h.1 (Cs _)) _) (fun h=>absurd h.1 (Cs _)) _) (fun h=>absurd h.1 (Cs _)) _⟩
  ·have hb:(ge != 0)=true:=bne_iff_ne.mpr he;have HG:Hid (Eg lf bs v at_=(⟨0,0,0⟩,ge,at_+m+ga)):=(by show _=_;unfold Eg;rw[<-HM.out,Aa (fun h=>h aw.out),<-ay.out];simp only;rw[Ab he]);clear he au;have a2:=j.out.ia 0;have b2:=j.out.ia 1;have c2:=j.out.ia 2;have b6:=j.out.frozen 0;have b7:=j.out.frozen 1;have cd:=j.out.frozen 2;go_wp2_with fail;exact Cz (Canon.results_cell_tmp rfl _ _ w.heap.size _ #[.int .u8 0,ij,ij] _ (.int .i64 ge) rfl rfl (((j.out.set 0 (.int .u8 0)).set 1 (.int .i64 0)).set 2 (.int .i64 0)) underlying280 rfl Hz) rfl ⟨nk,by rw[HG.out];exact am.out.keep (fun b _ h=>((AR _ _ _ b oG).trans (AR _ _ _ b oG)).trans (AR _ _ _ b oG)) ae,Kept.set (p:=⟨w,2,none⟩) (Kept.set (p:=⟨w,1,none⟩) (Kept.set (p:=⟨w,0,none⟩) af.out (fun h=>absurd h.1 (Cs _)) _) (fun h=>absurd h.1 (Cs _)) _) (fun h=>absurd h.1 (Cs _)) _⟩
 ·rw[(Gr U).1,(Gr U).2.1,(Gr U).2.2]at C1;have C1:=hid C1;have HG:Hid (Eg lf bs v at_=(⟨0,0,0⟩,1,at_)):=by show _=_;unfold Eg;rw[<-HM.out,Ab U]
  clear U;refine C1.out.mono ?_;rintro e w1 ⟨rfl,ai,M⟩;have Z:Kept (fun x=>x<w.heap.size/\x≠g) w w1:=(Kept.of_below Q (fun _ h=>h.1)).trans ⟨M.os,M.tape,M.output,M.size,fun b h=>M.block b h.2⟩;have z:Blk w1 w _ _:=(M.block w oJ).trans aa;have a1:=z.ia 0;have b1:=z.ia 1;have c1:=z.ia 2;have bC:=z.frozen 0;have ca:=z.frozen 1;have bn:=z.frozen 2;have bl:=hid ai;have aq:=hid Z;have ab:=hid z;clear ai M Z z aa C1 av Q HR HC;go_wp2_with fail;exact Cz (Canon.results_cell_tmp rfl _ _ w.heap.size _ #[.int .u8 0,ij,ij] _ (.int .i64 1) rfl rfl (((ab.out.set 0 (.int .u8 0)).set 1 (.int .i64 0)).set 2 (.int .i64 0)) underlying280 rfl Hz) rfl ⟨nk,by rw[HG.out];exact bl.out.keep (fun b _ h=>((AR _ _ _ b oG).trans (AR _ _ _ b oG)).trans (AR _ _ _ b oG)) ae,Kept.set (p:=⟨w,2,none⟩) (Kept.set (p:=⟨w,1,none⟩) (Kept.set (p:=⟨w,0,none⟩) aq.out (fun h=>absurd h.1 (Cs _)) _) (fun h=>absurd h.1 (Cs _)) _) (fun h=>absurd h.1 (Cs _)) _⟩
end Huff
namespace Huff
open Go.RowKit Mem Canon Own
open Toks (Tk Pc Dz El pw)
theorem Kg{P:Program}{fn:Func}{p q r:Tmp}{ty:TypeId}(h:fn.results=#[.cell p ty, .tmp q, .tmp r])(i:Array Value)(w:World)(g:Nat)(t:TypeId)(cs:Array Value)(d:TypeDesc)(u v:Value)
 (hp:i.getD p undef= .pointer (some ⟨g,0,none⟩))(hq:i.getD q undef=u)(hr:i.getD r undef=v)(hg:Blk w g t cs)
 (hu:P.underlying ty=some d)(hd:(match d with| .struct _| .array _ _=>true|_=>false)=true)(hi:(P.info? ty).map (·.size)=some cs.size):
 (results fn i).run P w= .ok (.tuple #[.agg cs,u,v]) w:=by
 have j:i[p]?.getD undef= .pointer (some ⟨g,0,none⟩):=by simpa using hp
 have y:i[q]?.getD undef=u:=by simpa using hq
 have z:i[r]?.getD undef=v:=by simpa using hr
 simp[results,h,j,y,z,asAddr,run_loadVar_row w g t ty cs (0,0) d hg hu hd hi]
def Cq(ls lf:List Nat)(bs:List Bool)(at_:Nat):Tk×Bool×Int×Nat:=
 let G:=Ed ls (head bs at_) (there bs at_)
 if G.2.1≠0 then(⟨0,0,0⟩,false,G.2.1,at_+G.2.2)else
 if G.1=256 then(⟨0,0,0⟩,false,0,at_+G.2.2)else
 if G.1<256 then(⟨G.1,0,0⟩,true,0,at_+G.2.2)else
 let M:=Eg lf bs G.1.toNat (at_+G.2.2)
 (M.1,decide (M.2.1=0),M.2.1,M.2.2)
def Vl(R:Tk×Bool×Int×Nat)(lo g:Nat)(bs:List Bool)(w:World)(e:Ending)(w':World):Prop:=
 e= .returned (.tuple #[R.1.val,R.2.1,R.2.2.1])/\Rd w' lo g bs R.2.2.2/\Kept (fun x=>x<w.heap.size/\x≠g) w w'
theorem XC(w:World)(gr lo g L cB gs gf:Nat)(ls lf:List Nat)(bs:List Bool)(at_:Nat)(N:lo<=g)(a9:w.cell? ⟨gr,0,none⟩=some (.pointer (some ⟨g,0,none⟩)))(bh:w.cell? ⟨gr,1,none⟩=some (.pointer (some ⟨gs,0,none⟩)))(bb:w.cell? ⟨gr,2,none⟩=some (.pointer (some ⟨gf,0,none⟩)))(ak:gr<w.heap.size)(ab:gr≠g)
 (ag:okB ls=true)(bq:ls.length<=265)(au:Coder w L cB gs ls)(a1:okB lf=true)(bc:lf.length<=12)(hC:Coder w L cB gf lf)(ba:cB<=w.heap.size)(az:∀b,L<=b->b<cB->b≠g)(hR:Rd w lo g bs at_):
 Calls prog 331 #[.pointer (some ⟨gr,0,none⟩)] w (Vl (Cq ls lf bs at_) lo g bs w):=by
 have bj:=hR.lt;have HR:=hid hR;have HC:=hid hC;have bg:=hid au;have a6:=hid a1;have a4:=hid ag;have ar:=hid az;clear hR hC a1 az au ag;go_enter func331,ntmps331;go_upto_region 1 with fail;have i:Below w w (w.alloc (.cells #[.int .u8 0,ij,ij] 280)):=aZ (Ag _ _);have ah:Blk (w.alloc (.cells #[.int .u8 0,ij,ij] 280)) w 280 #[.int .u8 0,ij,ij]:=Blk.made _ _ _;generalize w.alloc (.cells #[.int .u8 0,ij,ij] 280)=w0 at *;have al:Hid (Rd w0 lo g bs at_):=HR.out.keep (fun b _ h=>i.block b mw) N;have am:Coder w0 L cB gs ls:=bg.out.below i ba;have d0:=(i.cell (p:=⟨gr,0,none⟩) ak).trans a9;have d1:=(i.cell (p:=⟨gr,1,none⟩) ak).trans bh;have d2:=(i.cell (p:=⟨gr,2,none⟩) ak).trans bb;have C2:=Qs w0.drew L cB gs lo g ls bs at_ a4.out am.drew al.out.drew;unfold LZ at C2;have Q:=Ms ls (head bs at_) (there bs at_);obtain⟨G,hG⟩:=ii (Ed ls (head bs at_) (there bs at_));rw[<-hG]at C2 Q;obtain⟨gv,ge,ga⟩:=G;simp only at C2 Q;have C2:=hid C2;have af:=hid hG;have ai:=hid ah;have ay:=hid i;have aj:=hid Q;clear hG am i ah Q al;go_region_held3 (fun wx=>wx.cell? ⟨gr,0,none⟩=some (.pointer (some ⟨g,0,none⟩))/\wx.cell? ⟨gr,1,none⟩=some (.pointer (some ⟨gs,0,none⟩))) (first|exact⟨d0,d1⟩|exact⟨k0,k1⟩) (first|(go_at_call 353;(with_reducible refine C2.out.mono ?_);rintro e w2 ⟨rfl,a5,z⟩;have k0:w2.cell? ⟨gr,0,none⟩=some (.pointer (some ⟨g,0,none⟩)):=(World.cell?_of_block (a:=⟨gr,0,none⟩) (z.block gr ab)).trans d0;have k1:w2.cell? ⟨gr,1,none⟩=some (.pointer (some ⟨gs,0,none⟩)):=(World.cell?_of_block (a:=⟨gr,1,none⟩) (z.block gr ab)).trans d1));have aw:Kept (fun x=>x<w.heap.size/\x≠g) w w2:=(Kept.of_below ay.out (fun _ h=>h.1)).trans ((Kept.refl _ w0).drew.trans ⟨z.os,z.tape,z.output,z.size,fun b h=>z.block b h.2⟩);have j:Blk w2 w _ _:=(z.block w oJ).trans ai.out.drew;have k2:w2.cell? ⟨gr,2,none⟩=some (.pointer (some ⟨gf,0,none⟩)):=(World.cell?_of_block (a:=⟨gr,2,none⟩) (z.block gr ab)).trans d2;have av:=j.lt;have a2:=j.ia 0;have b2:=j.ia 1;have c2:=j.ia 2;have bd:=j.frozen 0;have be:=j.frozen 1;have bf:=j.frozen 2;have ae:=hid a5;have Y:=hid aw;have E:=hid j;clear a5 z aw j ai ay C2 d0 d1 d2;by_cases he:ge=0
 ·subst he;obtain⟨s,rfl,hs⟩:=aj.out rfl;by_cases Z:s=256
  ·subst Z;have HG:Hid (Cq ls lf bs at_=(⟨0,0,0⟩,false,0,at_+ga)):=(by show _=_;unfold Cq;rw[<-af.out];rfl);go_wp2_with fail;exact Cz (Kg rfl _ _ w.heap.size _ #[.int .u8 0,ij,ij] _ (.bool false) (.int .i64 0) rfl rfl rfl (((E.out.set 0 (.int .u8 0)).set 1 (.int .i64 0)).set 2 (.int .i64 0)) underlying280 rfl Hz) rfl ⟨nk,ni,(Kept.set (p:=⟨w,2,none⟩) (Kept.set (p:=⟨w,1,none⟩) (Kept.set (p:=⟨w,0,none⟩) Y.out (fun h=>absurd h.1 (Cs _)) _) (fun h=>absurd h.1 (Cs _)) _) (fun h=>absurd h.1 (Cs _)) _)⟩
  ·have bp:((s:Int)==256)=false:=oT;by_cases bm:s<256
   ·have HG:Hid (Cq ls lf bs at_=(⟨s,0,0⟩,true,0,at_+ga)):=(by show _=_;unfold Cq;rw[<-af.out];simp only;rw[Aa mw,Aa mw,Ab mw]);clear Z;go_wp2_with fail;exact Cz (Kg rfl _ _ w.heap.size _ #[.int .u8 (s:Nat),ij,ij] _ (.bool true) (.int .i64 0) rfl rfl rfl (((E.out.set 0 (.int .u8 (s:Nat))).set 1 (.int .i64 0)).set 2 (.int .i64 0)) underlying280 rfl Hz) rfl ⟨nk,ni,(Kept.set (p:=⟨w,2,none⟩) (Kept.set (p:=⟨w,1,none⟩) (Kept.set (p:=⟨w,0,none⟩) Y.out (fun h=>absurd h.1 (Cs _)) _) (fun h=>absurd h.1 (Cs _)) _) (fun h=>absurd h.1 (Cs _)) _)⟩
   ·have ax:Coder w2 L cB gf lf:=HC.out.keep (fun b h1 h2=>Y.out.block b ⟨mw,ar.out b h1 h2⟩);have C3:=XV w2 gr lo g L cB gf lf bs s (at_+ga) mw mw N k0 k2 mw ab a6.out bc ax mw ar.out ae.out;have U:Hid (Cq ls lf bs at_=((Eg lf bs s (at_+ga)).1,decide ((Eg lf bs s (at_+ga)).2.1=0),(Eg lf bs s (at_+ga)).2.1,(Eg lf bs s (at_+ga)).2.2)):=(by show _=_;unfold Cq;rw[<-af.out];simp only;rw[Aa mw,Aa mw,Aa mw,Br]);unfold QT at C3;generalize Eg lf bs s (at_+ga)=M at *;obtain⟨⟨ta,tb,tc⟩,me,ma⟩:=M;unfold Toks.Tk.val at C3;simp only at C3 U;have C3:=hid C3;clear Z ax;go_wp2_with fail;refine C3.out.mono ?_;rintro e w3 ⟨rfl,a0,J⟩;have y:Blk w3 w _ _:=(J.block w ⟨av,mw⟩).trans E.out;have a3:=y.ia 0;have b3:=y.ia 1;have c3:=y.ia 2;have bi:=y.frozen 0;have bl:=y.frozen 1;have bn:=y.frozen 2;have aa:=hid y;have aq:=hid a0;have an:Hid (Kept (fun x=>x<w.heap.size/\x≠g) w w3):=Y.out.trans ⟨J.os,J.tape,J.output,J.size,fun b h=>J.block b ⟨lz,h.2⟩⟩;clear y a0 J C3 a2 b2 c2 bd be bf;by_cases ac:me=0
    ·subst ac;have HG:Hid (Cq ls lf bs at_=(⟨ta,tb,tc⟩,true,0,ma)):=U.out;clear U;go_wp2_with fail;exact Cz (Kg rfl _ _ w.heap.size _ #[.int .u8 ta,tb,tc] _ (.bool true) (.int .i64 0) rfl rfl rfl ((((((aa.out.set 0 (.int .u8 ta)).set 1 (.int .i64 tb)).set 2 (.int .i64 tc)).set 0 (.int .u8 ta)).set 1 (.int .i64 tb)).set 2 (.int .i64 tc)) underlying280 rfl Hz) rfl ⟨nk,nj,(Kept.set (p:=⟨w,2,none⟩) (Kept.set (p:=⟨w,1,none⟩) (Kept.set (p:=⟨w,0,none⟩) (Kept.set (p:=⟨w,2,none⟩) (Kept.set (p:=⟨w,1,none⟩) (Kept.set (p:=⟨w,0,none⟩) an.out (fun h=>absurd h.1 (Cs _)) _) (fun h=>absurd h.1 (Cs _)) _) (fun h=>absurd h.1 (Cs _)) _) (fun h=>absurd h.1 (Cs _)) _) (fun h=>absurd h.1 (Cs _)) _) (fun h=>absurd h.1 (Cs _)) _)⟩
    ·have bk:(me==0)=false:=(by simp[ac]);have HG:Hid (Cq ls lf bs at_=(⟨ta,tb,tc⟩,false,me,ma)):=(by show _=_;rw[U.out,Bt ac]);clear U ac;go_wp2_with fail;exact Cz (Kg rfl _ _ w.heap.size _ #[.int .u8 ta,tb,tc] _ (.bool false) (.int .i64 me) rfl rfl rfl ((((((aa.out.set 0 (.int .u8 ta)).set 1 (.int .i64 tb)).set 2 (.int .i64 tc)).set 0 (.int .u8 ta)).set 1 (.int .i64 tb)).set 2 (.int .i64 tc)) underlying280 rfl Hz) rfl ⟨nk,nj,(Kept.set (p:=⟨w,2,none⟩) (Kept.set (p:=⟨w,1,none⟩) (Kept.set (p:=⟨w,0,none⟩) (Kept.set (p:=⟨w,2,none⟩) (Kept.set (p:=⟨w,1,none⟩) (Kept.set (p:=⟨w,0,none⟩) an.out (fun h=>absurd h.1 (Cs _)) _) (fun h=>absurd h.1 (Cs _)) _) (fun h=>absurd h.1 (Cs _)) _) (fun h=>absurd h.1 (Cs _)) _) (fun h=>absurd h.1 (Cs _)) _) (fun h=>absurd h.1 (Cs _)) _)⟩
 ·have hb:(ge != 0)=true:=bne_iff_ne.mpr he;have HG:Hid (Cq ls lf bs at_=(⟨0,0,0⟩,false,ge,at_+ga)):=by show _=_;unfold Cq;rw[<-af.out];simp only;rw[Ab he]
  clear he aj;go_wp2_with fail;exact Cz (Kg rfl _ _ w.heap.size _ #[.int .u8 0,ij,ij] _ (.bool false) (.int .i64 ge) rfl rfl rfl (((E.out.set 0 (.int .u8 0)).set 1 (.int .i64 0)).set 2 (.int .i64 0)) underlying280 rfl Hz) rfl ⟨nk,ni,(Kept.set (p:=⟨w,2,none⟩) (Kept.set (p:=⟨w,1,none⟩) (Kept.set (p:=⟨w,0,none⟩) Y.out (fun h=>absurd h.1 (Cs _)) _) (fun h=>absurd h.1 (Cs _)) _) (fun h=>absurd h.1 (Cs _)) _)⟩
end Huff
namespace Huff
open Go.RowKit Mem Canon Own
open Toks (Tk Pc Dz El pw AW)
theorem mJ{X th:Nat}(h:(Ed ls X th).2.1=0):0<(Ed ls X th).2.2:=by
 unfold Ed at h ⊢;cases hf:(List.range ls.length).find? (hit ls X th)with
 |some s=>obtain⟨x,hx,i,_⟩:=G3.1 (List.find?_some hf);simp only[List.getD_eq_getElem?_getD,hx,Option.getD_some];omega
 |none=>rw[hf]at h;simp only at h;split at h<;>cases h
def JL(t:Tk):Prop:=AW t.lit t.len t.dist=true/\(0<=t.lit/\t.lit<=255)/\(0<=t.len/\t.len<=257)
theorem WB(z:lf.length<=12)(bs:List Bool){v at_:Nat}(j:257<=v)(E:v<=264)(h:(Eg lf bs v at_).2.1=0):JL (Eg lf bs v at_).1/\at_<=(Eg lf bs v at_).2.2:=by
 unfold Eg at h ⊢;simp only at h ⊢;split at h
 ·cases h
 ·rename_i h1;rw[Aa h1];split at h
  ·rename_i h2;exact absurd h h2
  ·rename_i h2;rw[Aa h2];split at h
   ·cases h
   ·rename_i h3;rw[Aa h3];obtain⟨s,hs,i⟩:=Ms lf _ _ (Decidable.not_not.1 h2);rw[hs]at h h3 ⊢;rw[Br]at h h3 ⊢;have b1:=GK bs at_ (v-257);have b2:=GK bs (at_+(v-257)+(Ed lf (head bs (at_+(v-257))) (there bs (at_+(v-257)))).2.2) s;generalize yZ bs at_ (v-257)=x at *;generalize yZ bs (at_+(v-257)+(Ed lf (head bs (at_+(v-257))) (there bs (at_+(v-257)))).2.2) s=y at *;have p1:pw ((v:Int)-257)=((2 ^ (v-257):Nat):Int):=(by unfold pw;rw[show((v:Int)-257).toNat=v-257 by omega]);have p2:pw (s:Int)=((2 ^ s:Nat):Int):=(by unfold pw;rw[Br]);have q1:2 ^ (v-257)<=2 ^ 7:=Cc mw mw;have q2:2 ^ s<=2 ^ 11:=Cc mw mw;have q3:=FH (v-257);have q4:=FH s;have hj:=(Toks.SC ⟨(v:Int),(x:Int),(s:Int),(y:Int)⟩ oO oO oO oO (by simp only;rw[p1];omega) (by simp only;rw[p2];omega)).1;simp only at hj;rw[p1,p2]at hj;generalize 2 ^ (v-257)=P at *;generalize 2 ^ s=Q at *;refine⟨?_,by show at_<=at_+(v-257)+_+s;omega⟩;rw[hj];refine⟨?_,⟨oK,oK⟩,⟨oO,oO⟩⟩;unfold AW;simp only;rw[Aa mw,decide_eq_true_eq];exact⟨ix,mw,mw,mw,mw⟩
theorem Ui(z:ls.length<=265)(y:lf.length<=12)(bs:List Bool){at_:Nat}(h:(Cq ls lf bs at_).2.2.1=0):
 ((Cq ls lf bs at_).2.1=true->JL (Cq ls lf bs at_).1)/\at_<(Cq ls lf bs at_).2.2.2:=by
 have i:=Ms ls (head bs at_) (there bs at_);have j:=mJ (ls:=ls) (X:=head bs at_) (th:=there bs at_);unfold Cq at h ⊢;simp only at h ⊢;generalize Ed ls (head bs at_) (there bs at_)=G at *;obtain⟨gv,ge,ga⟩:=G;simp only at h i j ⊢;by_cases h1:ge=0
 ·subst h1;obtain⟨s,rfl,hs⟩:=i rfl;have ha:=j rfl;rw[Aa oK]at h ⊢;by_cases h2:(s:Int)=256
  ·rw[Ab h2];exact⟨fun e=>(by cases e),oO⟩
  ·rw[Aa h2]at h ⊢;by_cases h3:(s:Int)<256
   ·rw[Ab h3];refine⟨fun _=>⟨?_,⟨oO,oO⟩,⟨oK,oK⟩⟩,oO⟩;unfold AW;simp
   ·rw[Aa h3,Br]at h ⊢;have hm:=WB y bs (v:=s) (at_:=at_+ga) mw mw h;exact⟨fun _=>hm.1,oO⟩
 ·rw[Ab h1]at h;exact absurd h h1
def Er(ls lf:List Nat)(bs:List Bool):Nat->Int->List Tk->Nat->List Tk×Int
 |0,_,_,_=>([],0)
 |f+1,most,out,at_=>
  let R:=Cq ls lf bs at_
  if R.2.2.1≠0 then([],R.2.2.1)
  else if R.2.1=false then(if Fx bs R.2.2.2=0 then(out,0)else([],2))
  else if most-max 1 R.1.len<0 then([],6)
  else Er ls lf bs f (most-max 1 R.1.len) (out++ [R.1]) R.2.2.2
def Cg(lb:List Nat)(most:Int):List Tk×Int:=
 if most<0 then([],13)else
 if(Bw (Bi lb) 265 266 [] false 0).2.1≠0 then([],(Bw (Bi lb) 265 266 [] false 0).2.1)else
 if(Bw (Bi lb) 12 13 [] false (Bw (Bi lb) 265 266 [] false 0).2.2).2.1≠0 then([],(Bw (Bi lb) 12 13 [] false (Bw (Bi lb) 265 266 [] false 0).2.2).2.1)else
 Er (Bw (Bi lb) 265 266 [] false 0).1 (Bw (Bi lb) 12 13 [] false (Bw (Bi lb) 265 266 [] false 0).2.2).1 (Bi lb) ((Bi lb).length+1) most [] (Bw (Bi lb) 12 13 [] false (Bw (Bi lb) 265 266 [] false 0).2.2).2.2
def B4:List Tk->Int
 | []=>0
 |t :: ts=>max 1 t.len+B4 ts
theorem Wi(ts:List Tk)(t:Tk):B4 (ts++ [t])=B4 ts+max 1 t.len:=by
 induction ts with
 |nil=>simp[B4]
 |cons a ts ih=>rw[DH,B4,B4,ih];omega
theorem T4{ls lf:List Nat}(y:ls.length<=265)(j:lf.length<=12)(bs:List Bool)(i:Int)(h0:0<=i):∀ (f:Nat) (most:Int) (out:List Tk) (at_:Nat),0<=most->B4 out+most=i->(∀t∈out,JL t)->∀ts e,Er ls lf bs f most out at_=(ts,e)->
 (e=0->(∀t∈ts,JL t)/\B4 ts<=i)/\(e≠0->ts= [])
 |0,most,out,at_,hm,hs,hall,ts,e,h=>by rw[Er]at h;injection h with h1 h2;subst h1 h2;exact⟨fun _=>⟨fun t ht=>(by cases ht),by simp only[B4];omega⟩,fun _=>rfl⟩
 |f+1,most,out,at_,hm,hs,hall,ts,e,h=>by
  rw[Er]at h;split at h
  ·rename_i h1;injection h with e1 e2;subst e1 e2;exact⟨fun e=>absurd e h1,fun _=>rfl⟩
  ·rename_i h1;have z:=Ui y j bs (Decidable.not_not.1 h1);split at h
   ·split at h
    ·injection h with e1 e2;subst e1 e2;exact⟨fun _=>⟨hall,mw⟩,fun e=>absurd rfl e⟩
    ·injection h with e1 e2;subst e1 e2;exact⟨fun e=>(by cases e),fun _=>rfl⟩
   ·rename_i h2;have h2:(Cq ls lf bs at_).2.1=true:=pg;split at h
    ·injection h with e1 e2;subst e1 e2;exact⟨fun e=>(by cases e),fun _=>rfl⟩
    ·rename_i h3;refine T4 y j bs i h0 f _ _ _ mw (by rw[Wi];omega) ?_ ts e h;intro t ht;rw[BF,Ei]at ht;rcases ht with ht|rfl
     ·exact hall t ht
     ·exact z.1 h2
theorem PV(lb:List Nat)(most:Int):((Cg lb most).2=0->(∀t∈(Cg lb most).1,JL t)/\B4 (Cg lb most).1<=most)/\((Cg lb most).2≠0->(Cg lb most).1= []):=by
 unfold Cg;split
 ·exact⟨fun e=>(by cases e),fun _=>rfl⟩
 ·rename_i h0;split
  ·rename_i h1;exact⟨fun e=>absurd e h1,fun _=>rfl⟩
  ·rename_i h1;split
   ·rename_i h2;exact⟨fun e=>absurd e h2,fun _=>rfl⟩
   ·rename_i h2;have k1:=Jj (bs:=Bi lb) (n:=265) 266 [] false 0 oK oK (Decidable.not_not.1 h1);have k2:=Jj (bs:=Bi lb) (n:=12) 13 [] false (Bw (Bi lb) 265 266 [] false 0).2.2 oK oK (Decidable.not_not.1 h2);exact T4 (by rw[k1.2];omega) (by rw[k2.2];omega) (Bi lb) most mw _ most [] _ mw (by simp[B4]) (fun t ht=>(by cases ht)) _ _ rfl
end Huff
namespace Huff
open Go.RowKit Mem Canon Own
open Toks (Tk Pc Dz El pw AW)
def KW(R:List Tk×Int)(w:World)(e:Ending)(w':World):Prop:=
 ∃v,e= .returned (.tuple #[v,R.2])/\w'.ownsRow w 280 3 v R.1.length (Do R.1)/\Below w w w'
theorem lP(bs:List Bool)(at_:Nat):Fx bs at_=0∨Fx bs at_=2:=by unfold Fx;split<;>simp
theorem VZ{bs:List Bool}{at_:Nat}{out:List Tk}{T:Tk×Bool×Int×Nat}(h:Cq ls lf bs at_=T)(he:T.2.2.1≠0):Er ls lf bs (f+1) M out at_=([],T.2.2.1):=by rw[Er,h,Ab he]
theorem VD{bs:List Bool}{at_:Nat}{out:List Tk}{T:Tk×Bool×Int×Nat}(h:Cq ls lf bs at_=T)(he:T.2.2.1=0)(hm:T.2.1=false):Er ls lf bs (f+1) M out at_=if Fx bs T.2.2.2=0 then(out,0)else([],2):=by rw[Er,h,Aa (by rw[he];simp),Ab hm]
theorem VI{bs:List Bool}{at_:Nat}{out:List Tk}{T:Tk×Bool×Int×Nat}(h:Cq ls lf bs at_=T)(he:T.2.2.1=0)(hm:T.2.1=true)(hl:M-max 1 T.1.len<0):Er ls lf bs (f+1) M out at_=([],6):=by rw[Er,h,Aa (by rw[he];simp),Aa (by rw[hm];simp),Ab hl]
theorem VG{bs:List Bool}{at_:Nat}{out:List Tk}{T:Tk×Bool×Int×Nat}(h:Cq ls lf bs at_=T)(he:T.2.2.1=0)(hm:T.2.1=true)(hl:¬M-max 1 T.1.len<0):Er ls lf bs (f+1) M out at_=Er ls lf bs f (M-max 1 T.1.len) (out++ [T.1]) T.2.2.2:=by rw[Er,h,Aa (by rw[he];simp),Aa (by rw[hm];simp),Aa hl]
theorem QG(w:World)(A:Option Addr)(n c:Nat)(lb:List Nat)(most:Int)(cv:0<=most)(cH:most<=9223372036854775807)(hn:lb.length=n)(hN:n<=100000)(h8:∀x∈lb,x<=255)(bg:A=none->n=0/\c=0)(ha:Row w w A n 1 (jZ .u8 lb)):
 Calls prog 299 #[.slice A n c,most] w (KW (Cg lb most) w):=by
 obtain⟨j0,ct,cA,cw,cE⟩:=info_parts MQ;have C1:=hid (Rr w A n c lb hn hN h8 bg ha);have cX:(Bi lb).length<=800000:=by rw[Es,hn];omega
 obtain⟨RT,ag⟩:=ii (Cg lb most);rw[<-ag];unfold Cg at ag;rw[Aa mw]at ag;clear hn h8 bg ha;generalize Bi lb=bs at *;have a3:=Jj (bs:=bs) (n:=265) 266 [] false 0 oK oK;have D1:=hid (fun wx gr g lo (h1:lo<=g) h2 h3=>Ra wx gr lo g bs 0 265 mw mw h1 h2 h3)
 change Hid (∀wx gr g lo,lo<=g->_->Rd wx lo g bs 0->Calls _ _ _ _ (Mr (Bw bs 265 266 [] false 0) lo g bs wx))at D1
 generalize Bw bs 265 266 [] false 0=R1 at D1 a3 ag;obtain⟨ls,e1,a1⟩:=R1;simp only at a3 ag;have a6:=Jj (bs:=bs) (n:=12) 13 [] false a1 oK oK;have D2:=hid (fun wx gr g lo (h1:lo<=g) h2 h3=>Ra wx gr lo g bs a1 12 mw mw h1 h2 h3)
 change Hid (∀wx gr g lo,lo<=g->_->Rd wx lo g bs a1->Calls _ _ _ _ (Mr (Bw bs 12 13 [] false a1) lo g bs wx))at D2
 generalize Bw bs 12 13 [] false a1=R2 at D2 a6 ag;obtain⟨lf,e2,a2⟩:=R2;simp only at a6 ag;have ar:=hid ag;have ce:=hid a3;have b0:=hid a6;clear ag a3 a6;go_enter func299,ntmps299;go_wp2_with fail;refine C1.out.mono ?_;rintro e w1 ⟨g,rfl,bq,hg,bt⟩;have z1:=bt.size;have cT:=bq.lt;go_wp2_with fail;have ak:Below w1 w1 (w1.alloc (.cells #[.pointer (some ⟨g,0,none⟩), .pointer none, .pointer none] 419)):=aZ (Ag _ _);have am:Blk (w1.alloc (.cells #[.pointer (some ⟨g,0,none⟩), .pointer none, .pointer none] 419)) w1 419 #[.pointer (some ⟨g,0,none⟩), .pointer none, .pointer none]:=Blk.made _ _ _;generalize w1.alloc (.cells #[.pointer (some ⟨g,0,none⟩), .pointer none, .pointer none] 419)=w2 at *;have cm:Rd w2 w g bs 0:=bq.keep (fun b _ h=>ak.block b mw) hg;have z2:=am.lt;have ba:Below w w w2:=bt.trans (ak.mono z1);refine(D1.out w2 w1 g w hg (am.cell 0) cm).mono ?_;rintro e w3 ⟨N,bp,a5⟩;simp only at N bp;have z3:=a5.size;have Q:Blk w3 w1 _ _:=(a5.block w1 ⟨mw,mw⟩).trans am;have p0:=Q.ia 0;have p1:=Q.ia 1;have p2:=Q.ia 2;have f1:=Q.frozen 1;have f2:=Q.frozen 2;have bi:=hid ba;have bk:=hid a5;have ax:=hid Q;have b6:=hid bp;clear bq cm bt ak am ba a5 Q bp C1 D1;rcases N with ⟨av,rfl⟩|⟨av,gs,rfl,b7⟩
 ·have hb:(e1 != 0)=true:=bne_iff_ne.mpr av;have ac:Hid (RT=([],e1)):=by show _=_;rw[ar.out,Ab av]
  clear av ar;go_wp2_with fail;go_ret2;rw[ac.out];exact⟨_,rfl,AI _ _ _ _,BW (p:=⟨w1,1,none⟩) z1 (bi.out.trans (bk.out.below (fun b h=>⟨mw,mw⟩)))⟩
 ·subst av;obtain⟨be,a4⟩:=ce.out rfl;have cc:=hid b7;have bN:=hid be;have cq:=hid a4;clear b7 be a4 ce;go_wp2_with fail;have az:=ax.out.set 1 (.pointer (some ⟨gs,0,none⟩));have aj:Kept (fun x=>x<w1.heap.size∨w1.heap.size<x) w3 (w3.setCell ⟨w1,1,none⟩ (.pointer (some ⟨gs,0,none⟩))):=(Kept.refl _ _).set (fun h=>by have h:w1.heap.size<w1.heap.size∨w1.heap.size<w1.heap.size:=h;omega) _;have cL:=aj.size;generalize w3.setCell ⟨w1,1,none⟩ (.pointer (some ⟨gs,0,none⟩))=w4 at *;have cl:Rd w4 w g bs a1:=b6.out.keep (fun b h1 h2=>aj.block b (by left;omega)) hg;have a9:Hid (Coder w4 w2 w3 gs ls):=cc.out.keep (fun b h1 h2=>aj.block b (by right;omega));have cd:Hid (Below w w w4):=(bi.out.trans (bk.out.below (fun b h=>⟨mw,mw⟩))).trans (aj.below (fun b h=>by left;omega));clear p0 p1 p2 f1 f2 ax b6 cc bi bk;refine(D2.out w4 w1 g w hg (az.cell 0) cl).mono ?_;rintro e w5 ⟨N,bh,ay⟩;simp only at N bh;have z5:=ay.size;have ae:Blk w5 w1 _ _:=(ay.block w1 ⟨mw,mw⟩).trans az;have p0:=ae.cell 0;have p1:=ae.cell 1;have p2:=ae.cell 2;have f2:=ae.frozen 2;simp at p0 p1 p2;have bn:Hid (Below w w w5):=cd.out.trans (ay.below (fun b h=>⟨mw,mw⟩));have bc:Hid (Coder w5 w2 w3 gs ls):=a9.out.kept ay (fun b h1 h2=>⟨mw,mw⟩);have au:=hid ae;have bj:=hid bh;clear cl aj az bh ae ay cd a9 D2;rcases N with ⟨aw,rfl⟩|⟨aw,gf,rfl,co⟩
  ·have hb:(e2 != 0)=true:=bne_iff_ne.mpr aw;have ac:Hid (RT=([],e2)):=(by show _=_;rw[ar.out,Aa oK,Ab aw]);clear aw ar;go_wp2_with fail;go_ret2;rw[ac.out];exact⟨_,rfl,AI _ _ _ _,BW (p:=⟨w1,2,none⟩) z1 bn.out⟩
  ·subst aw;obtain⟨bf,b8⟩:=b0.out rfl;have b5:=hid co;have cg:=hid bf;have ca:=hid b8;have ac:Hid (RT=Er ls lf bs (bs.length+1) most [] a2):=(by show _=_;rw[ar.out,Aa oK,Aa oK]);clear co bf b8 b0 ar;have ci:a2<=bs.length:=(by obtain⟨A',n',c',l',h1,h2,h3,h4,h5,h6,h7⟩:=bj.out;rw[h5,Es,h3];exact h6);go_wp2_with fail;have bd:=au.out.set 2 (.pointer (some ⟨gf,0,none⟩));have ab:Kept (fun x=>x<w1.heap.size∨w1.heap.size<x) w5 (w5.setCell ⟨w1,2,none⟩ (.pointer (some ⟨gf,0,none⟩))):=(Kept.refl _ _).set (fun h=>by have h:w1.heap.size<w1.heap.size∨w1.heap.size<w1.heap.size:=h;omega) _;have cu:=ab.size;generalize w5.setCell ⟨w1,2,none⟩ (.pointer (some ⟨gf,0,none⟩))=w6 at *;have bx:Hid (Rd w6 w g bs a2):=bj.out.keep (fun b h1 h2=>ab.block b (by left;omega)) hg;have b9:Hid (Coder w6 w2 w6 gs ls):=Coder.mono (bc.out.keep (fun b h1 h2=>ab.block b (by right;omega))) (Ak _) mw;have b3:Hid (Coder w6 w2 w6 gf lf):=Coder.mono (b5.out.keep (fun b h1 h2=>ab.block b (by right;omega))) mw mw;have a0:Hid (Below w w w6):=bn.out.trans (ab.below (fun b h=>by left;omega));have z6:w1.heap.size<w2.heap.size/\w2.heap.size<=w6.heap.size:=mw;have U:=hid bd;clear p0 p1 p2 f2 au bj bc b5 bn ab bd cu cL z5 z3;generalize w1.heap.size=gr at *;generalize w2.heap.size=cF at *;go_wp2_with fail;go_loopw [1,4] (fun m u wr=>∃ (f at_ k:Nat) (M:Int) (out:List Tk),(0<=M/\M<=9223372036854775807)/\m= .int .i64 M/\k<=at_/\at_<=bs.length/\Hid (out.length=k)/\wr.ownsRow w6 280 3 u k (Do out)/\Hid (bs.length+1<=f+at_)/\Hid (Er ls lf bs f M out at_=RT)/\Hid (Rd wr w g bs at_)/\Hid (Kept (fun x=>x<w6.heap.size/\x≠g) w6 wr)) (fun m _ _=>(intOf m).toNat)
   case atStart=>exact⟨bs.length+1,a2,0,most,[],⟨cv,cH⟩,rfl,mw,ci,rfl,AI _ _ _ _,oi,ac.out.symm,bx.out,Kept.refl _ _⟩
   case round=>
    clear bx ac;obtain⟨f,at_,k,M,out,⟨c0,c6⟩,rfl,c2,c5,bb,E,hf,ai,b1,af⟩:=hrel;obtain⟨f,rfl⟩:∃f',f=f'+1:=⟨f-1,by have:=hf.out;omega⟩;have cC:=af.out.size;have al:Blk wr gr _ _:=(af.out.block gr ⟨mw,mw⟩).trans U.out;have C3:=XC wr gr w g cF w6 gs gf ls lf bs at_ hg (al.cell 0) (al.cell 1) (al.cell 2) mw mw bN.out (by rw[cq.out];omega) (b9.out.kept af.out (fun b h1 h2=>⟨mw,mw⟩)) cg.out (by rw[ca.out];omega) (b3.out.kept af.out (fun b h1 h2=>⟨mw,mw⟩)) cC (fun b h1 h2=>by omega) b1.out;have Y:=Ui (ls:=ls) (lf:=lf) (by rw[cq.out];omega) (by rw[ca.out];omega) bs (at_:=at_);unfold Vl at C3;clear al;have ah:=fun he hm=>VD (T:=Cq ls lf bs at_) (bs:=bs) (f:=f) (M:=M) (out:=out) rfl he hm;have an:=fun he=>VZ (T:=Cq ls lf bs at_) (bs:=bs) (f:=f) (M:=M) (out:=out) rfl he;have L:=fun he hm hl=>VI (T:=Cq ls lf bs at_) (bs:=bs) (f:=f) (M:=M) (out:=out) rfl he hm hl;have z:=fun he hm hl=>VG (T:=Cq ls lf bs at_) (bs:=bs) (f:=f) (M:=M) (out:=out) rfl he hm hl;generalize Cq ls lf bs at_=T at *;obtain⟨⟨lit,len,dist⟩,more,te,ta⟩:=T;simp only[Toks.Tk.val]at C3 Y ah an L z;have C3:=hid C3;by_cases he:te=0
    ·subst he;clear an;obtain⟨Y,cP⟩:=Y rfl;cases more
     ·have j:=ah rfl rfl;rw[ai.out]at j;have Z:=hid j;clear ah L z j ai Y;go_wp2_with fail;refine C3.out.mono ?_;rintro e w7 ⟨rfl,J,i⟩;have z7:=i.size;have G:Kept (fun x=>x<w6.heap.size/\x≠g) w6 w7:=af.out.trans ⟨i.os,i.tape,i.output,i.size,fun b h=>i.block b ⟨lz,h.2⟩⟩;have aq:Hid (Below w w w7):=a0.out.trans (G.below (fun b h=>⟨mw,mw⟩));have aa:Blk w7 gr _ _:=(G.block gr ⟨mw,mw⟩).trans U.out;have y:w7.ownsRow w6 280 3 _ k (Do out):=eZ E (fun x hx=>i.block x lc);have c4:=aa.lt;have p0:=aa.cell 0;simp at p0;go_wp2_with fail;have cj:Hid (Below w w (w7.alloc (.cells #[.int .u8 lit,len,dist] 280))):=nZ mw aq.out;have b4:=y.alloc (.cells #[.int .u8 lit,len,dist] 280);have bC:=J.keep (w':=w7.alloc (.cells #[.int .u8 lit,len,dist] 280)) (fun b _ h=>DJ w7 _ b mw) hg;generalize w7.alloc (.cells #[.int .u8 lit,len,dist] 280)=w8 at *;have C4:=YS w8 w g bs ta bC;rcases lP bs ta with hp|hp
      ·rw[hp]at C4;have bu:Hid (RT=(out,0)):=(by show _=_;rw[Z.out,Ab hp]);have C4:=hid C4;clear hp Z;refine C4.out.mono ?_;rintro e w9 ⟨rfl,q,rfl⟩;go_wp2_with fail;go_ret2;rw[bu.out];refine⟨_,rfl,?_,below_drewN cj.out q⟩;show World.ownsRow _ _ _ _ _ out.length _;rw[bb.out];exact kZ b4 mw
      ·rw[hp]at C4;have bu:Hid (RT=([],2)):=(by show _=_;rw[Z.out,Aa (by rw[hp];decide)]);have C4:=hid C4;clear hp Z;refine C4.out.mono ?_;rintro e w9 ⟨rfl,q,rfl⟩;go_wp2_with fail;go_ret2;rw[bu.out];exact⟨_,rfl,AI _ _ _ _,below_drewN cj.out q⟩
     ·obtain⟨hm,⟨cz,cy⟩,cx,a4⟩:=Y rfl;simp only at hm cz cy cx a4;clear ah Y;obtain⟨d,hd,c3,c1⟩:∃d:Int,d=max 1 len/\1<=d/\d<=257:=⟨_,rfl,mw,mw⟩;rw[<-hd]at L z;by_cases hl:M-d<0
      ·have j:=L rfl rfl hl;rw[ai.out]at j;have Z:=hid j;clear L z j ai;go_wp2_with fail;refine C3.out.mono ?_;rintro e w7 ⟨rfl,J,i⟩;have z7:=i.size;have G:Kept (fun x=>x<w6.heap.size/\x≠g) w6 w7:=af.out.trans ⟨i.os,i.tape,i.output,i.size,fun b h=>i.block b ⟨lz,h.2⟩⟩;have aq:Hid (Below w w w7):=a0.out.trans (G.below (fun b h=>⟨mw,mw⟩));have aa:Blk w7 gr _ _:=(G.block gr ⟨mw,mw⟩).trans U.out;have y:w7.ownsRow w6 280 3 _ k (Do out):=eZ E (fun x hx=>i.block x lc);go_wp2_with fail;go_ret2;rw[Z.out];exact⟨_,rfl,AI _ _ _ _,nZ mw aq.out⟩
      ·have j:=z rfl rfl hl;rw[ai.out]at j;have Z:=hid j;clear L z j ai;go_wp2_with fail;refine C3.out.mono ?_;rintro e w7 ⟨rfl,J,i⟩;have z7:=i.size;have G:Kept (fun x=>x<w6.heap.size/\x≠g) w6 w7:=af.out.trans ⟨i.os,i.tape,i.output,i.size,fun b h=>i.block b ⟨lz,h.2⟩⟩;have aq:Hid (Below w w w7):=a0.out.trans (G.below (fun b h=>⟨mw,mw⟩));have aa:Blk w7 gr _ _:=(G.block gr ⟨mw,mw⟩).trans U.out;have y:w7.ownsRow w6 280 3 _ k (Do out):=eZ E (fun x hx=>i.block x lc);have cf:k+1<=ta:=mw;have bS:ta<=bs.length:=(by obtain⟨A',n',c',l',h1,h2,h3,h4,h5,h6,h7⟩:=J;rw[h5,Es,h3];exact h6);obtain⟨va,vc,rfl⟩:=bZ y;have bl:=hid y;have cG:=hid J;have cB:=hid G;clear y J G i E af b1 aa;go_wp2_with(at_builtin;refine iZ rfl (.tmp 57) (.tmp 59) 190 rfl w6 280 j0 _ 3 24 underlying190 ct cA cw cE rfl ip _ _ _ mz ((bl.out.alloc _).alloc _) _ 1 1 [.int .u8 lit, .int .i64 len, .int .i64 dist] mz (Src.of_blk (g:=w7.heap.size+1) (Blk.made_at _ _ _ oK) 1 1 3 rfl) mm pm mw oT ?_;intro v4 w9 bm cp cS);go_roundw
       case measure=>go_light;show(M-max 1 len).toNat<M.toNat;omega
       case rel=>
        go_light;have cr:∀b,(b<w6.heap.size/\b≠g)->b<((w7.alloc (.cells #[.int .u8 lit,len,dist] 280)).alloc (.cells #[.int .u8 lit,len,dist] 280)).heap.size:=(by intro b h;have:=h.1;simp;omega);refine⟨f,ta,k+1,M-d,out++ [⟨lit,len,dist⟩],⟨hl,mw⟩,by rw[hd],cf,bS,?_,?_,?_,hid Z.out.symm,?_,?_⟩
        ·show(out++ [_]).length=k+1;rw[Ae,bb.out];rfl
        ·rw[Kh];exact bm
        ·show _<=_;have:=hf.out;omega
        ·exact cG.out.keep (fun b _ h2=>(cp.block b oT (fun h=>by have:=(Aj bl.out b h.symm).1;omega)).trans ((DJ _ _ b oT).trans (DJ w7 _ b mw))) hg
        ·exact((cB.out.alloc (fun b h=>by have:=h.1;omega) _).alloc (fun b h=>by have:=h.1;simp;omega) _).grown cp cr (fun b hb hh=>by have:=(Aj bl.out b hb).1;have:=hh.1;omega)
    ·have hb:(te != 0)=true:=bne_iff_ne.mpr he;have j:=an he;rw[ai.out]at j;have Z:=hid j;clear ah L z j ai Y he an;go_wp2_with fail;refine C3.out.mono ?_;rintro e w7 ⟨rfl,J,i⟩;have z7:=i.size;have G:Kept (fun x=>x<w6.heap.size/\x≠g) w6 w7:=af.out.trans ⟨i.os,i.tape,i.output,i.size,fun b h=>i.block b ⟨lz,h.2⟩⟩;have aq:Hid (Below w w w7):=a0.out.trans (G.below (fun b h=>⟨mw,mw⟩));have aa:Blk w7 gr _ _:=(G.block gr ⟨mw,mw⟩).trans U.out;have y:w7.ownsRow w6 280 3 _ k (Do out):=eZ E (fun x hx=>i.block x lc);go_wp2_with fail;go_ret2;rw[Z.out];exact⟨_,rfl,AI _ _ _ _,nZ mw aq.out⟩
end Huff
end Go.Proofs.YtfgdoknipbpfhaaGreatDoor
