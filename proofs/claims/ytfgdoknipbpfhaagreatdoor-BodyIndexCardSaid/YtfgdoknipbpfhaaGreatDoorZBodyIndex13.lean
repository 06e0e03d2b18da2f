/- The walks of package -/
import Derived.Test.YtfgdoknipbpfhaaGreatDoorZBodyIndex12
import Derived.Deep.RegionWith
import Derived.Laws.MakeOwn
namespace Go.Proofs.YtfgdoknipbpfhaaGreatDoor
open Go.Proofs.Tryz
open Go.Lib (hid)
set_option maxHeartbeats 400000
namespace Toks
open Go.RowKit Mem
theorem gM:(prog.info? 149).map (fun i=>(i.zero,i.size,i.bytes))=some (some (.int .u32 0),1,4):=ni
def u32s(n:Nat):Array Value:=madeCells #[.int .u32 0] n
theorem TL(n:Nat)(hn:n<=65536)(w:World):(Instr.makeSlice 266 (.int .i64 (n:Int)) (.int .i64 (n:Int))).run prog w=
 .ok (.slice (some ⟨w,0,none⟩) n n) (w.alloc (.cells (u32s n) 149)):=by
 obtain⟨i0,hi,j,i,E⟩:=info_parts gM;have h:=run_make (P:=prog) w 266 149 i0 (.int .u32 0) underlying266 hi j .i64 .i64 (n:Int) (n:Int) nB (Int.le_refl _) n8 nB;simp only[Int.toNat_natCast]at h;simpa[i,Value.cells,u32s]using h
theorem Sq(n:Nat):u32s n=ints .u32 (List.replicate n 0):=by
 unfold u32s ints madeCells;apply Array.ext';apply List.ext_getElem
 ·simp
 ·intro i h1 h2;simp[Nat.mod_one]
theorem MM{l:List Int}{i:Nat}{x:Int}(h:x=l.getD i 0):bump l i=l.set i (x+1):=pf
def tkd:Tk:=⟨0,0,0⟩
def G7(ts:List Tk):Nat->Nat->Value:=fun i j=>match j with
 |0=> .int .u8 (ts.getD i tkd).lit
 |1=> .int .i64 (ts.getD i tkd).len
 |_=> .int .i64 (ts.getD i tkd).dist
def CountPost(ts:List Tk)(w:World)(e:Ending)(w':World):Prop:=
 Below w w w'/\
 ((DJ ts=true/\∃gs gf:Nat,e= .returned (.tuple #[.slice (some ⟨gs,0,none⟩) 265 265, .slice (some ⟨gf,0,none⟩) 12 12,jd])/\
    Blk w' gs 149 (ints .u32 (symsOf ts))/\Blk w' gf 149 (ints .u32 (LO ts))/\w.heap.size<=gs/\w.heap.size<=gf)∨
  (DJ ts=false/\e= .returned (.tuple #[(),(), .int .i64 7])))
set_option maxRecDepth 100000 in
theorem NO(w:World)(A:Option Addr)(n c:Nat)(ts:List Tk)(hn:ts.length=n)(hb:n<=32768)(ag:∀t∈ts,0<=t.lit/\t.lit<=255)
 (U:Row w w A n 3 (G7 ts)):
 Calls prog 203 #[.slice A n c] w (CountPost ts w):=by
 have m1:=fun w=>TL 265 nB w;have m2:=fun w=>TL 12 nB w;simp only[show((265:Nat):Int)=265 from rfl]at m1;simp only[show((12:Nat):Int)=12 from rfl]at m2;go_enter func203,ntmps203;go_upto_region 1 with fail
 go_cut [5,6] (fun s5 s6 wx=>∃gs gf:Nat,s5= .slice (some ⟨gs,0,none⟩) 265 265/\s6= .slice (some ⟨gf,0,none⟩) 12 12/\
  Blk wx gs 149 (u32s 265)/\Blk wx gf 149 (u32s 12)/\gs≠gf/\w.heap.size<=gs/\w.heap.size<=gf/\Below w w wx)
 case first=>
  go_region;all_goals go_wp2_with fail
  ·go_meet;exact⟨_,_,rfl,rfl,((Blk.made _ _ _).alloc _).drew,(Blk.made_at _ _ _ pR).drew,pR,pR,pR,qo⟩
  ·go_meet;exact⟨_,_,rfl,rfl,(Blk.made_at _ _ _ pR).drew,((Blk.made _ _ _).alloc _).drew,pR,pR,pR,qo⟩
 case rest=>
  obtain⟨gs,gf,rfl,rfl,bs,bf,ai,be,bc,am⟩:=hcut;go_wp2_with fail
  go_loopw [7] (fun i wr=>∃k:Nat,k<=n/\i= .int .i64 k/\Blk wr gs 149 (ints .u32 (Eg (ts.take k)).1)/\Blk wr gf 149 (ints .u32 (Eg (ts.take k)).2)/\
   DJ (ts.take k)=true/\Below w w wr)
   (fun i _=>n-(intOf i).toNat)
  case atStart=>exact⟨0,nB,rfl,by rw[Sq]at bs;exact bs,by rw[Sq]at bf;exact bf,rfl,am⟩
  case round=>
   obtain⟨k,hk,rfl,rs,rf,az,Y⟩:=hrel;have au:=hid az;clear az m1 m2 bs bf am;by_cases av:k<n
   ·have al:k<ts.length:=nB;have Z:ts[k]∈ts:=GI al;obtain⟨b,ab,rfl,ar,G⟩:=U nB;have j:=fun w=>NT ts[k] w (ag _ Z).1 (ag _ Z).2;have e0:=G k 0 av nB;have e1:=G k 1 av nB;have e2:=G k 2 av nB;simp only[G7,List.getD_eq_getElem?_getD,List.getElem?_eq_getElem al,Option.getD_some,Nat.add_zero,<-Nat.add_assoc]at e0 e1 e2;have c0:=(Y.cell (p:=⟨b,ab+k*3,none⟩) ar).trans e0;have c1:=(Y.cell (p:=⟨b,ab+k*3+1,none⟩) ar).trans e1;have c2:=(Y.cell (p:=⟨b,ab+k*3+2,none⟩) ar).trans e2;clear e0 e1 e2 G;have aq:=YF ts k al;have N:=Nb (ts.take k);have Q:=Lj (ts.take k);have ah:DJ (ts.take (k+1))=(DJ (ts.take k)&&Bd ts[k].lit ts[k].len ts[k].dist):=(by unfold DJ;rw[List.take_succ_eq_append_getElem al,List.all_append];simp);have ae:Bd ts[k].lit ts[k].len ts[k].dist=false->DJ ts=false:=(by intro h;unfold DJ;rw[List.all_eq_false];exact⟨ts[k],Z,p8⟩);rw[au.out,Bool.true_and]at ah;have an:(ts.take k).length=k:=p5;rw[an]at N;have M:=ag _ Z;generalize a6:Eg (ts.take k)=cn at *;obtain⟨ls,lf⟩:=cn;generalize ts[k]=t at *;simp only at rs rf N Q;have bi:=Y.size;have bg:=rs.lt;have bh:=rf.lt;cases hm:Bd t.lit t.len t.dist
    ·have HA:=hid (ae hm);obtain⟨a9,a5⟩:=T3 hm;rw[a9,a5]at j;have HS:=hid j;clear j aq ah ae N Q a9 a5 hm an a6 Z U hn M;obtain⟨t1,t2,t3⟩:=t;simp only[Pc.val_mk,Tk.val_mk]at HS c0 c1 c2;go_wp2_with fail;refine(HS.out _).mono ?_;rintro e w2 ⟨rfl,E⟩;go_wp2_with fail
     go_ret3
     refine⟨?_, .inr ⟨HA.out,rfl⟩⟩
     (repeat (with_reducible first|exact Ak _ _|assumption|refine Aw ?_ |refine below_drewN ?_ _|refine oZ ?_ |refine cZ ?_ |refine dZ jf ?_ |refine belA ?_ |refine pZ jf ?_))
    ·obtain⟨S,D,L,F,ay,hS,hD,aj,ak,a1⟩:=MY t M.1 M.2 hm;rw[ay,a1]at j;have HS:=hid j;rw[hm]at ah;have a3:=hid ah;have af:Eg (ts.take (k+1))=(bump ls S,if t.len=0 then lf else bump lf D):=(by rw[aq];simp only[CZ,ay,Int.toNat_natCast]);have ac:=hid af;have a4:=N.1 S;have a0:=N.2 D;obtain⟨x,hx⟩:=jc (ls.getD S 0);obtain⟨y,hy⟩:=jc (lf.getD D 0);rw[<-hx]at a4;rw[<-hy]at a0;have HX:=hid hx;have HY:=hid hy;have aw:=hid Q;clear j aq ah ae hm an a6 Z U hn M ay a1 af hx hy N Q;obtain⟨t1,t2,t3⟩:=t;simp only[Pc.val_mk,Tk.val_mk]at HS c0 c1 c2 aj ak ac;by_cases hl:t2=0
     ·have ba:=aj hl;clear aj ak;subst hl;go_wp2_with fail;refine(HS.out _).mono ?_;rintro e w2 ⟨rfl,E⟩;have z2:=E.size;have d1:=(E.cell (p:=⟨b,ab+k*3+1,none⟩) (by show b<_;omega)).trans c1;have d2:b<w2.heap.size:=nB;have J:Blk w2 gs 149 (ints .u32 ls):=rs.step E;have aa:Blk w2 gf 149 (ints .u32 lf):=rf.step E;have cs:=J.cell S;rw[La _ _ _ (by rw[aw.out.1];exact hS),<-HX.out]at cs;have fs:=J.frozen S;have bb:=J.lt;have bd:=aa.lt;go_wp2_with fail;go_roundw
      case rel=>
       go_light;refine⟨k+1,nB,lj,?_,?_,a3.out,?_⟩
       ·rw[ac.out];have:=(J.set S (.int .u32 (x+1))).alloc (.cells #[.int .i64 ↑S,L, .int .i64 ↑D,F] 276);rw[ints_set]at this;show Blk _ gs _ (ints .u32 (bump ls S));rw[MM HX.out];exact this
       ·rw[ac.out];exact((aa.far (p:=⟨gs,S,none⟩) (By ai) _).alloc _)
       ·(repeat (with_reducible first|exact Ak _ _|assumption|refine Aw ?_ |refine below_drewN ?_ _|refine oZ ?_ |refine cZ ?_ |refine dZ jf ?_ |refine belA ?_ |refine pZ jf ?_))
      case measure=>exact ld
     ·obtain⟨ba,bj⟩:=ak hl;clear aj ak;go_wp2_with fail;refine(HS.out _).mono ?_;rintro e w2 ⟨rfl,E⟩;have z2:=E.size;have d1:=(E.cell (p:=⟨b,ab+k*3+1,none⟩) (by show b<_;omega)).trans c1;have d2:b<w2.heap.size:=nB;have J:Blk w2 gs 149 (ints .u32 ls):=rs.step E;have aa:Blk w2 gf 149 (ints .u32 lf):=rf.step E;have cs:=J.cell S;rw[La _ _ _ (by rw[aw.out.1];exact hS),<-HX.out]at cs;have fs:=J.frozen S;have ax:=aa.far (p:=⟨gs,S,none⟩) (By ai) (.int .u32 (x+1));have cf:=ax.cell D;rw[La _ _ _ (by rw[aw.out.2];exact hD),<-HY.out]at cf;have ff:=ax.frozen D;have bb:=J.lt;have bd:=aa.lt;go_wp2_with fail;go_roundw
      case rel=>
       go_light;refine⟨k+1,nB,lj,?_,?_,a3.out,?_⟩
       ·rw[ac.out,Ae hl];have:=((J.set S (.int .u32 (x+1))).far (p:=⟨gf,D,none⟩) ai (.int .u32 (y+1))).alloc (.cells #[.int .i64 ↑S,L, .int .i64 ↑D,F] 276);rw[ints_set]at this;show Blk _ gs _ (ints .u32 (bump ls S));rw[MM HX.out];exact this
       ·rw[ac.out,Ae hl];have:=(ax.set D (.int .u32 (y+1))).alloc (.cells #[.int .i64 ↑S,L, .int .i64 ↑D,F] 276);rw[ints_set]at this;show Blk _ gf _ (ints .u32 (bump lf D));rw[MM HY.out];exact this
       ·(repeat (with_reducible first|exact Ak _ _|assumption|refine Aw ?_ |refine below_drewN ?_ _|refine oZ ?_ |refine cZ ?_ |refine dZ jf ?_ |refine belA ?_ |refine pZ jf ?_))
      case measure=>exact ld
   ·obtain rfl:k=n:=by omega
    rw[Bp nB]at rs rf au;have N:=(Nb ts).1 256;have Q:=Lj ts;obtain⟨x,hx⟩:=jc ((Eg ts).1.getD 256 0);rw[<-hx,hn]at N;have cs:=rs.cell 256;rw[La _ _ _ (by rw[Q.1];omega),<-hx]at cs;have fs:=rs.frozen 256;have HX:=hid hx;clear hx Q hn U;go_wp2_with fail
    go_ret3
    go_light;refine⟨qo, .inl ⟨au.out,gs,gf,rfl,?_,?_,be,bc⟩⟩
    ·have:=rs.set 256 (.int .u32 (x+1));rw[ints_set]at this;unfold symsOf;rw[MM HX.out];exact this
    ·exact rf.far (p:=⟨gs,256,none⟩) (By ai) _
end Toks
namespace Huff
open Go.RowKit Mem
open Toks (Tk)
def Dp(ts:List Tk):List Value:=ts.flatMap fun t=> [.int .u8 t.lit, .int .i64 t.len, .int .i64 t.dist]
theorem Jw(ts:List Tk)(t:Tk):Dp (ts++ [t])=Dp ts++ [.int .u8 t.lit, .int .i64 t.len, .int .i64 t.dist]:=by simp[Dp]
theorem MO:(prog.info? 280).map (fun i=>(i.zero,i.size,i.bytes))=some (some (.agg #[.int .u8 0,jd,jd]),3,24):=ni
def tkd:Tk:=⟨0,0,0⟩
def tkF(ts:List Tk):Nat->Nat->Value:=fun i j=>match j with
 |0=> .int .u8 (ts.getD i tkd).lit
 |1=> .int .i64 (ts.getD i tkd).len
 |_=> .int .i64 (ts.getD i tkd).dist
theorem L0:∀ (ts:List Tk) (i j:Nat),i<ts.length->j<3->(Dp ts)[i*3+j]? =some (tkF ts i j)
 | [],i,j,h,_=>pS
 |t :: ts,0,j,_,hj=>by
  obtain rfl|rfl|rfl:j=0∨j=1∨j=2:=nB
  all_goals rfl
 |t :: ts,i+1,j,h,hj=>by have:=L0 ts i j qh hj;show(_ :: _ :: _ :: Dp ts)[(i+1)*3+j]? =_;rw[show(i+1)*3+j=(i*3+j)+1+1+1 by omega,List.getElem?_cons_succ,List.getElem?_cons_succ,List.getElem?_cons_succ,this];rfl
end Huff
namespace Block
open Go.RowKit Mem
open Huff (Dp L0 tkF)
open Toks (Tk)
theorem YO(ts:List Tk)(i j:Nat):tkF ts i j=Toks.G7 ts i j:=by
 match j with
 |0=>rfl
 |1=>rfl
 |_+2=>rfl
theorem LV{w:World}{base c:Nat}{A:Option Addr}{ts:List Tk}(h:w.ownsRow base 280 3 (.slice A ts.length c) ts.length (Dp ts)):Row w w A ts.length 3 (Toks.G7 ts):=
 Row.of_own h rfl fun i j hi hj=>by rw[<-YO ts i j];exact L0 ts i j hi hj
end Block
namespace Toks
open Go.RowKit Mem
theorem fO(sym:Int)(h0:0<=sym)(h1:sym<256):Eu ⟨sym,0,0,0⟩=⟨sym,0,0⟩/\EU ⟨sym,0,0,0⟩=0:=by
 have hl:GW ⟨sym,0,0,0⟩=true:=by simp[GW];omega
 unfold Eu EU;rw[Ag hl,Ag hl];exact⟨rfl,rfl⟩
theorem Vk(p:Pc)(a1:257<=p.sym)(a2:p.sym<265)(a3:0<=p.dist)(a4:p.dist<12)(a5:0<=p.len/\p.len<pw (p.sym-257))(a6:0<=p.far/\p.far<pw p.dist):
 Eu p=⟨0,2+pw (p.sym-257)+p.len,pw p.dist+p.far⟩/\EU p=0:=by
 have hl:GW p=false:=by simp[GW];omega
 have hm:IL p=true:=by simp only[IL,decide_eq_true_eq];omega
 unfold Eu EU;simp[hl,hm]
theorem Yw(p:Pc)(h:¬(0<=p.sym/\p.sym<256/\p.len=0/\p.dist=0/\p.far=0))
 (h':¬(257<=p.sym/\p.sym<265/\0<=p.dist/\p.dist<12/\0<=p.len/\p.len<pw (p.sym-257)/\0<=p.far/\p.far<pw p.dist)):Eu p=⟨0,0,0⟩/\EU p=7:=by
 have hl:GW p=false:=by unfold GW;simpa using h
 have hm:IL p=false:=by unfold IL;simpa using h'
 unfold Eu EU;simp[hl,hm]
theorem Zr(p:Pc):∃a b c e,Eu p=⟨a,b,c⟩/\EU p=e/\
 Hid (((0<=p.sym/\p.sym<256/\p.len=0/\p.dist=0/\p.far=0)->a=p.sym/\b=0/\c=0/\e=0)/\
  ((257<=p.sym/\p.sym<265/\0<=p.dist/\p.dist<12/\0<=p.len/\p.len<pw (p.sym-257)/\0<=p.far/\p.far<pw p.dist)->
    a=0/\b=2+pw (p.sym-257)+p.len/\c=pw p.dist+p.far/\e=0)/\
  (¬(0<=p.sym/\p.sym<256/\p.len=0/\p.dist=0/\p.far=0)->
   ¬(257<=p.sym/\p.sym<265/\0<=p.dist/\p.dist<12/\0<=p.len/\p.len<pw (p.sym-257)/\0<=p.far/\p.far<pw p.dist)->
    a=0/\b=0/\c=0/\e=7)):=by
 refine⟨(Eu p).lit,(Eu p).len,(Eu p).dist,EU p,rfl,rfl,?_⟩;refine⟨fun h=> ?_,fun h=> ?_,fun h h'=> ?_⟩
 ·obtain⟨sym,len,dist,far⟩:=p;obtain⟨h1,h2,rfl,rfl,rfl⟩:=h;obtain⟨e1,e2⟩:=fO sym h1 h2;rw[e1,e2];exact⟨rfl,rfl,rfl,rfl⟩
 ·obtain⟨e1,e2⟩:=Vk p h.1 h.2.1 h.2.2.1 h.2.2.2.1 ⟨h.2.2.2.2.1,h.2.2.2.2.2.1⟩ ⟨h.2.2.2.2.2.2.1,h.2.2.2.2.2.2.2⟩;rw[e1,e2];exact⟨rfl,rfl,rfl,rfl⟩
 ·obtain⟨e1,e2⟩:=Yw p h h';rw[e1,e2];exact⟨rfl,rfl,rfl,rfl⟩
theorem jU(p:Pc)(w:World)(h0: -9223372036854775808<=p.sym)(h1:p.sym<=9223372036854775807):
 Calls prog 367 #[p.val] w fun e w'=>e= .returned (.tuple #[(Eu p).val, .int .i64 (EU p)])/\Below w w w':=by
 obtain⟨a,b,c,e,ht,he,HJ⟩:=Zr p;rw[ht,he,Tk.val_mk];clear ht he;obtain⟨sym,len,dist,far⟩:=p;simp only at h0 h1 HJ;rw[Pc.val_mk];go_enter func367,ntmps367;go_wp2_with(go_at_call 375;refine(l8 _ _ _ nB nB).mono ?_;rintro e w' ⟨rfl,rfl⟩)
 all_goals first
  |(refine Df (v:= .tuple #[.agg #[.int .u8 a, .int .i64 b, .int .i64 c], .int .i64 e]) ?_ rfl ⟨rfl,?_⟩
    ·have HK:=HJ.out;go_light;simp[results,results367,go_sem];omega
    ·(repeat (with_reducible first|exact Ak _ _|assumption|refine Aw ?_ |refine below_drewN ?_ _|refine oZ ?_ |refine cZ ?_ |refine dZ jf ?_ |refine belA ?_ |refine pZ jf ?_)))
  |skip
 have f1:0<=len/\len<pw (sym-257):=jf
 have f2:0<=far/\far<pw dist:=jf
 go_region;all_goals go_wp2
 all_goals
  refine Df (v:= .tuple #[.agg #[.int .u8 a,b,c],e]) ?_ rfl ⟨rfl,?_⟩
  ·have HK:=HJ.out;go_light;obtain⟨p1,i⟩:=O3 (sym-257) nB;obtain⟨p2,h⟩:=O3 dist nB;simp only[p1,p2];rw[JH (2+pw (sym-257)) ⟨nB,nB⟩,JH (2+pw (sym-257)+len) ⟨nB,nB⟩,JH (pw dist+far) ⟨nB,nB⟩];simp[results,results367,go_sem];omega
  ·(repeat (with_reducible first|exact Ak _ _|assumption|refine Aw ?_ |refine below_drewN ?_ _|refine oZ ?_ |refine cZ ?_ |refine dZ jf ?_ |refine belA ?_ |refine pZ jf ?_))
end Toks
end Go.Proofs.YtfgdoknipbpfhaaGreatDoor
