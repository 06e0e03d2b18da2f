/- The walks of package -/
import Derived.Test.YtfgdoknipbpfhaaGreatDoorZBodyBlocks12
import Derived.Deep.RegionWith
import Derived.Laws.MakeOwn
namespace Go.Proofs.YtfgdoknipbpfhaaGreatDoor
open Go.Proofs.Tryz
open Go.Lib (hid)
set_option maxHeartbeats 400000
namespace Toks
open Go.RowKit Mem
theorem iB:(prog.info? 149).map (fun i=>(i.zero,i.size,i.bytes))=some (some (.int .u32 0),1,4):=mr
def u32s(n:Nat):Array Value:=madeCells #[.int .u32 0] n
theorem Rm(n:Nat)(hn:n<=65536)(w:World):(Instr.makeSlice 266 (.int .i64 (n:Int)) (.int .i64 (n:Int))).run prog w=
 .ok (.slice (some ⟨w,0,none⟩) n n) (w.alloc (.cells (u32s n) 149)):=by
 obtain⟨i0,hi,y,j,i⟩:=info_parts iB;have h:=run_make (P:=prog) w 266 149 i0 (.int .u32 0) underlying266 hi y .i64 .i64 (n:Int) (n:Int) mw (Int.le_refl _) nS mw;simp only[Int.toNat_natCast]at h;simpa[j,Value.cells,u32s]using h
theorem RK(n:Nat):u32s n=ints .u32 (List.replicate n 0):=by
 unfold u32s ints madeCells;apply Array.ext';apply List.ext_getElem
 ·simp
 ·intro i h1 h2;simp[Nat.mod_one]
theorem L3{l:List Int}{i:Nat}{x:Int}(h:x=l.getD i 0):bump l i=l.set i (x+1):=nO
def tkd:Tk:=⟨0,0,0⟩
def GL(ts:List Tk):Nat->Nat->Value:=fun i j=>match j with
 |0=> .int .u8 (ts.getD i tkd).lit
 |1=> .int .i64 (ts.getD i tkd).len
 |_=> .int .i64 (ts.getD i tkd).dist
def CountPost(ts:List Tk)(w:World)(e:Ending)(w':World):Prop:=
 Below w w w'/\
 ((Dc ts=true/\∃gs gf:Nat,e= .returned (.tuple #[.slice (some ⟨gs,0,none⟩) 265 265, .slice (some ⟨gf,0,none⟩) 12 12,ij])/\
    Blk w' gs 149 (ints .u32 (symsOf ts))/\Blk w' gf 149 (ints .u32 (MG ts))/\w.heap.size<=gs/\w.heap.size<=gf)∨
  (Dc ts=false/\e= .returned (.tuple #[(),(), .int .i64 7])))
set_option maxRecDepth 100000 in
theorem N3(w:World)(A:Option Addr)(n c:Nat)(ts:List Tk)(hn:ts.length=n)(hb:n<=32768)(Z:∀t∈ts,0<=t.lit/\t.lit<=255)
 (U:Row w w A n 3 (GL ts)):
 Calls prog 224 #[.slice A n c] w (CountPost ts w):=by
 have m1:=fun w=>Rm 265 mw w;have m2:=fun w=>Rm 12 mw w;simp only[show((265:Nat):Int)=265 from rfl]at m1;simp only[show((12:Nat):Int)=12 from rfl]at m2;go_enter func224,ntmps224;go_upto_region 1 with fail
 go_cut [5,6] (fun s5 s6 wx=>∃gs gf:Nat,s5= .slice (some ⟨gs,0,none⟩) 265 265/\s6= .slice (some ⟨gf,0,none⟩) 12 12/\
  Blk wx gs 149 (u32s 265)/\Blk wx gf 149 (u32s 12)/\gs≠gf/\w.heap.size<=gs/\w.heap.size<=gf/\Below w w wx)
 case first=>
  go_region;all_goals go_wp2_with fail
  ·go_meet;exact⟨_,_,rfl,rfl,((Blk.made _ _ _).alloc _).drew,(Blk.made_at _ _ _ oK).drew,oK,oK,oK,pn⟩
  ·go_meet;exact⟨_,_,rfl,rfl,(Blk.made_at _ _ _ oK).drew,((Blk.made _ _ _).alloc _).drew,oK,oK,oK,pn⟩
 case rest=>
  obtain⟨gs,gf,rfl,rfl,bs,bf,ai,bd,bb,ak⟩:=hcut;go_wp2_with fail
  go_loopw [15] (fun i wr=>∃k:Nat,k<=n/\i= .int .i64 k/\Blk wr gs 149 (ints .u32 (C7 (ts.take k)).1)/\Blk wr gf 149 (ints .u32 (C7 (ts.take k)).2)/\
   Dc (ts.take k)=true/\Below w w wr)
   (fun i _=>n-(intOf i).toNat)
  case atStart=>exact⟨0,mw,rfl,by rw[RK]at bs;exact bs,by rw[RK]at bf;exact bf,rfl,ak⟩
  case round=>
   obtain⟨k,hk,rfl,rs,rf,ay,Q⟩:=hrel;have au:=hid ay;clear ay m1 m2 bs bf ak;by_cases an:k<n
   ·have ag:k<ts.length:=mw;have Y:ts[k]∈ts:=Fe ag;obtain⟨b,aw,rfl,av,z⟩:=U mw;have j:=fun w=>N9 ts[k] w (Z _ Y).1 (Z _ Y).2;have e0:=z k 0 an mw;have e1:=z k 1 an mw;have e2:=z k 2 an mw;simp only[GL,List.getD_eq_getElem?_getD,List.getElem?_eq_getElem ag,Option.getD_some,Nat.add_zero,<-Nat.add_assoc]at e0 e1 e2;have c0:=(Q.cell (p:=⟨b,aw+k*3,none⟩) av).trans e0;have c1:=(Q.cell (p:=⟨b,aw+k*3+1,none⟩) av).trans e1;have c2:=(Q.cell (p:=⟨b,aw+k*3+2,none⟩) av).trans e2;clear e0 e1 e2 z;have am:=XF ts k ag;have M:=MF (ts.take k);have N:=Kv (ts.take k);have af:Dc (ts.take (k+1))=(Dc (ts.take k)&&AW ts[k].lit ts[k].len ts[k].dist):=(by unfold Dc;rw[List.take_succ_eq_append_getElem ag,List.all_append];simp);have ae:AW ts[k].lit ts[k].len ts[k].dist=false->Dc ts=false:=(by intro h;unfold Dc;rw[List.all_eq_false];exact⟨ts[k],Y,oY⟩);rw[au.out,Bool.true_and]at af;have ar:(ts.take k).length=k:=oT;rw[ar]at M;have E:=Z _ Y;generalize a1:C7 (ts.take k)=cn at *;obtain⟨ls,lf⟩:=cn;generalize ts[k]=t at *;simp only at rs rf M N;have bi:=Q.size;have be:=rs.lt;have bg:=rf.lt;cases hm:AW t.lit t.len t.dist
    ·have HA:=hid (ae hm);obtain⟨a6,a4⟩:=Rz hm;rw[a6,a4]at j;have HS:=hid j;clear j am af ae M N a6 a4 hm ar a1 Y U hn E;obtain⟨t1,t2,t3⟩:=t;simp only[Pc.val_mk,Tk.val_mk]at HS c0 c1 c2;go_wp2_with fail;refine(HS.out _).mono ?_;rintro e w2 ⟨rfl,J⟩;go_wp2_with fail
     go_ret3
     refine⟨?_, .inr ⟨HA.out,rfl⟩⟩
     (repeat (with_reducible first|exact Ag _ _|assumption|refine Ar ?_ |refine below_drewN ?_ _|refine sZ ?_ |refine aZ ?_ |refine dZ im ?_ |refine belA ?_ |refine tZ im ?_))
    ·obtain⟨S,D,L,F,al,hS,hD,ah,aj,az⟩:=Mm t E.1 E.2 hm;rw[al,az]at j;have HS:=hid j;rw[hm]at af;have a3:=hid af;have ab:C7 (ts.take (k+1))=(bump ls S,if t.len=0 then lf else bump lf D):=(by rw[am];simp only[CA,al,Int.toNat_natCast]);have aa:=hid ab;have a0:=M.1 S;have a5:=M.2 D;obtain⟨x,hx⟩:=ii (ls.getD S 0);obtain⟨y,hy⟩:=ii (lf.getD D 0);rw[<-hx]at a0;rw[<-hy]at a5;have HX:=hid hx;have HY:=hid hy;have aq:=hid N;clear j am af ae hm ar a1 Y U hn E al az ab hx hy M N;obtain⟨t1,t2,t3⟩:=t;simp only[Pc.val_mk,Tk.val_mk]at HS c0 c1 c2 ah aj aa;by_cases hl:t2=0
     ·have a9:=ah hl;clear ah aj;subst hl;go_wp2_with fail;refine(HS.out _).mono ?_;rintro e w2 ⟨rfl,J⟩;have z2:=J.size;simp at z2;have G:Blk w2 gs 149 (ints .u32 ls):=(rs.alloc _).step J;have ac:Blk w2 gf 149 (ints .u32 lf):=(rf.alloc _).step J;have cs:=G.cell S;rw[KJ _ _ _ (by rw[aq.out.1];exact hS),<-HX.out]at cs;have fs:=G.frozen S;have ba:=G.lt;have bc:=ac.lt;go_wp2_with fail;go_roundw
      case rel=>
       go_light;refine⟨k+1,mw,jp,?_,?_,a3.out,?_⟩
       ·rw[aa.out];have:=(G.set S (.int .u32 (x+1))).alloc (.cells #[.int .i64 ↑S,L, .int .i64 ↑D,F] 276);rw[ints_set]at this;show Blk _ gs _ (ints .u32 (bump ls S));rw[L3 HX.out];exact this
       ·rw[aa.out];exact((ac.far (p:=⟨gs,S,none⟩) (AU ai) _).alloc _)
       ·(repeat (with_reducible first|exact Ag _ _|assumption|refine Ar ?_ |refine below_drewN ?_ _|refine sZ ?_ |refine aZ ?_ |refine dZ im ?_ |refine belA ?_ |refine tZ im ?_))
      case measure=>exact jo
     ·obtain⟨a9,bh⟩:=aj hl;clear ah aj;go_wp2_with fail;refine(HS.out _).mono ?_;rintro e w2 ⟨rfl,J⟩;have z2:=J.size;simp at z2;have G:Blk w2 gs 149 (ints .u32 ls):=(rs.alloc _).step J;have ac:Blk w2 gf 149 (ints .u32 lf):=(rf.alloc _).step J;have cs:=G.cell S;rw[KJ _ _ _ (by rw[aq.out.1];exact hS),<-HX.out]at cs;have fs:=G.frozen S;have ax:=ac.far (p:=⟨gs,S,none⟩) (AU ai) (.int .u32 (x+1));have cf:=ax.cell D;rw[KJ _ _ _ (by rw[aq.out.2];exact hD),<-HY.out]at cf;have ff:=ax.frozen D;have ba:=G.lt;have bc:=ac.lt;go_wp2_with fail;go_roundw
      case rel=>
       go_light;refine⟨k+1,mw,jp,?_,?_,a3.out,?_⟩
       ·rw[aa.out,Aa hl];have:=((G.set S (.int .u32 (x+1))).far (p:=⟨gf,D,none⟩) ai (.int .u32 (y+1))).alloc (.cells #[.int .i64 ↑S,L, .int .i64 ↑D,F] 276);rw[ints_set]at this;show Blk _ gs _ (ints .u32 (bump ls S));rw[L3 HX.out];exact this
       ·rw[aa.out,Aa hl];have:=(ax.set D (.int .u32 (y+1))).alloc (.cells #[.int .i64 ↑S,L, .int .i64 ↑D,F] 276);rw[ints_set]at this;show Blk _ gf _ (ints .u32 (bump lf D));rw[L3 HY.out];exact this
       ·(repeat (with_reducible first|exact Ag _ _|assumption|refine Ar ?_ |refine below_drewN ?_ _|refine sZ ?_ |refine aZ ?_ |refine dZ im ?_ |refine belA ?_ |refine tZ im ?_))
      case measure=>exact jo
   ·obtain rfl:k=n:=by omega
    rw[BQ mw]at rs rf au;have M:=(MF ts).1 256;have N:=Kv ts;obtain⟨x,hx⟩:=ii ((C7 ts).1.getD 256 0);rw[<-hx,hn]at M;have cs:=rs.cell 256;rw[KJ _ _ _ (by rw[N.1];omega),<-hx]at cs;have fs:=rs.frozen 256;have HX:=hid hx;clear hx N hn U;go_wp2_with fail
    go_ret3
    go_light;refine⟨pn, .inl ⟨au.out,gs,gf,rfl,?_,?_,bd,bb⟩⟩
    ·have:=rs.set 256 (.int .u32 (x+1));rw[ints_set]at this;unfold symsOf;rw[L3 HX.out];exact this
    ·exact rf.far (p:=⟨gs,256,none⟩) (AU ai) _
end Toks
namespace Huff
open Go.RowKit Mem
open Toks (Tk)
def Do(ts:List Tk):List Value:=ts.flatMap fun t=> [.int .u8 t.lit, .int .i64 t.len, .int .i64 t.dist]
theorem Kh(ts:List Tk)(t:Tk):Do (ts++ [t])=Do ts++ [.int .u8 t.lit, .int .i64 t.len, .int .i64 t.dist]:=by simp[Do]
theorem MQ:(prog.info? 280).map (fun i=>(i.zero,i.size,i.bytes))=some (some (.agg #[.int .u8 0,ij,ij]),3,24):=mr
def tkd:Tk:=⟨0,0,0⟩
def tkF(ts:List Tk):Nat->Nat->Value:=fun i j=>match j with
 |0=> .int .u8 (ts.getD i tkd).lit
 |1=> .int .i64 (ts.getD i tkd).len
 |_=> .int .i64 (ts.getD i tkd).dist
theorem LO:∀ (ts:List Tk) (i j:Nat),i<ts.length->j<3->(Do ts)[i*3+j]? =some (tkF ts i j)
 | [],i,j,h,_=>oL
 |t :: ts,0,j,_,hj=>by
  obtain rfl|rfl|rfl:j=0∨j=1∨j=2:=mw
  all_goals rfl
 |t :: ts,i+1,j,h,hj=>by have:=LO ts i j pf hj;show(_ :: _ :: _ :: Do ts)[(i+1)*3+j]? =_;rw[show(i+1)*3+j=(i*3+j)+1+1+1 by omega,List.getElem?_cons_succ,List.getElem?_cons_succ,List.getElem?_cons_succ,this];rfl
end Huff
namespace Block
open Go.RowKit Mem
open Huff (Do LO tkF)
open Toks (Tk)
theorem aK(ts:List Tk)(i j:Nat):tkF ts i j=Toks.GL ts i j:=by
 match j with
 |0=>rfl
 |1=>rfl
 |_+2=>rfl
theorem LI{w:World}{base c:Nat}{A:Option Addr}{ts:List Tk}(h:w.ownsRow base 280 3 (.slice A ts.length c) ts.length (Do ts)):Row w w A ts.length 3 (Toks.GL ts):=
 Row.of_own h rfl fun i j hi hj=>by rw[<-aK ts i j];exact LO ts i j hi hj
end Block
namespace Toks
open Go.RowKit Mem
theorem gH(sym:Int)(h0:0<=sym)(h1:sym<256):Dz ⟨sym,0,0,0⟩=⟨sym,0,0⟩/\El ⟨sym,0,0,0⟩=0:=by
 have hl:Gq ⟨sym,0,0,0⟩=true:=by simp[Gq];omega
 unfold Dz El;rw[Ab hl,Ab hl];exact⟨rfl,rfl⟩
theorem SC(p:Pc)(a1:257<=p.sym)(a2:p.sym<265)(a3:0<=p.dist)(a4:p.dist<12)(a5:0<=p.len/\p.len<pw (p.sym-257))(a6:0<=p.far/\p.far<pw p.dist):
 Dz p=⟨0,2+pw (p.sym-257)+p.len,pw p.dist+p.far⟩/\El p=0:=by
 have hl:Gq p=false:=by simp[Gq];omega
 have hm:Iv p=true:=by simp only[Iv,decide_eq_true_eq];omega
 unfold Dz El;simp[hl,hm]
theorem ZW(p:Pc)(h:¬(0<=p.sym/\p.sym<256/\p.len=0/\p.dist=0/\p.far=0))
 (h':¬(257<=p.sym/\p.sym<265/\0<=p.dist/\p.dist<12/\0<=p.len/\p.len<pw (p.sym-257)/\0<=p.far/\p.far<pw p.dist)):Dz p=⟨0,0,0⟩/\El p=7:=by
 have hl:Gq p=false:=by unfold Gq;simpa using h
 have hm:Iv p=false:=by unfold Iv;simpa using h'
 unfold Dz El;simp[hl,hm]
theorem Xs(p:Pc):∃a b c e,Dz p=⟨a,b,c⟩/\El p=e/\
 Hid (((0<=p.sym/\p.sym<256/\p.len=0/\p.dist=0/\p.far=0)->a=p.sym/\b=0/\c=0/\e=0)/\
  ((257<=p.sym/\p.sym<265/\0<=p.dist/\p.dist<12/\0<=p.len/\p.len<pw (p.sym-257)/\0<=p.far/\p.far<pw p.dist)->
    a=0/\b=2+pw (p.sym-257)+p.len/\c=pw p.dist+p.far/\e=0)/\
  (¬(0<=p.sym/\p.sym<256/\p.len=0/\p.dist=0/\p.far=0)->
   ¬(257<=p.sym/\p.sym<265/\0<=p.dist/\p.dist<12/\0<=p.len/\p.len<pw (p.sym-257)/\0<=p.far/\p.far<pw p.dist)->
    a=0/\b=0/\c=0/\e=7)):=by
 refine⟨(Dz p).lit,(Dz p).len,(Dz p).dist,El p,rfl,rfl,?_⟩;refine⟨fun h=> ?_,fun h=> ?_,fun h h'=> ?_⟩
 ·obtain⟨sym,len,dist,far⟩:=p;obtain⟨h1,h2,rfl,rfl,rfl⟩:=h;obtain⟨e1,e2⟩:=gH sym h1 h2;rw[e1,e2];exact⟨rfl,rfl,rfl,rfl⟩
 ·obtain⟨e1,e2⟩:=SC p h.1 h.2.1 h.2.2.1 h.2.2.2.1 ⟨h.2.2.2.2.1,h.2.2.2.2.2.1⟩ ⟨h.2.2.2.2.2.2.1,h.2.2.2.2.2.2.2⟩;rw[e1,e2];exact⟨rfl,rfl,rfl,rfl⟩
 ·obtain⟨e1,e2⟩:=ZW p h h';rw[e1,e2];exact⟨rfl,rfl,rfl,rfl⟩
theorem iE(p:Pc)(w:World)(h0: -9223372036854775808<=p.sym)(h1:p.sym<=9223372036854775807):
 Calls prog 367 #[p.val] w fun e w'=>e= .returned (.tuple #[(Dz p).val, .int .i64 (El p)])/\Below w w w':=by
 obtain⟨a,b,c,e,ht,he,HJ⟩:=Xs p;rw[ht,he,Tk.val_mk];clear ht he;obtain⟨sym,len,dist,far⟩:=p;simp only at h0 h1 HJ;rw[Pc.val_mk];go_enter func367,ntmps367;go_wp2_with(go_at_call 375;refine(kG _ _ _ mw mw).mono ?_;rintro e w' ⟨rfl,rfl⟩)
 all_goals first
  |(refine Cz (v:= .tuple #[.agg #[.int .u8 a, .int .i64 b, .int .i64 c], .int .i64 e]) ?_ rfl ⟨rfl,?_⟩
    ·have HK:=HJ.out;go_light;simp[results,results367,go_sem];omega
    ·(repeat (with_reducible first|exact Ag _ _|assumption|refine Ar ?_ |refine below_drewN ?_ _|refine sZ ?_ |refine aZ ?_ |refine dZ im ?_ |refine belA ?_ |refine tZ im ?_)))
  |skip
 have f1:0<=len/\len<pw (sym-257):=im
 have f2:0<=far/\far<pw dist:=im
 go_region;all_goals go_wp2
 all_goals
  refine Cz (v:= .tuple #[.agg #[.int .u8 a,b,c],e]) ?_ rfl ⟨rfl,?_⟩
  ·have HK:=HJ.out;go_light;obtain⟨p1,i⟩:=L8 (sym-257) mw;obtain⟨p2,h⟩:=L8 dist mw;simp only[p1,p2];rw[IU (2+pw (sym-257)) ⟨mw,mw⟩,IU (2+pw (sym-257)+len) ⟨mw,mw⟩,IU (pw dist+far) ⟨mw,mw⟩];simp[results,results367,go_sem];omega
  ·(repeat (with_reducible first|exact Ag _ _|assumption|refine Ar ?_ |refine below_drewN ?_ _|refine sZ ?_ |refine aZ ?_ |refine dZ im ?_ |refine belA ?_ |refine tZ im ?_))
end Toks
end Go.Proofs.YtfgdoknipbpfhaaGreatDoor
