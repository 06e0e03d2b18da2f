/- The walks of package -/
import Derived.Test.YtfgdoknipbpfhaaGreatDoorZBodyBack12
import Derived.Deep.RegionWith
import Derived.Laws.MakeOwn
namespace Go.Proofs.YtfgdoknipbpfhaaGreatDoor
open Go.Proofs.Tryz
open Go.Lib (hid)
set_option maxHeartbeats 400000
namespace Toks
open Go.RowKit Mem
theorem Xu:(prog.info? 149).map (fun i=>(i.zero,i.size,i.bytes))=some (some (.int .u32 0),1,4):=my
def u32s(n:Nat):Array Value:=madeCells #[.int .u32 0] n
theorem Up(n:Nat)(hn:n<=65536)(w:World):(Instr.makeSlice 266 (.int .i64 (n:Int)) (.int .i64 (n:Int))).run prog w=
 .ok (.slice (some ⟨w,0,none⟩) n n) (w.alloc (.cells (u32s n) 149)):=by
 obtain⟨i0,hi,y,i,j⟩:=info_parts Xu;have h:=run_make (P:=prog) w 266 149 i0 (.int .u32 0) underlying266 hi y .i64 .i64 (n:Int) (n:Int) nj (Int.le_refl _) qu nj;simp only[Int.toNat_natCast]at h;simpa[i,Value.cells,u32s]using h
theorem Sb(n:Nat):u32s n=ints .u32 (List.replicate n 0):=by
 unfold u32s ints madeCells;apply Array.ext';apply List.ext_getElem
 ·simp
 ·intro i h1 h2;simp[Nat.mod_one]
theorem NM{l:List Int}{i:Nat}{x:Int}(h:x=l.getD i 0):bump l i=l.set i (x+1):=qo
def tkd:Tk:=⟨0,0,0⟩
def G2(ts:List Tk):Nat->Nat->Value:=fun i j=>match j with
 |0=> .int .u8 (ts.getD i tkd).lit
 |1=> .int .i64 (ts.getD i tkd).len
 |_=> .int .i64 (ts.getD i tkd).dist
def CountPost(ts:List Tk)(w:World)(e:Ending)(w':World):Prop:=
 Below w w w'/\
 ((Dm ts=true/\∃gs gf:Nat,e= .returned (.tuple #[.slice (some ⟨gs,0,none⟩) 265 265, .slice (some ⟨gf,0,none⟩) 12 12,ij])/\
    Blk w' gs 149 (ints .u32 (symsOf ts))/\Blk w' gf 149 (ints .u32 (Mn ts))/\w.heap.size<=gs/\w.heap.size<=gf)∨
  (Dm ts=false/\e= .returned (.tuple #[(),(), .int .i64 7])))
set_option maxRecDepth 100000 in
theorem OD(w:World)(A:Option Addr)(n c:Nat)(ts:List Tk)(hn:ts.length=n)(hb:n<=32768)(ac:∀t∈ts,0<=t.lit/\t.lit<=255)
 (U:Row w w A n 3 (G2 ts)):
 Calls prog 224 #[.slice A n c] w (CountPost ts w):=by
 have m1:=fun w=>Up 265 nj w;have m2:=fun w=>Up 12 nj w;simp only[show((265:Nat):Int)=265 from rfl]at m1;simp only[show((12:Nat):Int)=12 from rfl]at m2;go_enter func224,ntmps224;go_upto_region 1 with fail
 go_cut [5,6] (fun s5 s6 wx=>∃gs gf:Nat,s5= .slice (some ⟨gs,0,none⟩) 265 265/\s6= .slice (some ⟨gf,0,none⟩) 12 12/\
  Blk wx gs 149 (u32s 265)/\Blk wx gf 149 (u32s 12)/\gs≠gf/\w.heap.size<=gs/\w.heap.size<=gf/\Below w w wx)
 case first=>
  go_region;all_goals go_wp2_with fail
  ·go_meet;exact⟨_,_,rfl,rfl,((Blk.made _ _ _).alloc _).drew,(Blk.made_at _ _ _ qT).drew,qT,qT,qT,rF⟩
  ·go_meet;exact⟨_,_,rfl,rfl,(Blk.made_at _ _ _ qT).drew,((Blk.made _ _ _).alloc _).drew,qT,qT,qT,rF⟩
 case rest=>
  obtain⟨gs,gf,rfl,rfl,bs,bf,ag,a9,ba,ak⟩:=hcut;go_wp2_with fail
  go_loopw [15] (fun i wr=>∃k:Nat,k<=n/\i= .int .i64 k/\Blk wr gs 149 (ints .u32 (Dp (ts.take k)).1)/\Blk wr gf 149 (ints .u32 (Dp (ts.take k)).2)/\
   Dm (ts.take k)=true/\Below w w wr)
   (fun i _=>n-(intOf i).toNat)
  case atStart=>exact⟨0,nj,rfl,by rw[Sb]at bs;exact bs,by rw[Sb]at bf;exact bf,rfl,ak⟩
  case round=>
   obtain⟨k,hk,rfl,rs,rf,a1,Q⟩:=hrel;have am:=hid a1;clear a1 m1 m2 bs bf ak;by_cases av:k<n
   ·have aj:k<ts.length:=nj;have Y:ts[k]∈ts:=FC aj;obtain⟨b,ax,rfl,aq,z⟩:=U nj;have j:=fun w=>OM ts[k] w (ac _ Y).1 (ac _ Y).2;have e0:=z k 0 av nj;have e1:=z k 1 av nj;have e2:=z k 2 av nj;simp only[G2,List.getD_eq_getElem?_getD,List.getElem?_eq_getElem aj,Option.getD_some,Nat.add_zero,<-Nat.add_assoc]at e0 e1 e2;have c0:=(Q.cell (p:=⟨b,ax+k*3,none⟩) aq).trans e0;have c1:=(Q.cell (p:=⟨b,ax+k*3+1,none⟩) aq).trans e1;have c2:=(Q.cell (p:=⟨b,ax+k*3+2,none⟩) aq).trans e2;clear e0 e1 e2 z;have al:=iL ts k aj;have J:=Nw (ts.take k);have N:=Lw (ts.take k);have ae:Dm (ts.take (k+1))=(Dm (ts.take k)&&Bb ts[k].lit ts[k].len ts[k].dist):=(by unfold Dm;rw[List.take_succ_eq_append_getElem aj,List.all_append];simp);have Z:Bb ts[k].lit ts[k].len ts[k].dist=false->Dm ts=false:=(by intro h;unfold Dm;rw[List.all_eq_false];exact⟨ts[k],Y,rn⟩);rw[am.out,Bool.true_and]at ae;have aw:(ts.take k).length=k:=rg;rw[aw]at J;have E:=ac _ Y;generalize ay:Dp (ts.take k)=cn at *;obtain⟨ls,lf⟩:=cn;generalize ts[k]=t at *;simp only at rs rf J N;have bi:=Q.size;have bg:=rs.lt;have be:=rf.lt;cases hm:Bb t.lit t.len t.dist
    ·have HA:=hid (Z hm);obtain⟨a6,a3⟩:=UD hm;rw[a6,a3]at j;have HS:=hid j;clear j al ae Z J N a6 a3 hm aw ay Y U hn E;obtain⟨t1,t2,t3⟩:=t;simp only[Pc.val_mk,Tk.val_mk]at HS c0 c1 c2;go_wp2_with fail;refine(HS.out _).mono ?_;rintro e w2 ⟨rfl,M⟩;go_wp2_with fail
     go_ret3
     refine⟨?_, .inr ⟨HA.out,rfl⟩⟩
     (repeat (with_reducible first|exact Ae _ _|assumption|refine Aq ?_ |refine below_drewN ?_ _|refine oZ ?_ |refine aZ ?_ |refine dZ im ?_ |refine belA ?_ |refine pZ im ?_))
    ·obtain⟨S,D,L,F,an,hS,hD,ai,ah,az⟩:=L6 t E.1 E.2 hm;rw[an,az]at j;have HS:=hid j;rw[hm]at ae;have a0:=hid ae;have aa:Dp (ts.take (k+1))=(bump ls S,if t.len=0 then lf else bump lf D):=(by rw[al];simp only[CL,an,Int.toNat_natCast]);have af:=hid aa;have a4:=J.1 S;have a5:=J.2 D;obtain⟨x,hx⟩:=ii (ls.getD S 0);obtain⟨y,hy⟩:=ii (lf.getD D 0);rw[<-hx]at a4;rw[<-hy]at a5;have HX:=hid hx;have HY:=hid hy;have ar:=hid N;clear j al ae Z hm aw ay Y U hn E an az aa hx hy J N;obtain⟨t1,t2,t3⟩:=t;simp only[Pc.val_mk,Tk.val_mk]at HS c0 c1 c2 ai ah af;by_cases hl:t2=0
     ·have bc:=ai hl;clear ai ah;subst hl;go_wp2_with fail;refine(HS.out _).mono ?_;rintro e w2 ⟨rfl,M⟩;have z2:=M.size;simp at z2;have G:Blk w2 gs 149 (ints .u32 ls):=(rs.alloc _).step M;have ab:Blk w2 gf 149 (ints .u32 lf):=(rf.alloc _).step M;have cs:=G.cell S;rw[Ln _ _ _ (by rw[ar.out.1];exact hS),<-HX.out]at cs;have fs:=G.frozen S;have bb:=G.lt;have bd:=ab.lt;go_wp2_with fail;go_roundw
      case rel=>
       go_light;refine⟨k+1,nj,jr,?_,?_,a0.out,?_⟩
       ·rw[af.out];have:=(G.set S (.int .u32 (x+1))).alloc (.cells #[.int .i64 ↑S,L, .int .i64 ↑D,F] 276);rw[ints_set]at this;show Blk _ gs _ (ints .u32 (bump ls S));rw[NM HX.out];exact this
       ·rw[af.out];exact((ab.far (p:=⟨gs,S,none⟩) (AZ ag) _).alloc _)
       ·(repeat (with_reducible first|exact Ae _ _|assumption|refine Aq ?_ |refine below_drewN ?_ _|refine oZ ?_ |refine aZ ?_ |refine dZ im ?_ |refine belA ?_ |refine pZ im ?_))
      case measure=>exact jq
     ·obtain⟨bc,bh⟩:=ah hl;clear ai ah;go_wp2_with fail;refine(HS.out _).mono ?_;rintro e w2 ⟨rfl,M⟩;have z2:=M.size;simp at z2;have G:Blk w2 gs 149 (ints .u32 ls):=(rs.alloc _).step M;have ab:Blk w2 gf 149 (ints .u32 lf):=(rf.alloc _).step M;have cs:=G.cell S;rw[Ln _ _ _ (by rw[ar.out.1];exact hS),<-HX.out]at cs;have fs:=G.frozen S;have au:=ab.far (p:=⟨gs,S,none⟩) (AZ ag) (.int .u32 (x+1));have cf:=au.cell D;rw[Ln _ _ _ (by rw[ar.out.2];exact hD),<-HY.out]at cf;have ff:=au.frozen D;have bb:=G.lt;have bd:=ab.lt;go_wp2_with fail;go_roundw
      case rel=>
       go_light;refine⟨k+1,nj,jr,?_,?_,a0.out,?_⟩
       ·rw[af.out,Aa hl];have:=((G.set S (.int .u32 (x+1))).far (p:=⟨gf,D,none⟩) ag (.int .u32 (y+1))).alloc (.cells #[.int .i64 ↑S,L, .int .i64 ↑D,F] 276);rw[ints_set]at this;show Blk _ gs _ (ints .u32 (bump ls S));rw[NM HX.out];exact this
       ·rw[af.out,Aa hl];have:=(au.set D (.int .u32 (y+1))).alloc (.cells #[.int .i64 ↑S,L, .int .i64 ↑D,F] 276);rw[ints_set]at this;show Blk _ gf _ (ints .u32 (bump lf D));rw[NM HY.out];exact this
       ·(repeat (with_reducible first|exact Ae _ _|assumption|refine Aq ?_ |refine below_drewN ?_ _|refine oZ ?_ |refine aZ ?_ |refine dZ im ?_ |refine belA ?_ |refine pZ im ?_))
      case measure=>exact jq
   ·obtain rfl:k=n:=by omega
    rw[Bw nj]at rs rf am;have J:=(Nw ts).1 256;have N:=Lw ts;obtain⟨x,hx⟩:=ii ((Dp ts).1.getD 256 0);rw[<-hx,hn]at J;have cs:=rs.cell 256;rw[Ln _ _ _ (by rw[N.1];omega),<-hx]at cs;have fs:=rs.frozen 256;have HX:=hid hx;clear hx N hn U;go_wp2_with fail
    go_ret3
    go_light;refine⟨rF, .inl ⟨am.out,gs,gf,rfl,?_,?_,a9,ba⟩⟩
    ·have:=rs.set 256 (.int .u32 (x+1));rw[ints_set]at this;unfold symsOf;rw[NM HX.out];exact this
    ·exact rf.far (p:=⟨gs,256,none⟩) (AZ ag) _
end Toks
namespace Huff
open Go.RowKit Mem
open Toks (Tk)
def Dv(ts:List Tk):List Value:=ts.flatMap fun t=> [.int .u8 t.lit, .int .i64 t.len, .int .i64 t.dist]
theorem KT(ts:List Tk)(t:Tk):Dv (ts++ [t])=Dv ts++ [.int .u8 t.lit, .int .i64 t.len, .int .i64 t.dist]:=by simp[Dv]
theorem Nl:(prog.info? 280).map (fun i=>(i.zero,i.size,i.bytes))=some (some (.agg #[.int .u8 0,ij,ij]),3,24):=my
def tkd:Tk:=⟨0,0,0⟩
def tkF(ts:List Tk):Nat->Nat->Value:=fun i j=>match j with
 |0=> .int .u8 (ts.getD i tkd).lit
 |1=> .int .i64 (ts.getD i tkd).len
 |_=> .int .i64 (ts.getD i tkd).dist
theorem Mk:∀ (ts:List Tk) (i j:Nat),i<ts.length->j<3->(Dv ts)[i*3+j]? =some (tkF ts i j)
 | [],i,j,h,_=>qU
 |t :: ts,0,j,_,hj=>by
  obtain rfl|rfl|rfl:j=0∨j=1∨j=2:=nj
  all_goals rfl
 |t :: ts,i+1,j,h,hj=>by have:=Mk ts i j ru hj;show(_ :: _ :: _ :: Dv ts)[(i+1)*3+j]? =_;rw[show(i+1)*3+j=(i*3+j)+1+1+1 by omega,List.getElem?_cons_succ,List.getElem?_cons_succ,List.getElem?_cons_succ,this];rfl
end Huff
namespace Block
open Go.RowKit Mem
open Huff (Dv Mk tkF)
open Toks (Tk)
theorem nU(ts:List Tk)(i j:Nat):tkF ts i j=Toks.G2 ts i j:=by
 match j with
 |0=>rfl
 |1=>rfl
 |_+2=>rfl
theorem Mf{w:World}{base c:Nat}{A:Option Addr}{ts:List Tk}(h:w.ownsRow base 280 3 (.slice A ts.length c) ts.length (Dv ts)):Row w w A ts.length 3 (Toks.G2 ts):=
 Row.of_own h rfl fun i j hi hj=>by rw[<-nU ts i j];exact Mk ts i j hi hj
end Block
namespace Toks
open Go.RowKit Mem
theorem W8(sym:Int)(h0:0<=sym)(h1:sym<256):Du ⟨sym,0,0,0⟩=⟨sym,0,0⟩/\Et ⟨sym,0,0,0⟩=0:=by
 have hl:GP ⟨sym,0,0,0⟩=true:=by simp[GP];omega
 unfold Du Et;rw[Ab hl,Ab hl];exact⟨rfl,rfl⟩
theorem WF(p:Pc)(a1:257<=p.sym)(a2:p.sym<265)(a3:0<=p.dist)(a4:p.dist<12)(a5:0<=p.len/\p.len<pw (p.sym-257))(a6:0<=p.far/\p.far<pw p.dist):
 Du p=⟨0,2+pw (p.sym-257)+p.len,pw p.dist+p.far⟩/\Et p=0:=by
 have hl:GP p=false:=by simp[GP];omega
 have hm:IN p=true:=by simp only[IN,decide_eq_true_eq];omega
 unfold Du Et;simp[hl,hm]
theorem mV(p:Pc)(h:¬(0<=p.sym/\p.sym<256/\p.len=0/\p.dist=0/\p.far=0))
 (h':¬(257<=p.sym/\p.sym<265/\0<=p.dist/\p.dist<12/\0<=p.len/\p.len<pw (p.sym-257)/\0<=p.far/\p.far<pw p.dist)):Du p=⟨0,0,0⟩/\Et p=7:=by
 have hl:GP p=false:=by unfold GP;simpa using h
 have hm:IN p=false:=by unfold IN;simpa using h'
 unfold Du Et;simp[hl,hm]
theorem iS(p:Pc):∃a b c e,Du p=⟨a,b,c⟩/\Et p=e/\
 Hid (((0<=p.sym/\p.sym<256/\p.len=0/\p.dist=0/\p.far=0)->a=p.sym/\b=0/\c=0/\e=0)/\
  ((257<=p.sym/\p.sym<265/\0<=p.dist/\p.dist<12/\0<=p.len/\p.len<pw (p.sym-257)/\0<=p.far/\p.far<pw p.dist)->
    a=0/\b=2+pw (p.sym-257)+p.len/\c=pw p.dist+p.far/\e=0)/\
  (¬(0<=p.sym/\p.sym<256/\p.len=0/\p.dist=0/\p.far=0)->
   ¬(257<=p.sym/\p.sym<265/\0<=p.dist/\p.dist<12/\0<=p.len/\p.len<pw (p.sym-257)/\0<=p.far/\p.far<pw p.dist)->
    a=0/\b=0/\c=0/\e=7)):=by
 refine⟨(Du p).lit,(Du p).len,(Du p).dist,Et p,rfl,rfl,?_⟩;refine⟨fun h=> ?_,fun h=> ?_,fun h h'=> ?_⟩
 ·obtain⟨sym,len,dist,far⟩:=p;obtain⟨h1,h2,rfl,rfl,rfl⟩:=h;obtain⟨e1,e2⟩:=W8 sym h1 h2;rw[e1,e2];exact⟨rfl,rfl,rfl,rfl⟩
 ·obtain⟨e1,e2⟩:=WF p h.1 h.2.1 h.2.2.1 h.2.2.2.1 ⟨h.2.2.2.2.1,h.2.2.2.2.2.1⟩ ⟨h.2.2.2.2.2.2.1,h.2.2.2.2.2.2.2⟩;rw[e1,e2];exact⟨rfl,rfl,rfl,rfl⟩
 ·obtain⟨e1,e2⟩:=mV p h h';rw[e1,e2];exact⟨rfl,rfl,rfl,rfl⟩
theorem YF(p:Pc)(w:World)(h0: -9223372036854775808<=p.sym)(h1:p.sym<=9223372036854775807):
 Calls prog 367 #[p.val] w fun e w'=>e= .returned (.tuple #[(Du p).val, .int .i64 (Et p)])/\Below w w w':=by
 obtain⟨a,b,c,e,ht,he,HJ⟩:=iS p;rw[ht,he,Tk.val_mk];clear ht he;obtain⟨sym,len,dist,far⟩:=p;simp only at h0 h1 HJ;rw[Pc.val_mk];go_enter func367,ntmps367;go_wp2_with(go_at_call 375;refine(ZA _ _ _ nj nj).mono ?_;rintro e w' ⟨rfl,rfl⟩)
 all_goals first
  |(refine CF (v:= .tuple #[.agg #[.int .u8 a,b,c],e]) ?_ rfl ⟨rfl,?_⟩
    ·have HK:=HJ.out;go_light;simp[results,results367,go_sem];omega
    ·(repeat (with_reducible first|exact Ae _ _|assumption|refine Aq ?_ |refine below_drewN ?_ _|refine oZ ?_ |refine aZ ?_ |refine dZ im ?_ |refine belA ?_ |refine pZ im ?_)))
  |skip
 have f1:0<=len/\len<pw (sym-257):=im
 have f2:0<=far/\far<pw dist:=im
 go_region;all_goals go_wp2
 all_goals
  refine CF (v:= .tuple #[.agg #[.int .u8 a,b,c],e]) ?_ rfl ⟨rfl,?_⟩
  ·have HK:=HJ.out;go_light;obtain⟨p1,h⟩:=NQ (sym-257) nj;obtain⟨p2,i⟩:=NQ dist nj;simp only[p1,p2];rw[Jh (2+pw (sym-257)) ⟨nj,nj⟩,Jh (2+pw (sym-257)+len) ⟨nj,nj⟩,Jh (pw dist+far) ⟨nj,nj⟩];simp[results,results367,go_sem];omega
  ·(repeat (with_reducible first|exact Ae _ _|assumption|refine Aq ?_ |refine below_drewN ?_ _|refine oZ ?_ |refine aZ ?_ |refine dZ im ?_ |refine belA ?_ |refine pZ im ?_))
end Toks
end Go.Proofs.YtfgdoknipbpfhaaGreatDoor
