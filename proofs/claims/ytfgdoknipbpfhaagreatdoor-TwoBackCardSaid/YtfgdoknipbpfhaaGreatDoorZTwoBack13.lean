/- The walks of package -/
import Derived.Test.YtfgdoknipbpfhaaGreatDoorZTwoBack12
import Derived.Deep.RegionWith
import Derived.Laws.MakeOwn
namespace Go.Proofs.YtfgdoknipbpfhaaGreatDoor
open Go.Proofs.Tryz
open Go.Lib (hid)
set_option maxHeartbeats 400000
open Go.RowKit
theorem rH:(prog.info? 149).map (fun i=>(i.zero,i.size,i.bytes))=some (some (.int .u32 0),1,4):=my
def u32s(n:Nat):Array Value:=madeCells #[.int .u32 0] n
theorem VU(n:Nat)(hn:n<=65536)(w:World):(Instr.makeSlice 266 (.int .i64 (n:Int)) (.int .i64 (n:Int))).run prog w=
 .ok (.slice (some ⟨w,0,none⟩) n n) (w.alloc (.cells (u32s n) 149)):=by
 obtain⟨i0,hi,y,j,i⟩:=info_parts rH;have h:=run_make (P:=prog) w 266 149 i0 (.int .u32 0) underlying266 hi y .i64 .i64 (n:Int) (n:Int) nj (Int.le_refl _) ri nj;simp only[Int.toNat_natCast]at h;simpa[j,Value.cells,u32s]using h
theorem Ud(n:Nat):u32s n=ints .u32 (List.replicate n 0):=by
 unfold u32s ints madeCells;apply Array.ext';apply List.ext_getElem
 ·simp
 ·intro i h1 h2;simp[Nat.mod_one]
theorem MN{l:List Int}{i:Nat}{x:Int}(h:x=l.getD i 0):Ak9 l i=l.set i (x+1):=qy
def Ac3:Tk:=⟨0,0,0⟩
def Hy(ts:List Tk):Nat->Nat->Value:=fun i j=>match j with
 |0=> .int .u8 (ts.getD i Ac3).lit
 |1=> .int .i64 (ts.getD i Ac3).len
 |_=> .int .i64 (ts.getD i Ac3).dist
def Aa3(ts:List Tk)(w:World)(e:Ending)(w':World):Prop:=
 Below w w w'/\
 ((Eg ts=true/\∃gs gf:Nat,e= .returned (.tuple #[.slice (some ⟨gs,0,none⟩) 265 265, .slice (some ⟨gf,0,none⟩) 12 12,ij])/\
    Blk w' gs 149 (ints .u32 (Aa9 ts))/\Blk w' gf 149 (ints .u32 (Nt ts))/\w.heap.size<=gs/\w.heap.size<=gf)∨
  (Eg ts=false/\e= .returned (.tuple #[(),(), .int .i64 7])))
theorem a3p{p:Prop}(h:p:=by rw[ints_set]at this;show Blk _ gs _ (ints .u32 (Ak9 ls S));rw[MN HX.out];exact this):p:=h
set_option maxRecDepth 100000 in
theorem PY(w:World)(A:Option Addr)(n c:Nat)(ts:List Tk)(hn:ts.length=n)(hb:n<=32768)(Z:∀t∈ts,0<=t.lit/\t.lit<=255)
 (U:Row w w A n 3 (Hy ts)):
 Calls prog 224 #[.slice A n c] w (Aa3 ts w):=by
 have m1:=fun w=>VU 265 nj w;have m2:=fun w=>VU 12 nj w;simp only[show((265:Nat):Int)=265 from rfl]at m1;simp only[show((12:Nat):Int)=12 from rfl]at m2;go_enter func224,ntmps224;go_upto_region 1 with fail
 go_cut [5,6] (fun s5 s6 wx=>∃gs gf:Nat,s5= .slice (some ⟨gs,0,none⟩) 265 265/\s6= .slice (some ⟨gf,0,none⟩) 12 12/\
  Blk wx gs 149 (u32s 265)/\Blk wx gf 149 (u32s 12)/\gs≠gf/\w.heap.size<=gs/\w.heap.size<=gf/\Below w w wx)
 case first=>
  go_region;all_goals go_wp2_with fail
  ·go_meet;exact⟨_,_,rfl,rfl,((Blk.made _ _ _).alloc _).drew,(Blk.made_at _ _ _ rX).drew,rX,rX,rX,sT⟩
  ·go_meet;exact⟨_,_,rfl,rfl,(Blk.made_at _ _ _ rX).drew,((Blk.made _ _ _).alloc _).drew,rX,rX,rX,sT⟩
 case rest=>
  obtain⟨gs,gf,rfl,rfl,bs,bf,aj,a9,bb,ak⟩:=hcut;go_wp2_with fail
  go_loopw [15] (fun i wr=>∃k:Nat,k<=n/\i= .int .i64 k/\Blk wr gs 149 (ints .u32 (Ej (ts.take k)).1)/\Blk wr gf 149 (ints .u32 (Ej (ts.take k)).2)/\
   Eg (ts.take k)=true/\Below w w wr)
   (fun i _=>n-(intOf i).toNat)
  case atStart=>exact⟨0,nj,rfl,by rw[Ud]at bs;exact bs,by rw[Ud]at bf;exact bf,rfl,ak⟩
  case round=>
   obtain⟨k,hk,rfl,rs,rf,a6,Q⟩:=hrel;have ax:=hid a6;clear a6 m1 m2 bs bf ak;by_cases av:k<n
   ·have ah:k<ts.length:=nj;have Y:ts[k]∈ts:=FM ah;obtain⟨b,au,rfl,an,z⟩:=U nj;have j:=fun w=>Qc ts[k] w (Z _ Y).1 (Z _ Y).2;have e0:=z k 0 av nj;have e1:=z k 1 av nj;have e2:=z k 2 av nj;simp only[Hy,List.getD_eq_getElem?_getD,List.getElem?_eq_getElem ah,Option.getD_some,Nat.add_zero,<-Nat.add_assoc]at e0 e1 e2;have c0:=(Q.cell (p:=⟨b,au+k*3,none⟩) an).trans e0;have c1:=(Q.cell (p:=⟨b,au+k*3+1,none⟩) an).trans e1;have c2:=(Q.cell (p:=⟨b,au+k*3+2,none⟩) an).trans e2;clear e0 e1 e2 z;have aw:=qN ts k ah;have J:=Mj (ts.take k);have N:=La (ts.take k);have af:Eg (ts.take (k+1))=(Eg (ts.take k)&&Bb ts[k].lit ts[k].len ts[k].dist):=(by unfold Eg;rw[List.take_succ_eq_append_getElem ah,List.all_append];simp);have ac:Bb ts[k].lit ts[k].len ts[k].dist=false->Eg ts=false:=(by intro h;unfold Eg;rw[List.all_eq_false];exact⟨ts[k],Y,sw⟩);rw[ax.out,Bool.true_and]at af;have aq:(ts.take k).length=k:=sj;rw[aq]at J;have E:=Z _ Y;generalize ay:Ej (ts.take k)=cn at *;obtain⟨ls,lf⟩:=cn;generalize ts[k]=t at *;simp only at rs rf J N;have bg:=Q.size;have bd:=rs.lt;have bc:=rf.lt;cases hm:Bb t.lit t.len t.dist
    ·have HA:=hid (ac hm);obtain⟨a3,a0⟩:=V6 hm;rw[a3,a0]at j;have HS:=hid j;clear j aw af ac J N a3 a0 hm aq ay Y U hn E;obtain⟨t1,t2,t3⟩:=t;simp only[Pc.val_mk,Tk.val_mk]at HS c0 c1 c2;go_wp2_with fail;refine(HS.out _).mono ?_;rintro e w2 ⟨rfl,M⟩;go_wp2_with fail
     go_ret3
     refine⟨?_, .inr ⟨HA.out,rfl⟩⟩
     (repeat (with_reducible first|exact Ae _ _|assumption|refine Am ?_ |refine below_drewN ?_ _|refine mZ ?_ |refine aZ ?_ |refine cZ im ?_ |refine belA ?_ |refine nZ im ?_))
    ·obtain⟨S,D,L,F,al,hS,hD,ag,ai,az⟩:=Ni t E.1 E.2 hm;rw[al,az]at j;have HS:=hid j;rw[hm]at af;have a1:=hid af;have aa:Ej (ts.take (k+1))=(Ak9 ls S,if t.len=0 then lf else Ak9 lf D):=(by rw[aw];simp only[CV,al,Int.toNat_natCast]);have ae:=hid aa;have a5:=J.1 S;have a4:=J.2 D;obtain⟨x,hx⟩:=ii (ls.getD S 0);obtain⟨y,hy⟩:=ii (lf.getD D 0);rw[<-hx]at a5;rw[<-hy]at a4;have HX:=hid hx;have HY:=hid hy;have ar:=hid N;clear j aw af ac hm aq ay Y U hn E al az aa hx hy J N;obtain⟨t1,t2,t3⟩:=t;simp only[Pc.val_mk,Tk.val_mk]at HS c0 c1 c2 ag ai ae;by_cases hl:t2=0
     ·have a7:=ag hl;clear ag ai;subst hl;go_wp2_with fail;refine(HS.out _).mono ?_;rintro e w2 ⟨rfl,M⟩;have z2:=M.size;simp at z2;have G:Blk w2 gs 149 (ints .u32 ls):=(rs.alloc _).step M;have ab:Blk w2 gf 149 (ints .u32 lf):=(rf.alloc _).step M;have cs:=G.cell S;rw[LV _ _ _ (by rw[ar.out.1];exact hS),<-HX.out]at cs;have fs:=G.frozen S;have a8:=G.lt;have ba:=ab.lt;go_wp2_with fail;go_roundw
      case rel=>
       go_light;refine⟨k+1,nj,jr,?_,?_,a1.out,?_⟩
       ·rw[ae.out];have:=(G.set S (.int .u32 (x+1))).alloc (.cells #[.int .i64 ↑S,L, .int .i64 ↑D,F] 276);exact a3p
       ·rw[ae.out];exact((ab.far (p:=⟨gs,S,none⟩) (Ba aj) _).alloc _)
       ·(repeat (with_reducible first|exact Ae _ _|assumption|refine Am ?_ |refine below_drewN ?_ _|refine mZ ?_ |refine aZ ?_ |refine cZ im ?_ |refine belA ?_ |refine nZ im ?_))
      case measure=>exact jq
     ·obtain⟨a7,be⟩:=ai hl;clear ag ai;go_wp2_with fail;refine(HS.out _).mono ?_;rintro e w2 ⟨rfl,M⟩;have z2:=M.size;simp at z2;have G:Blk w2 gs 149 (ints .u32 ls):=(rs.alloc _).step M;have ab:Blk w2 gf 149 (ints .u32 lf):=(rf.alloc _).step M;have cs:=G.cell S;rw[LV _ _ _ (by rw[ar.out.1];exact hS),<-HX.out]at cs;have fs:=G.frozen S;have am:=ab.far (p:=⟨gs,S,none⟩) (Ba aj) (.int .u32 (x+1));have cf:=am.cell D;rw[LV _ _ _ (by rw[ar.out.2];exact hD),<-HY.out]at cf;have ff:=am.frozen D;have a8:=G.lt;have ba:=ab.lt;go_wp2_with fail;go_roundw
      case rel=>
       go_light;refine⟨k+1,nj,jr,?_,?_,a1.out,?_⟩
       ·rw[ae.out,Aa hl];have:=((G.set S (.int .u32 (x+1))).far (p:=⟨gf,D,none⟩) aj (.int .u32 (y+1))).alloc (.cells #[.int .i64 ↑S,L, .int .i64 ↑D,F] 276);exact a3p
       ·rw[ae.out,Aa hl];have:=(am.set D (.int .u32 (y+1))).alloc (.cells #[.int .i64 ↑S,L, .int .i64 ↑D,F] 276);rw[ints_set]at this;show Blk _ gf _ (ints .u32 (Ak9 lf D));rw[MN HY.out];exact this
       ·(repeat (with_reducible first|exact Ae _ _|assumption|refine Am ?_ |refine below_drewN ?_ _|refine mZ ?_ |refine aZ ?_ |refine cZ im ?_ |refine belA ?_ |refine nZ im ?_))
      case measure=>exact jq
   ·obtain rfl:k=n:=by omega
    rw[Cf nj]at rs rf ax;have J:=(Mj ts).1 256;have N:=La ts;obtain⟨x,hx⟩:=ii ((Ej ts).1.getD 256 0);rw[<-hx,hn]at J;have cs:=rs.cell 256;rw[LV _ _ _ (by rw[N.1];omega),<-hx]at cs;have fs:=rs.frozen 256;have HX:=hid hx;clear hx N hn U;go_wp2_with fail
    go_ret3
    go_light;refine⟨sT, .inl ⟨ax.out,gs,gf,rfl,?_,?_,a9,bb⟩⟩
    ·have:=rs.set 256 (.int .u32 (x+1));rw[ints_set]at this;unfold Aa9;rw[MN HX.out];exact this
    ·exact rf.far (p:=⟨gs,256,none⟩) (Ba aj) _
def En(ts:List Tk):List Value:=ts.flatMap fun t=> [.int .u8 t.lit, .int .i64 t.len, .int .i64 t.dist]
theorem LF(ts:List Tk)(t:Tk):En (ts++ [t])=En ts++ [.int .u8 t.lit, .int .i64 t.len, .int .i64 t.dist]:=by simp[En]
theorem Od:(prog.info? 280).map (fun i=>(i.zero,i.size,i.bytes))=some (some (.agg #[.int .u8 0,ij,ij]),3,24):=my
def Ac2:Tk:=⟨0,0,0⟩
def tkF(ts:List Tk):Nat->Nat->Value:=fun i j=>match j with
 |0=> .int .u8 (ts.getD i Ac2).lit
 |1=> .int .i64 (ts.getD i Ac2).len
 |_=> .int .i64 (ts.getD i Ac2).dist
theorem Nl:∀ (ts:List Tk) (i j:Nat),i<ts.length->j<3->(En ts)[i*3+j]? =some (tkF ts i j)
 | [],i,j,h,_=>rY
 |t :: ts,0,j,_,hj=>by
  obtain rfl|rfl|rfl:j=0∨j=1∨j=2:=nj
  all_goals rfl
 |t :: ts,i+1,j,h,hj=>by have:=Nl ts i j sH hj;show(_ :: _ :: _ :: En ts)[(i+1)*3+j]? =_;rw[show(i+1)*3+j=(i*3+j)+1+1+1 by omega,List.getElem?_cons_succ,List.getElem?_cons_succ,List.getElem?_cons_succ,this];rfl
theorem fU(ts:List Tk)(i j:Nat):tkF ts i j=Hy ts i j:=by
 match j with
 |0=>rfl
 |1=>rfl
 |_+2=>rfl
theorem Nc{w:World}{base c:Nat}{A:Option Addr}{ts:List Tk}(h:w.ownsRow base 280 3 (.slice A ts.length c) ts.length (En ts)):Row w w A ts.length 3 (Hy ts):=
 Row.of_own h rfl fun i j hi hj=>by rw[<-fU ts i j];exact Nl ts i j hi hj
theorem qI(sym:Int)(h0:0<=sym)(h1:sym<256):Es ⟨sym,0,0,0⟩=⟨sym,0,0⟩/\EU ⟨sym,0,0,0⟩=0:=by
 have hl:G2 ⟨sym,0,0,0⟩=true:=by simp[G2];omega
 unfold Es EU;rw[Ab hl,Ab hl];exact⟨rfl,rfl⟩
theorem TR(p:Pc)(a1:257<=p.sym)(a2:p.sym<265)(a3:0<=p.dist)(a4:p.dist<12)(a5:0<=p.len/\p.len<pw (p.sym-257))(a6:0<=p.far/\p.far<pw p.dist):
 Es p=⟨0,2+pw (p.sym-257)+p.len,pw p.dist+p.far⟩/\EU p=0:=by
 have hl:G2 p=false:=by simp[G2];omega
 have hm:Jh p=true:=by simp only[Jh,decide_eq_true_eq];omega
 unfold Es EU;simp[hl,hm]
theorem eR(p:Pc)(h:¬(0<=p.sym/\p.sym<256/\p.len=0/\p.dist=0/\p.far=0))
 (h':¬(257<=p.sym/\p.sym<265/\0<=p.dist/\p.dist<12/\0<=p.len/\p.len<pw (p.sym-257)/\0<=p.far/\p.far<pw p.dist)):Es p=⟨0,0,0⟩/\EU p=7:=by
 have hl:G2 p=false:=by unfold G2;simpa using h
 have hm:Jh p=false:=by unfold Jh;simpa using h'
 unfold Es EU;simp[hl,hm]
theorem ZO(p:Pc):∃a b c e,Es p=⟨a,b,c⟩/\EU p=e/\
 Hid (((0<=p.sym/\p.sym<256/\p.len=0/\p.dist=0/\p.far=0)->a=p.sym/\b=0/\c=0/\e=0)/\
  ((257<=p.sym/\p.sym<265/\0<=p.dist/\p.dist<12/\0<=p.len/\p.len<pw (p.sym-257)/\0<=p.far/\p.far<pw p.dist)->
    a=0/\b=2+pw (p.sym-257)+p.len/\c=pw p.dist+p.far/\e=0)/\
  (¬(0<=p.sym/\p.sym<256/\p.len=0/\p.dist=0/\p.far=0)->
   ¬(257<=p.sym/\p.sym<265/\0<=p.dist/\p.dist<12/\0<=p.len/\p.len<pw (p.sym-257)/\0<=p.far/\p.far<pw p.dist)->
    a=0/\b=0/\c=0/\e=7)):=by
 refine⟨(Es p).lit,(Es p).len,(Es p).dist,EU p,rfl,rfl,?_⟩;refine⟨fun h=> ?_,fun h=> ?_,fun h h'=> ?_⟩
 ·obtain⟨sym,len,dist,far⟩:=p;obtain⟨h1,h2,rfl,rfl,rfl⟩:=h;obtain⟨e1,e2⟩:=qI sym h1 h2;rw[e1,e2];exact⟨rfl,rfl,rfl,rfl⟩
 ·obtain⟨e1,e2⟩:=TR p h.1 h.2.1 h.2.2.1 h.2.2.2.1 ⟨h.2.2.2.2.1,h.2.2.2.2.2.1⟩ ⟨h.2.2.2.2.2.2.1,h.2.2.2.2.2.2.2⟩;rw[e1,e2];exact⟨rfl,rfl,rfl,rfl⟩
 ·obtain⟨e1,e2⟩:=eR p h h';rw[e1,e2];exact⟨rfl,rfl,rfl,rfl⟩
theorem aL(p:Pc)(w:World)(h0: -9223372036854775808<=p.sym)(h1:p.sym<=9223372036854775807):
 Calls prog 367 #[p.val] w fun e w'=>e= .returned (.tuple #[(Es p).val, .int .i64 (EU p)])/\Below w w w':=by
 obtain⟨a,b,c,e,ht,he,HJ⟩:=ZO p;rw[ht,he,Tk.val_mk];clear ht he;obtain⟨sym,len,dist,far⟩:=p;simp only at h0 h1 HJ;rw[Pc.val_mk];go_enter func367,ntmps367;go_wp2_with(go_at_call 375;refine(d6 _ _ _ nj nj).mono ?_;rintro e w' ⟨rfl,rfl⟩)
 all_goals first
  |(refine Bx (v:= .tuple #[.agg #[.int .u8 a, .int .i64 b, .int .i64 c], .int .i64 e]) ?_ rfl ⟨rfl,?_⟩
    ·have HK:=HJ.out;go_light;simp[results,results367,go_sem];omega
    ·(repeat (with_reducible first|exact Ae _ _|assumption|refine Am ?_ |refine below_drewN ?_ _|refine mZ ?_ |refine aZ ?_ |refine cZ im ?_ |refine belA ?_ |refine nZ im ?_)))
  |skip
 have f1:0<=len/\len<pw (sym-257):=im
 have f2:0<=far/\far<pw dist:=im
 go_region;all_goals go_wp2
 all_goals
  refine Bx (v:= .tuple #[.agg #[.int .u8 a,b,c],e]) ?_ rfl ⟨rfl,?_⟩
  ·have HK:=HJ.out;go_light;obtain⟨p1,h⟩:=MU (sym-257) nj;obtain⟨p2,i⟩:=MU dist nj;simp only[p1,p2];rw[JD (2+pw (sym-257)) ⟨nj,nj⟩,JD (2+pw (sym-257)+len) ⟨nj,nj⟩,JD (pw dist+far) ⟨nj,nj⟩];simp[results,results367,go_sem];omega
  ·(repeat (with_reducible first|exact Ae _ _|assumption|refine Am ?_ |refine below_drewN ?_ _|refine mZ ?_ |refine aZ ?_ |refine cZ im ?_ |refine belA ?_ |refine nZ im ?_))
end Go.Proofs.YtfgdoknipbpfhaaGreatDoor
