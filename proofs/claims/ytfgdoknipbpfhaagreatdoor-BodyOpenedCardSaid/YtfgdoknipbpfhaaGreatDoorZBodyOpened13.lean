/- The walks of package -/
import Derived.Test.YtfgdoknipbpfhaaGreatDoorZBodyOpened12
import Derived.Deep.RegionWith
import Derived.Laws.MakeOwn
namespace Go.Proofs.YtfgdoknipbpfhaaGreatDoor
open Go.Proofs.Tryz
open Go.Lib (hid)
set_option maxHeartbeats 400000
namespace Toks
open Go.RowKit Mem
theorem k8:(prog.info? 149).map (fun i=>(i.zero,i.size,i.bytes))=some (some (.int .u32 0),1,4):=mr
def u32s(n:Nat):Array Value:=madeCells #[.int .u32 0] n
theorem UN(n:Nat)(hn:n<=65536)(w:World):(Instr.makeSlice 266 (.int .i64 (n:Int)) (.int .i64 (n:Int))).run prog w=
 .ok (.slice (some ⟨w,0,none⟩) n n) (w.alloc (.cells (u32s n) 149)):=by
 obtain⟨i0,hi,y,i,j⟩:=info_parts k8;have h:=run_make (P:=prog) w 266 149 i0 (.int .u32 0) underlying266 hi y .i64 .i64 (n:Int) (n:Int) mz (Int.le_refl _) o7 mz;simp only[Int.toNat_natCast]at h;simpa[i,Value.cells,u32s]using h
theorem T3(n:Nat):u32s n=ints .u32 (List.replicate n 0):=by
 unfold u32s ints madeCells;apply Array.ext';apply List.ext_getElem
 ·simp
 ·intro i h1 h2;simp[Nat.mod_one]
theorem LD{l:List Int}{i:Nat}{x:Int}(h:x=l.getD i 0):bump l i=l.set i (x+1):=oV
def tkd:Tk:=⟨0,0,0⟩
def GQ(ts:List Tk):Nat->Nat->Value:=fun i j=>match j with
 |0=> .int .u8 (ts.getD i tkd).lit
 |1=> .int .i64 (ts.getD i tkd).len
 |_=> .int .i64 (ts.getD i tkd).dist
def CountPost(ts:List Tk)(w:World)(e:Ending)(w':World):Prop:=
 Below w w w'/\
 ((Dk ts=true/\∃gs gf:Nat,e= .returned (.tuple #[.slice (some ⟨gs,0,none⟩) 265 265, .slice (some ⟨gf,0,none⟩) 12 12,ij])/\
    Blk w' gs 149 (ints .u32 (symsOf ts))/\Blk w' gf 149 (ints .u32 (L9 ts))/\w.heap.size<=gs/\w.heap.size<=gf)∨
  (Dk ts=false/\e= .returned (.tuple #[(),(), .int .i64 7])))
set_option maxRecDepth 100000 in
theorem NP(w:World)(A:Option Addr)(n c:Nat)(ts:List Tk)(hn:ts.length=n)(hb:n<=32768)(ac:∀t∈ts,0<=t.lit/\t.lit<=255)
 (U:Row w w A n 3 (GQ ts)):
 Calls prog 224 #[.slice A n c] w (CountPost ts w):=by
 have m1:=fun w=>UN 265 mz w;have m2:=fun w=>UN 12 mz w;simp only[show((265:Nat):Int)=265 from rfl]at m1;simp only[show((12:Nat):Int)=12 from rfl]at m2;go_enter func224,ntmps224;go_upto_region 1 with fail
 go_cut [5,6] (fun s5 s6 wx=>∃gs gf:Nat,s5= .slice (some ⟨gs,0,none⟩) 265 265/\s6= .slice (some ⟨gf,0,none⟩) 12 12/\
  Blk wx gs 149 (u32s 265)/\Blk wx gf 149 (u32s 12)/\gs≠gf/\w.heap.size<=gs/\w.heap.size<=gf/\Below w w wx)
 case first=>
  go_region;all_goals go_wp2_with fail
  ·go_meet;exact⟨_,_,rfl,rfl,((Blk.made _ _ _).alloc _).drew,(Blk.made_at _ _ _ pI).drew,pI,pI,pI,qh⟩
  ·go_meet;exact⟨_,_,rfl,rfl,(Blk.made_at _ _ _ pI).drew,((Blk.made _ _ _).alloc _).drew,pI,pI,pI,qh⟩
 case rest=>
  obtain⟨gs,gf,rfl,rfl,bs,bf,ai,bc,bd,ak⟩:=hcut;go_wp2_with fail
  go_loopw [15] (fun i wr=>∃k:Nat,k<=n/\i= .int .i64 k/\Blk wr gs 149 (ints .u32 (Dq (ts.take k)).1)/\Blk wr gf 149 (ints .u32 (Dq (ts.take k)).2)/\
   Dk (ts.take k)=true/\Below w w wr)
   (fun i _=>n-(intOf i).toNat)
  case atStart=>exact⟨0,mz,rfl,by rw[T3]at bs;exact bs,by rw[T3]at bf;exact bf,rfl,ak⟩
  case round=>
   obtain⟨k,hk,rfl,rs,rf,a1,Q⟩:=hrel;have ax:=hid a1;clear a1 m1 m2 bs bf ak;by_cases aq:k<n
   ·have ah:k<ts.length:=mz;have Y:ts[k]∈ts:=Fo ah;obtain⟨b,am,rfl,al,E⟩:=U mz;have j:=fun w=>NW ts[k] w (ac _ Y).1 (ac _ Y).2;have e0:=E k 0 aq mz;have e1:=E k 1 aq mz;have e2:=E k 2 aq mz;simp only[GQ,List.getD_eq_getElem?_getD,List.getElem?_eq_getElem ah,Option.getD_some,Nat.add_zero,<-Nat.add_assoc]at e0 e1 e2;have c0:=(Q.cell (p:=⟨b,am+k*3,none⟩) al).trans e0;have c1:=(Q.cell (p:=⟨b,am+k*3+1,none⟩) al).trans e1;have c2:=(Q.cell (p:=⟨b,am+k*3+2,none⟩) al).trans e2;clear e0 e1 e2 E;have an:=X9 ts k ah;have M:=Mn (ts.take k);have N:=Ks (ts.take k);have aa:Dk (ts.take (k+1))=(Dk (ts.take k)&&A0 ts[k].lit ts[k].len ts[k].dist):=(by unfold Dk;rw[List.take_succ_eq_append_getElem ah,List.all_append];simp);have ab:A0 ts[k].lit ts[k].len ts[k].dist=false->Dk ts=false:=(by intro h;unfold Dk;rw[List.all_eq_false];exact⟨ts[k],Y,pV⟩);rw[ax.out,Bool.true_and]at aa;have aw:(ts.take k).length=k:=pQ;rw[aw]at M;have z:=ac _ Y;generalize ay:Dq (ts.take k)=cn at *;obtain⟨ls,lf⟩:=cn;generalize ts[k]=t at *;simp only at rs rf M N;have bi:=Q.size;have bg:=rs.lt;have be:=rf.lt;cases hm:A0 t.lit t.len t.dist
    ·have HA:=hid (ab hm);obtain⟨a0,a3⟩:=UZ hm;rw[a0,a3]at j;have HS:=hid j;clear j an aa ab M N a0 a3 hm aw ay Y U hn z;obtain⟨t1,t2,t3⟩:=t;simp only[Pc.val_mk,Tk.val_mk]at HS c0 c1 c2;go_wp2_with fail;refine(HS.out _).mono ?_;rintro e w2 ⟨rfl,J⟩;go_wp2_with fail
     go_ret3
     refine⟨?_, .inr ⟨HA.out,rfl⟩⟩
     (repeat (with_reducible first|exact Ag _ _|assumption|refine Az ?_ |refine below_drewN ?_ _|refine qZ ?_ |refine aZ ?_ |refine dZ im ?_ |refine belA ?_ |refine rZ im ?_))
    ·obtain⟨S,D,L,F,av,hS,hD,aj,ag,a6⟩:=L1 t z.1 z.2 hm;rw[av,a6]at j;have HS:=hid j;rw[hm]at aa;have a5:=hid aa;have Z:Dq (ts.take (k+1))=(bump ls S,if t.len=0 then lf else bump lf D):=(by rw[an];simp only[CJ,av,Int.toNat_natCast]);have ae:=hid Z;have az:=M.1 S;have a4:=M.2 D;obtain⟨x,hx⟩:=ii (ls.getD S 0);obtain⟨y,hy⟩:=ii (lf.getD D 0);rw[<-hx]at az;rw[<-hy]at a4;have HX:=hid hx;have HY:=hid hy;have ar:=hid N;clear j an aa ab hm aw ay Y U hn z av a6 Z hx hy M N;obtain⟨t1,t2,t3⟩:=t;simp only[Pc.val_mk,Tk.val_mk]at HS c0 c1 c2 aj ag ae;by_cases hl:t2=0
     ·have ba:=aj hl;clear aj ag;subst hl;go_wp2_with fail;refine(HS.out _).mono ?_;rintro e w2 ⟨rfl,J⟩;have z2:=J.size;simp at z2;have G:Blk w2 gs 149 (ints .u32 ls):=(rs.alloc _).step J;have af:Blk w2 gf 149 (ints .u32 lf):=(rf.alloc _).step J;have cs:=G.cell S;rw[KA _ _ _ (by rw[ar.out.1];exact hS),<-HX.out]at cs;have fs:=G.frozen S;have bb:=G.lt;have a9:=af.lt;go_wp2_with fail;go_roundw
      case rel=>
       go_light;refine⟨k+1,mz,jp,?_,?_,a5.out,?_⟩
       ·rw[ae.out];have:=(G.set S (.int .u32 (x+1))).alloc (.cells #[.int .i64 ↑S,L, .int .i64 ↑D,F] 276);rw[ints_set]at this;show Blk _ gs _ (ints .u32 (bump ls S));rw[LD HX.out];exact this
       ·rw[ae.out];exact((af.far (p:=⟨gs,S,none⟩) (AZ ai) _).alloc _)
       ·(repeat (with_reducible first|exact Ag _ _|assumption|refine Az ?_ |refine below_drewN ?_ _|refine qZ ?_ |refine aZ ?_ |refine dZ im ?_ |refine belA ?_ |refine rZ im ?_))
      case measure=>exact jo
     ·obtain⟨ba,bh⟩:=ag hl;clear aj ag;go_wp2_with fail;refine(HS.out _).mono ?_;rintro e w2 ⟨rfl,J⟩;have z2:=J.size;simp at z2;have G:Blk w2 gs 149 (ints .u32 ls):=(rs.alloc _).step J;have af:Blk w2 gf 149 (ints .u32 lf):=(rf.alloc _).step J;have cs:=G.cell S;rw[KA _ _ _ (by rw[ar.out.1];exact hS),<-HX.out]at cs;have fs:=G.frozen S;have au:=af.far (p:=⟨gs,S,none⟩) (AZ ai) (.int .u32 (x+1));have cf:=au.cell D;rw[KA _ _ _ (by rw[ar.out.2];exact hD),<-HY.out]at cf;have ff:=au.frozen D;have bb:=G.lt;have a9:=af.lt;go_wp2_with fail;go_roundw
      case rel=>
       go_light;refine⟨k+1,mz,jp,?_,?_,a5.out,?_⟩
       ·rw[ae.out,Ab hl];have:=((G.set S (.int .u32 (x+1))).far (p:=⟨gf,D,none⟩) ai (.int .u32 (y+1))).alloc (.cells #[.int .i64 ↑S,L, .int .i64 ↑D,F] 276);rw[ints_set]at this;show Blk _ gs _ (ints .u32 (bump ls S));rw[LD HX.out];exact this
       ·rw[ae.out,Ab hl];have:=(au.set D (.int .u32 (y+1))).alloc (.cells #[.int .i64 ↑S,L, .int .i64 ↑D,F] 276);rw[ints_set]at this;show Blk _ gf _ (ints .u32 (bump lf D));rw[LD HY.out];exact this
       ·(repeat (with_reducible first|exact Ag _ _|assumption|refine Az ?_ |refine below_drewN ?_ _|refine qZ ?_ |refine aZ ?_ |refine dZ im ?_ |refine belA ?_ |refine rZ im ?_))
      case measure=>exact jo
   ·obtain rfl:k=n:=by omega
    rw[BV mz]at rs rf ax;have M:=(Mn ts).1 256;have N:=Ks ts;obtain⟨x,hx⟩:=ii ((Dq ts).1.getD 256 0);rw[<-hx,hn]at M;have cs:=rs.cell 256;rw[KA _ _ _ (by rw[N.1];omega),<-hx]at cs;have fs:=rs.frozen 256;have HX:=hid hx;clear hx N hn U;go_wp2_with fail
    go_ret3
    go_light;refine⟨qh, .inl ⟨ax.out,gs,gf,rfl,?_,?_,bc,bd⟩⟩
    ·have:=rs.set 256 (.int .u32 (x+1));rw[ints_set]at this;unfold symsOf;rw[LD HX.out];exact this
    ·exact rf.far (p:=⟨gs,256,none⟩) (AZ ai) _
end Toks
namespace Huff
open Go.RowKit Mem
open Toks (Tk)
def Dx(ts:List Tk):List Value:=ts.flatMap fun t=> [.int .u8 t.lit, .int .i64 t.len, .int .i64 t.dist]
theorem Lo(ts:List Tk)(t:Tk):Dx (ts++ [t])=Dx ts++ [.int .u8 t.lit, .int .i64 t.len, .int .i64 t.dist]:=by simp[Dx]
theorem MF:(prog.info? 280).map (fun i=>(i.zero,i.size,i.bytes))=some (some (.agg #[.int .u8 0,ij,ij]),3,24):=mr
def tkd:Tk:=⟨0,0,0⟩
def tkF(ts:List Tk):Nat->Nat->Value:=fun i j=>match j with
 |0=> .int .u8 (ts.getD i tkd).lit
 |1=> .int .i64 (ts.getD i tkd).len
 |_=> .int .i64 (ts.getD i tkd).dist
theorem zX:∀ (ts:List Tk) (i j:Nat),i<ts.length->j<3->(Dx ts)[i*3+j]? =some (tkF ts i j)
 | [],i,j,h,_=>pJ
 |t :: ts,0,j,_,hj=>by
  obtain rfl|rfl|rfl:j=0∨j=1∨j=2:=mz
  all_goals rfl
 |t :: ts,i+1,j,h,hj=>by have:=zX ts i j p5 hj;show(_ :: _ :: _ :: Dx ts)[(i+1)*3+j]? =_;rw[show(i+1)*3+j=(i*3+j)+1+1+1 by omega,List.getElem?_cons_succ,List.getElem?_cons_succ,List.getElem?_cons_succ,this];rfl
end Huff
namespace Block
open Go.RowKit Mem
open Huff (Dx zX tkF)
open Toks (Tk)
theorem jC(ts:List Tk)(i j:Nat):tkF ts i j=Toks.GQ ts i j:=by
 match j with
 |0=>rfl
 |1=>rfl
 |_+2=>rfl
theorem Nz{w:World}{base c:Nat}{A:Option Addr}{ts:List Tk}(h:w.ownsRow base 280 3 (.slice A ts.length c) ts.length (Dx ts)):Row w w A ts.length 3 (Toks.GQ ts):=
 Row.of_own h rfl fun i j hi hj=>by rw[<-jC ts i j];exact zX ts i j hi hj
end Block
namespace Toks
open Go.RowKit Mem
theorem j8(sym:Int)(h0:0<=sym)(h1:sym<256):Du ⟨sym,0,0,0⟩=⟨sym,0,0⟩/\Em ⟨sym,0,0,0⟩=0:=by
 have hl:Gw ⟨sym,0,0,0⟩=true:=by simp[Gw];omega
 unfold Du Em;rw[Ae hl,Ae hl];exact⟨rfl,rfl⟩
theorem Qw(p:Pc)(a1:257<=p.sym)(a2:p.sym<265)(a3:0<=p.dist)(a4:p.dist<12)(a5:0<=p.len/\p.len<pw (p.sym-257))(a6:0<=p.far/\p.far<pw p.dist):
 Du p=⟨0,2+pw (p.sym-257)+p.len,pw p.dist+p.far⟩/\Em p=0:=by
 have hl:Gw p=false:=by simp[Gw];omega
 have hm:IZ p=true:=by simp only[IZ,decide_eq_true_eq];omega
 unfold Du Em;simp[hl,hm]
theorem iM(p:Pc)(h:¬(0<=p.sym/\p.sym<256/\p.len=0/\p.dist=0/\p.far=0))
 (h':¬(257<=p.sym/\p.sym<265/\0<=p.dist/\p.dist<12/\0<=p.len/\p.len<pw (p.sym-257)/\0<=p.far/\p.far<pw p.dist)):Du p=⟨0,0,0⟩/\Em p=7:=by
 have hl:Gw p=false:=by unfold Gw;simpa using h
 have hm:IZ p=false:=by unfold IZ;simpa using h'
 unfold Du Em;simp[hl,hm]
theorem aA(p:Pc):∃a b c e,Du p=⟨a,b,c⟩/\Em p=e/\
 Hid (((0<=p.sym/\p.sym<256/\p.len=0/\p.dist=0/\p.far=0)->a=p.sym/\b=0/\c=0/\e=0)/\
  ((257<=p.sym/\p.sym<265/\0<=p.dist/\p.dist<12/\0<=p.len/\p.len<pw (p.sym-257)/\0<=p.far/\p.far<pw p.dist)->
    a=0/\b=2+pw (p.sym-257)+p.len/\c=pw p.dist+p.far/\e=0)/\
  (¬(0<=p.sym/\p.sym<256/\p.len=0/\p.dist=0/\p.far=0)->
   ¬(257<=p.sym/\p.sym<265/\0<=p.dist/\p.dist<12/\0<=p.len/\p.len<pw (p.sym-257)/\0<=p.far/\p.far<pw p.dist)->
    a=0/\b=0/\c=0/\e=7)):=by
 refine⟨(Du p).lit,(Du p).len,(Du p).dist,Em p,rfl,rfl,?_⟩;refine⟨fun h=> ?_,fun h=> ?_,fun h h'=> ?_⟩
 ·obtain⟨sym,len,dist,far⟩:=p;obtain⟨h1,h2,rfl,rfl,rfl⟩:=h;obtain⟨e1,e2⟩:=j8 sym h1 h2;rw[e1,e2];exact⟨rfl,rfl,rfl,rfl⟩
 ·obtain⟨e1,e2⟩:=Qw p h.1 h.2.1 h.2.2.1 h.2.2.2.1 ⟨h.2.2.2.2.1,h.2.2.2.2.2.1⟩ ⟨h.2.2.2.2.2.2.1,h.2.2.2.2.2.2.2⟩;rw[e1,e2];exact⟨rfl,rfl,rfl,rfl⟩
 ·obtain⟨e1,e2⟩:=iM p h h';rw[e1,e2];exact⟨rfl,rfl,rfl,rfl⟩
theorem iU(p:Pc)(w:World)(h0: -9223372036854775808<=p.sym)(h1:p.sym<=9223372036854775807):
 Calls prog 367 #[p.val] w fun e w'=>e= .returned (.tuple #[(Du p).val, .int .i64 (Em p)])/\Below w w w':=by
 obtain⟨a,b,c,e,ht,he,HJ⟩:=aA p;rw[ht,he,Tk.val_mk];clear ht he;obtain⟨sym,len,dist,far⟩:=p;simp only at h0 h1 HJ;rw[Pc.val_mk];go_enter func367,ntmps367;go_wp2_with(go_at_call 375;refine(lD _ _ _ mz mz).mono ?_;rintro e w' ⟨rfl,rfl⟩)
 all_goals first
  |(refine CI (v:= .tuple #[.agg #[.int .u8 a, .int .i64 b, .int .i64 c], .int .i64 e]) ?_ rfl ⟨rfl,?_⟩
    ·have HK:=HJ.out;go_light;simp[results,results367,go_sem];omega
    ·(repeat (with_reducible first|exact Ag _ _|assumption|refine Az ?_ |refine below_drewN ?_ _|refine qZ ?_ |refine aZ ?_ |refine dZ im ?_ |refine belA ?_ |refine rZ im ?_)))
  |skip
 have f1:0<=len/\len<pw (sym-257):=im
 have f2:0<=far/\far<pw dist:=im
 go_region;all_goals go_wp2
 all_goals
  refine CI (v:= .tuple #[.agg #[.int .u8 a,b,c],e]) ?_ rfl ⟨rfl,?_⟩
  ·have HK:=HJ.out;go_light;obtain⟨p1,i⟩:=LJ (sym-257) mz;obtain⟨p2,h⟩:=LJ dist mz;simp only[p1,p2];rw[I5 (2+pw (sym-257)) ⟨mz,mz⟩,I5 (2+pw (sym-257)+len) ⟨mz,mz⟩,I5 (pw dist+far) ⟨mz,mz⟩];simp[results,results367,go_sem];omega
  ·(repeat (with_reducible first|exact Ag _ _|assumption|refine Az ?_ |refine below_drewN ?_ _|refine qZ ?_ |refine aZ ?_ |refine dZ im ?_ |refine belA ?_ |refine rZ im ?_))
end Toks
end Go.Proofs.YtfgdoknipbpfhaaGreatDoor
