/- An index's bytes: th -/
import Derived.Test.YtfgdoknipbpfhaaGreatDoorZBodyBlocks28
import Derived.Test.YtfgdoknipbpfhaaGreatDoorZBodyBlocks42
namespace Go.Proofs.YtfgdoknipbpfhaaGreatDoor
open Go.Proofs.Tryz
open Go.Lib (hid)
namespace Idx
open Go.RowKit Mem Go.Proofs.YtfgdoknipbpfhaaGreatDoor.Own Canon Sift
open NumPut Recs
open Ef (BX efO UL)
open Block (lZ)
open Go.Proofs.YtfgdoknipbpfhaaGreatDoor.One (FrsAt FrsAt.step FrsAt.grown FrsAt.snoc FA MV)
theorem own_one{w:World}{base:Nat}{t:TypeId}{u:Value}(hb:base<=w.heap.size):(w.alloc (.cells #[u] t)).ownsRow base t 1 (.slice (some ⟨w,0,none⟩) 1 1) 1 [u]:=
 ⟨rfl, .inr ⟨w.heap.size,1,#[u],rfl,hb,heap_alloc_new w _,Ak _,pm,oK,rfl⟩⟩
set_option maxHeartbeats 2000000 in
set_option maxRecDepth 100000 in
theorem gP(w:World)(size bound base:Nat)(vT vL:Value)(vals:List Value)(ts:List Str)(ls:List (List Nat))(h1:1<=size)(h2:size<=64)(hb:bound<=20000)(hT:ts.length<=20000)(hL:ls.length=ts.length)(hm:FM ts=true)(h0:∀l∈ls,l≠ [])(am:GU bound ls=true)(h:IxAt w base vT vL vals ts ls):
 Calls prog 51 #[.int .i64 (size:Nat),bound, .agg #[vT,vL]] w fun e w'=>∃v,e= .returned (.tuple #[v,ij])/\w'.ownsRow w 5 1 v (ixO size bound ts ls).length (cZ .u8 (ixO size bound ts ls))/\Below w w w':=by
 obtain⟨j0,bg,bi,bn,bl⟩:=info_parts MV;have bh:=Yk hm h1 h2 hT;have ba:∀k,(Dd bound (ls.take k)).length<=900200000:=fun k=>by have h3:GU bound (ls.take k)=true:=FJ.2 fun x hx=>FJ.1 am x (CV hx);have h4:=gM hb (fun l hl=>h0 l (CV hl)) h3;rw[AZ]at h4;omega
 have bj:=hid ba;obtain⟨n,hn⟩:=ii ts.length;have an:ls.length=n:=mw
 have ht:=h.t;have hl:=h.l;rw[<-hn]at ht hT;rw[an]at hl;obtain⟨AT,cT,rfl⟩:=bZ ht;obtain⟨AL,cL,rfl⟩:=bZ hl;have b0:=(gD ht).1;have H:=hid h;have au:=hid an;have HL:=hid hl;have H0:=hid h0;have aq:=hid am;have bc:Blk (w.alloc (.cells #[.slice AT n cT, .slice AL n cL] 53)) w 53 #[.slice AT n cT, .slice AL n cL]:=Blk.made _ _ _;have a3:Below w w (w.alloc (.cells #[.slice AT n cT, .slice AL n cL] 53)):=aZ (Ag _ _);have DD:=hid (fun wx (hx:Below w w wx)=>iI wx size AT n cT ts hn.symm h1 h2 hT b0 hm (((bJ ht).below hx).mono hx.size));have y1:=ig ((bound:Int)<0)
 have y2:=ig ((20000:Int)<bound)
 have b5:=ig (20000<bound)
 have z1:((n:Int)==(n:Int))=true:=oK
 have ac:Hid (ixO size bound ts ls=C8 size ts++Dd bound ls):=rfl;have bC:Hid (∀k x,ls[k]? =some x->Dd bound (ls.take (k+1))=Dd bound (ls.take k)++efO bound x):=fun k x hx=>XI bound ls k x hx;obtain⟨DO,a0⟩:=ii (C8 size ts);rw[<-a0]at DD ac bh;have Y:=hid bc;have ak:=hid a3;clear hn an hl ht h hm h0 bc a3 am ba a0;go_enter func51,ntmps51;have q0:=Y.out.ia 0;have q1:=Y.out.ia 1;go_wp2_with fail;refine(DD.out _ ak.out).mono ?_;rintro e w2 ⟨v2,rfl,aj,ag⟩;obtain⟨A2,c2,rfl⟩:=bZ aj;have b3:w.heap.size+1=(w.alloc (.cells #[.slice AT n cT, .slice AL n cL] 53)).heap.size:=oK
 have N:Hid (Blk w2 w 53 #[.slice AT n cT, .slice AL n cL]):=Y.out.step ag;have av:=hid (dZ ag ak.out);have a6:=hid (kZ aj ak.out.size);have b4:w.heap.size<w2.heap.size:=N.out.lt;have bm:(w2.alloc (.cells #[.slice A2 DO.length c2] 28)).cell? ⟨w,1,none⟩=some (.slice AL n cL):=(N.out.alloc _).cell 1;clear aj ag DD q0 q1 b3;go_wp2_with fail;have ar:Hid ((w2.alloc (.cells #[.slice A2 DO.length c2] 28)).ownsRow w2 28 1 (.slice (some ⟨w2,0,none⟩) 1 1) (0+1) ([(⟨A2,c2,DO⟩:Part)].map Part.v)):=own_one (Ak _);have a1:Hid (FrsAt (w2.alloc (.cells #[.slice A2 DO.length c2] 28)) w [(⟨A2,c2,DO⟩:Part)]):=fun p hp=>by rw[Ei.1 hp];exact a6.out.alloc _
 have aw:Hid (Below w2 w2 (w2.alloc (.cells #[.slice A2 DO.length c2] 28))):=aZ (Ag _ _);have bd:Hid (([(⟨A2,c2,DO⟩:Part)].flatMap Part.ls)=DO++Dd bound (ls.take 0)):=by show _=_;simp[Dd]
 clear bm a6;generalize w2.alloc (.cells #[.slice A2 DO.length c2] 28)=w3 at *;go_loopw [10,45] (fun pv iv wr=>∃ (k:Nat) (ps:List Part),k<=n/\iv= .int .i64 k/\Hid (ps.length=k+1)/\Hid (wr.ownsRow w2 28 1 pv (k+1) (ps.map Part.v))/\Hid (FrsAt wr w ps)/\Hid (ps.flatMap Part.ls=DO++Dd bound (ls.take k))/\Hid (Below w2 w2 wr)) (fun _ iv _=>n-(intOf iv).toNat)
 case atStart=>exact⟨0,[⟨A2,c2,DO⟩],mw,rfl,rfl,ar.out,a1.out,bd.out,aw.out⟩
 case round=>
  obtain⟨k,ps,hk,rfl,ah,HP,HF,HE,HB⟩:=hrel;clear ar a1 bd aw;obtain⟨wi,rfl⟩:=ii wr;have j:Hid (Below w w wi):=uZ HB.out av.out.size av.out;have hz:=HB.out.size;have ab:=bj.out k;obtain⟨gp,cp,rfl⟩:=IP HP.out;by_cases a9:k<n
  ·obtain⟨x,hx⟩:∃x,ls[k]? =some x:=⟨_,Az (by have:=au.out;omega)⟩;have ay:=Be hx;have ae:=PC (SJ aq.out hx) (H0.out x ay);have az:=SJ aq.out hx;have be:=bC.out k x hx;obtain⟨A,c,hv,hr⟩:=ZT (H.out.step j.out) hx;have Z:wi.ownsRow base 37 1 (.slice AL n cL) n vals:=eZ HL.out fun y hy=>j.out.block y (Aj HL.out y hy).2;obtain⟨gl,cl,L,_,_⟩:=Z.form mw;injection L with e1 e2 e3;subst e1 e3;have cv:wi.cell? ⟨gl,k,none⟩=some (.slice A x.length c):=(Lz.own_cells Z a9).1.trans hv;have D:=hid (UL wi bound A x.length c x rfl ae.1 ae.2 hb az hr);have gk:=ic ((k:Int)<n);have bp:=ic (k<n);have x0:(0:Int)<=(k:Int):=mw;have x1:(k:Int)<(n:Int):=mw;obtain⟨xn,a5⟩:=ii x.length;rw[<-a5]at cv D;have xz:((xn:Int)==0)=false:=oT;generalize efO bound x=EO at *;have b1:=hid be;clear hx ay ae az be hv hr Z a5 ab;go_wp2_with fail;refine D.out.mono ?_;rintro e w4 ⟨v4,rfl,af,J⟩;obtain⟨A4,c4,rfl⟩:=bZ af;have al:=hid (kZ af j.out.size);have G:Hid (w4.ownsRow w2 28 1 (.slice (some ⟨gp,0,none⟩) (k+1) cp) (k+1) (ps.map Part.v)):=eZ HP.out fun y hy=>J.block y (Aj HP.out y hy).2;have ax:Hid (FrsAt w4 w ps):=HF.out.step J;have ai:Hid (Below w2 w2 w4):=uZ J hz HB.out;have bS:=ai.out.size;obtain⟨el,aa⟩:=ii EO.length;rw[<-aa]at al ⊢;have bb:=hid aa;clear af J D HP HF HB j cv aa;go_wp2_with(at_builtin;refine iZ rfl (.tmp 62) (.tmp 64) 59 rfl w2 28 j0 _ 1 24 underlying59 bg bi bn bl rfl ip _ _ _ mz (G.out.alloc _) _ 1 1 [.slice A4 el c4] mz (Src.of_blk (g:=w4.heap.size) (Blk.made _ _ _) 1 1 1 rfl) mj pm mw oT ?_;intro v8 w8 z M bf);have bx:Hid (Below w2 w2 w8):=Below.grown (ai.out.alloc bS _) M oT (fun y hy=>(Aj G.out y hy).1);have bN:Hid (w8.ownsRow w2 28 1 v8 (k+1+1) (ps.map Part.v++ [.slice A4 el c4])):=z;have bt:Hid (w8.ownsRow w 5 1 (.slice A4 el c4) el (cZ .u8 EO)):=FA (al.out.alloc _) (G.out.alloc _) ip M;have bu:Hid (FrsAt w8 w ps):=(ax.out.step (aZ (Ag _ _))).grown (G.out.alloc _) M;clear z M bf al G ax ai;go_roundw
   case measure=>exact jo
   case rel=>go_light;exact⟨k+1,ps++ [⟨A4,c4,EO⟩],mw,iu,by show _=_;rw[Ae,ah.out];rfl,by show World.ownsRow _ _ _ _ _ _ _;rw[EP];show World.ownsRow _ _ _ _ _ _ (ps.map Part.v++ [.slice A4 EO.length c4]);rw[<-bb.out];exact bN.out,bu.out.snoc (by show World.ownsRow _ _ _ _ (.slice A4 EO.length c4) EO.length (cZ .u8 EO);rw[<-bb.out];exact bt.out),by show _=_;rw[Il,HE.out,b1.out,AE];simp,bx.out⟩
  ·obtain rfl:k=n:=by omega
   have gk:=ig ((k:Int)<k);have bp:=ig (k<k);have E:ls.take k=ls:=BQ (by rw[au.out];exact Ak _);have U:=ab;rw[E,<-ac.out]at HE;have Q:BI ps<=1000000000:=(by unfold BI;rw[HE.out,ac.out,Ae];rw[E]at U;omega);have a4:∀p∈ps,p.Ok wi:=fun p hp=>lZ (HF.out p hp) rfl;have L:=(Aj HP.out gp rfl).2;have D:=hid (RZ wi gp (k+1) cp ps ah.out mw Q a4 L (fun i hi=>by rw[(Lz.own_cells HP.out (by rw[<-ah.out];exact hi)).1,BG,Az hi];rfl));rw[HE.out]at D;clear E a9 ab U Q a4 L HE;go_wp2_with fail;refine D.out.mono ?_;rintro e w9 ⟨v9,rfl,bk,bq⟩;go_wp2_with fail;go_ret2;exact⟨_,rfl,kZ bk j.out.size,dZ bq j.out⟩
end Idx
end Go.Proofs.YtfgdoknipbpfhaaGreatDoor
