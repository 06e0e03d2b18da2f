/- An index's bytes: th -/
import Derived.Test.YtfgdoknipbpfhaaGreatDoorZBodyOpened28
import Derived.Test.YtfgdoknipbpfhaaGreatDoorZBodyOpened44
namespace Go.Proofs.YtfgdoknipbpfhaaGreatDoor
open Go.Proofs.Tryz
open Go.Lib (hid)
namespace Idx
open Go.RowKit Mem Go.Proofs.YtfgdoknipbpfhaaGreatDoor.Own Canon Sift
open NumPut Recs
open Ef (Ca efO SW)
open Block (nZ)
open Go.Proofs.YtfgdoknipbpfhaaGreatDoor.One (FrsAt FrsAt.step FrsAt.grown FrsAt.snoc FH Mx)
theorem own_one{w:World}{base:Nat}{t:TypeId}{u:Value}(hb:base<=w.heap.size):(w.alloc (.cells #[u] t)).ownsRow base t 1 (.slice (some ⟨w,0,none⟩) 1 1) 1 [u]:=
 ⟨rfl, .inr ⟨w.heap.size,1,#[u],rfl,hb,heap_alloc_new w _,Aq _,qg,pI,rfl⟩⟩
set_option maxHeartbeats 2000000 in
set_option maxRecDepth 100000 in
theorem V9(w:World)(size bound base:Nat)(vT vL:Value)(vals:List Value)(ts:List Str)(ls:List (List Nat))(h1:1<=size)(h2:size<=64)(hb:bound<=20000)(hT:ts.length<=20000)(hL:ls.length=ts.length)(hm:Gl ts=true)(h0:∀l∈ls,l≠ [])(al:G4 bound ls=true)(h:IxAt w base vT vL vals ts ls):
 Calls prog 51 #[.int .i64 (size:Nat),bound, .agg #[vT,vL]] w fun e w'=>∃v,e= .returned (.tuple #[v,ij])/\w'.ownsRow w 5 1 v (ixO size bound ts ls).length (cZ .u8 (ixO size bound ts ls))/\Below w w w':=by
 obtain⟨j0,bS,b3,bu,bx⟩:=info_parts Mx;have b1:=Y3 hm h1 h2 hT;have a3:∀k,(Dl bound (ls.take k)).length<=900200000:=fun k=>by have h3:G4 bound (ls.take k)=true:=FW.2 fun x hx=>FW.1 al x (C7 hx);have h4:=mE hb (fun l hl=>h0 l (C7 hl)) h3;rw[Bd]at h4;omega
 have bl:=hid a3;obtain⟨n,hn⟩:=ii ts.length;have aa:ls.length=n:=mz
 have ht:=h.t;have hl:=h.l;rw[<-hn]at ht hT;rw[aa]at hl;obtain⟨AT,cT,rfl⟩:=bZ ht;obtain⟨AL,cL,rfl⟩:=bZ hl;have bC:=(nR ht).1;have H:=hid h;have bc:=hid aa;have HL:=hid hl;have H0:=hid h0;have av:=hid al;have aw:Blk (w.alloc (.cells #[.slice AT n cT, .slice AL n cL] 53)) w 53 #[.slice AT n cT, .slice AL n cL]:=Blk.made _ _ _;have au:Below w w (w.alloc (.cells #[.slice AT n cT, .slice AL n cL] 53)):=aZ (Ag _ _);have DD:=hid (fun wx (hx:Below w w wx)=>Wy wx size AT n cT ts hn.symm h1 h2 hT bC hm (((NT ht).below hx).mono hx.size));have y1:=ig ((bound:Int)<0)
 have y2:=ig ((20000:Int)<bound)
 have b6:=ig (20000<bound)
 have z1:((n:Int)==(n:Int))=true:=pI
 have ae:Hid (ixO size bound ts ls=Dg size ts++Dl bound ls):=rfl;have bi:Hid (∀k x,ls[k]? =some x->Dl bound (ls.take (k+1))=Dl bound (ls.take k)++efO bound x):=fun k x hx=>aR bound ls k x hx;obtain⟨DO,a9⟩:=ii (Dg size ts);rw[<-a9]at DD ae b1;have an:=hid aw;have aj:=hid au;clear hn aa hl ht h hm h0 aw au al a3 a9;go_enter func51,ntmps51;have q0:=an.out.ia 0;have q1:=an.out.ia 1;go_wp2_with fail;refine(DD.out _ aj.out).mono ?_;rintro e w2 ⟨v2,rfl,ah,ac⟩;obtain⟨A2,c2,rfl⟩:=bZ ah;have bh:w.heap.size+1=(w.alloc (.cells #[.slice AT n cT, .slice AL n cL] 53)).heap.size:=pI
 have Q:Hid (Blk w2 w 53 #[.slice AT n cT, .slice AL n cL]):=an.out.step ac;have bg:=hid (dZ ac aj.out);have ay:=hid (kZ ah aj.out.size);have b5:w.heap.size<w2.heap.size:=Q.out.lt;have bn:(w2.alloc (.cells #[.slice A2 DO.length c2] 28)).cell? ⟨w,1,none⟩=some (.slice AL n cL):=(Q.out.alloc _).cell 1;clear ah ac DD q0 q1 bh;go_wp2_with fail;have bd:Hid ((w2.alloc (.cells #[.slice A2 DO.length c2] 28)).ownsRow w2 28 1 (.slice (some ⟨w2,0,none⟩) 1 1) (0+1) ([(⟨A2,c2,DO⟩:Part)].map Part.v)):=own_one (Aq _);have a4:Hid (FrsAt (w2.alloc (.cells #[.slice A2 DO.length c2] 28)) w [(⟨A2,c2,DO⟩:Part)]):=fun p hp=>by rw[Eu.1 hp];exact ay.out.alloc _
 have be:Hid (Below w2 w2 (w2.alloc (.cells #[.slice A2 DO.length c2] 28))):=aZ (Ag _ _);have az:Hid (([(⟨A2,c2,DO⟩:Part)].flatMap Part.ls)=DO++Dl bound (ls.take 0)):=by show _=_;simp[Dl]
 clear bn ay;generalize w2.alloc (.cells #[.slice A2 DO.length c2] 28)=w3 at *;go_loopw [10,45] (fun pv iv wr=>∃ (k:Nat) (ps:List Part),k<=n/\iv= .int .i64 k/\Hid (ps.length=k+1)/\Hid (wr.ownsRow w2 28 1 pv (k+1) (ps.map Part.v))/\Hid (FrsAt wr w ps)/\Hid (ps.flatMap Part.ls=DO++Dl bound (ls.take k))/\Hid (Below w2 w2 wr)) (fun _ iv _=>n-(intOf iv).toNat)
 case atStart=>exact⟨0,[⟨A2,c2,DO⟩],mz,rfl,rfl,bd.out,a4.out,az.out,be.out⟩
 case round=>
  obtain⟨k,ps,hk,rfl,ak,HP,HF,HE,HB⟩:=hrel;clear bd a4 az be;obtain⟨wi,rfl⟩:=ii wr;have j:Hid (Below w w wi):=uZ HB.out bg.out.size bg.out;have hz:=HB.out.size;have ai:=bl.out k;obtain⟨gp,cp,rfl⟩:=IS HP.out;by_cases a1:k<n
  ·obtain⟨x,hx⟩:∃x,ls[k]? =some x:=⟨_,AD (by have:=bc.out;omega)⟩;have a5:=Bg hx;have ab:=Pp (Ro av.out hx) (H0.out x a5);have ax:=Ro av.out hx;have a0:=bi.out k x hx;obtain⟨A,c,hv,hr⟩:=iJ (H.out.step j.out) hx;have Z:wi.ownsRow base 37 1 (.slice AL n cL) n vals:=eZ HL.out fun y hy=>j.out.block y (Am HL.out y hy).2;obtain⟨gl,cl,N,_,_⟩:=Z.form mz;injection N with e1 e2 e3;subst e1 e3;have cv:wi.cell? ⟨gl,k,none⟩=some (.slice A x.length c):=(Lz.own_cells Z a1).1.trans hv;have D:=hid (SW wi bound A x.length c x rfl ab.1 ab.2 hb ax hr);have gk:=ic ((k:Int)<n);have b0:=ic (k<n);have x0:(0:Int)<=(k:Int):=mz;have x1:(k:Int)<(n:Int):=mz;obtain⟨xn,bb⟩:=ii x.length;rw[<-bb]at cv D;have xz:((xn:Int)==0)=false:=pQ;generalize efO bound x=EO at *;have bN:=hid a0;clear hx a5 ab ax a0 hv hr Z bb ai;go_wp2_with fail;refine D.out.mono ?_;rintro e w4 ⟨v4,rfl,aq,J⟩;obtain⟨A4,c4,rfl⟩:=bZ aq;have af:=hid (kZ aq j.out.size);have G:Hid (w4.ownsRow w2 28 1 (.slice (some ⟨gp,0,none⟩) (k+1) cp) (k+1) (ps.map Part.v)):=eZ HP.out fun y hy=>J.block y (Am HP.out y hy).2;have bf:Hid (FrsAt w4 w ps):=HF.out.step J;have am:Hid (Below w2 w2 w4):=uZ J hz HB.out;have b4:=am.out.size;obtain⟨el,ag⟩:=ii EO.length;rw[<-ag]at af ⊢;have ar:=hid ag;clear aq J D HP HF HB j cv ag;go_wp2_with(at_builtin;refine iZ rfl (.tmp 62) (.tmp 64) 59 rfl w2 28 j0 _ 1 24 underlying59 bS b3 bu bx rfl ip _ _ _ nc (G.out.alloc _) _ 1 1 [.slice A4 el c4] nc (Src.of_blk (g:=w4.heap.size) (Blk.made _ _ _) 1 1 1 rfl) mj qg mz pQ ?_;intro v8 w8 z M a6);have bt:Hid (Below w2 w2 w8):=Below.grown (am.out.alloc b4 _) M pQ (fun y hy=>(Am G.out y hy).1);have bp:Hid (w8.ownsRow w2 28 1 v8 (k+1+1) (ps.map Part.v++ [.slice A4 el c4])):=z;have bq:Hid (w8.ownsRow w 5 1 (.slice A4 el c4) el (cZ .u8 EO)):=FH (af.out.alloc _) (G.out.alloc _) ip M;have bj:Hid (FrsAt w8 w ps):=(bf.out.step (aZ (Ag _ _))).grown (G.out.alloc _) M;clear z M a6 af G bf am;go_roundw
   case measure=>exact jo
   case rel=>go_light;exact⟨k+1,ps++ [⟨A4,c4,EO⟩],mz,iu,by show _=_;rw[Aj,ak.out];rfl,by show World.ownsRow _ _ _ _ _ _ _;rw[EN];show World.ownsRow _ _ _ _ _ _ (ps.map Part.v++ [.slice A4 EO.length c4]);rw[<-ar.out];exact bp.out,bj.out.snoc (by show World.ownsRow _ _ _ _ (.slice A4 EO.length c4) EO.length (cZ .u8 EO);rw[<-ar.out];exact bq.out),by show _=_;rw[Ix,HE.out,bN.out,AJ];simp,bt.out⟩
  ·obtain rfl:k=n:=by omega
   have gk:=ig ((k:Int)<k);have b0:=ig (k<k);have E:ls.take k=ls:=BV (by rw[bc.out];exact Aq _);have Y:=ai;rw[E,<-ae.out]at HE;have U:BM ps<=1000000000:=(by unfold BM;rw[HE.out,ae.out,Aj];rw[E]at Y;omega);have ba:∀p∈ps,p.Ok wi:=fun p hp=>nZ (HF.out p hp) rfl;have N:=(Am HP.out gp rfl).2;have D:=hid (Ue wi gp (k+1) cp ps ak.out mz U ba N (fun i hi=>by rw[(Lz.own_cells HP.out (by rw[<-ak.out];exact hi)).1,BE,AD hi];rfl));rw[HE.out]at D;clear E a1 ai Y U ba N HE;go_wp2_with fail;refine D.out.mono ?_;rintro e w9 ⟨v9,rfl,bm,bk⟩;go_wp2_with fail;go_ret2;exact⟨_,rfl,kZ bm j.out.size,dZ bk j.out⟩
end Idx
end Go.Proofs.YtfgdoknipbpfhaaGreatDoor
