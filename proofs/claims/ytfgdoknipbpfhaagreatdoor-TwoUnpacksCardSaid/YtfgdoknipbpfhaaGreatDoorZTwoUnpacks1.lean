/- Words for memory, fo -/
import Derived.WalkKit
import Derived.ProofKit
import Derived.Lib.Hide
import Derived.Laws.OwnMore
import Derived.Deep.Draws
import Derived.Maps.AppendAt
import Derived.Test.YtfgdoknipbpfhaaGreatDoorProg
import Derived.BigQuiet
import Derived.BigGuardPart
import Derived.Deep.QuietTactic
import Derived.Deep.Light
import Derived.Laws.Rows
import Derived.Deep.MidRow
import Derived.Deep.DeepCutAuto
namespace Go.Proofs.YtfgdoknipbpfhaaGreatDoor
section
open Go Go.RowKit
theorem iQ(p:Prop)[Decidable p](h:p:=by first|omega|(simp;omega)|(simp;done)):decide p=true:=decide_eq_true h
theorem iR(p:Prop)[Decidable p](h:¬p:=by first|omega|(simp;omega)|(simp;done)):decide p=false:=decide_eq_false h
theorem iS{α:Sort _}(a:α):∃x,x=a:=⟨a,rfl⟩
instance:Coe World Nat:=⟨fun w=>w.heap.size⟩
instance:Coe Nat Value:=⟨fun n=> .int .i64 n⟩
instance:Coe Int Value:=⟨fun n=> .int .i64 n⟩
instance:Coe Bool Value:=⟨fun b=> .bool b⟩
instance:Coe Unit Value:=⟨fun _=> .slice none 0 0⟩
structure iU where
def iT:iU:=⟨⟩
instance:Coe iU Value:=⟨fun _=> .int .i64 0⟩
theorem kR{p:Prop}(h:p:=by omega):p:=h
theorem nJ{p:Prop}(h:p:=by(repeat (with_reducible first|exact Ag _ _|assumption|refine Ak ?_ |refine below_drewN ?_ _|refine qZ ?_ |refine bZ ?_ |refine eZ (by assumption) ?_ |refine belA ?_ |refine rZ (by assumption) ?_))):p:=h
theorem iX{p:Prop}(h:p:=by decide):p:=h
theorem jw{p:Prop}(h:p:=by go_light;simp[intOf];omega):p:=h
theorem iV{p:Prop}(h:p:=by assumption):p:=h
theorem nI{p:Prop}(h:p:=by unfold maxLen;omega):p:=h
theorem kw{p:Prop}(h:p:=by intro u hu;simp at hu;rcases hu with rfl;rfl):p:=h
theorem ni{p:Prop}(h:p:=by simp;omega):p:=h
theorem mY{p:Prop}(h:p:=by simp):p:=h
theorem lD{p:Prop}(h:p:=by rw[Am _ (by omega)];omega):p:=h
theorem kG{p:Prop}(h:p:=by kernel_rfl):p:=h
theorem kU{p:Prop}(h:p:=by rfl):p:=h
theorem i5{p:Prop}(h:p:=by first|rfl|go_num):p:=h
theorem jB{p:Prop}(h:p:=by have h:=G.out;rw[Aa (show ¬((0:Int)≠0) from fun h=>h rfl),Ab M.out]at h;simp only at h;rw[Ab (show(2:Int)≠0 by decide)]at h;exact ak.out 2 h.symm (by decide)):p:=h
theorem mU{p:Prop}(h:p:=by show b≠w.heap.size;omega):p:=h
theorem jx{p:Prop}(h:p:=by go_num):p:=h
theorem lM{p:Prop}(h:p:=by rw[HG.out];exact aq.out.keep (fun b _ h=>((((AJ _ _ _ b (by show b≠w.heap.size;omega)).trans (AJ _ _ _ b (by show b≠w.heap.size;omega))).trans (AJ _ _ _ b (by show b≠w.heap.size;omega))).trans (((AJ _ _ _ b (by show b≠w.heap.size;omega)).trans (AJ _ _ _ b (by show b≠w.heap.size;omega))).trans (AJ _ _ _ b (by show b≠w.heap.size;omega))))) L):p:=h
theorem i7{p:Prop}(h:p:=by first|rfl|trivial):p:=h
theorem mE{p:Prop}(h:p:=by show World.ownsRow _ _ _ _ _ _ _;rw[show cZ .u8 (j++List.replicate k x)=cZ .u8 j++cZ .u8 (List.replicate k x) by simp[cZ]];exact E):p:=h
theorem jj{p:Prop}(h:p:=by go_light;exact⟨k+1,a2,p+1,t2++ [s],by omega,by omega,by first|rfl|go_num,by show _=_;rw[Aj,HP.out];rfl,bV.out,aT.out,ab.out,by intro z hz;rcases BN.1 hz with h|h;exact bu.out z h;(rw[Dw]at h;rw[h];exact aY.out),bW.out⟩):p:=h
theorem i9{p:Prop}(h:p:=by go_light;exact⟨a2,i,p+k,j++List.replicate k x,by omega,by show _=_;rw[Aj,HP.out,Do],ar.out,av.out,ax.out,ag.out.1,ag.out.2⟩):p:=h
theorem kD{p:Prop}(h:p:=by intro v hv y;simp at hv;subst hv;intro h;cases h):p:=h
theorem lL{p:Prop}(h:p:=by rw[HG.out];exact af.out.keep (fun b _ h=>(((AJ _ _ _ b (by show b≠w.heap.size;omega)).trans (AJ _ _ _ b (by show b≠w.heap.size;omega))).trans (AJ _ _ _ b (by show b≠w.heap.size;omega)))) L):p:=h
theorem iY{p:Prop}(h:p:=by first|exact Blk.made _ _ _|exact Blk.made_at _ _ _ (by simp)|exact Blk.drew (Blk.made _ _ _)|exact Blk.drew (Blk.made_at _ _ _ (by simp))):p:=h
theorem lG{p:Prop}(h:p:=by rw[BD];omega):p:=h
theorem jc{p:Prop}(h:p:=by go_light;exact⟨i+1,a2,t2++ [s],h2++ [s],_,_,by omega,by first|rfl|go_num,by rw[Aj,<-HP.out];simp;omega,by rw[Aj,Aj,<-HP.out,<-HQ.out];simp;omega,a3.out,by intro y hy;rcases BN.1 hy with h|h;exact av.out y h;(rw[Dw]at h;rw[h];exact af.out),by rw[Az (by omega)];exact ay.out⟩):p:=h
theorem mL{p:Prop}(h:p:=by show _=_;have h:=G.out;rw[Aa (show ¬((0:Int)≠0) from fun h=>h rfl),Aa a6.out]at h;simp only at h;rw[Aa (show ¬((0:Int)≠0) from fun h=>h rfl)]at h;rw[Az (by omega)];exact h):p:=h
theorem jd{p:Prop}(h:p:=by go_light;exact⟨i+1,a2,t2++ [s],h2,_,uH,by omega,by first|rfl|go_num,by rw[Aj,<-HP.out];simp;omega,by rw[Aj,<-HP.out];omega,E.out,by intro y hy;rcases BN.1 hy with h|h;exact av.out y h;(rw[Dw]at h;rw[h];exact af.out),by rw[Az (by omega)];exact ay.out⟩):p:=h
theorem i6{p:Prop}(h:p:=by first|rfl|go_num|(congr 1;omega)):p:=h
theorem m8{p:Prop}(h:p:=by simp only;omega):p:=h
theorem l7{p:Prop}(h:p:=by rw[bne_iff_ne];omega):p:=h
theorem kC{p:Prop}(h:p:=by intro v hv y;simp at hv;rcases hv with rfl|rfl|rfl<;>(intro h;cases h)):p:=h
theorem jp{p:Prop}(h:p:=by go_light;exact⟨k+1,x2,m2,by omega,by omega,by first|rfl|trivial,by first|rfl|trivial,by go_num,HP.out,ab.out,J.out,by first|rfl|trivial⟩):p:=h
theorem lI{p:Prop}(h:p:=by rw[FL];intro h;simp at h;omega):p:=h
theorem ko{p:Prop}(h:p:=by have:=h.1;omega):p:=h
theorem lQ{p:Prop}(h:p:=by rw[HN.out];exact Ai _):p:=h
theorem mF{p:Prop}(h:p:=by show World.ownsRow _ _ _ _ _ _ _;rw[show cZ .u8 (ls++List.replicate (j+1) x)=cZ .u8 (ls++List.replicate j x)++ [.int .u8 (x:Nat)] by simp[cZ,List.replicate_succ']];exact G):p:=h
theorem kE{p:Prop}(h:p:=by intro y hy;rcases BN.1 hy with h|h;exact av.out y h;(rw[Dw]at h;rw[h];exact af.out)):p:=h
theorem kA{p:Prop}(h:p:=by intro u hu;simp at hu;subst hu;rfl):p:=h
theorem ji{p:Prop}(h:p:=by go_light;exact⟨k+1,R.length,by omega,by omega,by first|rfl|go_num,by show _=_;rw[<-HR.out],by show World.ownsRow _ _ _ _ _ _ _;rw[<-HR.out];exact Q.out,aa.out⟩):p:=h
theorem jo{p:Prop}(h:p:=by go_light;exact⟨k+1,x2,by omega,by omega,by first|rfl|trivial,by go_num,HP.out,G.out,by first|rfl|trivial⟩):p:=h
theorem nB{p:Prop}(h:p:=by simpa using he):p:=h
theorem jg{p:Prop}(h:p:=by go_light;exact⟨i+1,y+size,a3,0,f1,h6,bk,bi,by omega,by first|rfl|go_num,bc.out,bm,a4,ba.out,bq.out,bj.out,a9.out,aU.out,fun _=>bC.out,fun h=>absurd rfl h⟩):p:=h
theorem jb{p:Prop}(h:p:=by go_light;exact⟨i+1,U,ua,J++ [id],by omega,by omega,bS,by first|rfl|go_num,by first|rfl|go_num,by show _=_;rw[Aj,HI.out];rfl,bf.out,bc.out,a7.out,bd.out⟩):p:=h
theorem jq{p:Prop}(h:p:=by go_light;refine⟨k+1,by omega,by omega,by go_num,Q.out,?_⟩;obtain⟨q,rfl⟩:=L.out;exact⟨_,Dh _ _ _⟩):p:=h
theorem np{p:Prop}(h:p:=by simp[hdR,z.out,y.out]):p:=h
theorem lB{p:Prop}(h:p:=by rw[Am _ (by omega)]):p:=h
theorem kx{p:Prop}(h:p:=by intro u hu;simp at hu;rcases hu with rfl|rfl|rfl<;>rfl):p:=h
theorem kQ{p:Prop}(h:p:=by obtain⟨rfl,rfl,hw⟩:=hrel;have hw:=hw.out;subst hw;go_wp2_with fail;go_ret;exact⟨.slice none 0 0,rfl,by rw[HR.out];exact Aq _ _ _ _,Ag _ _⟩):p:=h
theorem js{p:Prop}(h:p:=by go_light;simp only[GC];rw[an.out,aV.out];exact aq.out):p:=h
theorem jr{p:Prop}(h:p:=by go_light;refine⟨k+1,ws,row++ [x],vo,_,by omega,by go_num,?_,E.out,HA.out w4 _ _ (HN.out ▸ z) N⟩;show _<=_;rw[Aj,HN.out];simp;omega):p:=h
theorem i8{p:Prop}(h:p:=by first|trivial|rfl):p:=h
theorem je{p:Prop}(h:p:=by go_light;exact⟨i+1,p0+size,bl,p,t2,by omega,by first|rfl|go_num,cx.out,HP.out,bP.out,bH.out,bu.out,cz.out,aT.out,bI.out,cJ.out⟩):p:=h
theorem kF{p:Prop}(h:p:=by intro z hz;rcases BN.1 hz with h|h;exact bu.out z h;(rw[Dw]at h;rw[h];exact aY.out)):p:=h
theorem jC{p:Prop}(h:p:=by have h:=G.out;rw[Ab he]at h;simp only at h;rw[Ab he]at h;exact ak.out e2 h.symm he):p:=h
theorem ja{p:Prop}(h:p:=by go_light;exact⟨a3,q+j,ls++List.replicate j x,by omega,by show _=_;rw[Aj,HQ.out,Do],au.out,av.out,N.out,aj.out,bd.out⟩):p:=h
theorem mC{p:Prop}(h:p:=by show World.ownsRow _ _ _ _ _ _ _;rw[show cZ .i64 (J++ [id])=cZ .i64 J++ [.int .i64 (id:Nat)] by simp[cZ]];exact N):p:=h
theorem kg{p:Prop}(h:p:=by have:=HN.out;omega):p:=h
theorem mD{p:Prop}(h:p:=by show World.ownsRow _ _ _ _ _ _ _;rw[show cZ .i64 (Q++ [k])=cZ .i64 Q++ [.int .i64 (k:Nat)] by simp[cZ]];exact af):p:=h
theorem kO{p:Prop}(h:p:=by obtain⟨q,hq⟩:=HQ.out;exact⟨_,by rw[hq];exact Dh _ _ _⟩):p:=h
theorem ln{p:Prop}(h:p:=by rw[AN];omega):p:=h
theorem mu{p:Prop}(h:p:=by rw[show(128:Int)=((128:Nat):Int) from rfl,u8_or_nat _ _ (by omega) (by omega),SW _ (by omega)];congr 1;omega):p:=h
theorem mG{p:Prop}(h:p:=by show _<=_;have h1:t.length≠0:=fun h=>a3.out (FK h);rw[HS.out,Aj];omega):p:=h
theorem lH{p:Prop}(h:p:=by rw[Df];omega):p:=h
theorem jn{p:Prop}(h:p:=by go_light;exact⟨k+1,q2+j,Bw z j D,by omega,aq,by go_num,by show _=_;rw[Ik,ai.out],Q.out,av.out,Y.out⟩):p:=h
theorem mT{p:Prop}(h:p:=by show _=_;unfold FD;rw[M.cells.2.2];rfl):p:=h
theorem kK{p:Prop}(h:p:=by obtain⟨es,z,h1,_⟩:=y.map;have h2:w4.heap[bo]? =some (.cells #[vT,vL] 53):=i;rw[e,h2]at h1;cases h1):p:=h
theorem nG{p:Prop}(h:p:=by unfold BH;rw[Az (show ¬s.length<=25 by have:=aR.out;omega)];simp):p:=h
theorem mo{p:Prop}(h:p:=by rw[hq];exact(Kept.refl _ _).drewN q):p:=h
theorem ku{p:Prop}(h:p:=by have:=hy.1;omega):p:=h
theorem kI{p:Prop}(h:p:=by obtain⟨A,n,c,ls,h1,h2,h3,h4,h5,h6,h7⟩:=hR;rw[h5,Dy,h3];omega):p:=h
theorem mR{p:Prop}(h:p:=by show _=_;rw[aa.out (by omega)];congr 1;omega):p:=h
theorem jP{p:Prop}(h:p:=by have h:=i;rw[BF]at h;exact h):p:=h
theorem jX{p:Prop}(h:p:=by have:=(Ae Y.out y hy).2;simp;omega):p:=h
theorem kz{p:Prop}(h:p:=by intro u hu;simp at hu;rcases hu with rfl|rfl|rfl|rfl<;>rfl):p:=h
theorem jL{p:Prop}(h:p:=by have h:=Y.out;rw[<-show T i=R from ah.out,<-show s=(T i).length from HS.out]at h;exact h):p:=h
theorem mj{p:Prop}(h:p:=by rw[hq];exact Dh _ _ _):p:=h
theorem nu{p:Prop}(h:p:=by simp[intOf]):p:=h
theorem ka{p:Prop}(h:p:=by have:=HF.out;omega):p:=h
theorem j7{p:Prop}(h:p:=by have:=Ae al x hx;exact⟨this.2,by omega⟩):p:=h
theorem lJ{p:Prop}(h:p:=by rw[GW];omega):p:=h
theorem jF{p:Prop}(h:p:=by have h:=HP.out k (by have:=HN.out;omega) HS.out J.out;rw[Aa al.out]at h;exact h):p:=h
theorem jY{p:Prop}(h:p:=by have:=Ae E x hx;exact⟨this.2,by omega⟩):p:=h
theorem mX{p:Prop}(h:p:=by show w.heap.size≠g;omega):p:=h
theorem nw{p:Prop}(h:p:=by simp[intOf];omega):p:=h
theorem nm{p:Prop}(h:p:=by simp[h]):p:=h
theorem kJ{p:Prop}(h:p:=by obtain⟨_,_,_,_,h3,_⟩:=am.out;exact h3):p:=h
theorem lW{p:Prop}(h:p:=by rw[HT.out,show cZ .u8 (T j++ls)=cZ .u8 (T j)++cZ .u8 ls by simp[cZ]];exact M):p:=h
theorem k8{p:Prop}(h:p:=by rw[<-Pe];exact Q3 (dZ HO.out (fun y hy=>hb.block y (Ae HO.out y hy).2)) k hk):p:=h
theorem jh{p:Prop}(h:p:=by go_light;exact⟨j+1,by omega,by first|rfl|go_num,a8.out,a4.out,aX.out,a7.out⟩):p:=h
theorem jy{p:Prop}(h:p:=by have h1:(i+1)*size<=q*size:=Fk size bb;rw[FJ,a7.out,<-HY.out]at h1;exact h1):p:=h
theorem nr{p:Prop}(h:p:=by simp[he]):p:=h
theorem nA{p:Prop}(h:p:=by simpa using h2):p:=h
theorem lN{p:Prop}(h:p:=by rw[HG.out];rfl):p:=h
theorem kr{p:Prop}(h:p:=by have:=hx.1;omega):p:=h
theorem mB{p:Prop}(h:p:=by show World.ownsRow _ _ _ _ _ _ _;rw[JD];exact Y):p:=h
theorem jm{p:Prop}(h:p:=by go_light;exact⟨k+1,by omega,by omega,by first|rfl|go_num,z.out,h.out _⟩):p:=h
theorem jQ{p:Prop}(h:p:=by have hr:=HR.out;rw[av.out.1 h]at hr;rw[Aa (fun h=>h rfl)]at hr;exact hr):p:=h
theorem jO{p:Prop}(h:p:=by have h:=bd.out;rw[ar]at h;have h2:=bR.out;rw[h]at h2;exact h2 (by simp)):p:=h
theorem kj{p:Prop}(h:p:=by have:=HQ.out;omega):p:=h
theorem km{p:Prop}(h:p:=by have:=HZ.out;omega):p:=h
theorem jE{p:Prop}(h:p:=by have h:=HE.out;rw[Aa (by simp),Ab (by have:=HM.out;omega)]at h;exact h):p:=h
theorem mO{p:Prop}(h:p:=by show _=_;rw[Aj,HL.out];rfl):p:=h
theorem mQ{p:Prop}(h:p:=by show _=_;rw[Aj,HP.out];rfl):p:=h
theorem jG{p:Prop}(h:p:=by have h:=HR.out;rw[Ab (.inr (.inl (HM.out.symm.trans Y)))]at h;exact h):p:=h
theorem mw{p:Prop}(h:p:=by rw[show(i:Int)*(size:Int)=(y:Int) by rw[HY.out];simp,Am _ (by omega)]):p:=h
theorem lA{p:Prop}(h:p:=by rw[Am _ (by have:=HZ.out;omega)];have:=HZ.out;unfold Fe at ab;omega):p:=h
theorem mP{p:Prop}(h:p:=by show _=_;rw[Aj,HP.out,Do]):p:=h
theorem mt{p:Prop}(h:p:=by rw[show T 0= [] from L.out];rfl):p:=h
theorem mM{p:Prop}(h:p:=by show _=_;omega):p:=h
theorem jt{p:Prop}(h:p:=by go_light;simp only[intOf];omega):p:=h
theorem jI{p:Prop}(h:p:=by have h:=HR.out;rw[Ih z]at h;rw[zY];exact h):p:=h
theorem jS{p:Prop}(h:p:=by have:2 ^ W<=2 ^ 14:=BQ (by omega) hW;omega):p:=h
theorem lX{p:Prop}(h:p:=by rw[Iz];omega):p:=h
theorem jJ{p:Prop}(h:p:=by have h:=HT.out rfl;rw[Cw (by rw[HQ.out];exact Ai _)]at h;exact h):p:=h
theorem jD{p:Prop}(h:p:=by have h:=HE.out;rw[Aa (by simp),Aa (by simp[HM.out])]at h;exact h):p:=h
theorem mJ{p:Prop}(h:p:=by show _<=gx;omega):p:=h
theorem lE{p:Prop}(h:p:=by rw[Az (by omega)];exact ay.out):p:=h
theorem kM{p:Prop}(h:p:=by obtain⟨p1,p2,p3⟩:=az h;have h2:=hT h;rw[p1,p2,p3]at h2;exact h2):p:=h
theorem jk{p:Prop}(h:p:=by go_light;exact⟨k+1,by omega,by first|rfl|go_num,HE.out,y.out _⟩):p:=h
theorem jl{p:Prop}(h:p:=by go_light;exact⟨k+1,by omega,by first|rfl|go_num,Z.out,J.out _⟩):p:=h
theorem j8{p:Prop}(h:p:=by have:=H9.out j;subst this;rfl):p:=h
theorem j9{p:Prop}(h:p:=by have:=H9.out z;subst this;rfl):p:=h
theorem lq{p:Prop}(h:p:=by rw[Ab (.inr (.inr (by rw[<-bb.out];exact h3)))]at hr;exact hr):p:=h
theorem lp{p:Prop}(h:p:=by rw[Ab (.inr (.inl (by rw[<-a4.out];exact h2)))]at hr;exact hr):p:=h
theorem lU{p:Prop}(h:p:=by rw[HP.out];exact iZ HO.out z1):p:=h
theorem mI{p:Prop}(h:p:=by show _<=_;omega):p:=h
theorem md{p:Prop}(h:p:=by rw[hT,Aj,<-show s2=(T j).length from HS.out,hn];exact rfl):p:=h
theorem mz{p:Prop}(h:p:=by show World.ownsRow _ _ _ _ _ _ _;rw[<-HR.out];exact Q.out):p:=h
theorem lk{p:Prop}(h:p:=by rw[AK];omega):p:=h
theorem jN{p:Prop}(h:p:=by have h:=b9.out (by rw[bg]);rw[bg,Nat.sub_sub]at h;exact h):p:=h
theorem mf{p:Prop}(h:p:=by rw[hT,Aj,<-show s=(T i).length from HS.out,hn];exact rfl):p:=h
theorem m9{p:Prop}(h:p:=by simp only[CC,List.map_cons,List.foldl_cons];rw[Qr];omega):p:=h
theorem kW{p:Prop}(h:p:=by rw[<-HJ.out,<-aR.out,I7,HL.out];exact byte_at s (k+m) Y):p:=h
theorem ml{p:Prop}(h:p:=by rw[hq];exact H.out.drewN q):p:=h
theorem lx{p:Prop}(h:p:=by rw[Aj,<-HP.out];simp;omega):p:=h
theorem jM{p:Prop}(h:p:=by have h:=ah.out;rw[Aa (fun h=>h rfl),aY.out]at h;exact h):p:=h
theorem jH{p:Prop}(h:p:=by have h:=HR.out;rw[Gp z]at h;exact h):p:=h
theorem kY{p:Prop}(h:p:=by rw[<-HS.out];rfl):p:=h
theorem lS{p:Prop}(h:p:=by rw[HO.out.cellAt i (by omega)];unfold cZ;rw[B0,hk];rfl):p:=h
theorem jf{p:Prop}(h:p:=by go_light;exact⟨i+1,s',rfl,rfl,by omega,Q.out,trivial⟩):p:=h
theorem jA{p:Prop}(h:p:=by have h1:=HN.out;have h2:=aP.out;rw[Aj,Bu,AN,AK];omega):p:=h
theorem jz{p:Prop}(h:p:=by have h1:=HC.out.cells.2.1;unfold GR;rw[h1];exact CA _):p:=h
theorem nH{p:Prop}(h:p:=by unfold EI;rw[Aa (by rw[e];decide)]):p:=h
theorem kT{p:Prop}(h:p:=by rcases hb2 with h|h<;>simp<;>omega):p:=h
theorem nk{p:Prop}(h:p:=by simp[cZ]):p:=h
theorem l8{p:Prop}(h:p:=by rw[e,hy]at hx;injection hx with hx;exact hne hx.symm):p:=h
theorem mp{p:Prop}(h:p:=by rw[hy,e]):p:=h
theorem lu{p:Prop}(h:p:=by rw[Ab hC]at hT;exact aQ.out _ _ hT.symm (by decide)):p:=h
theorem lj{p:Prop}(h:p:=by rw[<-j.out,Aj,HL.out,JJ];exact i):p:=h
theorem ki{p:Prop}(h:p:=by have:=HP.out;omega):p:=h
theorem jR{p:Prop}(h:p:=by have hr:=HR.out;rw[av.out.2 h,Ab h]at hr;exact hr):p:=h
theorem ke{p:Prop}(h:p:=by have:=HM.out;simp;omega):p:=h
theorem jT{p:Prop}(h:p:=by have:2 ^ m<=2 ^ 8:=BQ (by omega) (by omega);omega):p:=h
theorem na{p:Prop}(h:p:=by simp;have:=ac.out;omega):p:=h
theorem ng{p:Prop}(h:p:=by simp;have:=an.out;omega):p:=h
theorem iW{p:Prop}(h:p:=by cases M with|true=>rfl|false=>exact absurd rfl Y):p:=h
theorem nF{p:Prop}(h:p:=by subst hR;exact⟨hb,fun _=>rfl,fun h=>absurd h he⟩):p:=h
theorem jK{p:Prop}(h:p:=by have h:=Q.out.cellAt I (by omega);rw[h];exact hy):p:=h
theorem nE{p:Prop}(h:p:=by subst hE;exact⟨hb,fun _=>rfl,fun h=>absurd h i⟩):p:=h
theorem mq{p:Prop}(h:p:=by rw[hz.2,<-E];exact G.setErr e2):p:=h
theorem jU{p:Prop}(h:p:=by have:=(Ae HO.out x hx).1;omega):p:=h
theorem jV{p:Prop}(h:p:=by have:=(Ae HO.out y hy).1;omega):p:=h
theorem jW{p:Prop}(h:p:=by have:=(Ae HO.out z hz).1;omega):p:=h
theorem nz{p:Prop}(h:p:=by simpa using h):p:=h
theorem nj{p:Prop}(h:p:=by simp[Program.elem,ht]):p:=h
theorem lO{p:Prop}(h:p:=by rw[HL.out];exact Ai _):p:=h
theorem lV{p:Prop}(h:p:=by rw[HQ.out];exact Ai _):p:=h
theorem lc{p:Prop}(h:p:=by rw[<-a4.out];exact h2):p:=h
theorem ld{p:Prop}(h:p:=by rw[<-bb.out];exact h3):p:=h
theorem lP{p:Prop}(h:p:=by rw[HM.out];exact Ai _):p:=h
theorem lR{p:Prop}(h:p:=by rw[HN.out];omega):p:=h
theorem kV{p:Prop}(h:p:=by rw[<-HE.out];rfl):p:=h
theorem kq{p:Prop}(h:p:=by have:=h.mi.map.lt;simp;omega):p:=h
theorem mH{p:Prop}(h:p:=by show _<=_;have:=aR.out;omega):p:=h
theorem kL{p:Prop}(h:p:=by obtain⟨g,c,hv,_⟩:=h.ro.form z;exact⟨g,c,hv⟩):p:=h
theorem kX{p:Prop}(h:p:=by rw[<-HP.out];exact j):p:=h
theorem mg{p:Prop}(h:p:=by rw[h];exact HR.out.drewN q1):p:=h
theorem kP{p:Prop}(h:p:=by obtain⟨q,rfl⟩:=J.out;exact⟨_,by rw[G,Dh]⟩):p:=h
theorem lT{p:Prop}(h:p:=by rw[HP.out];exact hp):p:=h
theorem mN{p:Prop}(h:p:=by show _=_;rw[Aj,HI.out];rfl):p:=h
theorem mK{p:Prop}(h:p:=by show _<=w9.heap.size;omega):p:=h
theorem ny{p:Prop}(h:p:=by simpa using ab):p:=h
theorem lK{p:Prop}(h:p:=by rw[HE.out];rfl):p:=h
theorem my{p:Prop}(h:p:=by rw[str_eq];simpa using he):p:=h
theorem k7{p:Prop}(h:p:=by rw[<-L4,Ar,hy];rfl):p:=h
theorem mr{p:Prop}(h:p:=by rw[j];omega):p:=h
theorem mV{p:Prop}(h:p:=by show b≠w8.heap.size;omega):p:=h
theorem mS{p:Prop}(h:p:=by show _=_;simp):p:=h
theorem nD{p:Prop}(h:p:=by simpa using j):p:=h
theorem lz{p:Prop}(h:p:=by rw[Aj];simp;omega):p:=h
theorem nC{p:Prop}(h:p:=by simpa using i):p:=h
theorem m4{p:Prop}(h:p:=by simp at hl):p:=h
theorem l9{p:Prop}(h:p:=by rw[hR,<-z];exact HC.out):p:=h
theorem ju{p:Prop}(h:p:=by go_light;simp[GC];omega):p:=h
theorem lY{p:Prop}(h:p:=by rw[Mj];exact h.1):p:=h
theorem mh{p:Prop}(h:p:=by rw[he];exact ht):p:=h
theorem lm{p:Prop}(h:p:=by rw[AN,AK];omega):p:=h
theorem mW{p:Prop}(h:p:=by show g≠gb;omega):p:=h
theorem ly{p:Prop}(h:p:=by rw[Aj,Do];omega):p:=h
end
open Go.Proofs.Tryz
variable{B X b base g i k l n s x:Nat}{a c w:World}{p:Addr}{u:Value}{o:Obj}{e t:TypeId}{xs:List Value}{arr:Array Value}{ls:List Nat}
section
open Go Go.RowKit
theorem Aa:type_of% @if_neg:=@if_neg
theorem Ab:type_of% @if_pos:=@if_pos
theorem Ae:type_of% @World.ownsRow.lt:=@World.ownsRow.lt
theorem Ag:type_of% @Below.refl:=@Below.refl
theorem Ai:type_of% @Nat.le_refl:=@Nat.le_refl
theorem Aj:type_of% @List.length_append:=@List.length_append
theorem Ak:type_of% @Below.drew:=@Below.drew
theorem Am:type_of% @IntWalk.i64_in:=@IntWalk.i64_in
theorem Aq:type_of% @World.ownsRow_nil:=@World.ownsRow_nil
theorem Ar:type_of% @List.getD_eq_getElem?_getD:=@List.getD_eq_getElem?_getD
theorem Aw:type_of% @decide_eq_true:=@decide_eq_true
theorem Az:type_of% @decide_eq_false:=@decide_eq_false
theorem AE:type_of% @List.getElem?_eq_getElem:=@List.getElem?_eq_getElem
theorem AI:type_of% @congrArg:=@congrArg
theorem AJ:type_of% @Below.heap_setCell:=@Below.heap_setCell
theorem AK:type_of% @List.length_drop:=@List.length_drop
theorem AN:type_of% @List.length_take:=@List.length_take
theorem AV:type_of% @bodyPost_ret:=@bodyPost_ret
theorem AY:type_of% @Nat.le_trans:=@Nat.le_trans
theorem Ba:type_of% @Nat.zero_le:=@Nat.zero_le
theorem Be:type_of% @List.mem_of_mem_drop:=@List.mem_of_mem_drop
theorem Br:type_of% @Ne.symm:=@Ne.symm
theorem Bu:type_of% @List.length_cons:=@List.length_cons
theorem BD:type_of% @IntKind.wrap_u64:=@IntKind.wrap_u64
theorem BF:type_of% @Nat.zero_add:=@Nat.zero_add
theorem BK:type_of% @List.mem_cons:=@List.mem_cons
theorem BN:type_of% @List.mem_append:=@List.mem_append
theorem BP:type_of% @List.mem_of_getElem?:=@List.mem_of_getElem?
theorem BQ:type_of% @Nat.pow_le_pow_right:=@Nat.pow_le_pow_right
theorem BR:type_of% @List.take_of_length_le:=@List.take_of_length_le
theorem BY:type_of% @Nat.lt_irrefl:=@Nat.lt_irrefl
theorem BZ:type_of% @List.mem_of_mem_take:=@List.mem_of_mem_take
theorem B0:type_of% @List.getElem?_map:=@List.getElem?_map
theorem Ca:type_of% @Below.heap_alloc:=@Below.heap_alloc
theorem Cg:type_of% @List.length_map:=@List.length_map
theorem Ch:type_of% @List.getElem?_eq_some_iff:=@List.getElem?_eq_some_iff
theorem Cq:type_of% @Calls.quiet_of_same:=@Calls.quiet_of_same
theorem Cw:type_of% @List.drop_of_length_le:=@List.drop_of_length_le
theorem CA:type_of% @Int.toNat_natCast:=@Int.toNat_natCast
theorem CT:type_of% @Nat.add_zero:=@Nat.add_zero
theorem CU:type_of% @List.drop_eq_getElem_cons:=@List.drop_eq_getElem_cons
theorem CV:type_of% @Bool.and_eq_true:=@Bool.and_eq_true
theorem Df:type_of% @beq_eq_false_iff_ne:=@beq_eq_false_iff_ne
theorem Dh:type_of% @World.drewN_drewN:=@World.drewN_drewN
theorem Do:type_of% @List.length_replicate:=@List.length_replicate
theorem Dw:type_of% @List.mem_singleton:=@List.mem_singleton
theorem DV:type_of% @List.map_cons:=@List.map_cons
theorem Em:type_of% @Nat.lt_of_lt_of_le:=@Nat.lt_of_lt_of_le
theorem Ew:type_of% @results_none:=@results_none
theorem EF:type_of% @Nat.mul_one:=@Nat.mul_one
theorem EG:type_of% @List.take_add_one:=@List.take_add_one
theorem ER:type_of% @Nat.pow_succ:=@Nat.pow_succ
theorem ES:type_of% @List.mem_range:=@List.mem_range
theorem ET:type_of% @List.mem_map:=@List.mem_map
theorem EU:type_of% @List.length_nil:=@List.length_nil
theorem Fc:type_of% @Nat.add_mul:=@Nat.add_mul
theorem zY:type_of% @List.append_assoc:=@List.append_assoc
theorem Fj:type_of% @Nat.sub_self:=@Nat.sub_self
theorem Fk:type_of% @Nat.mul_le_mul_right:=@Nat.mul_le_mul_right
theorem Fl:type_of% @List.append_nil:=@List.append_nil
theorem Fm:type_of% @Classical.byContradiction:=@Classical.byContradiction
theorem Fu:type_of% @List.mem_cons_self:=@List.mem_cons_self
theorem Fv:type_of% @List.mem_cons_of_mem:=@List.mem_cons_of_mem
theorem Fw:type_of% @ByteArray.toList_eq:=@ByteArray.toList_eq
theorem FJ:type_of% @Nat.succ_mul:=@Nat.succ_mul
theorem FK:type_of% @List.eq_nil_of_length_eq_zero:=@List.eq_nil_of_length_eq_zero
theorem FL:type_of% @Bool.eq_false_iff:=@Bool.eq_false_iff
theorem GD:type_of% @Option.getD_some:=@Option.getD_some
theorem GE:type_of% @Nat.two_pow_pos:=@Nat.two_pow_pos
theorem GF:type_of% @List.nil_append:=@List.nil_append
theorem GG:type_of% @List.map_nil:=@List.map_nil
theorem GT:type_of% @Nat.mul_le_mul:=@Nat.mul_le_mul
theorem GU:type_of% @List.sum_cons:=@List.sum_cons
theorem GV:type_of% @List.getElem?_eq_none:=@List.getElem?_eq_none
theorem GW:type_of% @IntKind.wrap_u8':=@IntKind.wrap_u8'
theorem GX:type_of% @Array.getElem?_setIfInBounds:=@Array.getElem?_setIfInBounds
theorem Hg:type_of% @UInt8.toNat_lt:=@UInt8.toNat_lt
theorem Hh:type_of% @Nat.div_le_self:=@Nat.div_le_self
theorem Hi:type_of% @List.getElem_mem:=@List.getElem_mem
theorem Hj:type_of% @List.getElem?_append_left:=@List.getElem?_append_left
theorem Hk:type_of% @List.drop_zero:=@List.drop_zero
theorem Iq:type_of% @List.range_succ:=@List.range_succ
theorem Ir:type_of% @List.pairwise_cons:=@List.pairwise_cons
theorem Is:type_of% @List.map_append:=@List.map_append
theorem Iu:type_of% @List.length_pos_iff:=@List.length_pos_iff
theorem Iv:type_of% @List.getElem?_take:=@List.getElem?_take
theorem Iw:type_of% @List.flatMap_cons:=@List.flatMap_cons
theorem Ix:type_of% @List.cons_append:=@List.cons_append
theorem Iy:type_of% @List.all_eq_true:=@List.all_eq_true
theorem Iz:type_of% @IntKind.wrap_u32':=@IntKind.wrap_u32'
theorem IB:type_of% @Bool.false_and:=@Bool.false_and
theorem I5:type_of% @List.take_append_drop:=@List.take_append_drop
theorem I6:type_of% @List.sum_append:=@List.sum_append
theorem I7:type_of% @List.getElem?_drop:=@List.getElem?_drop
theorem I8:type_of% @IntWalk.wrap64_in:=@IntWalk.wrap64_in
theorem I9:type_of% @Bool.eq_iff_iff:=@Bool.eq_iff_iff
theorem JR:type_of% @Nat.div_div_eq_div_mul:=@Nat.div_div_eq_div_mul
theorem JT:type_of% @List.map_congr_left:=@List.map_congr_left
theorem JU:type_of% @List.getElem?_append_right:=@List.getElem?_append_right
theorem JV:type_of% @Int.eq_ofNat_of_zero_le:=@Int.eq_ofNat_of_zero_le
theorem JW:type_of% @Decidable.byContradiction:=@Decidable.byContradiction
theorem KE:type_of% @List.length_singleton:=@List.length_singleton
theorem KF:type_of% @List.flatMap_append:=@List.flatMap_append
theorem Mg:type_of% @Nat.mod_two_eq_zero_or_one:=@Nat.mod_two_eq_zero_or_one
theorem Mh:type_of% @Nat.and_two_pow_sub_one_eq_mod:=@Nat.and_two_pow_sub_one_eq_mod
theorem Mi:type_of% @Nat.add_sub_cancel_left:=@Nat.add_sub_cancel_left
theorem Mj:type_of% @Array.size_setIfInBounds:=@Array.size_setIfInBounds
theorem Mk:type_of% @Array.getElem?_eq_getElem:=@Array.getElem?_eq_getElem
theorem Od:type_of% @List.length_eq_zero_iff:=@List.length_eq_zero_iff
abbrev aO(w w':World):Prop:=Below w w w'
end
open Go.Lib (hid)
set_option maxHeartbeats 1000000
set_option maxRecDepth 100000
namespace Mem
open Go.RowKit
theorem below_drewN(h:Below B a w)(n:Nat):Below B a (w.drewN n):=⟨h.os,h.tape,h.output,h.size,h.block⟩
theorem kZ(hp:B<=p.block)(h:Below B a w):Below B a (w.setCell p u):=h.setCell hp u
theorem lZ(hB:B<=w.heap.size)(h:Below B a w):Below B a (w.alloc o):=h.alloc hB o
theorem bZ(h:aO a w):aO a (w.alloc o):=h.alloc h.size o
theorem eZ{b:World}(h:aO b c)(k:aO a b):aO a c:=k.trans (h.mono k.size)
theorem CM{b:World}(h:aO b c)(hB:B<=b.heap.size)(k:Below B a b):Below B a c:=k.trans (h.mono hB)
theorem qZ(h:Below B a w)(hp:B<=p.block:=by first|(simp;done)|(simp;omega)|omega|(simp at *;omega)):Below B a (w.setCell p u):=h.setCell hp u
theorem belA(h:Below B a w)(hB:B<=w.heap.size:=by first|(simp;done)|(simp;omega)|omega|(simp at *;omega)):Below B a (w.alloc o):=h.alloc hB o
theorem rZ{b:World}(h:aO b c)(k:Below B a b)(hB:B<=b.heap.size:=by first|(simp;done)|(simp;omega)|omega|(simp at *;omega)):Below B a c:=k.trans (h.mono hB)
theorem El{a b:Bool}(h:a=b):Ending.returned (.bool a)= .returned (.bool b):=by rw[h]
theorem Ko{k:IntKind}{a b:Int}(h:a=b):Ending.returned (.int k a)= .returned (.int k b):=by rw[h]
def Blk(w:World)(g:Nat)(t:TypeId)(cs:Array Value):Prop:=w.heap[g]? =some (.cells cs t (0,0))
section
variable {w w':World} {g:Nat} {t:TypeId} {cs:Array Value}
theorem Blk.lt(h:Blk w g t cs):g<w.heap.size:=by
 unfold Blk at h;rcases Nat.lt_or_ge g w with k|k
 ·exact k
 ·rw[Array.getElem?_eq_none k]at h;cases h
theorem Blk.cell(h:Blk w g t cs)(i:Nat):w.cell? ⟨g,i,none⟩=cs[i]? :=by unfold Blk at h;simp[World.cell?,h]
def iP:List Value->Nat->Option Value
 |[],_=>none
 |x::_,0=>some x
 |_::l,n+1=>iP l n
theorem Blk.iO{l:List Value}(h:Blk w g t l.toArray)(i:Nat){v:Value}(e:iP l i=some v:=by exact rfl):w.cell? ⟨g,i,none⟩=some v:=by
 rw[h.cell i];simp only[List.getElem?_toArray];clear h;induction l generalizing i with
 |nil=>cases e
 |cons x l ih=>cases i with
  |zero=>exact e
  |succ i=>exact ih i e
theorem Blk.frozen(h:Blk w g t cs)(i:Nat):w.frozen? ⟨g,i,none⟩=false:=by unfold Blk at h;simp[World.frozen?,h]
theorem Blk.six{a0 a1 a2 a3 a4 a5:Value}(h:Blk w g t #[a0,a1,a2,a3,a4,a5]):w.cell? ⟨g,0,none⟩=some a0/\w.cell? ⟨g,1,none⟩=some a1/\w.cell? ⟨g,2,none⟩=some a2/\w.cell? ⟨g,3,none⟩=some a3/\w.cell? ⟨g,4,none⟩=some a4/\w.cell? ⟨g,5,none⟩=some a5:=⟨h.cell 0,h.cell 1,h.cell 2,h.cell 3,h.cell 4,h.cell 5⟩
theorem Blk.sixf(h:Blk w g t cs):w.frozen? ⟨g,0,none⟩=false/\w.frozen? ⟨g,1,none⟩=false/\w.frozen? ⟨g,2,none⟩=false/\w.frozen? ⟨g,3,none⟩=false/\w.frozen? ⟨g,4,none⟩=false/\w.frozen? ⟨g,5,none⟩=false:=⟨h.frozen 0,h.frozen 1,h.frozen 2,h.frozen 3,h.frozen 4,h.frozen 5⟩
theorem Blk.made(w:World)(t:TypeId)(cs:Array Value):Blk (w.alloc (.cells cs t)) w t cs:=heap_alloc_new w _
theorem Blk.made_at(w:World)(t:TypeId)(cs:Array Value)(hg:g=w.heap.size):Blk (w.alloc (.cells cs t)) g t cs:=by subst hg;exact Blk.made w t cs
theorem Blk.drew(h:Blk w g t cs):Blk w.drew g t cs:=h
theorem Blk.drewN(h:Blk w g t cs)(n:Nat):Blk (w.drewN n) g t cs:=h
theorem Blk.alloc(h:Blk w g t cs)(o:Obj):Blk (w.alloc o) g t cs:=(Ca w o g h.lt).trans h
theorem Blk.set(h:Blk w g t cs)(i:Nat)(u:Value):Blk (w.setCell ⟨g,i,none⟩ u) g t (cs.setIfInBounds i u):=by unfold Blk at h ⊢;simp[World.setCell,Array.getElem?_modify,h]
theorem Blk.far(h:Blk w g t cs)(hp:g≠p.block)(u:Value):Blk (w.setCell p u) g t cs:=(AJ w p u g hp).trans h
theorem Blk.below(h:Blk w g t cs)(hb:Below B w w')(hg:g<B):Blk w' g t cs:=(hb.block g hg).trans h
theorem Blk.step(h:Blk w g t cs)(hb:aO w w'):Blk w' g t cs:=h.below hb h.lt
theorem Blk.grown{row:Option Nat}(h:Blk w g t cs)(hb:w.grownBy w' row)(hg:some g≠row):Blk w' g t cs:=(hb.block g h.lt hg).trans h
theorem Blk.apart{g':Nat}{t':TypeId}{i:Array Value}(h:Blk w g t cs)(h':Blk w g' t' i)(j:t≠t'):g≠g':=by intro e;subst e;unfold Blk at h h';rw[h]at h';injection h' with h';injection h' with _ ht;exact j ht
end
def Wf(A:Option Addr)(n c:Nat):Prop:=(A=none->n=0/\c=0)/\n<=c
theorem Wf.nil:Wf none 0 0:=⟨fun _=>⟨rfl,rfl⟩,Ai _⟩
theorem Wf.some{a:Addr}{c:Nat}(h:n<=c):Wf (Option.some a) n c:=⟨(fun h=>by cases h),h⟩
def Row(w:World)(B:Nat)(A:Option Addr)(n s:Nat)(f:Nat->Nat->Value):Prop:=
 0<n->∃b off,A=some ⟨b,off,none⟩/\b<B/\∀i j,i<n->j<s->w.cell? ⟨b,off+(i*s+j),none⟩=some (f i j)
section
variable {w w':World} {B B' n s:Nat} {A:Option Addr} {f g:Nat->Nat->Value}
theorem Row.zero:Row w B A 0 s f:=fun h=>absurd h kR
theorem Row.keep(h:Row w B A n s f)(hk:∀p:Addr,p.block<B->w'.cell? p=w.cell? p):Row w' B A n s f:=fun hn=>by obtain⟨b,y,e,hb,hc⟩:=h hn;exact⟨b,y,e,hb,fun i j hi hj=>(hk _ hb).trans (hc i j hi hj)⟩
theorem Row.below(h:Row w B A n s f)(hb:Below B w w'):Row w' B A n s f:=h.keep fun _ hp=>hb.cell hp
theorem Row.mono(h:Row w B A n s f)(hB:B<=B'):Row w B' A n s f:=fun hn=>by obtain⟨b,i,e,hb,hc⟩:=h hn;exact⟨b,i,e,kR,hc⟩
theorem Row.drewN(h:Row w B A n s f)(k:Nat):Row (w.drewN k) B A n s f:=h
theorem Row.congr(h:Row w B A n s f)(z:∀i j,i<n->j<s->f i j=g i j):Row w B A n s g:=fun hn=>by obtain⟨b,y,e,hb,hc⟩:=h hn;exact⟨b,y,e,hb,fun i j hi hj=>by rw[<-z i j hi hj];exact hc i j hi hj⟩
theorem Row.alloc(h:Row w B A n s f)(hB:B<=w.heap.size)(o:Obj):Row (w.alloc o) B A n s f:=h.keep fun p hp=>World.cell?_alloc_lt (w:=w) (a:=p) (o:=o) kR
theorem Row.of_blk{cs:Array Value}(h:Blk w b t cs)(hB:b<B)(hf:∀i j,i<n->j<s->cs[i*s+j]? =some (f i j)):Row w B (some ⟨b,0,none⟩) n s f:=
 fun _=>⟨b,0,rfl,hB,fun i j hi hj=>by rw[BF,h.cell];exact hf i j hi hj⟩
theorem Row.of_own{v:Value}{c:Nat}(h:w.ownsRow base e s v n xs)(hv:v= .slice A n c)(hf:∀i j,i<n->j<s->xs[i*s+j]? =some (f i j)):Row w w A n s f:=fun hn=>by
 rcases h.2 with ⟨_,h0⟩|⟨g,E,cur,z,_,hh,J,_,G,y⟩
 ·omega
 ·rw[hv]at z;injection z with e1 e2 e3;refine⟨g,0,e1,Blk.lt hh,fun i j hi hj=> ?_⟩;rw[BF,Blk.cell hh];have:=hf i j hi hj;rw[<-y,Iv]at this;split at this
  ·simpa using this
  ·cases this
end
theorem aZ{v:Value}(h:w.ownsRow base e s v n xs):∃A c,v= .slice A n c:=by
 rcases h.2 with ⟨rfl,rfl⟩|⟨g,i,cur,rfl,_⟩
 ·exact⟨_,_,rfl⟩
 ·exact⟨_,_,rfl⟩
end Mem
namespace Canon
open Go.RowKit Mem
def cnt(ls:List Nat)(l:Nat):Nat:=ls.countP (fun x=>decide (x=l))
def cn(ls:List Nat)(l:Nat):Nat:=if l=0 then 0 else cnt ls l
theorem I2(l:Nat):cnt [] l=0:=rfl
theorem Fy(ls:List Nat)(x l:Nat):cnt (ls++ [x]) l=cnt ls l+if x=l then 1 else 0:=by unfold cnt;rw[List.countP_append];by_cases h:x=l<;>simp[h]
theorem KQ(ls:List Nat)(l:Nat):cnt ls l<=ls.length:=List.countP_le_length
theorem IG(ls:List Nat)(l:Nat):cn ls l<=ls.length:=by
 unfold cn;split
 ·omega
 ·exact KQ ls l
theorem FF{α:Type}{l:List α}{x:α}(h:l[k]? =some x):l.take (k+1)=l.take k++ [x]:=by rw[EG,h];rfl
def CE(ls:List Nat):Nat->Nat
 |0=>0
 |l+1=>CE ls l+cn ls l*2 ^ (15-l)
def EP(ls:List Nat):Nat->Nat
 |0=>0
 |l+1=>EP ls l+cn ls l
def EC(ls:List Nat):Nat:=(ls.map fun x=>if x=0 then 0 else 2 ^ (15-x)).sum
def used(ls:List Nat):Nat:=ls.countP (fun x=>decide (x≠0))
theorem Rb(x:Nat)(ls:List Nat)(l:Nat):cn (x :: ls) l=cn ls l+if x≠0/\x=l then 1 else 0:=by
 unfold cn cnt;by_cases hl:l=0
 ·subst hl;simp
 ·rw[Aa hl,Aa hl,List.countP_cons];by_cases hx:x=l
  ·simp[hx,hl]
  ·simp[hx]
theorem PG:∀l,CE [] l=0
 |0=>rfl
 |l+1=>by rw[CE,PG l];simp[cn,I2]
theorem Ps:∀l,EP [] l=0
 |0=>rfl
 |l+1=>by rw[EP,Ps l];simp[cn,I2]
theorem zW(x:Nat)(ls:List Nat):∀l,CE (x :: ls) l=CE ls l+if x≠0/\x<l then 2 ^ (15-x)else 0
 |0=>by simp[CE]
 |l+1=>by
  rw[CE,zW x ls l,CE,Rb,Fc];by_cases h0:x=0
  ·simp[h0]
  ·by_cases h1:x=l
   ·subst h1;simp[h0];omega
   ·by_cases h2:x<l
    ·have:x<l+1:=kR;simp[h0,h1,h2,this];omega
    ·have:¬x<l+1:=kR;simp[h1,h2,this]
theorem SG(x:Nat)(ls:List Nat):∀l,EP (x :: ls) l=EP ls l+if x≠0/\x<l then 1 else 0
 |0=>by simp[EP]
 |l+1=>by
  rw[EP,SG x ls l,EP,Rb];by_cases h0:x=0
  ·simp[h0]
  ·by_cases h1:x=l
   ·subst h1;simp[h0];omega
   ·by_cases h2:x<l
    ·have:x<l+1:=kR;simp[h0,h1,h2,this];omega
    ·have:¬x<l+1:=kR;simp[h1,h2,this]
theorem LH:∀ (ls:List Nat),(∀x∈ls,x<=15)->CE ls 16=EC ls
 | [],_=>by rw[PG];rfl
 |x :: ls,h=>by
  have h1:=h x mY;rw[zW,LH ls (fun y hy=>h y (by simp[hy]))];unfold EC;rw[DV,GU];by_cases h0:x=0
  ·simp[h0]
  ·have:x<16:=kR;simp[h0,this];omega
theorem LU:∀ (ls:List Nat),(∀x∈ls,x<=15)->EP ls 16=used ls
 | [],_=>by rw[Ps];rfl
 |x :: ls,h=>by
  have h1:=h x mY;rw[SG,LU ls (fun y hy=>h y (by simp[hy]))];unfold used;rw[List.countP_cons];by_cases h0:x=0
  ·simp[h0]
  ·have:x<16:=kR;simp[h0,this]
def okB(ls:List Nat):Bool:=decide (ls.length<=300)&&ls.all (fun x=>decide (x<=15))&&(decide (used ls=0) || decide (used ls=1/\cnt ls 1=1) || decide (EC ls=32768))
def fst(ls:List Nat):Nat->Nat
 |0=>0
 |l+1=>2*(fst ls l+cn ls l)
def code(ls:List Nat)(s:Nat):Nat:=let x:=ls.getD s 0;if x=0 then 0 else fst ls x+cnt (ls.take s) x
def codes(ls:List Nat):List Nat:=(List.range ls.length).map (code ls)
theorem KJ(ls:List Nat):∀l,fst ls l+2*ls.length<=2 ^ (l+1)*ls.length
 |0=>by simp[fst]
 |l+1=>by
  have h1:=KJ ls l;have h2:=IG ls l;have h3:2 ^ (l+1+1)*ls.length=2*(2 ^ (l+1)*ls.length):=by rw[ER 2 (l+1),Nat.mul_comm (2 ^ (l+1)) 2,Nat.mul_assoc]
  rw[fst,h3];omega
def jZ(k:IntKind)(l:List Nat):Nat->Nat->Value:=fun i _=> .int k (l.getD i 0:Nat)
def Cnts(f:Nat->Nat)(n:Nat)(arr:Array Value):Prop:=arr.size=n/\∀l,l<n->arr[l]? =some (.int .i64 (f l))
theorem Cnts.set{f g:Nat->Nat}{v:Nat}(h:Cnts f n arr)(hv:g x=v)(ho:∀l,l≠x->g l=f l):Cnts g n (arr.setIfInBounds x (.int .i64 (v:Nat))):=by
 refine⟨lY,fun l hl=> ?_⟩;rw[GX];by_cases e:x=l
 ·subst e;rw[Ab rfl,Ab ko,hv]
 ·rw[Aa e,h.2 l hl,ho l (Br e)]
end Canon
namespace Canon
open Go.RowKit Mem
theorem WL{cs:Array Value}{v:Value}(h:cs[i]? =some v):cs.setIfInBounds i v=cs:=by
 apply Array.ext_getElem?
 intro j;rw[GX];split
 ·rename_i e;subst e;obtain⟨hi,_⟩:=Array.getElem?_eq_some_iff.1 h;rw[Ab hi,h]
 ·rfl
theorem LJ{cs:Array Value}:∀ (vs:List Value) (o:Nat) (w:World),Blk w g t cs->(∀j v,vs[j]? =some v->cs[o+j]? =some v)->Blk (w.setCells g o vs) g t cs
 | [],_,_,h,_=>h
 |v :: vs,o,w,h,hc=>by
  refine LJ vs (o+1) _ ?_ (fun j u hu=>by rw[show o+1+j=o+(j+1) by omega];exact hc (j+1) u hu);have:=h.set o v
  rwa [WL (by simpa using hc 0 v rfl)]at this
theorem Jd(hB:B<=g):∀ (vs:List Value) (o:Nat) (w:World),Below B a w->Below B a (w.setCells g o vs)
 | [],_,_,h=>h
 |_ :: vs,o,_,h=>Jd hB vs (o+1) _ (kZ (p:=⟨g,o,none⟩) hB h)
theorem JZ{cs:Array Value}(h:Blk w g t cs):w.there g 0 cs.size:=fun j hj=>by rw[BF];exact⟨by rw[h.cell,Mk hj];rfl,h.frozen j⟩
theorem Cnts.one{f:Nat->Nat}(h:Cnts f n arr):arr.all (·.oneCell')=true:=by rw[Array.all_eq_true];intro i hi;have:=h.2 i ko;rw[Mk hi]at this;injection this with this;rw[this];rfl
theorem Cnts.zero:Cnts (fun _=>0) 16 #[iT,iT,iT,iT,iT,iT,iT,iT,iT,iT,iT,iT,iT,iT,iT,iT]:=by
 refine⟨rfl,fun l hl=> ?_⟩;have:l=0∨l=1∨l=2∨l=3∨l=4∨l=5∨l=6∨l=7∨l=8∨l=9∨l=10∨l=11∨l=12∨l=13∨l=14∨l=15:=kR
 rcases this with rfl|rfl|rfl|rfl|rfl|rfl|rfl|rfl|rfl|rfl|rfl|rfl|rfl|rfl|rfl|rfl<;>rfl
theorem results_cell_tmp{P:Program}{fn:Func}{p q:Tmp}{ty:TypeId}(h:fn.results=#[.cell p ty, .tmp q])(i:Array Value)(w:World)(g:Nat)(t:TypeId)(cs:Array Value)(d:TypeDesc)(u:Value)
 (hp:i.getD p undef= .pointer (some ⟨g,0,none⟩))(hq:i.getD q undef=u)(hg:Blk w g t cs)
 (hu:P.underlying ty=some d)(hd:(match d with| .struct _| .array _ _=>true|_=>false)=true)(hi:(P.info? ty).map (·.size)=some cs.size):
 (results fn i).run P w= .ok (.tuple #[.agg cs,u]) w:=by
 have j:i[p]?.getD undef= .pointer (some ⟨g,0,none⟩):=by simpa using hp
 have y:i[q]?.getD undef=u:=by simpa using hq
 simp[results,h,j,y,asAddr,run_loadVar_row w g t ty cs (0,0) d hg hu hd hi]
theorem Je:(prog.info? 442).map (·.size)=some 16:=kG
def Ce(ls:List Nat):Bool:=decide (ls.length<=300)&&ls.all (fun x=>decide (x<=15))
def Vy(ls:List Nat)(w:World)(e:Ending)(w':World):Prop:=
 ∃ (arr:Array Value) (f:Nat->Nat),e= .returned (.tuple #[.agg arr, .bool (Ce ls)])/\Cnts f 16 arr/\(∀l,f l<=300)/\(Ce ls=true->f=cn ls)/\aO w w'
theorem CD{A:Option Addr}{k:IntKind}(h:Row w B A n 1 (jZ k ls))(hn:ls.length=n)(hi:i<n):
 ∃b j x,A=some ⟨b,j,none⟩/\b<B/\ls[i]? =some x/\w.cell? ⟨b,j+i,none⟩=some (.int k (x:Nat)):=by
 obtain⟨b,j,e,hb,hc⟩:=h kR;have hl:i<ls.length:=kR
 have h1:=hc i 0 hi kR;simp only[jZ,Nat.mul_one,Nat.add_zero,List.getD_eq_getElem?_getD,List.getElem?_eq_getElem hl,Option.getD_some]at h1;exact⟨b,j,ls[i],e,hb,AE hl,h1⟩
theorem Sq(w:World)(A:Option Addr)(n c:Nat)(ls:List Nat)(hn:ls.length=n)(hN:n<=9223372036854775807)(ha:Row w w A n 1 (jZ .u8 ls)):
 Calls prog 349 #[.slice A n c] w (Vy ls w):=by
 have HN:=hid hn;clear hn;by_cases aw:n<=300
 ·have hd:=iR (300<n)
  go_enter func349,ntmps349;go_wp2_with fail;go_loopw [12] (fun i wr=>∃ (k:Nat) (arr:Array Value),k<=n/\i= .int .i64 k/\Blk wr w 442 arr/\Hid (Cnts (cnt (ls.take k)) 16 arr)/\Hid (∀x∈ls.take k,x<=15)/\aO w wr) (fun i _=>n-(intOf i).toNat)
  case atStart=>exact⟨0,_,kR,rfl,Blk.made _ _ _,Cnts.zero,fun x hx=>by simp at hx,bZ (Ag _ _)⟩
  case round=>
   obtain⟨k,arr,hk,rfl,blk,G,ak,N⟩:=hrel;have ac:(prog.info? 442).map (·.size)=some arr.size:=(by rw[G.out.1];exact Je);have HI:=hid ac;clear ac;have ar:=blk.frozen 0;by_cases av:k<n
   ·obtain⟨b,az,x,rfl,ay,hx,c0⟩:=CD (ha.below N) HN.out av;have ai:=FF hx;have HX:=hid hx;have ag:=hid ai;clear hx ai;by_cases an:15<x
    ·have J:Ce ls=false:=(by unfold Ce;have:ls.all (fun x=>decide (x<=15))=false:=(by rw[List.all_eq_false];exact⟨x,BP HX.out,by simpa using an⟩);rw[this,Bool.and_false]);have HB:=hid J;clear J
     go_wp2_with(first
      |(refine wpList_load_row rfl 442 (.tmp 2) rfl w.heap.size kU _ arr (0,0) _ blk underlying442 rfl HI.out ?_)
      |(refine wpList_store_mid rfl 442 (.tmp 2) _ rfl w.heap.size 0 arr kU kU (JZ blk) HI.out G.out.one ?_))
     have M:=LJ arr.toList 0 wr blk (fun j v hv=>by rw[BF];simpa using hv);refine AV (results_cell_tmp rfl _ _ w.heap.size _ arr _ (.bool false) rfl rfl M underlying442 rfl HI.out) rfl ⟨arr,cnt (ls.take k),by rw[HB.out],G.out,fun l=> ?_,(fun h=>by rw[HB.out]at h;cases h),Jd (Ai _) _ _ _ N⟩;have h1:=KQ (ls.take k) l;rw[AN]at h1;omega
    ·have ab:=G.out.2 x kR;have c1:=blk.cell x;rw[ab]at c1;have f1:=blk.frozen x;have h1:=KQ (ls.take k) x;rw[AN]at h1
     have ah:Cnts (cnt (ls.take (k+1))) 16 (arr.setIfInBounds x (.int .i64 ((cnt (ls.take k) x+1:Nat):Int))):=by
      refine G.out.set ?_ fun l hl=> ?_
      ·rw[ag.out,Fy,Ab rfl]
      ·rw[ag.out,Fy,Aa (fun e=>hl e.symm)];rfl
     generalize cnt (ls.take k) x=y at *;have am:=hid ah
     have aj:∀z∈ls.take (k+1),z<=15:=by
      intro z hz;rw[ag.out,BN,Dw]at hz;rcases hz with hz|rfl
      ·exact ak.out z hz
      ·omega
     have aq:=hid aj;clear ab ah aj;have x1:(x:Int)<16:=kR;have x0:(0:Int)<=(x:Int):=kR;go_wp2_with fail;go_roundw
     case rel=>go_light;exact⟨k+1,_,kR,jx,blk.set x _,am,aq,kZ (p:=⟨w.heap.size,x,none⟩) (Ai _) N⟩
     case measure=>exact jw
   ·obtain rfl:k=n:=by omega
    have Y:ls.take k=ls:=BR kg;have Q:Ce ls=true:=(by have:=ak.out;rw[Y]at this;unfold Ce;rw[CV,Iy];exact⟨by have:=HN.out;simp;omega,fun x hx=>by simpa using this x hx⟩);have HG:=hid Q;have hc:=G.out;rw[Y]at hc;have h0:Cnts (cn ls) 16 (arr.setIfInBounds 0 (.int .i64 ((0:Nat):Int))):=hc.set (by simp[cn]) (fun l hl=>by simp[cn,hl]);have H0:=hid h0;have al:=blk.cell 0;rw[hc.2 0 kR]at al;generalize cnt ls 0=y at al;have L:=blk.set 0 (.int .i64 0);have ax:=L.frozen 0;have U:(prog.info? 442).map (·.size)=some (arr.setIfInBounds 0 (.int .i64 0)).size:=(by rw[Mj];exact HI.out);have Z:=hid U;have ae:=hid h0.one;clear Y Q hc h0 U;obtain⟨E,aa⟩:=iS (arr.setIfInBounds 0 (.int .i64 0));have au:Hid (Cnts (cn ls) 16 E):=(by rw[aa];exact H0);have af:Hid (E.all (·.oneCell')=true):=(by rw[aa];exact ae);rw[<-aa]at L Z;clear H0 ae aa
    go_wp2_with(first
     |(refine wpList_load_row rfl 442 (.tmp 2) rfl w.heap.size kU _ E (0,0) _ L underlying442 rfl Z.out ?_)
     |(refine wpList_store_mid rfl 442 (.tmp 2) _ rfl w.heap.size 0 E kU kU (JZ L) Z.out af.out ?_))
    have M:=LJ E.toList 0 _ L (fun j v hv=>by rw[BF];simpa using hv);refine AV (results_cell_tmp rfl _ _ w.heap.size _ E _ (.bool true) rfl rfl M underlying442 rfl Z.out) rfl ⟨E,cn ls,by rw[HG.out],au.out,fun l=> ?_,(fun _=>rfl),Jd (Ai _) _ _ _ (kZ (p:=⟨w,0,none⟩) (Ai _) N)⟩;have h1:=IG ls l;have:=HN.out;omega
 ·have J:Ce ls=false:=by unfold Ce;have:decide (ls.length<=300)=false:=(by simp;have:=HN.out;omega);rw[this,IB]
  have HB:=hid J;clear J;have blk:Blk (w.alloc (.cells #[iT,iT,iT,iT,iT,iT,iT,iT,iT,iT,iT,iT,iT,iT,iT,iT] 442)) w 442 _:=Blk.made _ _ _;go_enter func349,ntmps349
  go_wp2_with(first
   |(refine wpList_load_row rfl 442 (.tmp 2) rfl w.heap.size kU _ _ (0,0) _ blk underlying442 rfl Je ?_)
   |(refine wpList_store_mid rfl 442 (.tmp 2) _ rfl w.heap.size 0 _ kU kU (JZ blk) Je Cnts.zero.one ?_))
  have M:=LJ _ 0 _ blk (fun j v hv=>by rw[BF];simpa using hv);refine AV (results_cell_tmp rfl _ _ w.heap.size _ _ _ (.bool false) rfl rfl M underlying442 rfl Je) rfl ⟨_,_,by rw[HB.out],Cnts.zero,fun l=>kR,(fun h=>by rw[HB.out]at h;cases h),Jd (Ai _) _ _ _ (bZ (Ag _ _))⟩
end Canon
namespace Canon
open Go.RowKit Mem
def wsF(f:Nat->Nat):Nat->Nat
 |0=>0
 |l+1=>wsF f l+(if l=0 then 0 else f l)*2 ^ (15-l)
def wnF(f:Nat->Nat):Nat->Nat
 |0=>0
 |l+1=>wnF f l+(if l=0 then 0 else f l)
theorem MK(ls:List Nat):∀l,wsF (cn ls) l=CE ls l
 |0=>rfl
 |l+1=>by rw[wsF,CE,MK ls l];by_cases h:l=0<;>simp[h,cn]
theorem MF(ls:List Nat):∀l,wnF (cn ls) l=EP ls l
 |0=>rfl
 |l+1=>by rw[wnF,EP,MF ls l];by_cases h:l=0<;>simp[h,cn]
theorem PC(f:Nat->Nat)(hf:∀l,f l<=300):∀l,wsF f l<=l*9830400
 |0=>by simp[wsF]
 |l+1=>by have h1:=PC f hf l;have h2:=hf l;have h3:2 ^ (15-l)<=2 ^ 15:=BQ kR kR;have h4:(if l=0 then 0 else f l)*2 ^ (15-l)<=300*32768:=GT (by split<;>omega) h3;rw[wsF,Fc];omega
theorem Pm(f:Nat->Nat)(hf:∀l,f l<=300):∀l,wnF f l<=l*300
 |0=>by simp[wnF]
 |l+1=>by
  have h1:=Pm f hf l;have h2:=hf l;have h3:(if l=0 then 0 else f l)<=300:=by split<;>omega
  rw[wnF,Fc];omega
theorem Yy(w:World)(arr:Array Value)(f:Nat->Nat)(hc:Cnts f 16 arr)(hf:∀l,f l<=300):
 Calls prog 350 #[.agg arr] w fun e w'=>e= .returned (.tuple #[.int .i64 (wsF f 16:Nat), .int .i64 (wnF f 16:Nat)])/\aO w w':=by
 have HC:=hid hc;have HF:=hid hf;have G:=hc.1;have Y:=hid G;clear hc hf G;go_enter func350,ntmps350;go_wp2_with fail;go_loopw [2,3,4] (fun s n i wr=>∃ (l S N:Nat),1<=l/\l<=16/\i= .int .i64 l/\s= .int .i64 S/\n= .int .i64 N/\Hid (S=wsF f l)/\Hid (N=wnF f l)/\S<=157286400/\N<=4800/\Blk wr w 442 arr/\aO w wr) (fun _ _ i _=>16-(intOf i).toNat)
 case atStart=>exact⟨1,0,0,kR,kR,rfl,rfl,rfl,rfl,rfl,kR,kR,Blk.made _ _ _,bZ (Ag _ _)⟩
 case round=>
  obtain⟨l,S,N,Z,U,rfl,rfl,rfl,hS,hN,bS,bN,blk,h⟩:=hrel;by_cases M:l<16
  ·have c0:=blk.cell l;rw[HC.out.2 l M]at c0;have Q:=HF.out l;have E:S+f l*2 ^ (15-l)=wsF f (l+1):=(by rw[wsF,Aa kR,hS.out]);have j:N+f l=wnF f (l+1):=(by rw[wnF,Aa kR,hN.out]);have b1:=PC f HF.out (l+1);have b2:=Pm f HF.out (l+1);rw[<-E]at b1;rw[<-j]at b2;have L:=hid E;have J:=hid j;clear E j;generalize f l=y at *;have x0:(0:Int)<=(l:Int):=kR;have x1:(l:Int)<16:=kR;go_wp2_with fail;go_roundw
   case rel=>go_light;have b3:(l+1)*9830400<=16*9830400:=Fk _ kR;have b4:(l+1)*300<=16*300:=Fk _ kR;generalize hz:y*2 ^ (15-l)=z at *;have e1:wrap64 ((y:Int)*2 ^ (15-l))=(z:Int):=(by have:((y:Int)*2 ^ (15-l))=((z:Nat):Int):=(by rw[<-hz];simp);rw[this];exact I8 _ ⟨kR,kR⟩);have e2:wrap64 ((S:Int)+(z:Int))=((S+z:Nat):Int):=(by rw[I8 _ ⟨kR,kR⟩];simp);exact⟨l+1,S+z,N+y,kR,kR,jx,by rw[e1,e2],jx,L,J,kR,kR,blk,h⟩
   case measure=>exact jw
  ·obtain rfl:l=16:=by omega
   go_wp2_with fail;go_ret2;go_light;exact⟨by rw[<-hS.out,<-hN.out];rfl,h⟩
theorem Km(h:Ce ls=true):ls.length<=300/\∀x∈ls,x<=15:=by unfold Ce at h;rw[CV,Iy]at h;exact⟨by simpa using h.1,fun x hx=>by simpa using h.2 x hx⟩
def Fx(ls:List Nat):Int:=if okB ls=true then 0 else 7
theorem KT(h:Ce ls=false):okB ls=false:=by unfold okB;unfold Ce at h;rw[h,IB]
theorem Zk(h:Ce ls=true):okB ls=(decide (EP ls 16=0) || decide (EP ls 16=1/\cn ls 1=1) || decide (CE ls 16=32768)):=by obtain⟨_,h2⟩:=Km h;unfold okB;unfold Ce at h;rw[h,Bool.true_and,LH ls h2,LU ls h2];rfl
theorem blk_over:∀ (vs pre i:List Value) (w:World),i.length=vs.length->Blk w g t (pre++i).toArray->Blk (w.setCells g pre.length vs) g t (pre++vs).toArray
 | [],pre,i,w,hl,h=>by have:i= []:=FK hl;subst this;exact h
 |v :: vs,pre,[],w,hl,h=>m4
 |v :: vs,pre,x :: i,w,hl,h=>by
  have h1:=h.set pre.length v
  have e1:(pre++x :: i).toArray.setIfInBounds pre.length v=((pre++ [v])++i).toArray:=by
   apply Array.ext'
   simp
  rw[e1]at h1;have:=blk_over vs (pre++ [v]) i _ (by simpa using hl) h1;simpa[World.setCells]using this
theorem Sc{cs:Array Value}(h:Blk w g t cs)(hs:arr.size=cs.size):Blk (w.setCells g 0 arr.toList) g t arr:=by have:=blk_over (g:=g) (t:=t) arr.toList [] cs.toList w (by simp[hs]) nz;simpa using this
theorem RY(ls:List Nat)(f:Nat->Nat)(hg:Ce ls=true->f=cn ls):Fx ls=if Ce ls=true/\(wnF f 16=0∨(wnF f 16=1/\f 1=1)∨wsF f 16=32768)then 0 else 7:=by
 unfold Fx;cases hb:Ce ls
 ·rw[KT hb];simp
 ·rw[Zk hb,hg hb,MK,MF];by_cases h1:EP ls 16=0<;>by_cases h2:(EP ls 16=1/\cn ls 1=1)<;>by_cases h3:CE ls 16=32768<;>simp[h1,h2,h3]
theorem RJ(w:World)(A:Option Addr)(n c:Nat)(ls:List Nat)(hn:ls.length=n)(hN:n<=9223372036854775807)(ha:Row w w A n 1 (jZ .u8 ls)):
 Calls prog 317 #[.slice A n c] w fun e w'=>e= .returned (.int .i64 (Fx ls))/\aO w w':=by
 have C:=hid (Sq w A n c ls hn hN ha);clear hn ha;go_enter func317,ntmps317;go_wp2_with fail;refine C.out.mono ?_;rintro e w1 ⟨arr,f,rfl,hc,hf,hg,z⟩;have j:arr.size=16:=hc.1;have Q:=RY ls f hg;have M:Blk (w1.alloc (.cells #[iT,iT,iT,iT,iT,iT,iT,iT,iT,iT,iT,iT,iT,iT,iT,iT] 442)) w1 442 _:=Blk.made _ _ _;have E:=Sc (arr:=arr) M (by rw[j];rfl);have N:(w1.alloc (.cells #[iT,iT,iT,iT,iT,iT,iT,iT,iT,iT,iT,iT,iT,iT,iT,iT] 442)).there w1 0 arr.size:=by rw[j];exact JZ M
 have L:(prog.info? 442).map (·.size)=some arr.size:=by rw[j];exact Je
 have h:aO w ((w1.alloc (.cells #[iT,iT,iT,iT,iT,iT,iT,iT,iT,iT,iT,iT,iT,iT,iT,iT] 442)).setCells w1 0 arr.toList):=
  Jd z.size _ _ _ (lZ z.size z)
 have Y:=hid hc.one;have G:=hid L;have HC:=hid hc;have HF:=hid hf;have i:=hid Q;clear j L hc hf Q hg M;go_upto_region 2 with (refine wpList_store_mid rfl 442 (.tmp 3) (.tmp 10) rfl w1.heap.size 0 arr kU kU N G.out Y.out ?_);have aa:w1.heap.size<(World.heap ((w1.alloc (.cells #[iT,iT,iT,iT,iT,iT,iT,iT,iT,iT,iT,iT,iT,iT,iT,iT] 442)).setCells w1 0 arr.toList)).size:=E.lt;clear N;generalize (w1.alloc (.cells #[iT,iT,iT,iT,iT,iT,iT,iT,iT,iT,iT,iT,iT,iT,iT,iT] 442)).setCells w1 0 arr.toList=w2 at *;go_wp2_with(refine wpList_load_row rfl 442 (.tmp 3) rfl w1.heap.size kU _ arr (0,0) _ E underlying442 rfl G.out ?_);refine(Yy w2 arr f HC.out HF.out).mono ?_;rintro e w3 ⟨rfl,U⟩;have Z:=E.step U;have J:aO w w3:=CM U h.size h;have c1:=Z.cell 1;rw[HC.out.2 1 kR]at c1;generalize f 1=y at *;generalize wnF f 16=wn at *;generalize wsF f 16=ws at *;clear C z E h;cases hgood:Ce ls
 ·rw[hgood]at i;go_wp2_with fail;go_ret;refine⟨Ko ?_,J⟩;rw[i.out];simp
 ·rw[hgood]at i;go_wp2_with fail
  all_goals
   go_ret;refine⟨Ko ?_,J⟩;rw[i.out];go_light;simp only[true_and]
   first|(rw[Ab kR];done)|(rw[Aa kR];done)|skip
  all_goals
   simp only[bne_iff_ne,ne_eq,bne_eq_false_iff_eq]at *
   first|(rw[Ab kR];done)|(rw[Aa kR];done)
end Canon
namespace Huff
def bit(bs:List Bool)(i:Nat):Nat:=if bs.getD i false then 1 else 0
def Mz(bs:List Bool)(k:Nat):Nat:=
 bit bs (8*k)*128+bit bs (8*k+1)*64+bit bs (8*k+2)*32+bit bs (8*k+3)*16+bit bs (8*k+4)*8+bit bs (8*k+5)*4+bit bs (8*k+6)*2+bit bs (8*k+7)
def bytesOf(bs:List Bool):List Nat:=(List.range ((bs.length+7) / 8)).map (Mz bs)
theorem bytesOf_length(bs:List Bool):(bytesOf bs).length=(bs.length+7) / 8:=by simp[bytesOf]
theorem E6(bs:List Bool)(i:Nat):bit bs i<=1:=by unfold bit;split<;>omega
theorem Ru(bs:List Bool)(k:Nat):Mz bs k<=255:=by unfold Mz;have h0:=E6 bs (8*k);have h1:=E6 bs (8*k+1);have h2:=E6 bs (8*k+2);have h3:=E6 bs (8*k+3);have h4:=E6 bs (8*k+4);have h5:=E6 bs (8*k+5);have h6:=E6 bs (8*k+6);have h7:=E6 bs (8*k+7);omega
theorem Q0{bs:List Bool}(h:bs.length<=i):bit bs i=0:=by unfold bit;simp[List.getD_eq_getElem?_getD,List.getElem?_eq_none h]
end Huff
namespace Huff
open Canon
def msb(x n k:Nat):List Bool:=(List.range k).map fun j=>decide (x / 2 ^ (n-1-j) % 2=1)
theorem Og(x n k:Nat):(msb x n k).length=k:=by simp[msb]
def word(ls:List Nat)(s:Nat):List Bool:=msb (code ls s) (ls.getD s 0) (ls.getD s 0)
def yZ(bs:List Bool)(i:Nat):Nat->Nat
 |0=>0
 |m+1=>2*yZ bs i m+bit bs (i+m)
theorem Ev(bs:List Bool)(i:Nat):∀m,yZ bs i m<2 ^ m
 |0=>by simp[yZ]
 |m+1=>by have h1:=Ev bs i m;have h2:=E6 bs (i+m);rw[yZ,ER];omega
theorem KL(ls:List Nat):∀l,l<=15->(fst ls l+cn ls l)*2 ^ (15-l)=CE ls (l+1)
 |0,_=>by simp[fst,cn,CE]
 |l+1,h=>by
  have h1:=KL ls l kR;have e:15-l=(15-(l+1))+1:=kR
  rw[CE,<-h1,fst,e,ER,Fc];congr 1;rw[Nat.mul_comm 2,Nat.mul_assoc,Nat.mul_comm 2]
theorem UO(ls:List Nat)(l:Nat)(h:l<=15):fst ls l*2 ^ (15-l)=CE ls l:=by have h1:=KL ls l h;rw[CE,Fc]at h1;omega
theorem KA(ls:List Nat){a:Nat}:∀ {b:Nat},a<=b->CE ls a<=CE ls b
 |0,h=>by
  obtain rfl:a=0:=kR
  exact Ai _
 |b+1,h=>by
  by_cases e:a=b+1
  ·subst e;exact Ai _
  ·have:=KA ls (a:=a) (b:=b) kR;rw[CE];omega
theorem Ii(h:okB ls=true):ls.length<=300/\(∀x∈ls,x<=15)/\CE ls 16<=32768:=by
 unfold okB at h;simp only[Bool.and_eq_true,Bool.or_eq_true,decide_eq_true_eq,List.all_eq_true]at h;obtain⟨⟨h1,h2⟩,h3⟩:=h;refine⟨h1,h2,?_⟩;have hk:=LH ls h2;have hu:=LU ls h2;rcases h3 with (h3|⟨h3,h4⟩)|h3
 ·rw[h3]at hu;simp only[EP]at hu;simp only[CE];have e0:cn ls 0=0:=by simp[cn]
  have e:∀l,l<16->cn ls l=0:=by intro l hl;have:l=0∨l=1∨l=2∨l=3∨l=4∨l=5∨l=6∨l=7∨l=8∨l=9∨l=10∨l=11∨l=12∨l=13∨l=14∨l=15:=kR;rcases this with rfl|rfl|rfl|rfl|rfl|rfl|rfl|rfl|rfl|rfl|rfl|rfl|rfl|rfl|rfl|rfl<;>omega
  simp[e]
 ·have e1:cn ls 1=1:=by unfold cn;rw[Aa kR,h4]
  rw[h3]at hu;simp only[EP]at hu;simp only[CE];have e:∀l,l<16->l≠1->cn ls l=0:=by intro l hl i;have:l=0∨l=1∨l=2∨l=3∨l=4∨l=5∨l=6∨l=7∨l=8∨l=9∨l=10∨l=11∨l=12∨l=13∨l=14∨l=15:=kR;rcases this with rfl|rfl|rfl|rfl|rfl|rfl|rfl|rfl|rfl|rfl|rfl|rfl|rfl|rfl|rfl|rfl<;>omega
  simp[e,e1]
 ·omega
theorem N9(hx:ls[s]? =some x):cnt (ls.take s) x+1<=cnt ls x:=by
 have h1:cnt (ls.take (s+1)) x=cnt (ls.take s) x+1:=by rw[FF hx,Fy,Ab rfl]
 have h2:cnt (ls.take (s+1)) x<=cnt ls x:=by
  unfold cnt
  conv=>rhs;rw[<-I5 (s+1) ls,List.countP_append]
  omega
 omega
theorem Ip(hx:ls[s]? =some x)(h0:x≠0):code ls s=fst ls x+cnt (ls.take s) x:=by unfold code;simp[List.getD_eq_getElem?_getD,hx,h0]
theorem NY(hx:ls[s]? =some x)(h0:x≠0)(h:x<=15):
 CE ls x<=code ls s*2 ^ (15-x)/\(code ls s+1)*2 ^ (15-x)<=CE ls (x+1):=by
 have h1:=Ip hx h0;have h2:=N9 hx;constructor
 ·rw[<-UO ls x h];exact Fk _ kR
 ·rw[<-KL ls x h];refine Fk _ ?_;unfold cn;rw[Aa h0];omega
theorem QP(h:okB ls=true)(hx:ls[s]? =some x)(h0:x≠0):code ls s<2 ^ x:=by
 obtain⟨_,h2,h3⟩:=Ii h;have i:=h2 x (BP hx);have h4:=(NY hx h0 i).2;have h5:=KA ls (show x+1<=16 by omega);have h6:(code ls s+1)*2 ^ (15-x)<=2 ^ x*2 ^ (15-x):=by rw[<-Nat.pow_add,show x+(15-x)=15 by omega];omega
 exact Nat.le_of_mul_le_mul_right h6 (GE _)
end Huff
namespace Huff
open Canon
def symsOf(ls:List Nat)(l:Nat):List Nat:=(List.range ls.length).filter fun s=>decide (ls.getD s 0=l)
theorem Yg(l:Nat):symsOf [] l= []:=rfl
theorem Ld(ls:List Nat)(x l:Nat):symsOf (ls++ [x]) l=symsOf ls l++if x=l then [ls.length]else []:=by
 unfold symsOf;rw[Aj,KE,Iq,List.filter_append];congr 1
 ·apply List.filter_congr
  intro s hs;have hs:=ES.1 hs;simp[List.getD_eq_getElem?_getD,List.getElem?_append_left hs]
 ·by_cases h:x=l<;>simp[List.getD_eq_getElem?_getD,h]
theorem OA{α:Type}{p:List α->Prop}(h0:p [])(h1:∀l x,p l->p (l++ [x])):∀l,p l:=by
 intro l
 have:∀r:List α,p r.reverse:=by
  intro r
  induction r with
  |nil=>exact h0
  |cons x r ih=>rw[List.reverse_cons];exact h1 _ _ ih
 have h:=this l.reverse
 rwa [List.reverse_reverse]at h
theorem NR(l:Nat):∀ls:List Nat,(symsOf ls l).length=cnt ls l:=by
 apply OA
 ·rfl
 ·intro ls x ih;rw[Ld,Fy,Aj,ih];split<;>rfl
theorem Tt:∀ (ls:List Nat) (k s:Nat),(symsOf ls l)[k]? =some s->ls[s]? =some l/\cnt (ls.take s) l=k:=by
 apply OA (p:=fun ls=>∀ (k s:Nat),(symsOf ls l)[k]? =some s->ls[s]? =some l/\cnt (ls.take s) l=k)
 ·intro k s h;simp[Yg]at h
 ·intro ls x ih k s h;rw[Ld,List.getElem?_append]at h;split at h
  ·obtain⟨h1,h2⟩:=ih k s h;have hs:=(Ch.1 h1).1;rw[Hj hs,List.take_append_of_le_length kR];exact⟨h1,h2⟩
  ·rename_i hk;by_cases hx:x=l
   ·subst hx;rw[Ab rfl]at h;have h3:=(Ch.1 h).1;simp only[List.length_singleton]at h3;have h4:k=(symsOf ls x).length:=kR;rw[h4,Fj,List.getElem?_cons_zero]at h;injection h with h;subst h;refine⟨mY,?_⟩;rw[List.take_left,h4,NR]
   ·rw[Aa hx]at h;simp at h
theorem Qv(ls:List Nat)(l:Nat){a:Nat}(h:a<=b):cnt (ls.take a) l<=cnt (ls.take b) l:=by
 have:ls.take a=(ls.take b).take a:=by rw[List.take_take,Nat.min_eq_left h]
 rw[this];unfold cnt
 conv=>rhs;rw[<-I5 a (ls.take b),List.countP_append]
 omega
theorem Xk{t:Nat}(hs:ls[s]? =some l)(ht:ls[t]? =some l)(h:cnt (ls.take s) l=cnt (ls.take t) l):s=t:=by
 have h1:cnt (ls.take (s+1)) l=cnt (ls.take s) l+1:=by rw[FF hs,Fy,Ab rfl]
 have h2:cnt (ls.take (t+1)) l=cnt (ls.take t) l+1:=by rw[FF ht,Fy,Ab rfl]
 by_cases h3:s<t
 ·have:=Qv ls l (show s+1<=t by omega);omega
 ·by_cases h4:t<s
  ·have:=Qv ls l (show t+1<=s by omega);omega
  ·omega
theorem Ri(h:k<cnt ls l):∃s,(symsOf ls l)[k]? =some s/\ls[s]? =some l/\cnt (ls.take s) l=k:=by
 have h1:k<(symsOf ls l).length:=by rw[NR];exact h
 exact⟨_,AE h1,Tt ls k _ (AE h1)⟩
def hit(ls:List Nat)(X there s:Nat):Bool:=decide (ls.getD s 0≠0/\ls.getD s 0<=there/\X / 2 ^ (15-ls.getD s 0)=code ls s)
def Ek(ls:List Nat)(X there s:Nat):Bool:=decide (there<ls.getD s 0/\X / 2 ^ (15-there)=code ls s / 2 ^ (ls.getD s 0-there))
def Cy(ls:List Nat)(X there:Nat):Int×Int×Nat:=
 match (List.range ls.length).find? (hit ls X there)with
 |some s=>(s,0,ls.getD s 0)
 |none=>if(List.range ls.length).any (Ek ls X there)then(-1,1,0)else(-1,7,0)
theorem FA{there:Nat}:hit ls X there s=true↔∃x,ls[s]? =some x/\x≠0/\x<=there/\X / 2 ^ (15-x)=code ls s:=by
 unfold hit;rw[decide_eq_true_eq];constructor
 ·rintro⟨h1,h2,h3⟩
  have hs:s<ls.length:=by
   rcases Nat.lt_or_ge s ls.length with h|h
   ·exact h
   ·rw[Ar,GV h]at h1;simp at h1
  have e:ls.getD s 0=ls[s]:=by simp[List.getD_eq_getElem?_getD,hs]
  rw[e]at h1 h2 h3;exact⟨_,AE hs,h1,h2,h3⟩
 ·rintro⟨x,h0,h1,h2,h3⟩;have e:ls.getD s 0=x:=by simp[List.getD_eq_getElem?_getD,h0]
  rw[e];exact⟨h1,h2,h3⟩
theorem Mq{c d:Nat}(hd:0<d)(h:X / d=c):c*d<=X/\X<(c+1)*d:=by subst h;exact⟨Nat.div_mul_le_self X d,by rw[Fc,Nat.one_mul];exact Nat.lt_div_mul_add hd⟩
theorem WZ(L:okB ls=true){a t:Nat}(hs:hit ls X a s=true)(ht:hit ls X b t=true):s=t:=by
 obtain⟨x,hx,h,_,i⟩:=FA.1 hs;obtain⟨y,hy,z,_,j⟩:=FA.1 ht;obtain⟨_,J,_⟩:=Ii L;have G:=J x (BP hx);have E:=J y (BP hy);have h1:=Mq (GE _) i;have h2:=Mq (GE _) j;have h3:=NY hx h G;have h4:=NY hy z E;by_cases M:x<y
 ·have:=KA ls (show x+1<=y by omega);omega
 ·by_cases N:y<x
  ·have:=KA ls (show y+1<=x by omega);omega
  ·obtain rfl:x=y:=by omega
   have e:code ls s=code ls t:=(by rw[<-i,<-j]);rw[Ip hx h,Ip hy z]at e;exact Xk hx hy kR
theorem TA(i:okB ls=true){there:Nat}(hx:ls[s]? =some x)(h:hit ls X there s=true):Cy ls X there=((s:Int),0,x):=by
 have hs:s<ls.length:=(Ch.1 hx).1;unfold Cy
 have:(List.range ls.length).find? (hit ls X there)=some s:=by
  cases hf:(List.range ls.length).find? (hit ls X there)with
  |none=>have:=List.find?_eq_none.1 hf s (ES.2 hs);rw[h]at this;exact absurd rfl this
  |some t=>rw[WZ i h (List.find?_some hf)]
 rw[this];simp[List.getD_eq_getElem?_getD,hx]
theorem Q5{there:Nat}(h:∀s,hit ls X there s=false):Cy ls X there=if(List.range ls.length).any (Ek ls X there)then(-1,1,0)else(-1,7,0):=by unfold Cy;have:(List.range ls.length).find? (hit ls X there)=none:=List.find?_eq_none.2 (fun s _=>by rw[h s];simp);rw[this]
theorem Wv(h0:l≠0)(hk:k<cn ls l)(hX:X / 2 ^ (15-l)=fst ls l+k):
 ∃s,(symsOf ls l)[k]? =some s/\ls[s]? =some l/\hit ls X l s=true:=by
 have h:k<cnt ls l:=by unfold cn at hk;rwa [Aa h0]at hk
 obtain⟨s,h1,h2,h3⟩:=Ri h;exact⟨s,h1,h2,FA.2 ⟨l,h2,h0,Ai _,by rw[hX,Ip h2 h0,h3]⟩⟩
theorem Uz(h0:l≠0)(hs:ls[s]? =some l)(h:X / 2 ^ (15-l)=code ls s):fst ls l<=X / 2 ^ (15-l)/\X / 2 ^ (15-l)<fst ls l+cn ls l:=by have h1:=Ip hs h0;have h2:=N9 hs;unfold cn;rw[Aa h0];omega
theorem We{a:Nat}(h:a<=b)(hs:hit ls X a s=true):hit ls X b s=true:=by obtain⟨x,h1,h2,h3,h4⟩:=FA.1 hs;exact FA.2 ⟨x,h1,h2,kR,h4⟩
theorem WV(h:∀s,hit ls X l s=false)(h1:X / 2 ^ (15-(l+1))<fst ls (l+1)∨fst ls (l+1)+cn ls (l+1)<=X / 2 ^ (15-(l+1))):∀s,hit ls X (l+1) s=false:=by
 intro s;cases hh:hit ls X (l+1) s
 ·rfl
 ·obtain⟨x,hx,j,y,i⟩:=FA.1 hh;by_cases e:x=l+1
  ·subst e;have:=Uz kR hx i;omega
  ·have:=h s;rw[FA.2 ⟨x,hx,j,kR,i⟩]at this;cases this
theorem WE(ls:List Nat)(X:Nat):∀s,hit ls X 0 s=false:=by
 intro s;cases hh:hit ls X 0 s
 ·rfl
 ·obtain⟨x,_,h,i,_⟩:=FA.1 hh;omega
theorem LQ{there:Nat}:Ek ls X there s=true↔∃x,ls[s]? =some x/\there<x/\X / 2 ^ (15-there)=code ls s / 2 ^ (x-there):=by
 unfold Ek;rw[decide_eq_true_eq];constructor
 ·rintro⟨h2,h3⟩
  have hs:s<ls.length:=by
   rcases Nat.lt_or_ge s ls.length with h|h
   ·exact h
   ·rw[Ar,GV h]at h2;simp at h2
  have e:ls.getD s 0=ls[s]:=by simp[List.getD_eq_getElem?_getD,hs]
  rw[e]at h2 h3;exact⟨_,AE hs,h2,h3⟩
 ·rintro⟨x,h0,h2,h3⟩;have e:ls.getD s 0=x:=by simp[List.getD_eq_getElem?_getD,h0]
  rw[e];exact⟨h2,h3⟩
theorem Wn(G:l<k)(h0:0<cn ls k)(h1:x*2 ^ (k-l)<fst ls k+cn ls k)(h2:fst ls k<x*2 ^ (k-l)+2 ^ (k-l)):
 ∃s,ls[s]? =some k/\code ls s / 2 ^ (k-l)=x:=by
 have i:k≠0:=kR
 obtain⟨j,y,E⟩:∃j,j<cn ls k/\(fst ls k+j) / 2 ^ (k-l)=x:=by
  have hp:=GE (k-l);generalize 2 ^ (k-l)=d at *;by_cases h:fst ls k<=x*d
  ·refine⟨x*d-fst ls k,kR,?_⟩;rw[show fst ls k+(x*d-fst ls k)=x*d by omega];exact Nat.mul_div_cancel _ hp
  ·refine⟨0,h0,?_⟩;rw[CT];apply Nat.div_eq_of_lt_le
   ·omega
   ·rw[Fc,Nat.one_mul];omega
 have z:j<cnt ls k:=by unfold cn at y;rwa [Aa i]at y
 obtain⟨s,_,h3,h4⟩:=Ri z;exact⟨s,h3,by rw[Ip h3 i,h4,E]⟩
theorem V6(j:l<k)(hs:ls[s]? =some k)(h:code ls s / 2 ^ (k-l)=x):
 0<cn ls k/\x*2 ^ (k-l)<fst ls k+cn ls k/\fst ls k<x*2 ^ (k-l)+2 ^ (k-l):=by
 have i:k≠0:=kR
 have h1:=Ip hs i;have h2:=N9 hs;have h3:=Mq (GE (k-l)) h;have e:cn ls k=cnt ls k:=by unfold cn;rw[Aa i]
 rw[Fc,Nat.one_mul]at h3;omega
theorem To(bs:List Bool)(i m:Nat):∀d,yZ bs i (m+d) / 2 ^ d=yZ bs i m
 |0=>mY
 |d+1=>by have h1:=E6 bs (i+(m+d));rw[<-Nat.add_assoc,yZ,ER,Nat.mul_comm (2 ^ d) 2,<-JR];rw[show(2*yZ bs i (m+d)+bit bs (i+(m+d))) / 2=yZ bs i (m+d) by omega];exact To bs i m d
end Huff
end Go.Proofs.YtfgdoknipbpfhaaGreatDoor
