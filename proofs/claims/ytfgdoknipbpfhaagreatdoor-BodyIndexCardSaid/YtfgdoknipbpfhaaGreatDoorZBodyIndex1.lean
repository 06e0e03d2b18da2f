/- Words for memory, fo -/
import Derived.WalkKit
import Derived.ProofKit
import Derived.Lib.Hide
import Derived.Laws.OwnMore
import Derived.Deep.Draws
import Derived.Maps.AppendAt
import Derived.Test.YtfgdoknipbpfhaaGreatDoorProg
import Derived.BigQuiet
import Derived.BigGuardPart
import Derived.Deep.QuietTactic
import Derived.Deep.Light
import Derived.Laws.Rows
import Derived.Deep.MidRow
import Derived.Deep.DeepCutAuto
namespace Go.Proofs.YtfgdoknipbpfhaaGreatDoor
section
open Go Go.RowKit
theorem ja(p:Prop)[Decidable p](h:p:=by first|omega|(simp;omega)|(simp;done)):decide p=true:=decide_eq_true h
theorem jb(p:Prop)[Decidable p](h:¬p:=by first|omega|(simp;omega)|(simp;done)):decide p=false:=decide_eq_false h
theorem jc{α:Sort _}(a:α):∃x,x=a:=⟨a,rfl⟩
instance:Coe World Nat:=⟨fun w=>w.heap.size⟩
instance:Coe Nat Value:=⟨fun n=> .int .i64 n⟩
instance:Coe Int Value:=⟨fun n=> .int .i64 n⟩
instance:Coe Bool Value:=⟨fun b=> .bool b⟩
instance:Coe Unit Value:=⟨fun _=> .slice none 0 0⟩
structure je where
def jd:je:=⟨⟩
instance:Coe je Value:=⟨fun _=> .int .i64 0⟩
theorem nB{p:Prop}(h:p:=by omega):p:=h
theorem qo{p:Prop}(h:p:=by(repeat (with_reducible first|exact Ak _ _|assumption|refine Aw ?_ |refine below_drewN ?_ _|refine oZ ?_ |refine cZ ?_ |refine dZ (by assumption) ?_ |refine belA ?_ |refine pZ (by assumption) ?_))):p:=h
theorem ld{p:Prop}(h:p:=by go_light;simp[intOf];omega):p:=h
theorem ji{p:Prop}(h:p:=by decide):p:=h
theorem qn{p:Prop}(h:p:=by unfold maxLen;omega):p:=h
theorem jf{p:Prop}(h:p:=by assumption):p:=h
theorem pR{p:Prop}(h:p:=by simp):p:=h
theorem mY{p:Prop}(h:p:=by intro u hu;simp at hu;rcases hu with rfl;rfl):p:=h
theorem p5{p:Prop}(h:p:=by simp;omega):p:=h
theorem nC{p:Prop}(h:p:=by rfl):p:=h
theorem ni{p:Prop}(h:p:=by kernel_rfl):p:=h
theorem nX{p:Prop}(h:p:=by rw[Az _ (by omega)];omega):p:=h
theorem jk{p:Prop}(h:p:=by first|rfl|go_num):p:=h
theorem lj{p:Prop}(h:p:=by go_num):p:=h
theorem pO{p:Prop}(h:p:=by show b≠w.heap.size;omega):p:=h
theorem n4{p:Prop}(h:p:=by rw[Bj];omega):p:=h
theorem ou{p:Prop}(h:p:=by rw[HG.out];exact ax.out.keep (fun b _ h=>((((Be _ _ _ b (by show b≠w.heap.size;omega)).trans (Be _ _ _ b (by show b≠w.heap.size;omega))).trans (Be _ _ _ b (by show b≠w.heap.size;omega))).trans (((Be _ _ _ b (by show b≠w.heap.size;omega)).trans (Be _ _ _ b (by show b≠w.heap.size;omega))).trans (Be _ _ _ b (by show b≠w.heap.size;omega))))) Q):p:=h
theorem pD{p:Prop}(h:p:=by show World.ownsRow _ _ _ _ _ _ _;rw[show bZ .u8 (j++List.replicate k x)=bZ .u8 j++bZ .u8 (List.replicate k x) by simp[bZ]];exact E):p:=h
theorem jp{p:Prop}(h:p:=by go_light;exact⟨a2,i,p+k,j++List.replicate k x,by omega,by show _=_;rw[Aj,HP.out,Ez],av.out,an.out,aw.out,ai.out.1,ai.out.2⟩):p:=h
theorem oq{p:Prop}(h:p:=by rw[HG.out];exact ae.out.keep (fun b _ h=>(((Be _ _ _ b (by show b≠w.heap.size;omega)).trans (Be _ _ _ b (by show b≠w.heap.size;omega))).trans (Be _ _ _ b (by show b≠w.heap.size;omega)))) Q):p:=h
theorem lq{p:Prop}(h:p:=by have h3:=Ef.Kb (q:=bound / l.length) (by omega);have h4:efW bound l.length<2 ^ efW bound l.length:=Nat.lt_two_pow_self;unfold efW at h4 ⊢;have h5:l.length*Nat.log2 (bound / l.length)<=l.length*(bound / l.length):=Nat.mul_le_mul_left _ (by omega);exact Bm h5 (Nat.mul_div_le _ _)):p:=h
theorem jr{p:Prop}(h:p:=by go_light;exact⟨i+1,a2,t2++ [s],h2++ [s],_,_,by omega,by first|rfl|go_num,by rw[Aj,<-HP.out];simp;omega,by rw[Aj,Aj,<-HP.out,<-HQ.out];simp;omega,bf.out,by intro y hy;rcases Bx.1 hy with h|h;exact ar.out y h;(rw[Em]at h;rw[h];exact ag.out),by rw[AV (by omega)];exact az.out⟩):p:=h
theorem jt{p:Prop}(h:p:=by go_light;exact⟨i+1,q'+1+om,P++ [x]++O,by omega,au,by first|rfl|go_num,by show _=_;rw[Aj,Aj,HP.out,bb.out];rfl,a0.out,bd.out,bf.out⟩):p:=h
theorem mR{p:Prop}(h:p:=by have:=HN.out;omega):p:=h
theorem js{p:Prop}(h:p:=by go_light;exact⟨i+1,a2,t2++ [s],h2,_,uH,by omega,by first|rfl|go_num,by rw[Aj,<-HP.out];simp;omega,by rw[Aj,<-HP.out];omega,G.out,by intro y hy;rcases Bx.1 hy with h|h;exact ar.out y h;(rw[Em]at h;rw[h];exact ag.out),by rw[AV (by omega)];exact az.out⟩):p:=h
theorem pu{p:Prop}(h:p:=by rw[show bZ .u8 (P++ [x])=bZ .u8 P++ [.int .u8 (x:Nat)] by simp[bZ]];exact eZ N.out (fun y hy=>Y.block y (Ai N.out y hy).2)):p:=h
theorem jl{p:Prop}(h:p:=by first|rfl|go_num|(congr 1;omega)):p:=h
theorem jm{p:Prop}(h:p:=by first|rfl|trivial):p:=h
theorem ln{p:Prop}(h:p:=by have h1:=AM List.length hf;have h2:=bu.out;have h3:=HP.out;simp only[List.length_append,List.length_cons]at h1;omega):p:=h
theorem oz{p:Prop}(h:p:=by rw[HN.out];exact Am _):p:=h
theorem mt{p:Prop}(h:p:=by have h:Dk ls at_ (D+1)=Gj ls at_ (Dk ls at_ D) (D+1):=rfl;rw[<-show E=D+1 from HE.out,show Dk ls at_ D=(n1,n2) from U.out]at h;exact h):p:=h
theorem m4{p:Prop}(h:p:=by intro u hu;simp at hu;rcases hu with rfl|rfl<;>rfl):p:=h
theorem na{p:Prop}(h:p:=by intro u hu;simp at hu;subst hu;rfl):p:=h
theorem mr{p:Prop}(h:p:=by have h:=ax.out;rw[h]at E;injection E with E;exact E.symm):p:=h
theorem ng{p:Prop}(h:p:=by intro y hy;rcases Bx.1 hy with h|h;exact ar.out y h;(rw[Em]at h;rw[h];exact ag.out)):p:=h
theorem kq{p:Prop}(h:p:=by go_light;exact⟨k+1,x2,by omega,by omega,by first|rfl|trivial,by go_num,HP.out,J.out,by first|rfl|trivial⟩):p:=h
theorem ka{p:Prop}(h:p:=by go_light;exact⟨k+1,R.length,by omega,by omega,by first|rfl|go_num,by show _=_;rw[<-HR.out],by show World.ownsRow _ _ _ _ _ _ _;rw[<-HR.out];exact U.out,ag.out⟩):p:=h
theorem kr{p:Prop}(h:p:=by go_light;exact⟨n1,n2,E,rfl,rfl,by go_num,by omega,a5,J.out,eZ ah.out (fun _ _=>rfl),below_drewN ab.out _⟩):p:=h
theorem lm{p:Prop}(h:p:=by have h1:=(Blk.made w1 3 #[t]).alloc (.cells #[.int .u64 (x:Nat), .slice (some ⟨w1,0,none⟩) 1 1] 329);exact h1.grown bh (fun h=>by have:=(a4 _ h.symm).2;omega)):p:=h
theorem kw{p:Prop}(h:p:=by go_light;exact⟨q,E,E,rfl,rfl,by go_num,by omega,hq,J.out,eZ ah.out (fun _ _=>rfl),below_drewN ab.out _⟩):p:=h
theorem jx{p:Prop}(h:p:=by go_light;exact⟨i+1,y+size,a3,0,f1,h6,bq,b5,by omega,by first|rfl|go_num,b1.out,bS,bc,b3.out,bC.out,bM.out,bN.out,a4.out,fun _=>bX.out,fun h=>absurd rfl h⟩):p:=h
theorem px{p:Prop}(h:p:=by rw[show bZ .u8 (P++ [x]++O)=bZ .u8 (P++ [x])++bZ .u8 O by simp[bZ]];exact J):p:=h
theorem pn{p:Prop}(h:p:=by rw[show IntKind.u64.wrap (128+(X:Int) % 128)=(128+(X:Int) % 128) % 18446744073709551616 from by simp[IntKind.wrap,IntKind.bits,IntKind.signed]];omega):p:=h
theorem oX{p:Prop}(h:p:=by rw[bne_iff_ne];omega):p:=h
theorem kx{p:Prop}(h:p:=by go_light;refine⟨k+1,by omega,by omega,by go_num,Q.out,?_⟩;obtain⟨q,rfl⟩:=N.out;exact⟨_,EW _ _ _⟩):p:=h
theorem lc{p:Prop}(h:p:=by go_light;simp only[lenS];rw[am.out,ba.out];exact au.out):p:=h
theorem m8{p:Prop}(h:p:=by intro u hu;simp at hu;rcases hu with rfl|rfl|rfl<;>rfl):p:=h
theorem ku{p:Prop}(h:p:=by go_light;exact⟨q+1,i+size,by omega,by omega,by first|rfl|go_num,cm.out,by rw[bh.out];exact bk.out,by rw[bi.out];exact bN.out,a5.out,cr.out⟩):p:=h
theorem nA{p:Prop}(h:p:=by obtain⟨rfl,rfl,hw⟩:=hrel;have hw:=hw.out;subst hw;go_wp2_with fail;go_ret;exact⟨.slice none 0 0,rfl,by rw[HR.out];exact AE _ _ _ _,Ak _ _⟩):p:=h
theorem jj{p:Prop}(h:p:=by first|exact Blk.made _ _ _|exact Blk.made_at _ _ _ (by simp)|exact Blk.drew (Blk.made _ _ _)|exact Blk.drew (Blk.made_at _ _ _ (by simp))):p:=h
theorem pU{p:Prop}(h:p:=by simp only;omega):p:=h
theorem kz{p:Prop}(h:p:=by go_light;refine⟨k+1,ws,row++ [x],vo,_,by omega,by go_num,?_,G.out,HA.out w4 _ _ (HN.out ▸ J) Q⟩;show _<=_;rw[Aj,HN.out];simp;omega):p:=h
theorem oR{p:Prop}(h:p:=by rw[M.out];unfold Gj;rw[<-show q=alike ls (at_-E) at_ from HK.out];exact Ag af):p:=h
theorem oQ{p:Prop}(h:p:=by rw[M.out];unfold Gj;rw[<-show q=alike ls (at_-E) at_ from HK.out];exact Ae af):p:=h
theorem pV{p:Prop}(h:p:=by simp only[Bq,List.map_cons,List.foldl_cons];rw[MS];omega):p:=h
theorem jz{p:Prop}(h:p:=by go_light;exact⟨k+(s+1),v3,_,by omega,by go_num,ae.out,ab.out,Q.out,Y.out⟩):p:=h
theorem nu{p:Prop}(h:p:=by obtain⟨q,hq⟩:=HQ.out;exact⟨_,by rw[hq];exact EW _ _ _⟩):p:=h
theorem py{p:Prop}(h:p:=by rw[show(128:Int)=((128:Nat):Int) from rfl,u8_or_nat _ _ (by omega) (by omega),Uu _ (by omega)];congr 1;omega):p:=h
theorem np{p:Prop}(h:p:=by obtain⟨p,rfl⟩:=aw;exact⟨eZ hL.out.1 (fun _ _=>rfl),fun p hp=>eZ (hL.out.2.1 p hp) (fun _ _=>rfl),hL.out.2.2⟩):p:=h
theorem mU{p:Prop}(h:p:=by have:=h.1;omega):p:=h
theorem ph{p:Prop}(h:p:=by rw[hq];exact EW _ _ _):p:=h
theorem qh{p:Prop}(h:p:=by simpa using h):p:=h
theorem pN{p:Prop}(h:p:=by show _=_;unfold GE;rw[M.cells.2.2];rfl):p:=h
theorem qj{p:Prop}(h:p:=by simpa using he):p:=h
theorem nk{p:Prop}(h:p:=by obtain⟨es,G,h1,_⟩:=E.map;have h2:w4.heap[bo]? =some (.cells #[vT,vL] 53):=i;rw[e,h2]at h1;cases h1):p:=h
theorem oJ{p:Prop}(h:p:=by rw[IF];intro h;simp at h;omega):p:=h
theorem oj{p:Prop}(h:p:=by rw[GY];omega):p:=h
theorem pS{p:Prop}(h:p:=by simp at h):p:=h
theorem nj{p:Prop}(h:p:=by obtain⟨A,n,c,ls,h1,h2,h3,h4,h5,h6,h7⟩:=hR;rw[h5,EY,h3];omega):p:=h
theorem mz{p:Prop}(h:p:=by have:=(Ai N.out y hy).2;simp;omega):p:=h
theorem mp{p:Prop}(h:p:=by have h:=Y.out;rw[<-show T i=R from ab.out,<-show s=(T i).length from HS.out]at h;exact h):p:=h
theorem mf{p:Prop}(h:p:=by have h:=HR.out;rw[Gd E]at h;rw[AK];exact h):p:=h
theorem qc{p:Prop}(h:p:=by simp[intOf];omega):p:=h
theorem nM{p:Prop}(h:p:=by rw[AZ];omega):p:=h
theorem nU{p:Prop}(h:p:=by rw[Aj];omega):p:=h
theorem pX{p:Prop}(h:p:=by simp only[List.length_cons]at ht ⊢;omega):p:=h
theorem mg{p:Prop}(h:p:=by have h:=HR.out;rw[f2]at h;rw[AK];exact h):p:=h
theorem mX{p:Prop}(h:p:=by have:=hy.1;omega):p:=h
theorem p7{p:Prop}(h:p:=by simp[bZ]):p:=h
theorem ly{p:Prop}(h:p:=by have h:=HP.out k (by have:=HN.out;omega) HS.out M.out;rw[Ae al.out]at h;exact h):p:=h
theorem mN{p:Prop}(h:p:=by have:=Ai J x hx;exact⟨this.2,by omega⟩):p:=h
theorem pM{p:Prop}(h:p:=by show _=_;rw[ay.out,<-ai.out,<-hf];simp):p:=h
theorem pQ{p:Prop}(h:p:=by show w.heap.size≠g;omega):p:=h
theorem jq{p:Prop}(h:p:=by go_light;exact⟨at_+1,k+1,ag,rfl,by omega,by omega,ak.out,aa.out,aj.out,J.out⟩):p:=h
theorem oG{p:Prop}(h:p:=by rw[HT.out,show bZ .u8 (T j++ls)=bZ .u8 (T j)++bZ .u8 ls by simp[bZ]];exact Q):p:=h
theorem nG{p:Prop}(h:p:=by rw[<-RO];exact Rt (eZ HO.out (fun y hy=>hb.block y (Ai HO.out y hy).2)) k hk):p:=h
theorem mj{p:Prop}(h:p:=by have h:=Mx bi;rw[ai.out,FX,show i+1+(j-1)=ij by have:=be.out;omega,h,hy];rfl):p:=h
theorem nw{p:Prop}(h:p:=by obtain⟨q,hq⟩:=HQ.out;rw[hq];exact ha):p:=h
theorem lk{p:Prop}(h:p:=by have h1:(i+1)*size<=q*size:=GG size bW;rw[I7,bj.out,<-HY.out]at h1;exact h1):p:=h
theorem pI{p:Prop}(h:p:=by show _=_;rw[Aj,Aj,HP.out,bb.out];rfl):p:=h
theorem nW{p:Prop}(h:p:=by rw[Az _ (by omega)]):p:=h
theorem qi{p:Prop}(h:p:=by simpa using h2):p:=h
theorem ow{p:Prop}(h:p:=by rw[HG.out];rfl):p:=h
theorem md{p:Prop}(h:p:=by have h:=HR.out;rw[Fe E]at h;exact h):p:=h
theorem jo{p:Prop}(h:p:=by go_light;exact⟨Z,k+1,ag,rfl,by omega,by omega,ak.out,aa.out,aj.out,J.out⟩):p:=h
theorem nY{p:Prop}(h:p:=by rw[Bc];omega):p:=h
theorem ko{p:Prop}(h:p:=by go_light;exact⟨k+1,by omega,by omega,by first|rfl|go_num,i.out,h.out _⟩):p:=h
theorem mu{p:Prop}(h:p:=by have hr:=HR.out;rw[al.out.1 h]at hr;rw[Ae (fun h=>h rfl)]at hr;exact hr):p:=h
theorem pJ{p:Prop}(h:p:=by show _=_;rw[Aj,HL.out];rfl):p:=h
theorem pW{p:Prop}(h:p:=by simp only[List.length_cons];omega):p:=h
theorem lz{p:Prop}(h:p:=by have h:=HR.out;rw[Ag (.inr (.inl (HM.out.symm.trans Y)))]at h;exact h):p:=h
theorem pz{p:Prop}(h:p:=by rw[show(i:Int)*(size:Int)=(y:Int) by rw[HY.out];simp,Az _ (by omega)]):p:=h
theorem jy{p:Prop}(h:p:=by go_light;exact⟨j+1,by omega,bM,by first|rfl|go_num,bm.out,(bj _).out⟩):p:=h
theorem oO{p:Prop}(h:p:=by rw[L];exact below_drewN ah.out nq):p:=h
theorem pF{p:Prop}(h:p:=by show _<=_;rw[Aj,Aj,uZ,uZ];have:=HL.out;omega):p:=h
theorem nJ{p:Prop}(h:p:=by rw[<-j.out,Aj,HL.out,He];exact i):p:=h
theorem jn{p:Prop}(h:p:=by first|trivial|rfl):p:=h
theorem nV{p:Prop}(h:p:=by rw[Az _ (by have:=HZ.out;omega)];have:=HZ.out;unfold Hw at aa;omega):p:=h
theorem pK{p:Prop}(h:p:=by show _=_;rw[Aj,HP.out,Ez]):p:=h
theorem pq{p:Prop}(h:p:=by rw[show T 0= [] from U.out];rfl):p:=h
theorem my{p:Prop}(h:p:=by have:2 ^ W<=2 ^ 14:=Cf (by omega) hW;omega):p:=h
theorem oL{p:Prop}(h:p:=by rw[Ja];omega):p:=h
theorem oi{p:Prop}(h:p:=by rw[GF];omega):p:=h
theorem mh{p:Prop}(h:p:=by have h:=HT.out rfl;rw[CF (by rw[HQ.out];exact Am _)]at h;exact h):p:=h
theorem mW{p:Prop}(h:p:=by have:=hx.1;omega):p:=h
theorem nS{p:Prop}(h:p:=by rw[Aj,uZ];have:=HL.out;have:=ah.out;omega):p:=h
theorem nK{p:Prop}(h:p:=by rw[AV (by omega)];exact az.out):p:=h
theorem nr{p:Prop}(h:p:=by obtain⟨p1,p2,p3⟩:=a1 h;have h2:=hT h;rw[p1,p2,p3]at h2;exact h2):p:=h
theorem nN{p:Prop}(h:p:=by rw[Ae (by simp),Ae (by omega)]):p:=h
theorem ke{p:Prop}(h:p:=by go_light;exact⟨k+1,by omega,by first|rfl|go_num,HE.out,j.out _⟩):p:=h
theorem kj{p:Prop}(h:p:=by go_light;exact⟨k+1,by omega,by first|rfl|go_num,Q.out,J.out _⟩):p:=h
theorem ki{p:Prop}(h:p:=by go_light;exact⟨k+1,by omega,by first|rfl|go_num,N.out,E.out _⟩):p:=h
theorem ml{p:Prop}(h:p:=by have h:=P7.out.nil;rw[G.out]at h;exact h):p:=h
theorem mo{p:Prop}(h:p:=by have h:=P7.out.row;rw[G.out]at h;exact h):p:=h
theorem mO{p:Prop}(h:p:=by have:=H9.out j;subst this;rfl):p:=h
theorem nP{p:Prop}(h:p:=by rw[Ag (.inr (.inr (by rw[<-bG.out];exact h3)))]at hr;exact hr):p:=h
theorem nO{p:Prop}(h:p:=by rw[Ag (.inr (.inl (by rw[<-bq.out];exact h2)))]at hr;exact hr):p:=h
theorem oF{p:Prop}(h:p:=by rw[HP.out];exact lZ HO.out z1):p:=h
theorem qg{p:Prop}(h:p:=by simp[results,Tryz.results207,go_sem,hc]):p:=h
theorem m9{p:Prop}(h:p:=by intro u hu;simp at hu;rcases hu with rfl|rfl|rfl|rfl<;>rfl):p:=h
theorem o8{p:Prop}(h:p:=by rw[hT,Aj,<-show s2=(T j).length from HS.out,hn];exact rfl):p:=h
theorem p6{p:Prop}(h:p:=by simp[Program.elem,ht]):p:=h
theorem pC{p:Prop}(h:p:=by show World.ownsRow _ _ _ _ _ _ _;rw[<-HR.out];exact U.out):p:=h
theorem pH{p:Prop}(h:p:=by show _=_;omega):p:=h
theorem o9{p:Prop}(h:p:=by rw[hT,Aj,<-show s=(T i).length from HS.out,hn];exact rfl):p:=h
theorem nE{p:Prop}(h:p:=by rw[<-HJ.out,<-a9.out,FX,HL.out];exact byte_at s (k+m) aa):p:=h
theorem nQ{p:Prop}(h:p:=by rw[Aj,<-HP.out];simp;omega):p:=h
theorem mq{p:Prop}(h:p:=by have h:=ag.out;rw[Ae (fun h=>h rfl),bg.out]at h;exact h):p:=h
theorem pi{p:Prop}(h:p:=by rw[hq];exact(Kept.refl _ _).drewN q):p:=h
theorem oA{p:Prop}(h:p:=by rw[HN.out];omega):p:=h
theorem oC{p:Prop}(h:p:=by rw[HO.out.cellAt i (by omega)];unfold bZ;rw[BR,hk];rfl):p:=h
theorem nz{p:Prop}(h:p:=by obtain⟨qd,h⟩:=HD.out;rw[h];exact below_drewN bk.out qd):p:=h
theorem oP{p:Prop}(h:p:=by rw[List.length_flatten];exact G4 hs):p:=h
theorem jw{p:Prop}(h:p:=by go_light;exact⟨i+1,s',rfl,rfl,by omega,M.out,trivial⟩):p:=h
theorem qb{p:Prop}(h:p:=by simp[intOf]):p:=h
theorem lp{p:Prop}(h:p:=by have h1:=HN.out;have h2:=ax.out;rw[Aj,AI,Bc,AZ];omega):p:=h
theorem pL{p:Prop}(h:p:=by show _=_;rw[HI.out,Ex,Nat.one_mul]):p:=h
theorem oY{p:Prop}(h:p:=by rw[e,hy]at hx;injection hx with hx;exact hne hx.symm):p:=h
theorem pj{p:Prop}(h:p:=by rw[hy,e]):p:=h
theorem pE{p:Prop}(h:p:=by show _<=_;omega):p:=h
theorem lu{p:Prop}(h:p:=by have h:=HF.out;rw[HN.out];exact h):p:=h
theorem mP{p:Prop}(h:p:=by have:=HF.out;omega):p:=h
theorem mS{p:Prop}(h:p:=by have:=HQ.out;omega):p:=h
theorem mT{p:Prop}(h:p:=by have:=HZ.out;omega):p:=h
theorem pT{p:Prop}(h:p:=by simp at hx):p:=h
theorem pm{p:Prop}(h:p:=by rw[show 7*(i+1)=7*i+7 by omega,Nat.pow_add];omega):p:=h
theorem mw{p:Prop}(h:p:=by have hr:=HR.out;rw[al.out.2 h,Ag h]at hr;exact hr):p:=h
theorem nR{p:Prop}(h:p:=by rw[Aj,HL.out];exact rfl):p:=h
theorem mQ{p:Prop}(h:p:=by have:=HM.out;simp;omega):p:=h
theorem pY{p:Prop}(h:p:=by simp;have:=ah.out;omega):p:=h
theorem jg{p:Prop}(h:p:=by cases M with|true=>rfl|false=>exact absurd rfl Y):p:=h
theorem qm{p:Prop}(h:p:=by subst hR;exact⟨hb,fun _=>rfl,fun h=>absurd h he⟩):p:=h
theorem oU{p:Prop}(h:p:=by rw[a3.out];intro h;injection h with h;exact bh h):p:=h
theorem n9{p:Prop}(h:p:=by rw[FO (by have:=ac.out;have:=be.out;omega)];simp):p:=h
theorem ny{p:Prop}(h:p:=by obtain⟨qd,h⟩:=HD.out;exact⟨qd+qe,by rw[h];simp⟩):p:=h
theorem pk{p:Prop}(h:p:=by rw[hz.2,<-J];exact L.setErr e2):p:=h
theorem n8{p:Prop}(h:p:=by rw[E];omega):p:=h
theorem ox{p:Prop}(h:p:=by rw[HL.out];exact Am _):p:=h
theorem oy{p:Prop}(h:p:=by rw[HM.out];exact Am _):p:=h
theorem nI{p:Prop}(h:p:=by rw[<-bq.out];exact h2):p:=h
theorem nH{p:Prop}(h:p:=by rw[<-bG.out];exact h3):p:=h
theorem oM{p:Prop}(h:p:=by rw[L,an];exact aw.out):p:=h
theorem oW{p:Prop}(h:p:=by rw[aq.out];omega):p:=h
theorem nD{p:Prop}(h:p:=by rw[<-HE.out];rfl):p:=h
theorem mV{p:Prop}(h:p:=by have:=h.mi.map.lt;simp;omega):p:=h
theorem nm{p:Prop}(h:p:=by obtain⟨g,c,hv,_⟩:=h.ro.form G;exact⟨g,c,hv⟩):p:=h
theorem nF{p:Prop}(h:p:=by rw[<-HP.out];exact j):p:=h
theorem jh{p:Prop}(h:p:=by cases h):p:=h
theorem pd{p:Prop}(h:p:=by rw[h];exact HR.out.drewN q1):p:=h
theorem pg{p:Prop}(h:p:=by rw[he];exact ht):p:=h
theorem oI{p:Prop}(h:p:=by rw[Hz];omega):p:=h
theorem oV{p:Prop}(h:p:=by rw[al.out];exact h3):p:=h
theorem oD{p:Prop}(h:p:=by rw[HP.out];exact hp):p:=h
theorem oK{p:Prop}(h:p:=by rw[IntKind.wrap_i64];omega):p:=h
theorem pG{p:Prop}(h:p:=by show _<=w9.heap.size;omega):p:=h
theorem qk{p:Prop}(h:p:=by simpa using hs):p:=h
theorem o6{p:Prop}(h:p:=by rw[hO.e];omega):p:=h
theorem ql{p:Prop}(h:p:=by subst e;exact Lt.irrefl h):p:=h
theorem pB{p:Prop}(h:p:=by rw[str_eq];simpa using he):p:=h
theorem p8{p:Prop}(h:p:=by simp[h]):p:=h
theorem o7{p:Prop}(h:p:=by rw[hR,<-G];exact HC.out):p:=h
theorem oS{p:Prop}(h:p:=by rw[NH];exact h.1):p:=h
theorem n5{p:Prop}(h:p:=by rw[Ce];omega):p:=h
theorem pf{p:Prop}(h:p:=by rw[h];rfl):p:=h
theorem pP{p:Prop}(h:p:=by show g≠gb;omega):p:=h
theorem oT{p:Prop}(h:p:=by rw[Z.out];omega):p:=h
end
open Go.Proofs.Tryz
variable{B X b base g i k n s x:Nat}{a c w:World}{p:Addr}{u:Value}{o:Obj}{e t:TypeId}{xs:List Value}{arr:Array Value}{A:Option Addr}{l ls:List Nat}{most:Int}
section
open Go Go.RowKit
theorem Ae:type_of% @if_neg:=@if_neg
theorem Ag:type_of% @if_pos:=@if_pos
theorem Ai:type_of% @World.ownsRow.lt:=@World.ownsRow.lt
theorem Aj:type_of% @List.length_append:=@List.length_append
theorem Ak:type_of% @Below.refl:=@Below.refl
theorem Am:type_of% @Nat.le_refl:=@Nat.le_refl
theorem Aq:type_of% @List.getD_eq_getElem?_getD:=@List.getD_eq_getElem?_getD
theorem Aw:type_of% @Below.drew:=@Below.drew
theorem Az:type_of% @IntWalk.i64_in:=@IntWalk.i64_in
theorem AD:type_of% @List.getElem?_eq_getElem:=@List.getElem?_eq_getElem
theorem AE:type_of% @World.ownsRow_nil:=@World.ownsRow_nil
theorem AI:type_of% @List.length_cons:=@List.length_cons
theorem AK:type_of% @List.append_assoc:=@List.append_assoc
theorem AM:type_of% @congrArg:=@congrArg
theorem AQ:type_of% @decide_eq_true:=@decide_eq_true
theorem AV:type_of% @decide_eq_false:=@decide_eq_false
theorem AY:type_of% @List.mem_of_getElem?:=@List.mem_of_getElem?
theorem AZ:type_of% @List.length_drop:=@List.length_drop
theorem Bc:type_of% @List.length_take:=@List.length_take
theorem Be:type_of% @Below.heap_setCell:=@Below.heap_setCell
theorem Bj:type_of% @IntKind.wrap_u64:=@IntKind.wrap_u64
theorem Bk:type_of% @List.length_map:=@List.length_map
theorem Bm:type_of% @Nat.le_trans:=@Nat.le_trans
theorem Bp:type_of% @List.take_of_length_le:=@List.take_of_length_le
theorem Br:type_of% @Int.toNat_natCast:=@Int.toNat_natCast
theorem Bx:type_of% @List.mem_append:=@List.mem_append
theorem By:type_of% @Ne.symm:=@Ne.symm
theorem BK:type_of% @List.mem_cons:=@List.mem_cons
theorem BR:type_of% @List.getElem?_map:=@List.getElem?_map
theorem BS:type_of% @List.getElem?_eq_some_iff:=@List.getElem?_eq_some_iff
theorem B0:type_of% @Nat.zero_add:=@Nat.zero_add
theorem Ca:type_of% @List.take_add_one:=@List.take_add_one
theorem Cf:type_of% @Nat.pow_le_pow_right:=@Nat.pow_le_pow_right
theorem Cg:type_of% @List.mem_of_mem_drop:=@List.mem_of_mem_drop
theorem Ch:type_of% @Bool.and_eq_true:=@Bool.and_eq_true
theorem Cl:type_of% @List.mem_map:=@List.mem_map
theorem Cm:type_of% @List.mem_cons_of_mem:=@List.mem_cons_of_mem
theorem Cw:type_of% @Nat.add_zero:=@Nat.add_zero
theorem Cx:type_of% @List.append_nil:=@List.append_nil
theorem CE:type_of% @List.map_cons:=@List.map_cons
theorem CF:type_of% @List.drop_of_length_le:=@List.drop_of_length_le
theorem CJ:type_of% @Nat.lt_irrefl:=@Nat.lt_irrefl
theorem CN:type_of% @List.mem_of_mem_take:=@List.mem_of_mem_take
theorem CP:type_of% @List.mem_cons_self:=@List.mem_cons_self
theorem Da:type_of% @Nat.zero_le:=@Nat.zero_le
theorem Df:type_of% @bodyPost_ret:=@bodyPost_ret
theorem Dl:type_of% @Nat.pow_succ:=@Nat.pow_succ
theorem Dm:type_of% @List.flatMap_cons:=@List.flatMap_cons
theorem Dn:type_of% @Calls.quiet_of_same:=@Calls.quiet_of_same
theorem Dx:type_of% @List.drop_eq_getElem_cons:=@List.drop_eq_getElem_cons
theorem DY:type_of% @List.map_append:=@List.map_append
theorem Ea:type_of% @List.length_nil:=@List.length_nil
theorem Em:type_of% @List.mem_singleton:=@List.mem_singleton
theorem En:type_of% @List.cons_append:=@List.cons_append
theorem Ex:type_of% @Nat.add_mul:=@Nat.add_mul
theorem Ey:type_of% @List.nil_append:=@List.nil_append
theorem Ez:type_of% @List.length_replicate:=@List.length_replicate
theorem EA:type_of% @Below.heap_alloc:=@Below.heap_alloc
theorem EK:type_of% @Nat.mul_one:=@Nat.mul_one
theorem EL:type_of% @List.all_eq_true:=@List.all_eq_true
theorem EW:type_of% @World.drewN_drewN:=@World.drewN_drewN
theorem EX:type_of% @List.take_append_drop:=@List.take_append_drop
theorem Fi:type_of% @Nat.lt_of_lt_of_le:=@Nat.lt_of_lt_of_le
theorem FA:type_of% @List.mem_range:=@List.mem_range
theorem FD:type_of% @results_none:=@results_none
theorem FN:type_of% @List.pairwise_cons:=@List.pairwise_cons
theorem FO:type_of% @List.getElem?_eq_none:=@List.getElem?_eq_none
theorem FV:type_of% @Option.getD_some:=@Option.getD_some
theorem FW:type_of% @List.length_pos_iff:=@List.length_pos_iff
theorem FX:type_of% @List.getElem?_drop:=@List.getElem?_drop
theorem Gk:type_of% @Nat.two_pow_pos:=@Nat.two_pow_pos
theorem Gl:type_of% @Nat.sub_self:=@Nat.sub_self
theorem Gm:type_of% @List.map_nil:=@List.map_nil
theorem Gn:type_of% @List.getElem?_take:=@List.getElem?_take
theorem GF:type_of% @beq_eq_false_iff_ne:=@beq_eq_false_iff_ne
theorem GG:type_of% @Nat.mul_le_mul_right:=@Nat.mul_le_mul_right
theorem GH:type_of% @List.sum_cons:=@List.sum_cons
theorem GI:type_of% @List.getElem_mem:=@List.getElem_mem
theorem GY:type_of% @IntKind.wrap_u8':=@IntKind.wrap_u8'
theorem GZ:type_of% @ByteArray.toList_eq:=@ByteArray.toList_eq
theorem G0:type_of% @Bool.false_and:=@Bool.false_and
theorem Hh:type_of% @Nat.mul_le_mul:=@Nat.mul_le_mul
theorem Hi:type_of% @List.range_succ:=@List.range_succ
theorem Hj:type_of% @List.map_congr_left:=@List.map_congr_left
theorem Hk:type_of% @List.getElem?_append_left:=@List.getElem?_append_left
theorem Hl:type_of% @List.eq_nil_of_length_eq_zero:=@List.eq_nil_of_length_eq_zero
theorem Hm:type_of% @Array.getElem?_setIfInBounds:=@Array.getElem?_setIfInBounds
theorem Ie:type_of% @List.drop_zero:=@List.drop_zero
theorem If:type_of% @Int.eq_ofNat_of_zero_le:=@Int.eq_ofNat_of_zero_le
theorem IC:type_of% @UInt8.toNat_lt:=@UInt8.toNat_lt
theorem ID:type_of% @Nat.div_le_self:=@Nat.div_le_self
theorem IE:type_of% @Nat.add_sub_cancel_left:=@Nat.add_sub_cancel_left
theorem IF:type_of% @Bool.eq_false_iff:=@Bool.eq_false_iff
theorem I7:type_of% @Nat.succ_mul:=@Nat.succ_mul
theorem I8:type_of% @List.getElem?_append_right:=@List.getElem?_append_right
theorem I9:type_of% @List.flatMap_append:=@List.flatMap_append
theorem Ja:type_of% @IntKind.wrap_u32':=@IntKind.wrap_u32'
theorem JG:type_of% @List.length_singleton:=@List.length_singleton
theorem JH:type_of% @IntWalk.wrap64_in:=@IntWalk.wrap64_in
theorem JI:type_of% @Bool.eq_iff_iff:=@Bool.eq_iff_iff
theorem Kv:type_of% @Decidable.byContradiction:=@Decidable.byContradiction
theorem LJ:type_of% @Nat.mod_two_eq_zero_or_one:=@Nat.mod_two_eq_zero_or_one
theorem LK:type_of% @Nat.div_div_eq_div_mul:=@Nat.div_div_eq_div_mul
theorem LL:type_of% @List.length_eq_zero_iff:=@List.length_eq_zero_iff
theorem LM:type_of% @Classical.byContradiction:=@Classical.byContradiction
theorem LN:type_of% @Array.getElem?_eq_getElem:=@Array.getElem?_eq_getElem
theorem NF:type_of% @Nat.and_two_pow_sub_one_eq_mod:=@Nat.and_two_pow_sub_one_eq_mod
theorem NG:type_of% @List.sum_append:=@List.sum_append
theorem NH:type_of% @Array.size_setIfInBounds:=@Array.size_setIfInBounds
end
open Go.Lib (hid)
set_option maxHeartbeats 1000000
set_option maxRecDepth 100000
namespace Mem
open Go.RowKit
theorem below_drewN(h:Below B a w)(n:Nat):Below B a (w.drewN n):=⟨h.os,h.tape,h.output,h.size,h.block⟩
theorem BN(hp:B<=p.block)(h:Below B a w):Below B a (w.setCell p u):=h.setCell hp u
theorem mZ(hB:B<=w.heap.size)(h:Below B a w):Below B a (w.alloc o):=h.alloc hB o
theorem cZ(h:Below a a w):Below a a (w.alloc o):=h.alloc h.size o
theorem dZ{b:World}(h:Below b b c)(k:Below a a b):Below a a c:=k.trans (h.mono k.size)
theorem zZ{b:World}(h:Below b b c)(hB:B<=b.heap.size)(k:Below B a b):Below B a c:=k.trans (h.mono hB)
theorem oZ(h:Below B a w)(hp:B<=p.block:=by first|(simp;done)|(simp;omega)|omega|(simp at *;omega)):Below B a (w.setCell p u):=h.setCell hp u
theorem belA(h:Below B a w)(hB:B<=w.heap.size:=by first|(simp;done)|(simp;omega)|omega|(simp at *;omega)):Below B a (w.alloc o):=h.alloc hB o
theorem pZ{b:World}(h:Below b b c)(k:Below B a b)(hB:B<=b.heap.size:=by first|(simp;done)|(simp;omega)|omega|(simp at *;omega)):Below B a c:=k.trans (h.mono hB)
theorem Ff{a b:Bool}(h:a=b):Ending.returned (.bool a)= .returned (.bool b):=by rw[h]
theorem KJ{k:IntKind}{a b:Int}(h:a=b):Ending.returned (.int k a)= .returned (.int k b):=by rw[h]
def Blk(w:World)(g:Nat)(t:TypeId)(cs:Array Value):Prop:=w.heap[g]? =some (.cells cs t (0,0))
section
variable {w w':World} {g:Nat} {t:TypeId} {cs:Array Value}
theorem Blk.lt(h:Blk w g t cs):g<w.heap.size:=by
 unfold Blk at h;rcases Nat.lt_or_ge g w with k|k
 ·exact k
 ·rw[Array.getElem?_eq_none k]at h;cases h
theorem Blk.cell(h:Blk w g t cs)(i:Nat):w.cell? ⟨g,i,none⟩=cs[i]? :=by unfold Blk at h;simp[World.cell?,h]
def iz:List Value->Nat->Option Value
 |[],_=>none
 |x::_,0=>some x
 |_::l,n+1=>iz l n
theorem Blk.iy{l:List Value}(h:Blk w g t l.toArray)(i:Nat){v:Value}(e:iz l i=some v:=by exact rfl):w.cell? ⟨g,i,none⟩=some v:=by
 rw[h.cell i];simp only[List.getElem?_toArray];clear h;induction l generalizing i with
 |nil=>cases e
 |cons x l ih=>cases i with
  |zero=>exact e
  |succ i=>exact ih i e
theorem Blk.frozen(h:Blk w g t cs)(i:Nat):w.frozen? ⟨g,i,none⟩=false:=by unfold Blk at h;simp[World.frozen?,h]
theorem Blk.six{a0 a1 a2 a3 a4 a5:Value}(h:Blk w g t #[a0,a1,a2,a3,a4,a5]):w.cell? ⟨g,0,none⟩=some a0/\w.cell? ⟨g,1,none⟩=some a1/\w.cell? ⟨g,2,none⟩=some a2/\w.cell? ⟨g,3,none⟩=some a3/\w.cell? ⟨g,4,none⟩=some a4/\w.cell? ⟨g,5,none⟩=some a5:=⟨h.cell 0,h.cell 1,h.cell 2,h.cell 3,h.cell 4,h.cell 5⟩
theorem Blk.sixf(h:Blk w g t cs):w.frozen? ⟨g,0,none⟩=false/\w.frozen? ⟨g,1,none⟩=false/\w.frozen? ⟨g,2,none⟩=false/\w.frozen? ⟨g,3,none⟩=false/\w.frozen? ⟨g,4,none⟩=false/\w.frozen? ⟨g,5,none⟩=false:=⟨h.frozen 0,h.frozen 1,h.frozen 2,h.frozen 3,h.frozen 4,h.frozen 5⟩
theorem Blk.made(w:World)(t:TypeId)(cs:Array Value):Blk (w.alloc (.cells cs t)) w t cs:=heap_alloc_new w _
theorem Blk.made_at(w:World)(t:TypeId)(cs:Array Value)(hg:g=w.heap.size):Blk (w.alloc (.cells cs t)) g t cs:=by subst hg;exact Blk.made w t cs
theorem Blk.drew(h:Blk w g t cs):Blk w.drew g t cs:=h
theorem Blk.drewN(h:Blk w g t cs)(n:Nat):Blk (w.drewN n) g t cs:=h
theorem Blk.alloc(h:Blk w g t cs)(o:Obj):Blk (w.alloc o) g t cs:=(EA w o g h.lt).trans h
theorem Blk.set(h:Blk w g t cs)(i:Nat)(u:Value):Blk (w.setCell ⟨g,i,none⟩ u) g t (cs.setIfInBounds i u):=by unfold Blk at h ⊢;simp[World.setCell,Array.getElem?_modify,h]
theorem Blk.far(h:Blk w g t cs)(hp:g≠p.block)(u:Value):Blk (w.setCell p u) g t cs:=(Be w p u g hp).trans h
theorem Blk.below(h:Blk w g t cs)(hb:Below B w w')(hg:g<B):Blk w' g t cs:=(hb.block g hg).trans h
theorem Blk.step(h:Blk w g t cs)(hb:Below w w w'):Blk w' g t cs:=h.below hb h.lt
theorem Blk.grown{row:Option Nat}(h:Blk w g t cs)(hb:w.grownBy w' row)(hg:some g≠row):Blk w' g t cs:=(hb.block g h.lt hg).trans h
theorem Blk.apart{g':Nat}{t':TypeId}{j:Array Value}(h:Blk w g t cs)(h':Blk w g' t' j)(i:t≠t'):g≠g':=by intro e;subst e;unfold Blk at h h';rw[h]at h';injection h' with h';injection h' with _ ht;exact i ht
end
def Wf(A:Option Addr)(n c:Nat):Prop:=(A=none->n=0/\c=0)/\n<=c
theorem Wf.nil:Wf none 0 0:=⟨fun _=>⟨rfl,rfl⟩,Am _⟩
theorem Wf.some{a:Addr}{c:Nat}(h:n<=c):Wf (Option.some a) n c:=⟨(fun h=>by cases h),h⟩
def Row(w:World)(B:Nat)(A:Option Addr)(n s:Nat)(f:Nat->Nat->Value):Prop:=
 0<n->∃b off,A=some ⟨b,off,none⟩/\b<B/\∀i j,i<n->j<s->w.cell? ⟨b,off+(i*s+j),none⟩=some (f i j)
section
variable {w w':World} {B B' n s:Nat} {A:Option Addr} {f g:Nat->Nat->Value}
theorem Row.zero:Row w B A 0 s f:=fun h=>absurd h nB
theorem Row.keep(h:Row w B A n s f)(hk:∀p:Addr,p.block<B->w'.cell? p=w.cell? p):Row w' B A n s f:=fun hn=>by obtain⟨b,E,e,hb,hc⟩:=h hn;exact⟨b,E,e,hb,fun i j hi hj=>(hk _ hb).trans (hc i j hi hj)⟩
theorem Row.below(h:Row w B A n s f)(hb:Below B w w'):Row w' B A n s f:=h.keep fun _ hp=>hb.cell hp
theorem Row.mono(h:Row w B A n s f)(hB:B<=B'):Row w B' A n s f:=fun hn=>by obtain⟨b,i,e,hb,hc⟩:=h hn;exact⟨b,i,e,nB,hc⟩
theorem Row.drewN(h:Row w B A n s f)(k:Nat):Row (w.drewN k) B A n s f:=h
theorem Row.congr(h:Row w B A n s f)(E:∀i j,i<n->j<s->f i j=g i j):Row w B A n s g:=fun hn=>by obtain⟨b,G,e,hb,hc⟩:=h hn;exact⟨b,G,e,hb,fun i j hi hj=>by rw[<-E i j hi hj];exact hc i j hi hj⟩
theorem Row.alloc(h:Row w B A n s f)(hB:B<=w.heap.size)(o:Obj):Row (w.alloc o) B A n s f:=h.keep fun p hp=>World.cell?_alloc_lt (w:=w) (a:=p) (o:=o) nB
theorem Row.of_blk{cs:Array Value}(h:Blk w b t cs)(hB:b<B)(hf:∀i j,i<n->j<s->cs[i*s+j]? =some (f i j)):Row w B (some ⟨b,0,none⟩) n s f:=
 fun _=>⟨b,0,rfl,hB,fun i j hi hj=>by rw[B0,h.cell];exact hf i j hi hj⟩
theorem Row.of_own{v:Value}{c:Nat}(h:w.ownsRow base e s v n xs)(hv:v= .slice A n c)(hf:∀i j,i<n->j<s->xs[i*s+j]? =some (f i j)):Row w w A n s f:=fun hn=>by
 rcases h.2 with ⟨_,h0⟩|⟨g,M,cur,G,_,hh,J,_,L,E⟩
 ·omega
 ·rw[hv]at G;injection G with e1 e2 e3;refine⟨g,0,e1,Blk.lt hh,fun i j hi hj=> ?_⟩;rw[B0,Blk.cell hh];have:=hf i j hi hj;rw[<-E,Gn]at this;split at this
  ·simpa using this
  ·cases this
end
theorem aZ{v:Value}(h:w.ownsRow base e s v n xs):∃A c,v= .slice A n c:=by
 rcases h.2 with ⟨rfl,rfl⟩|⟨g,i,cur,rfl,_⟩
 ·exact⟨_,_,rfl⟩
 ·exact⟨_,_,rfl⟩
def ints(k:IntKind)(l:List Int):Array Value:=(l.map (Value.int k)).toArray
theorem La(k:IntKind)(l:List Int)(i:Nat)(h:i<l.length):(ints k l)[i]? =some (.int k (l.getD i 0)):=by simp[ints,h]
theorem ints_set(k:IntKind)(l:List Int)(i:Nat)(x:Int):(ints k l).setIfInBounds i (.int k x)=ints k (l.set i x):=by simp[ints,List.map_set]
end Mem
namespace Canon
open Go.RowKit Mem
def cnt(ls:List Nat)(l:Nat):Nat:=ls.countP (fun x=>decide (x=l))
def cn(ls:List Nat)(l:Nat):Nat:=if l=0 then 0 else cnt ls l
theorem Jv(l:Nat):cnt [] l=0:=rfl
theorem GA(ls:List Nat)(x l:Nat):cnt (ls++ [x]) l=cnt ls l+if x=l then 1 else 0:=by unfold cnt;rw[List.countP_append];by_cases h:x=l<;>simp[h]
theorem LY(ls:List Nat)(l:Nat):cnt ls l<=ls.length:=List.countP_le_length
theorem Jm(ls:List Nat)(l:Nat):cn ls l<=ls.length:=by
 unfold cn;split
 ·omega
 ·exact LY ls l
theorem GB{α:Type}{l:List α}{x:α}(h:l[k]? =some x):l.take (k+1)=l.take k++ [x]:=by rw[Ca,h];rfl
def Dq(ls:List Nat):Nat->Nat
 |0=>0
 |l+1=>Dq ls l+cn ls l*2 ^ (15-l)
def Fz(ls:List Nat):Nat->Nat
 |0=>0
 |l+1=>Fz ls l+cn ls l
def EV(ls:List Nat):Nat:=(ls.map fun x=>if x=0 then 0 else 2 ^ (15-x)).sum
def used(ls:List Nat):Nat:=ls.countP (fun x=>decide (x≠0))
theorem Tb(x:Nat)(ls:List Nat)(l:Nat):cn (x :: ls) l=cn ls l+if x≠0/\x=l then 1 else 0:=by
 unfold cn cnt;by_cases hl:l=0
 ·subst hl;simp
 ·rw[Ae hl,Ae hl,List.countP_cons];by_cases hx:x=l
  ·simp[hx,hl]
  ·simp[hx]
theorem Rf:∀l,Dq [] l=0
 |0=>rfl
 |l+1=>by rw[Dq,Rf l];simp[cn,Jv]
theorem Q0:∀l,Fz [] l=0
 |0=>rfl
 |l+1=>by rw[Fz,Q0 l];simp[cn,Jv]
theorem Sy(x:Nat)(ls:List Nat):∀l,Dq (x :: ls) l=Dq ls l+if x≠0/\x<l then 2 ^ (15-x)else 0
 |0=>by simp[Dq]
 |l+1=>by
  rw[Dq,Sy x ls l,Dq,Tb,Ex];by_cases h0:x=0
  ·simp[h0]
  ·by_cases h1:x=l
   ·subst h1;simp[h0];omega
   ·by_cases h2:x<l
    ·have:x<l+1:=nB;simp[h0,h1,h2,this];omega
    ·have:¬x<l+1:=nB;simp[h1,h2,this]
theorem Sj(x:Nat)(ls:List Nat):∀l,Fz (x :: ls) l=Fz ls l+if x≠0/\x<l then 1 else 0
 |0=>by simp[Fz]
 |l+1=>by
  rw[Fz,Sj x ls l,Fz,Tb];by_cases h0:x=0
  ·simp[h0]
  ·by_cases h1:x=l
   ·subst h1;simp[h0];omega
   ·by_cases h2:x<l
    ·have:x<l+1:=nB;simp[h0,h1,h2,this];omega
    ·have:¬x<l+1:=nB;simp[h1,h2,this]
theorem MT:∀ (ls:List Nat),(∀x∈ls,x<=15)->Dq ls 16=EV ls
 | [],_=>by rw[Rf];rfl
 |x :: ls,h=>by
  have h1:=h x pR;rw[Sy,MT ls (fun y hy=>h y (by simp[hy]))];unfold EV;rw[CE,GH];by_cases h0:x=0
  ·simp[h0]
  ·have:x<16:=nB;simp[h0,this];omega
theorem M4:∀ (ls:List Nat),(∀x∈ls,x<=15)->Fz ls 16=used ls
 | [],_=>by rw[Q0];rfl
 |x :: ls,h=>by
  have h1:=h x pR;rw[Sj,M4 ls (fun y hy=>h y (by simp[hy]))];unfold used;rw[List.countP_cons];by_cases h0:x=0
  ·simp[h0]
  ·have:x<16:=nB;simp[h0,this]
def okB(ls:List Nat):Bool:=decide (ls.length<=300)&&ls.all (fun x=>decide (x<=15))&&(decide (used ls=0) || decide (used ls=1/\cnt ls 1=1) || decide (EV ls=32768))
def fst(ls:List Nat):Nat->Nat
 |0=>0
 |l+1=>2*(fst ls l+cn ls l)
def code(ls:List Nat)(s:Nat):Nat:=let x:=ls.getD s 0;if x=0 then 0 else fst ls x+cnt (ls.take s) x
def codes(ls:List Nat):List Nat:=(List.range ls.length).map (code ls)
theorem zW(ls:List Nat):∀l,fst ls l+2*ls.length<=2 ^ (l+1)*ls.length
 |0=>by simp[fst]
 |l+1=>by
  have h1:=zW ls l;have h2:=Jm ls l;have h3:2 ^ (l+1+1)*ls.length=2*(2 ^ (l+1)*ls.length):=by rw[Dl 2 (l+1),Nat.mul_comm (2 ^ (l+1)) 2,Nat.mul_assoc]
  rw[fst,h3];omega
def kZ(k:IntKind)(l:List Nat):Nat->Nat->Value:=fun i _=> .int k (l.getD i 0:Nat)
def Cnts(f:Nat->Nat)(n:Nat)(arr:Array Value):Prop:=arr.size=n/\∀l,l<n->arr[l]? =some (.int .i64 (f l))
theorem Cnts.set{f g:Nat->Nat}{v:Nat}(h:Cnts f n arr)(hv:g x=v)(ho:∀l,l≠x->g l=f l):Cnts g n (arr.setIfInBounds x (.int .i64 (v:Nat))):=by
 refine⟨oS,fun l hl=> ?_⟩;rw[Hm];by_cases e:x=l
 ·subst e;rw[Ag rfl,Ag mU,hv]
 ·rw[Ae e,h.2 l hl,ho l (By e)]
end Canon
namespace Canon
open Go.RowKit Mem
theorem Xn{cs:Array Value}{v:Value}(h:cs[i]? =some v):cs.setIfInBounds i v=cs:=by
 apply Array.ext_getElem?
 intro j;rw[Hm];split
 ·rename_i e;subst e;obtain⟨hi,_⟩:=Array.getElem?_eq_some_iff.1 h;rw[Ag hi,h]
 ·rfl
theorem MV{g:Nat}{t:TypeId}{cs:Array Value}:∀ (vs:List Value) (o:Nat) (w:World),Blk w g t cs->(∀j v,vs[j]? =some v->cs[o+j]? =some v)->Blk (w.setCells g o vs) g t cs
 | [],_,_,h,_=>h
 |v :: vs,o,w,h,hc=>by
  refine MV vs (o+1) _ ?_ (fun j u hu=>by rw[show o+1+j=o+(j+1) by omega];exact hc (j+1) u hu);have:=h.set o v
  rwa [Xn (by simpa using hc 0 v rfl)]at this
theorem Ks{B g:Nat}{a:World}(hB:B<=g):∀ (vs:List Value) (o:Nat) (w:World),Below B a w->Below B a (w.setCells g o vs)
 | [],_,_,h=>h
 |_ :: vs,o,_,h=>Ks hB vs (o+1) _ (BN (p:=⟨g,o,none⟩) hB h)
theorem KO{cs:Array Value}(h:Blk w g t cs):w.there g 0 cs.size:=fun j hj=>by rw[B0];exact⟨by rw[h.cell,LN hj];rfl,h.frozen j⟩
theorem Cnts.one{f:Nat->Nat}(h:Cnts f n arr):arr.all (·.oneCell')=true:=by rw[Array.all_eq_true];intro i hi;have:=h.2 i mU;rw[LN hi]at this;injection this with this;rw[this];rfl
theorem Cnts.zero:Cnts (fun _=>0) 16 #[jd,jd,jd,jd,jd,jd,jd,jd,jd,jd,jd,jd,jd,jd,jd,jd]:=by
 refine⟨rfl,fun l hl=> ?_⟩;have:l=0∨l=1∨l=2∨l=3∨l=4∨l=5∨l=6∨l=7∨l=8∨l=9∨l=10∨l=11∨l=12∨l=13∨l=14∨l=15:=nB
 rcases this with rfl|rfl|rfl|rfl|rfl|rfl|rfl|rfl|rfl|rfl|rfl|rfl|rfl|rfl|rfl|rfl<;>rfl
theorem results_cell_tmp{P:Program}{fn:Func}{p q:Tmp}{ty:TypeId}(h:fn.results=#[.cell p ty, .tmp q])(i:Array Value)(w:World)(g:Nat)(t:TypeId)(cs:Array Value)(d:TypeDesc)(u:Value)
 (hp:i.getD p undef= .pointer (some ⟨g,0,none⟩))(hq:i.getD q undef=u)(hg:Blk w g t cs)
 (hu:P.underlying ty=some d)(hd:(match d with| .struct _| .array _ _=>true|_=>false)=true)(hi:(P.info? ty).map (·.size)=some cs.size):
 (results fn i).run P w= .ok (.tuple #[.agg cs,u]) w:=by
 have E:i[p]?.getD undef= .pointer (some ⟨g,0,none⟩):=by simpa using hp
 have j:i[q]?.getD undef=u:=by simpa using hq
 simp[results,h,E,j,asAddr,run_loadVar_row w g t ty cs (0,0) d hg hu hd hi]
theorem JQ:(prog.info? 442).map (·.size)=some 16:=ni
def Cq(ls:List Nat):Bool:=decide (ls.length<=300)&&ls.all (fun x=>decide (x<=15))
def CountPost(ls:List Nat)(w:World)(e:Ending)(w':World):Prop:=
 ∃ (arr:Array Value) (f:Nat->Nat),e= .returned (.tuple #[.agg arr, .bool (Cq ls)])/\Cnts f 16 arr/\(∀l,f l<=300)/\(Cq ls=true->f=cn ls)/\Below w w w'
theorem Dg{k:IntKind}(h:Row w B A n 1 (kZ k ls))(hn:ls.length=n)(hi:i<n):
 ∃b j x,A=some ⟨b,j,none⟩/\b<B/\ls[i]? =some x/\w.cell? ⟨b,j+i,none⟩=some (.int k (x:Nat)):=by
 obtain⟨b,j,e,hb,hc⟩:=h nB;have hl:i<ls.length:=nB
 have h1:=hc i 0 hi nB;simp only[kZ,Nat.mul_one,Nat.add_zero,List.getD_eq_getElem?_getD,List.getElem?_eq_getElem hl,Option.getD_some]at h1;exact⟨b,j,ls[i],e,hb,AD hl,h1⟩
theorem R6(w:World)(A:Option Addr)(n c:Nat)(ls:List Nat)(hn:ls.length=n)(hN:n<=9223372036854775807)(ha:Row w w A n 1 (kZ .u8 ls)):
 Calls prog 349 #[.slice A n c] w (CountPost ls w):=by
 have HN:=hid hn;clear hn;by_cases ax:n<=300
 ·have hd:=jb (300<n)
  go_enter func349,ntmps349;go_wp2_with fail;go_loopw [12] (fun i wr=>∃ (k:Nat) (arr:Array Value),k<=n/\i= .int .i64 k/\Blk wr w 442 arr/\Hid (Cnts (cnt (ls.take k)) 16 arr)/\Hid (∀x∈ls.take k,x<=15)/\Below w w wr) (fun i _=>n-(intOf i).toNat)
  case atStart=>exact⟨0,_,nB,rfl,Blk.made _ _ _,Cnts.zero,fun x hx=>pT,cZ (Ak _ _)⟩
  case round=>
   obtain⟨k,arr,hk,rfl,blk,G,al,N⟩:=hrel;have ac:(prog.info? 442).map (·.size)=some arr.size:=(by rw[G.out.1];exact JQ);have HI:=hid ac;clear ac;have au:=blk.frozen 0;by_cases ar:k<n
   ·obtain⟨b,az,x,rfl,ay,hx,c0⟩:=Dg (ha.below N) HN.out ar;have ak:=GB hx;have HX:=hid hx;have ag:=hid ak;clear hx ak;by_cases an:15<x
    ·have J:Cq ls=false:=(by unfold Cq;have:ls.all (fun x=>decide (x<=15))=false:=(by rw[List.all_eq_false];exact⟨x,AY HX.out,by simpa using an⟩);rw[this,Bool.and_false]);have HB:=hid J;clear J
     go_wp2_with(first
      |(refine wpList_load_row rfl 442 (.tmp 2) rfl w.heap.size nC _ arr (0,0) _ blk underlying442 rfl HI.out ?_)
      |(refine wpList_store_mid rfl 442 (.tmp 2) _ rfl w.heap.size 0 arr nC nC (KO blk) HI.out G.out.one ?_))
     have L:=MV arr.toList 0 wr blk (fun j v hv=>by rw[B0];simpa using hv);refine Df (results_cell_tmp rfl _ _ w.heap.size _ arr _ (.bool false) rfl rfl L underlying442 rfl HI.out) rfl ⟨arr,cnt (ls.take k),by rw[HB.out],G.out,fun l=> ?_,(fun h=>by rw[HB.out]at h;cases h),Ks (Am _) _ _ _ N⟩;have h1:=LY (ls.take k) l;rw[Bc]at h1;omega
    ·have ab:=G.out.2 x nB;have c1:=blk.cell x;rw[ab]at c1;have f1:=blk.frozen x;have h1:=LY (ls.take k) x;rw[Bc]at h1
     have aj:Cnts (cnt (ls.take (k+1))) 16 (arr.setIfInBounds x (.int .i64 ((cnt (ls.take k) x+1:Nat):Int))):=by
      refine G.out.set ?_ fun l hl=> ?_
      ·rw[ag.out,GA,Ag rfl]
      ·rw[ag.out,GA,Ae (fun e=>hl e.symm)];rfl
     generalize cnt (ls.take k) x=y at *;have av:=hid aj
     have ai:∀z∈ls.take (k+1),z<=15:=by
      intro z hz;rw[ag.out,Bx,Em]at hz;rcases hz with hz|rfl
      ·exact al.out z hz
      ·omega
     have am:=hid ai;clear ab aj ai;have x1:(x:Int)<16:=nB;have x0:(0:Int)<=(x:Int):=nB;go_wp2_with fail;go_roundw
     case rel=>go_light;exact⟨k+1,_,nB,lj,blk.set x _,av,am,BN (p:=⟨w.heap.size,x,none⟩) (Am _) N⟩
     case measure=>exact ld
   ·obtain rfl:k=n:=by omega
    have Y:ls.take k=ls:=Bp mR;have U:Cq ls=true:=(by have:=al.out;rw[Y]at this;unfold Cq;rw[Ch,EL];exact⟨by have:=HN.out;simp;omega,fun x hx=>by simpa using this x hx⟩);have HG:=hid U;have hc:=G.out;rw[Y]at hc;have h0:Cnts (cn ls) 16 (arr.setIfInBounds 0 (.int .i64 ((0:Nat):Int))):=hc.set (by simp[cn]) (fun l hl=>by simp[cn,hl]);have H0:=hid h0;have ah:=blk.cell 0;rw[hc.2 0 nB]at ah;generalize cnt ls 0=y at ah;have M:=blk.set 0 (.int .i64 0);have aw:=M.frozen 0;have Q:(prog.info? 442).map (·.size)=some (arr.setIfInBounds 0 (.int .i64 0)).size:=(by rw[NH];exact HI.out);have aa:=hid Q;have ae:=hid h0.one;clear Y U hc h0 Q;obtain⟨E,Z⟩:=jc (arr.setIfInBounds 0 (.int .i64 0));have aq:Hid (Cnts (cn ls) 16 E):=(by rw[Z];exact H0);have af:Hid (E.all (·.oneCell')=true):=(by rw[Z];exact ae);rw[<-Z]at M aa;clear H0 ae Z
    go_wp2_with(first
     |(refine wpList_load_row rfl 442 (.tmp 2) rfl w.heap.size nC _ E (0,0) _ M underlying442 rfl aa.out ?_)
     |(refine wpList_store_mid rfl 442 (.tmp 2) _ rfl w.heap.size 0 E nC nC (KO M) aa.out af.out ?_))
    have L:=MV E.toList 0 _ M (fun j v hv=>by rw[B0];simpa using hv);refine Df (results_cell_tmp rfl _ _ w.heap.size _ E _ (.bool true) rfl rfl L underlying442 rfl aa.out) rfl ⟨E,cn ls,by rw[HG.out],aq.out,fun l=> ?_,(fun _=>rfl),Ks (Am _) _ _ _ (BN (p:=⟨w,0,none⟩) (Am _) N)⟩;have h1:=Jm ls l;have:=HN.out;omega
 ·have J:Cq ls=false:=by unfold Cq;have:decide (ls.length<=300)=false:=(by simp;have:=HN.out;omega);rw[this,G0]
  have HB:=hid J;clear J;have blk:Blk (w.alloc (.cells #[jd,jd,jd,jd,jd,jd,jd,jd,jd,jd,jd,jd,jd,jd,jd,jd] 442)) w 442 _:=Blk.made _ _ _;go_enter func349,ntmps349
  go_wp2_with(first
   |(refine wpList_load_row rfl 442 (.tmp 2) rfl w.heap.size nC _ _ (0,0) _ blk underlying442 rfl JQ ?_)
   |(refine wpList_store_mid rfl 442 (.tmp 2) _ rfl w.heap.size 0 _ nC nC (KO blk) JQ Cnts.zero.one ?_))
  have L:=MV _ 0 _ blk (fun j v hv=>by rw[B0];simpa using hv);refine Df (results_cell_tmp rfl _ _ w.heap.size _ _ _ (.bool false) rfl rfl L underlying442 rfl JQ) rfl ⟨_,_,by rw[HB.out],Cnts.zero,fun l=>nB,(fun h=>by rw[HB.out]at h;cases h),Ks (Am _) _ _ _ (cZ (Ak _ _))⟩
end Canon
namespace Canon
open Go.RowKit Mem
def wsF(f:Nat->Nat):Nat->Nat
 |0=>0
 |l+1=>wsF f l+(if l=0 then 0 else f l)*2 ^ (15-l)
def wnF(f:Nat->Nat):Nat->Nat
 |0=>0
 |l+1=>wnF f l+(if l=0 then 0 else f l)
theorem NY(ls:List Nat):∀l,wsF (cn ls) l=Dq ls l
 |0=>rfl
 |l+1=>by rw[wsF,Dq,NY ls l];by_cases h:l=0<;>simp[h,cn]
theorem NQ(ls:List Nat):∀l,wnF (cn ls) l=Fz ls l
 |0=>rfl
 |l+1=>by rw[wnF,Fz,NQ ls l];by_cases h:l=0<;>simp[h,cn]
theorem S9(f:Nat->Nat)(hf:∀l,f l<=300):∀l,wsF f l<=l*9830400
 |0=>by simp[wsF]
 |l+1=>by have h1:=S9 f hf l;have h2:=hf l;have h3:2 ^ (15-l)<=2 ^ 15:=Cf nB nB;have h4:(if l=0 then 0 else f l)*2 ^ (15-l)<=300*32768:=Hh (by split<;>omega) h3;rw[wsF,Ex];omega
theorem SR(f:Nat->Nat)(hf:∀l,f l<=300):∀l,wnF f l<=l*300
 |0=>by simp[wnF]
 |l+1=>by
  have h1:=SR f hf l;have h2:=hf l;have h3:(if l=0 then 0 else f l)<=300:=by split<;>omega
  rw[wnF,Ex];omega
theorem fC(w:World)(arr:Array Value)(f:Nat->Nat)(hc:Cnts f 16 arr)(hf:∀l,f l<=300):
 Calls prog 350 #[.agg arr] w fun e w'=>e= .returned (.tuple #[.int .i64 (wsF f 16:Nat), .int .i64 (wnF f 16:Nat)])/\Below w w w':=by
 have HC:=hid hc;have HF:=hid hf;have G:=hc.1;have Q:=hid G;clear hc hf G;go_enter func350,ntmps350;go_wp2_with fail;go_loopw [2,3,4] (fun s n i wr=>∃ (l S N:Nat),1<=l/\l<=16/\i= .int .i64 l/\s= .int .i64 S/\n= .int .i64 N/\Hid (S=wsF f l)/\Hid (N=wnF f l)/\S<=157286400/\N<=4800/\Blk wr w 442 arr/\Below w w wr) (fun _ _ i _=>16-(intOf i).toNat)
 case atStart=>exact⟨1,0,0,nB,nB,rfl,rfl,rfl,rfl,rfl,nB,nB,Blk.made _ _ _,cZ (Ak _ _)⟩
 case round=>
  obtain⟨l,S,N,Y,U,rfl,rfl,rfl,hS,hN,bS,bN,blk,h⟩:=hrel;by_cases L:l<16
  ·have c0:=blk.cell l;rw[HC.out.2 l L]at c0;have Z:=HF.out l;have j:S+f l*2 ^ (15-l)=wsF f (l+1):=(by rw[wsF,Ae nB,hS.out]);have E:N+f l=wnF f (l+1):=(by rw[wnF,Ae nB,hN.out]);have b1:=S9 f HF.out (l+1);have b2:=SR f HF.out (l+1);rw[<-j]at b1;rw[<-E]at b2;have M:=hid j;have J:=hid E;clear j E;generalize f l=y at *;have x0:(0:Int)<=(l:Int):=nB;have x1:(l:Int)<16:=nB;go_wp2_with fail;go_roundw
   case rel=>go_light;have b3:(l+1)*9830400<=16*9830400:=GG _ nB;have b4:(l+1)*300<=16*300:=GG _ nB;generalize hz:y*2 ^ (15-l)=z at *;have e1:wrap64 ((y:Int)*2 ^ (15-l))=(z:Int):=(by have:((y:Int)*2 ^ (15-l))=((z:Nat):Int):=(by rw[<-hz];simp);rw[this];exact JH _ ⟨nB,nB⟩);have e2:wrap64 ((S:Int)+(z:Int))=((S+z:Nat):Int):=(by rw[JH _ ⟨nB,nB⟩];simp);exact⟨l+1,S+z,N+y,nB,nB,lj,by rw[e1,e2],lj,M,J,nB,nB,blk,h⟩
   case measure=>exact ld
  ·obtain rfl:l=16:=by omega
   go_wp2_with fail;go_ret2;go_light;exact⟨by rw[<-hS.out,<-hN.out];rfl,h⟩
theorem KF(h:Cq ls=true):ls.length<=300/\∀x∈ls,x<=15:=by unfold Cq at h;rw[Ch,EL]at h;exact⟨by simpa using h.1,fun x hx=>by simpa using h.2 x hx⟩
def FG(ls:List Nat):Int:=if okB ls=true then 0 else 7
theorem MG(h:Cq ls=false):okB ls=false:=by unfold okB;unfold Cq at h;rw[h,G0]
theorem Z4(h:Cq ls=true):okB ls=(decide (Fz ls 16=0) || decide (Fz ls 16=1/\cn ls 1=1) || decide (Dq ls 16=32768)):=by obtain⟨_,h2⟩:=KF h;unfold okB;unfold Cq at h;rw[h,Bool.true_and,MT ls h2,M4 ls h2];rfl
theorem blk_over{g:Nat}{t:TypeId}:∀ (vs pre i:List Value) (w:World),i.length=vs.length->Blk w g t (pre++i).toArray->Blk (w.setCells g pre.length vs) g t (pre++vs).toArray
 | [],pre,i,w,hl,h=>by have:i= []:=Hl hl;subst this;exact h
 |v :: vs,pre,[],w,hl,h=>by simp at hl
 |v :: vs,pre,x :: i,w,hl,h=>by
  have h1:=h.set pre.length v
  have e1:(pre++x :: i).toArray.setIfInBounds pre.length v=((pre++ [v])++i).toArray:=by
   apply Array.ext'
   simp
  rw[e1]at h1;have:=blk_over vs (pre++ [v]) i _ (by simpa using hl) h1;simpa[World.setCells]using this
theorem RP{cs:Array Value}(h:Blk w g t cs)(hs:arr.size=cs.size):Blk (w.setCells g 0 arr.toList) g t arr:=by have:=blk_over (g:=g) (t:=t) arr.toList [] cs.toList w (by simp[hs]) qh;simpa using this
theorem Rx(ls:List Nat)(f:Nat->Nat)(hg:Cq ls=true->f=cn ls):FG ls=if Cq ls=true/\(wnF f 16=0∨(wnF f 16=1/\f 1=1)∨wsF f 16=32768)then 0 else 7:=by
 unfold FG;cases hb:Cq ls
 ·rw[MG hb];simp
 ·rw[Z4 hb,hg hb,NY,NQ];by_cases h1:Fz ls 16=0<;>by_cases h2:(Fz ls 16=1/\cn ls 1=1)<;>by_cases h3:Dq ls 16=32768<;>simp[h1,h2,h3]
theorem Ri(w:World)(A:Option Addr)(n c:Nat)(ls:List Nat)(hn:ls.length=n)(hN:n<=9223372036854775807)(ha:Row w w A n 1 (kZ .u8 ls)):
 Calls prog 317 #[.slice A n c] w fun e w'=>e= .returned (.int .i64 (FG ls))/\Below w w w':=by
 have C:=hid (R6 w A n c ls hn hN ha);clear hn ha;go_enter func317,ntmps317;go_wp2_with fail;refine C.out.mono ?_;rintro e w1 ⟨arr,f,rfl,hc,hf,hg,j⟩;have i:arr.size=16:=hc.1;have U:=Rx ls f hg;have N:Blk (w1.alloc (.cells #[jd,jd,jd,jd,jd,jd,jd,jd,jd,jd,jd,jd,jd,jd,jd,jd] 442)) w1 442 _:=Blk.made _ _ _;have E:=RP (arr:=arr) N (by rw[i];rfl);have Z:(w1.alloc (.cells #[jd,jd,jd,jd,jd,jd,jd,jd,jd,jd,jd,jd,jd,jd,jd,jd] 442)).there w1 0 arr.size:=by rw[i];exact KO N
 have M:(prog.info? 442).map (·.size)=some arr.size:=by rw[i];exact JQ
 have h:Below w w ((w1.alloc (.cells #[jd,jd,jd,jd,jd,jd,jd,jd,jd,jd,jd,jd,jd,jd,jd,jd] 442)).setCells w1 0 arr.toList):=
  Ks j.size _ _ _ (mZ j.size j)
 have Y:=hid hc.one;have J:=hid M;have HC:=hid hc;have HF:=hid hf;have G:=hid U;clear i M hc hf U hg N;go_upto_region 2 with (refine wpList_store_mid rfl 442 (.tmp 3) (.tmp 10) rfl w1.heap.size 0 arr nC nC Z J.out Y.out ?_);have ab:w1.heap.size<(World.heap ((w1.alloc (.cells #[jd,jd,jd,jd,jd,jd,jd,jd,jd,jd,jd,jd,jd,jd,jd,jd] 442)).setCells w1 0 arr.toList)).size:=E.lt;clear Z;generalize (w1.alloc (.cells #[jd,jd,jd,jd,jd,jd,jd,jd,jd,jd,jd,jd,jd,jd,jd,jd] 442)).setCells w1 0 arr.toList=w2 at *;go_wp2_with(refine wpList_load_row rfl 442 (.tmp 3) rfl w1.heap.size nC _ arr (0,0) _ E underlying442 rfl J.out ?_);refine(fC w2 arr f HC.out HF.out).mono ?_;rintro e w3 ⟨rfl,Q⟩;have aa:=E.step Q;have L:Below w w w3:=zZ Q h.size h;have c1:=aa.cell 1;rw[HC.out.2 1 nB]at c1;generalize f 1=y at *;generalize wnF f 16=wn at *;generalize wsF f 16=ws at *;clear C j E h;cases hgood:Cq ls
 ·rw[hgood]at G;go_wp2_with fail;go_ret;refine⟨KJ ?_,L⟩;rw[G.out];simp
 ·rw[hgood]at G;go_wp2_with fail
  all_goals
   go_ret;refine⟨KJ ?_,L⟩;rw[G.out];go_light;simp only[true_and]
   first|(rw[Ag nB];done)|(rw[Ae nB];done)|skip
  all_goals
   simp only[bne_iff_ne,ne_eq,bne_eq_false_iff_eq]at *
   first|(rw[Ag nB];done)|(rw[Ae nB];done)
end Canon
namespace Recs
open Go.RowKit Mem
structure Rec where
 time:Int
 level:Int
 source:ByteArray
 text:ByteArray
def GC:Rec:=⟨0,0, .empty, .empty⟩
def Cp(l:List Rec):Nat->Nat->Value:=fun i j=>match j with
 |0=> .int .u64 (l.getD i GC).time
 |1=> .int .u8 (l.getD i GC).level
 |2=> .string (l.getD i GC).source
 |_=> .string (l.getD i GC).text
def IR(a b:Rec):Bool:=a.time==b.time&&(a.level==b.level&&(a.source.toList==b.source.toList&&a.text.toList==b.text.toList))
theorem Q3{a b:ByteArray}(h:a.toList=b.toList):a=b:=by
 have h':a.data.toList=b.data.toList:=by rw[<-GZ,<-GZ];exact h
 cases a;cases b
 simp at h';rw[h']
theorem MX(a b:Rec):IR a b=true↔a=b:=by
 constructor
 ·intro h;simp only[IR,Bool.and_eq_true,beq_iff_eq]at h;obtain⟨h1,h2,h3,h4⟩:=h;cases a;cases b;simp only at h1 h2 h3 h4;rw[h1,h2,Q3 h3,Q3 h4]
 ·intro h;subst h;simp[IR]
theorem fF(a b:Rec):IR a b=false↔a≠b:=by rw[<-Bool.not_eq_true,MX]
instance:DecidableEq Rec:=fun a b=>if h:IR a b=true then .isTrue ((MX a b).1 h)else .isFalse fun e=>h ((MX a b).2 e)
def Jr(a b:List Rec):Bool:=decide (a=b)
def weigh(r:Rec):Int:=16+r.source.size+r.text.size
def Bq(l:List Rec):Int:=(l.map weigh).foldl (·+ ·) 0
theorem MS(l:List Int):∀a:Int,l.foldl (·+ ·) a=a+l.foldl (·+ ·) 0:=by
 induction l with
 |nil=>intro a;simp
 |cons x l ih=>intro a;simp only[List.foldl_cons];rw[ih (a+x),ih (0+x)];omega
theorem TU(l:List Rec)(r:Rec):Bq (l++ [r])=Bq l+weigh r:=by simp[Bq]
theorem KU:Bq []=0:=rfl
end Recs
namespace Recs
open Go.RowKit Mem
theorem bQ(a b:Rec)(w:World):(binOp .neq 43 (.agg #[.int .u64 a.time, .int .u8 a.level, .string a.source, .string a.text]) (.agg #[.int .u64 b.time, .int .u8 b.level, .string b.source, .string b.text])).run prog w= .ok (.bool (!IR a b)) w:=by
 go_simp
 simp only[IR];by_cases h1:a.time=b.time<;>by_cases h2:a.level=b.level<;>by_cases h3:a.source.toList=b.source.toList<;>by_cases h4:a.text.toList=b.text.toList<;>simp[h1,h2,h3,h4]
theorem Row.rec{l:List Rec}(h:Row w B A n 4 (Cp l))(hn:l.length=n)(hk:k<n):
 ∃b i r,A=some ⟨b,i,none⟩/\b<B/\l[k]? =some r/\w.cell? ⟨b,i+k*4,none⟩=some (.int .u64 r.time)/\w.cell? ⟨b,i+k*4+1,none⟩=some (.int .u8 r.level)/\
  w.cell? ⟨b,i+k*4+2,none⟩=some (.string r.source)/\w.cell? ⟨b,i+k*4+3,none⟩=some (.string r.text):=by
 obtain⟨b,i,rfl,hb,hc⟩:=h nB;have hl:k<l.length:=nB
 refine⟨b,i,l[k],rfl,hb,AD hl,?_⟩;have c0:=hc k 0 hk nB;have c1:=hc k 1 hk nB;have c2:=hc k 2 hk nB;have c3:=hc k 3 hk nB;simp only[Cp,List.getD_eq_getElem?_getD,List.getElem?_eq_getElem hl,Option.getD_some,Nat.add_zero,<-Nat.add_assoc]at c0 c1 c2 c3;exact⟨c0,c1,c2,c3⟩
theorem dX(w:World)(A B:Option Addr)(n m c d:Nat)(la lb:List Rec)(hn:la.length=n)(hm:lb.length=m)(hN:n<=9223372036854775807)(hM:m<=9223372036854775807)
 (ha:Row w w A n 4 (Cp la))(hb:Row w w B m 4 (Cp lb)):
 Calls prog 20 #[.slice A n c, .slice B m d] w fun e w'=>e= .returned (.bool (Jr la lb))/\∃q,w'=w.drewN q:=by
 have HN:=hid hn;have HM:=hid hm;clear hn hm;have hq:=bQ;by_cases L:n=m
 ·subst L;go_enter func20,ntmps20
  go_wp2
  go_loopw [5] (fun i wr=>∃k q:Nat,k<=n/\i= .int .i64 k/\Hid (la.take k=lb.take k)/\wr=w.drewN q) (fun i _=>n-(intOf i).toNat)
  case atStart=>exact⟨0,0,nB,rfl,by rw[List.take_zero,List.take_zero];rfl,rfl⟩
  case round=>
   obtain⟨k,q,hk,rfl,j,rfl⟩:=hrel;by_cases J:k<n
   ·obtain⟨b,Y,r,rfl,U,hr,c0,c1,c2,c3⟩:=Row.rec ha HN.out J;obtain⟨b',N,r',rfl,M,G,d0,d1,d2,d3⟩:=Row.rec hb HM.out J;have HR:=hid hr;have E:=hid G;clear hr G;have i1:(0:Int)<=(k:Int):=nB;have i2:(k:Int)<(n:Int):=nB;cases hrr:IR r r'
    ·go_wp2_with fail;go_quiet (fail);go_wp2_with fail;go_ret;go_light;refine⟨Ff ?_,_,EW _ _ _⟩;have:la≠lb:=(by intro e;have h1:=HR.out;rw[e,E.out]at h1;injection h1 with h1;exact(fF _ _).1 hrr h1.symm);simp[Jr,this]
    ·go_wp2_with fail;go_quiet (fail);go_wp2_with fail;go_roundw
     case rel=>go_light;refine⟨k+1,_,nB,lj,?_,rfl⟩;have e:=(MX _ _).1 hrr;show la.take (k+1)=lb.take (k+1);rw[Ca,Ca,j.out,HR.out,E.out,e]
     case measure=>exact ld
   ·obtain rfl:k=n:=by omega
    go_wp2_with fail;go_ret;go_light;refine⟨Ff ?_,_,rfl⟩;have h:=j.out;rw[Bp mR,Bp (by have:=HM.out;omega)]at h;simp[Jr,h]
 ·have Q:((n:Int)==(m:Int))=false:=by simp;omega
  go_enter func20,ntmps20
  go_wp2
  go_ret;refine⟨Ff ?_,0,rfl⟩;have:la≠lb:=by intro e;have h1:=HN.out;have h2:=HM.out;rw[e]at h1;omega
  simp[Jr,this]
theorem W4(w:World)(A B:Option Addr)(n m c d:Nat)(la lb:List Rec)(hn:la.length=n)(hm:lb.length=m)(hN:n<=9223372036854775807)(hM:m<=9223372036854775807)
 (ha:Row w w A n 4 (Cp la))(hb:Row w w B m 4 (Cp lb)):
 Calls prog 20 #[.slice A n c, .slice B m d] w fun e w'=>e= .returned (.bool (Jr la lb))/\Below w w w':=
 (dX w A B n m c d la lb hn hm hN hM ha hb).mono fun _ _ ⟨he,q,hw⟩=>⟨he,by rw[hw];exact below_drewN (Ak _ _) _⟩
def ZK(l:List Rec)(w:World)(e:Ending)(w':World):Prop:=
 ∃x:Int,e= .returned (.int .i64 x)/\0<=x/\x<=4398046511104/\(x<=1099511627776->x=Bq l)/\Below w w w'
theorem cU(w:World)(A:Option Addr)(n c:Nat)(la:List Rec)(hn:la.length=n)(hN:n<=9223372036854775807)(ha:Row w w A n 4 (Cp la)):
 Calls prog 43 #[.slice A n c] w (ZK la w):=by
 have HN:=hid hn;clear hn;go_enter func43,ntmps43
 go_wp2
 go_loopw [3,4] (fun s i wr=>∃ (k:Nat) (x:Int),k<=n/\i= .int .i64 k/\s= .int .i64 x/\0<=x/\x<=4398046511104/\Hid (x=Bq (la.take k))/\Below w w wr) (fun _ i _=>n-(intOf i).toNat)
 case atStart=>exact⟨0,0,nB,rfl,rfl,nB,nB,rfl,Ak _ _⟩
 case round=>
  obtain⟨k,x,hk,rfl,rfl,L,G,hx,j⟩:=hrel;by_cases J:k<n
  ·obtain⟨b,M,r,rfl,N,hr,c0,c1,c2,c3⟩:=Row.rec (ha.below j) HN.out J;have HR:=hid hr;clear hr;have i1:(0:Int)<=(k:Int):=nB;have i2:(k:Int)<(n:Int):=nB;by_cases E:1099511627776<x∨1099511627776<(r.source.size:Int)∨1099511627776<(r.text.size:Int)
   ·go_wp2_with fail
    all_goals
     go_ret;go_light;exact⟨2199023255552,rfl,nB,nB,fun h=>nB,j⟩
   ·have h1:x<=1099511627776:=nB;have h2:(r.source.size:Int)<=1099511627776:=nB;have h3:(r.text.size:Int)<=1099511627776:=nB;clear E;go_wp2_with fail;go_quiet (fail);go_wp2_with fail;go_roundw
    case rel=>go_light;refine⟨k+1,x+16+r.source.size+r.text.size,nB,lj,rfl,nB,nB,?_,below_drewN j _⟩;show x+16+r.source.size+r.text.size=Bq (la.take (k+1));rw[Ca,HR.out];simp only[Option.toList_some,TU,<-hx.out,weigh];omega
    case measure=>exact ld
  ·obtain rfl:k=n:=by omega
   go_wp2_with fail;go_ret;go_light;refine⟨x,rfl,L,G,fun _=> ?_,j⟩;have h:=hx.out
   rwa [Bp mR]at h
def QQ(n:Nat)(l:List Rec)(r b:Int)(w:World)(e:Ending)(w':World):Prop:=
 ∃g:Bool,e= .returned (.bool g)/\(g=false->(n:Int)<=r/\Bq l<=b)/\Below w w w'
theorem QE(w:World)(A:Option Addr)(n c:Nat)(la:List Rec)(r b:Int)(hb:b<=1099511627776)(hn:la.length=n)(hN:n<=9223372036854775807)(ha:Row w w A n 4 (Cp la)):
 Calls prog 11 #[.slice A n c,r,b] w (QQ n la r b w):=by
 have HW:=hid (cU w A n c la hn hN ha);clear hn;by_cases h:r<(n:Int)
 ·go_enter func11,ntmps11;go_wp2_with fail;go_ret;exact⟨true,rfl,(fun h=>by cases h),Ak _ _⟩
 ·go_enter func11,ntmps11;go_wp2_with fail;refine HW.out.mono ?_;rintro e w1 ⟨x,rfl,E,j,hx,i⟩;have HX:=hid hx;clear hx;go_wp2_with fail;go_ret;refine⟨decide (b<x),rfl,fun hd=>⟨nB,?_⟩,i⟩;have hd:=of_decide_eq_false hd;have:=HX.out nB;omega
end Recs
namespace Toks
open Go.RowKit
def lg(v:Int):Int:=((Nat.log2 v.toNat:Nat):Int)
def pw(b:Int):Int:=((2 ^ b.toNat:Nat):Int)
theorem I0(v:Int):0<=lg v:=by unfold lg;omega
theorem SE(b:Int):1<=pw b:=by unfold pw;have:0<2 ^ b.toNat:=Gk _;omega
theorem J1(v:Int)(h:1<=v):pw (lg v)<=v:=by unfold pw lg;have:=Nat.log2_self_le (n:=v.toNat) nB;rw[Br];omega
theorem KY(v:Int)(h:1<=v):v<2*pw (lg v):=by unfold pw lg;have:=Nat.lt_log2_self (n:=v.toNat);rw[Br];rw[Dl]at this;omega
theorem Ps(b:Int)(h:0<=b):pw (b+1)=2*pw b:=by unfold pw;rw[show(b+1).toNat=b.toNat+1 from by omega,Dl];omega
theorem M2(a b:Int)(h:a<=b):pw a<=pw b:=by unfold pw;have:=Cf (n:=2) nB (show a.toNat<=b.toNat by omega);omega
theorem YY(v b:Int)(hb:0<=b)(h1:pw b<=v)(h2:v<2*pw b):lg v=b:=by
 have hp:=SE b;have h3:=J1 v nB;have h4:=KY v nB;have hl:=I0 v;rcases Int.lt_trichotomy (lg v) b with h|h|h
 ·have:=M2 (lg v+1) b nB;rw[Ps _ hl]at this;omega
 ·exact h
 ·have:=M2 (b+1) (lg v) nB;rw[Ps _ hb]at this;omega
theorem Jl(v b:Int)(i:0<=b)(h1:1<=v)(h2:v<pw b):lg v<b:=by
 have h3:=J1 v h1;rcases Int.lt_or_le (lg v) b with h|h
 ·exact h
 ·have:=M2 b (lg v) h;omega
def Bd(lit len dist:Int):Bool:=
 if len=0 then decide (dist=0)else decide (lit=0/\3<=len/\len<=257/\1<=dist/\dist<=4095)
structure Pc where
 sym:Int
 len:Int
 dist:Int
 far:Int
structure Tk where
 lit:Int
 len:Int
 dist:Int
def Pc.val(p:Pc):Value:= .agg #[p.sym,p.len,p.dist,p.far]
def Tk.val(t:Tk):Value:= .agg #[.int .u8 t.lit,t.len,t.dist]
def rZ(t:Tk):Pc:=
 if Bd t.lit t.len t.dist=true then
  if t.len=0 then⟨t.lit,0,0,0⟩else⟨257+lg (t.len-2),t.len-2-pw (lg (t.len-2)),lg t.dist,t.dist-pw (lg t.dist)⟩
 else⟨0,0,0,0⟩
def EQ(t:Tk):Int:=if Bd t.lit t.len t.dist=true then 0 else 7
def GW(p:Pc):Bool:=decide (0<=p.sym/\p.sym<256/\p.len=0/\p.dist=0/\p.far=0)
def IL(p:Pc):Bool:=
 decide (257<=p.sym/\p.sym<265/\0<=p.dist/\p.dist<12/\0<=p.len/\p.len<pw (p.sym-257)/\0<=p.far/\p.far<pw p.dist)
def Eu(p:Pc):Tk:=
 if GW p=true then⟨p.sym,0,0⟩else if IL p=true then⟨0,2+pw (p.sym-257)+p.len,pw p.dist+p.far⟩else⟨0,0,0⟩
def EU(p:Pc):Int:=if GW p=true then 0 else if IL p=true then 0 else 7
theorem pw_8:pw 8=256:=ji
theorem O6:pw 12=4096:=ji
theorem ZY(t:Tk)(h0:0<=t.lit)(h1:t.lit<256)(h:EQ t=0):EU (rZ t)=0/\Eu (rZ t)=t:=by
 have hm:Bd t.lit t.len t.dist=true:=by
  unfold EQ at h;split at h
  ·assumption
  ·simp at h
 unfold rZ;rw[Ag hm];by_cases hl:t.len=0
 ·rw[Ag hl];unfold Bd at hm;rw[Ag hl]at hm;have hd:t.dist=0:=by simpa using hm
  have i:GW ⟨t.lit,0,0,0⟩=true:=by simp[GW];omega
  refine⟨by simp[EU,i],?_⟩;unfold Eu;rw[Ag i];cases t
  simp_all
 ·rw[Ae hl];unfold Bd at hm;rw[Ae hl]at hm;obtain⟨e1,e2,e3,e4,e5⟩:=of_decide_eq_true hm;have a1:=J1 (t.len-2) nB;have a2:=KY (t.len-2) nB;have a3:=I0 (t.len-2);have a4:=Jl (t.len-2) 8 nB nB (by rw[pw_8];omega);have b1:=J1 t.dist nB;have b2:=KY t.dist nB;have b3:=I0 t.dist;have b4:=Jl t.dist 12 nB nB (by rw[O6];omega);have hs:257+lg (t.len-2)-257=lg (t.len-2):=by omega
  have i:GW ⟨257+lg (t.len-2),t.len-2-pw (lg (t.len-2)),lg t.dist,t.dist-pw (lg t.dist)⟩=false:=by simp[GW];omega
  have j:IL ⟨257+lg (t.len-2),t.len-2-pw (lg (t.len-2)),lg t.dist,t.dist-pw (lg t.dist)⟩=true:=by simp only[IL,hs,decide_eq_true_eq];omega
  refine⟨by simp[EU,i,j],?_⟩;unfold Eu;rw[Ae (by simp[i]),Ag j];cases t;simp only[hs]
  simp_all
  omega
end Toks
namespace Toks
def bump(l:List Int)(i:Nat):List Int:=l.set i (l.getD i 0+1)
def CZ(st:List Int×List Int)(t:Tk):List Int×List Int:=
 (bump st.1 (rZ t).sym.toNat,if t.len=0 then st.2 else bump st.2 (rZ t).dist.toNat)
def Eg(ts:List Tk):List Int×List Int:=ts.foldl CZ (List.replicate 265 0,List.replicate 12 0)
def symsOf(ts:List Tk):List Int:=bump (Eg ts).1 256
def LO(ts:List Tk):List Int:=(Eg ts).2
def DJ(ts:List Tk):Bool:=ts.all fun t=>Bd t.lit t.len t.dist
theorem Pg(l:List Int)(i:Nat):(bump l i).length=l.length:=by simp[bump]
theorem QI(st:List Int×List Int)(t:Tk):(CZ st t).1.length=st.1.length/\(CZ st t).2.length=st.2.length:=by
 unfold CZ;refine⟨Pg _ _,?_⟩;simp only;split
 ·rfl
 ·exact Pg _ _
theorem Zx(ts:List Tk):∀st:List Int×List Int,(ts.foldl CZ st).1.length=st.1.length/\(ts.foldl CZ st).2.length=st.2.length:=by
 induction ts with
 |nil=>intro st;exact⟨rfl,rfl⟩
 |cons t ts ih=>intro st;have h:=ih (CZ st t);have h2:=QI st t;exact⟨h.1.trans h2.1,h.2.trans h2.2⟩
theorem Lj(ts:List Tk):(Eg ts).1.length=265/\(Eg ts).2.length=12:=by have h:=Zx ts (List.replicate 265 0,List.replicate 12 0);exact⟨h.1.trans Ez,h.2.trans Ez⟩
theorem YF(ts:List Tk)(k:Nat)(h:k<ts.length):Eg (ts.take (k+1))=CZ (Eg (ts.take k)) ts[k]:=by unfold Eg;rw[List.take_succ_eq_append_getElem h,List.foldl_append];rfl
def Within(b:Int)(l:List Int):Prop:=∀i,0<=l.getD i 0/\l.getD i 0<=b
theorem Within.mono{b c:Int}{l:List Int}(h:Within b l)(j:b<=c):Within c l:=fun i=>by have:=h i;omega
theorem Within.bump{b:Int}{l:List Int}(h:Within b l)(j:Nat):Within (b+1) (bump l j):=by
 intro i;unfold Toks.bump;simp only[List.getD_eq_getElem?_getD,List.getElem?_set];have hi:=h i;have hj:=h j;simp only[List.getD_eq_getElem?_getD]at hi hj;split
 ·split
  ·simp;omega
  ·simp;omega
 ·omega
theorem Nb(ts:List Tk):Within ts.length (Eg ts).1/\Within ts.length (Eg ts).2:=by
 have j:∀ (ts:List Tk) (st:List Int×List Int) (b:Int),Within b st.1->Within b st.2->Within (b+ts.length) (ts.foldl CZ st).1/\Within (b+ts.length) (ts.foldl CZ st).2:=by
  intro ts
  induction ts with
  |nil=>intro st b h1 h2;simpa using ⟨h1,h2⟩
  |cons t ts ih=>
   intro st b h1 h2
   have h:=ih (CZ st t) (b+1) (h1.bump _) (by
    unfold CZ;simp only;split
    ·exact h2.mono nB
    ·exact h2.bump _)
   simp only[List.length_cons,List.foldl_cons];exact⟨h.1.mono nB,h.2.mono nB⟩
 have z:∀n:Nat,Within 0 (List.replicate n 0):=by intro n i;simp only[List.getD_eq_getElem?_getD,List.getElem?_replicate];split<;>simp
 have h:=j ts (List.replicate 265 0,List.replicate 12 0) 0 (z _) (z _);rw[Int.zero_add]at h;exact h
theorem MY(t:Tk)(h0:0<=t.lit)(h1:t.lit<=255)(hm:Bd t.lit t.len t.dist=true):
 ∃S D:Nat,∃L F:Int,rZ t=⟨S,L,D,F⟩/\S<265/\D<12/\(t.len=0->S<256)/\(t.len≠0->257<=S/\3<=t.len)/\EQ t=0:=by
 by_cases hl:t.len=0
 ·refine⟨t.lit.toNat,0,0,0,?_,nB,nB,fun _=>nB,fun h=>absurd hl h,?_⟩
  ·unfold rZ;rw[Ag hm,Ag hl,Int.toNat_of_nonneg h0];rfl
  ·unfold EQ;rw[Ag hm]
 ·have hb:t.lit=0/\3<=t.len/\t.len<=257/\1<=t.dist/\t.dist<=4095:=by unfold Bd at hm;rw[Ae hl]at hm;exact of_decide_eq_true hm
  have a1:=I0 (t.len-2);have a2:=Jl (t.len-2) 8 nB nB (by rw[pw_8];omega);have b1:=I0 t.dist;have b2:=Jl t.dist 12 nB nB (by rw[O6];omega);refine⟨(257+lg (t.len-2)).toNat,(lg t.dist).toNat,t.len-2-pw (lg (t.len-2)),t.dist-pw (lg t.dist),?_,nB,nB,fun h=>absurd h hl,fun _=>⟨nB,hb.2.1⟩,?_⟩
  ·unfold rZ;rw[Ag hm,Ae hl,Int.toNat_of_nonneg nB,Int.toNat_of_nonneg b1]
  ·unfold EQ;rw[Ag hm]
end Toks
namespace Lz
open Toks (Tk Bd)
def KM(l:List Nat)(p at_:Nat):Nat->Nat->Nat
 |0,n=>n
 |f+1,n=>if n<257/\at_+n<l.length/\l.getD (p+n) 0=l.getD (at_+n) 0 then KM l p at_ f (n+1)else n
def alike(l:List Nat)(p at_:Nat):Nat:=KM l p at_ 257 0
structure IsAlike (l:List Nat) (p at_ k:Nat):Prop where
 le:k<=257
 fits:k=0∨at_+k<=l.length
 same:∀j,j<k->l.getD (p+j) 0=l.getD (at_+j) 0
 stop:¬(k<257/\at_+k<l.length/\l.getD (p+k) 0=l.getD (at_+k) 0)
theorem Qr(l:List Nat)(p at_:Nat):∀ (f n:Nat),n+f=257->(n=0∨at_+n<=l.length)->(∀j,j<n->l.getD (p+j) 0=l.getD (at_+j) 0)->IsAlike l p at_ (KM l p at_ f n)
 |0,n,hf,h1,h2=>by rw[KM];exact⟨nB,h1,h2,nB⟩
 |f+1,n,hf,h1,h2=>by
  rw[KM];split
  ·rename_i h;refine Qr l p at_ f (n+1) nB (.inr nB) fun j hj=> ?_;by_cases e:j<n
   ·exact h2 j e
   ·obtain rfl:j=n:=by omega
    exact h.2.2
  ·rename_i h;exact⟨nB,h1,h2,h⟩
theorem Mv(l:List Nat)(p at_:Nat):IsAlike l p at_ (alike l p at_):=Qr l p at_ 257 0 rfl (.inl rfl) fun j hj=>absurd hj nB
theorem IsAlike.unique{p at_ k':Nat}(h:IsAlike l p at_ k)(h':IsAlike l p at_ k'):k=k':=by
 have i:∀ {a b:Nat},IsAlike l p at_ a->IsAlike l p at_ b->¬a<b:=by
  intro a b ha hb j;refine ha.stop ⟨?_,?_,hb.same a j⟩
  ·have:=hb.le;omega
  ·rcases hb.fits with h0|h0<;>omega
 have h1:=i h h';have h2:=i h' h;omega
theorem WH{p at_:Nat}(h:IsAlike l p at_ k):alike l p at_=k:=(Mv l p at_).unique h
theorem Wn(l:List Nat)(p at_:Nat):alike l p at_<=257:=(Mv l p at_).le
def Gj(l:List Nat)(at_:Nat)(nd:Nat×Nat)(d:Nat):Nat×Nat:=if nd.1<alike l (at_-d) at_ then(alike l (at_-d) at_,d)else nd
def Dk(l:List Nat)(at_:Nat):Nat->Nat×Nat
 |0=>(0,0)
 |d+1=>Gj l at_ (Dk l at_ d) (d+1)
def CR(l:List Nat)(at_:Nat):Nat×Nat:=Dk l at_ (min 4095 at_)
structure Good (l:List Nat) (at_:Nat) (nd:Nat×Nat) (D:Nat):Prop where
 n:nd.1<=257
 d1:nd.1≠0->1<=nd.2
 d2:nd.2<=D
 is:nd.1≠0->nd.1=alike l (at_-nd.2) at_
theorem VZ(l:List Nat)(at_:Nat):∀D,Good l at_ (Dk l at_ D) D
 |0=>⟨by simp[Dk],by simp[Dk],by simp[Dk],by simp[Dk]⟩
 |D+1=>by
  have h:=VZ l at_ D;rw[Dk,Gj];split
  ·exact⟨Wn _ _ _,fun _=>pR,pR,fun _=>rfl⟩
  ·exact⟨h.n,h.d1,by have:=h.d2;omega,h.is⟩
theorem Ot(l:List Nat)(at_:Nat):Good l at_ (CR l at_) (min 4095 at_):=VZ l at_ _
theorem MP{at_:Nat}(h:(CR l at_).1≠0):at_+(CR l at_).1<=l.length:=by have hg:=(Ot l at_).is h;rcases(Mv l (at_-(CR l at_).2) at_).fits with h0|h0<;>omega
def Du(l:List Nat)(at_:Nat):List Tk:=
 if at_<l.length then
  if 3<=(CR l at_).1 then⟨0,((CR l at_).1:Nat),((CR l at_).2:Nat)⟩ :: Du l (at_+(CR l at_).1)
  else⟨(l.getD at_ 0:Nat),0,0⟩ :: Du l (at_+1)
 else []
termination_by l.length-at_
def find(l:List Nat):List Tk:=Du l 0
theorem MK{at_:Nat}(h:¬at_<l.length):Du l at_= []:=by rw[Du,Ae h]
theorem LC{at_:Nat}(h:at_<l.length)(h3:3<=(CR l at_).1):Du l at_=⟨0,((CR l at_).1:Nat),((CR l at_).2:Nat)⟩ :: Du l (at_+(CR l at_).1):=by rw[Du,Ag h,Ag h3]
theorem Lk{at_:Nat}(h:at_<l.length)(h3:¬3<=(CR l at_).1):Du l at_=⟨(l.getD at_ 0:Nat),0,0⟩ :: Du l (at_+1):=by rw[Du,Ag h,Ae h3]
theorem OS{i:Nat->Prop}(h1:∀at_,¬at_<l.length->i at_)(h2:∀at_,at_<l.length->3<=(CR l at_).1->i (at_+(CR l at_).1)->i at_)
 (h3:∀at_,at_<l.length->¬3<=(CR l at_).1->i (at_+1)->i at_):∀at_,i at_:=by
 intro at_;obtain⟨m,hm⟩:=jc (l.length-at_)
 induction m using Nat.strongRecOn generalizing at_ with
 |ind m ih=>
  by_cases h:at_<l.length
  ·by_cases h':3<=(CR l at_).1
   ·exact h2 at_ h h' (ih _ nB _ rfl)
   ·exact h3 at_ h h' (ih _ nB _ rfl)
  ·exact h1 at_ h
theorem find_ok(h8:∀x∈l,x<=255):∀at_,(∀t∈Du l at_,(0<=t.lit/\t.lit<=255)/\Bd t.lit t.len t.dist=true)/\(Du l at_).length<=l.length-at_:=by
 refine OS (l:=l) ?_ ?_ ?_
 ·intro at_ h;rw[MK h];simp
 ·intro at_ h h3 ih;rw[LC h h3];have hg:=Ot l at_;have i:=hg.d1 nB;have j:=hg.d2;have hn:=hg.n;refine⟨fun t ht=> ?_,by rw[AI];have:=ih.2;have:=MP (l:=l) (at_:=at_) nB;omega⟩;rcases BK.1 ht with rfl|ht
  ·refine⟨⟨pR,pR⟩,?_⟩;unfold Bd;generalize (CR l at_).1=n at *;generalize (CR l at_).2=d at *;rw[Ae (by show ¬(n:Int)=0;omega)];exact AQ ⟨rfl,by show(3:Int)<=(n:Int);omega,by show(n:Int)<=257;omega,by show(1:Int)<=(d:Int);omega,by show(d:Int)<=4095;omega⟩
  ·exact ih.1 t ht
 ·intro at_ h h3 ih;rw[Lk h h3];refine⟨fun t ht=> ?_,by rw[AI];have:=ih.2;omega⟩;rcases BK.1 ht with rfl|ht
  ·have hx:=h8 l[at_] (GI h);have e:l.getD at_ 0=l[at_]:=(by rw[Aq,AD h];rfl);refine⟨⟨pR,by simp only[e];omega⟩,?_⟩;unfold Bd;simp
  ·exact ih.1 t ht
def Ec(out:List Nat):Nat->Nat->List Nat
 |0,_=>out
 |n+1,d=>Ec (out++ [out.getD (out.length-d) 0]) n d
theorem ME:∀ (n d:Nat) (out:List Nat),(Ec out n d).length=out.length+n
 |0,_,out=>rfl
 |n+1,d,out=>by rw[Ec,ME n d];simp;omega
def G5(most:Int)(out:List Nat)(t:Tk):Int:=
 if Bd t.lit t.len t.dist=true then if(out.length:Int)<t.dist then 8 else if most-(out.length:Int)<max 1 t.len then 6 else 0 else 7
def Fu(most:Int):List Nat->List Tk->List Nat×Int
 |out,[]=>(out,0)
 |out,t :: ts=>if G5 most out t=0 then Fu most (if t.len=0 then out++ [t.lit.toNat]else Ec out t.len.toNat t.dist.toNat) ts else([],G5 most out t)
def FQ(ts:List Tk)(most:Int):List Nat×Int:=if most<0 then([],13)else Fu most [] ts
theorem VW{l:List Nat}{d:Nat}(hd:1<=d):∀ (n at_:Nat),d<=at_->at_+n<=l.length->(∀j,j<n->l.getD (at_-d+j) 0=l.getD (at_+j) 0)->Ec (l.take at_) n d=l.take (at_+n)
 |0,at_,_,_,_=>rfl
 |n+1,at_,h1,h2,h3=>by
  have h:(l.take at_).length=at_:=nY
  rw[Ec,h];have e:(l.take at_).getD (at_-d) 0=l.getD at_ 0:=by rw[Aq,List.getElem?_take_of_lt nB,<-Aq];have:=h3 0 nB;simpa using this
  have e2:l.take at_++ [l.getD at_ 0]=l.take (at_+1):=by rw[Ca,AD nB,Aq,AD nB];rfl
  rw[e,e2,VW hd n (at_+1) nB nB (fun j hj=> ?_),show at_+1+n=at_+(n+1) by omega];have:=h3 (j+1) nB;rw[show at_+1-d+j=at_-d+(j+1) by omega,show at_+1+j=at_+(j+1) by omega];exact this
theorem Yo(h8:∀x∈l,x<=255)(hm:(l.length:Int)<=most):∀at_,at_<=l.length->Fu most (l.take at_) (Du l at_)=(l,0):=by
 refine OS (l:=l) ?_ ?_ ?_
 ·intro at_ h L;rw[MK h,Fu,Bp nB]
 ·intro at_ h h3 ih _;have E:=((find_ok h8 at_).1 _ (by rw[LC h h3];exact CP)).2;have hg:=Ot l at_;have G:=hg.d1 nB;have M:=hg.d2;have J:=hg.is nB;have hf:=MP (l:=l) (at_:=at_) nB;have j:=(Mv l (at_-(CR l at_).2) at_).same;rw[<-J]at j;rw[LC h h3]at ⊢;generalize (CR l at_).1=n at *;generalize (CR l at_).2=d at *;have i:(l.take at_).length=at_:=by rw[Bc];omega
  have hE:G5 most (l.take at_) ⟨0,(n:Nat),(d:Nat)⟩=0:=by unfold G5;rw[Ag E,i,Ae (by show ¬(at_:Int)<(d:Int);omega),Ae (by show ¬most-(at_:Int)<max 1 (n:Int);omega)]
  rw[Fu,Ag hE,Ae (by show ¬(n:Int)=0;omega)];show Fu most (Ec (l.take at_) ((n:Nat):Int).toNat ((d:Nat):Int).toNat) _=_;rw[Br,Br,VW G n at_ nB hf j];exact ih nB
 ·intro at_ h h3 ih _;have E:=((find_ok h8 at_).1 _ (by rw[Lk h h3];exact CP)).2;rw[Lk h h3];have i:(l.take at_).length=at_:=by rw[Bc];omega
  have hE:G5 most (l.take at_) ⟨(l.getD at_ 0:Nat),0,0⟩=0:=by unfold G5;rw[Ag E,i,Ae (by show ¬(at_:Int)<0;omega),Ae (by show ¬most-(at_:Int)<max 1 0;omega)]
  rw[Fu,Ag hE,Ag rfl];show Fu most (l.take at_++ [((l.getD at_ 0:Nat):Int).toNat]) _=_;rw[Br,show l.take at_++ [l.getD at_ 0]=l.take (at_+1) by rw[Ca,AD h,Aq,AD h];rfl];exact ih nB
theorem X5(h8:∀x∈l,x<=255)(hm:(l.length:Int)<=most):FQ (find l) most=(l,0):=by unfold FQ find;rw[Ae nB];exact Yo h8 hm 0 (Da _)
end Lz
namespace Huff
def bit(bs:List Bool)(i:Nat):Nat:=if bs.getD i false then 1 else 0
def Ic(bs:List Bool)(k:Nat):Nat:=
 bit bs (8*k)*128+bit bs (8*k+1)*64+bit bs (8*k+2)*32+bit bs (8*k+3)*16+bit bs (8*k+4)*8+bit bs (8*k+5)*4+bit bs (8*k+6)*2+bit bs (8*k+7)
def bytesOf(bs:List Bool):List Nat:=(List.range ((bs.length+7) / 8)).map (Ic bs)
theorem bytesOf_length(bs:List Bool):(bytesOf bs).length=(bs.length+7) / 8:=by simp[bytesOf]
theorem EP(bs:List Bool)(i:Nat):bit bs i<=1:=by unfold bit;split<;>omega
theorem Of(bs:List Bool)(k:Nat):Ic bs k<=255:=by unfold Ic;have h0:=EP bs (8*k);have h1:=EP bs (8*k+1);have h2:=EP bs (8*k+2);have h3:=EP bs (8*k+3);have h4:=EP bs (8*k+4);have h5:=EP bs (8*k+5);have h6:=EP bs (8*k+6);have h7:=EP bs (8*k+7);omega
theorem Kf{bs:List Bool}(h:bs.length<=i):bit bs i=0:=by unfold bit;simp[List.getD_eq_getElem?_getD,List.getElem?_eq_none h]
end Huff
namespace Huff
open Canon
def msb(x n k:Nat):List Bool:=(List.range k).map fun j=>decide (x / 2 ^ (n-1-j) % 2=1)
theorem uZ(x n k:Nat):(msb x n k).length=k:=by simp[msb]
theorem V2(x n:Nat):msb x n 0= []:=rfl
theorem lX(x n k:Nat):msb x n (k+1)=msb x n k++ [decide (x / 2 ^ (n-1-k) % 2=1)]:=by simp[msb,List.range_succ]
def word(ls:List Nat)(s:Nat):List Bool:=msb (code ls s) (ls.getD s 0) (ls.getD s 0)
theorem Fh(ls:List Nat)(s:Nat):(word ls s).length=ls.getD s 0:=uZ _ _ _
def AN(bs:List Bool)(i:Nat):Nat->Nat
 |0=>0
 |m+1=>2*AN bs i m+bit bs (i+m)
theorem XJ(bs:List Bool)(k:Nat):AN bs (8*k) 8=Ic bs k:=by simp only[AN,Ic];have e:8*k+0=8*k:=rfl;rw[e];omega
theorem GS(bs:List Bool)(i:Nat):∀m,AN bs i m<2 ^ m
 |0=>by simp[AN]
 |m+1=>by have h1:=GS bs i m;have h2:=EP bs (i+m);rw[AN,Dl];omega
theorem Ml(ls:List Nat):∀l,l<=15->(fst ls l+cn ls l)*2 ^ (15-l)=Dq ls (l+1)
 |0,_=>by simp[fst,cn,Dq]
 |l+1,h=>by
  have h1:=Ml ls l nB;have e:15-l=(15-(l+1))+1:=nB
  rw[Dq,<-h1,fst,e,Dl,Ex];congr 1;rw[Nat.mul_comm 2,Nat.mul_assoc,Nat.mul_comm 2]
theorem Xr(ls:List Nat)(l:Nat)(h:l<=15):fst ls l*2 ^ (15-l)=Dq ls l:=by have h1:=Ml ls l h;rw[Dq,Ex]at h1;omega
theorem KK(ls:List Nat){a:Nat}:∀ {b:Nat},a<=b->Dq ls a<=Dq ls b
 |0,h=>by
  obtain rfl:a=0:=nB
  exact Am _
 |b+1,h=>by
  by_cases e:a=b+1
  ·subst e;exact Am _
  ·have:=KK ls (a:=a) (b:=b) nB;rw[Dq];omega
theorem ok_parts(h:okB ls=true):ls.length<=300/\(∀x∈ls,x<=15)/\Dq ls 16<=32768:=by
 unfold okB at h;simp only[Bool.and_eq_true,Bool.or_eq_true,decide_eq_true_eq,List.all_eq_true]at h;obtain⟨⟨h1,h2⟩,h3⟩:=h;refine⟨h1,h2,?_⟩;have hk:=MT ls h2;have hu:=M4 ls h2;rcases h3 with (h3|⟨h3,h4⟩)|h3
 ·rw[h3]at hu;simp only[Fz]at hu;simp only[Dq];have e0:cn ls 0=0:=by simp[cn]
  have e:∀l,l<16->cn ls l=0:=by intro l hl;have:l=0∨l=1∨l=2∨l=3∨l=4∨l=5∨l=6∨l=7∨l=8∨l=9∨l=10∨l=11∨l=12∨l=13∨l=14∨l=15:=nB;rcases this with rfl|rfl|rfl|rfl|rfl|rfl|rfl|rfl|rfl|rfl|rfl|rfl|rfl|rfl|rfl|rfl<;>omega
  simp[e]
 ·have e1:cn ls 1=1:=by unfold cn;rw[Ae nB,h4]
  rw[h3]at hu;simp only[Fz]at hu;simp only[Dq];have e:∀l,l<16->l≠1->cn ls l=0:=by intro l hl i;have:l=0∨l=1∨l=2∨l=3∨l=4∨l=5∨l=6∨l=7∨l=8∨l=9∨l=10∨l=11∨l=12∨l=13∨l=14∨l=15:=nB;rcases this with rfl|rfl|rfl|rfl|rfl|rfl|rfl|rfl|rfl|rfl|rfl|rfl|rfl|rfl|rfl|rfl<;>omega
  simp[e,e1]
 ·omega
theorem Pa(hx:ls[s]? =some x):cnt (ls.take s) x+1<=cnt ls x:=by
 have h1:cnt (ls.take (s+1)) x=cnt (ls.take s) x+1:=by rw[GB hx,GA,Ag rfl]
 have h2:cnt (ls.take (s+1)) x<=cnt ls x:=by
  unfold cnt
  conv=>rhs;rw[<-EX (s+1) ls,List.countP_append]
  omega
 omega
theorem I6(hx:ls[s]? =some x)(h0:x≠0):code ls s=fst ls x+cnt (ls.take s) x:=by unfold code;simp[List.getD_eq_getElem?_getD,hx,h0]
theorem Pk(hx:ls[s]? =some x)(h0:x≠0)(h:x<=15):
 Dq ls x<=code ls s*2 ^ (15-x)/\(code ls s+1)*2 ^ (15-x)<=Dq ls (x+1):=by
 have h1:=I6 hx h0;have h2:=Pa hx;constructor
 ·rw[<-Xr ls x h];exact GG _ nB
 ·rw[<-Ml ls x h];refine GG _ ?_;unfold cn;rw[Ae h0];omega
theorem Pe(h:okB ls=true)(hx:ls[s]? =some x)(h0:x≠0):code ls s<2 ^ x:=by
 obtain⟨_,h2,h3⟩:=ok_parts h;have i:=h2 x (AY hx);have h4:=(Pk hx h0 i).2;have h5:=KK ls (show x+1<=16 by omega);have h6:(code ls s+1)*2 ^ (15-x)<=2 ^ x*2 ^ (15-x):=by rw[<-Nat.pow_add,show x+(15-x)=15 by omega];omega
 exact Nat.le_of_mul_le_mul_right h6 (Gk _)
theorem aS(y:Nat):((if decide (y % 2=1)=true then 1 else 0:Nat):Int)=((y % 2:Nat):Int):=by rcases LJ y with h|h<;>simp[h]
end Huff
namespace Huff
open Canon
def symsOf(ls:List Nat)(l:Nat):List Nat:=(List.range ls.length).filter fun s=>decide (ls.getD s 0=l)
theorem ZF(l:Nat):symsOf [] l= []:=rfl
theorem M7(ls:List Nat)(x l:Nat):symsOf (ls++ [x]) l=symsOf ls l++if x=l then [ls.length]else []:=by
 unfold symsOf;rw[Aj,JG,Hi,List.filter_append];congr 1
 ·apply List.filter_congr
  intro s hs;have hs:=FA.1 hs;simp[List.getD_eq_getElem?_getD,List.getElem?_append_left hs]
 ·by_cases h:x=l<;>simp[List.getD_eq_getElem?_getD,h]
theorem Qo{α:Type}{p:List α->Prop}(h0:p [])(h1:∀l x,p l->p (l++ [x])):∀l,p l:=by
 intro l
 have:∀r:List α,p r.reverse:=by
  intro r
  induction r with
  |nil=>exact h0
  |cons x r ih=>rw[List.reverse_cons];exact h1 _ _ ih
 have h:=this l.reverse
 rwa [List.reverse_reverse]at h
theorem PJ(l:Nat):∀ls:List Nat,(symsOf ls l).length=cnt ls l:=by
 apply Qo
 ·rfl
 ·intro ls x ih;rw[M7,GA,Aj,ih];split<;>rfl
theorem VM{l:Nat}:∀ (ls:List Nat) (k s:Nat),(symsOf ls l)[k]? =some s->ls[s]? =some l/\cnt (ls.take s) l=k:=by
 apply Qo (p:=fun ls=>∀ (k s:Nat),(symsOf ls l)[k]? =some s->ls[s]? =some l/\cnt (ls.take s) l=k)
 ·intro k s h;simp[ZF]at h
 ·intro ls x ih k s h;rw[M7,List.getElem?_append]at h;split at h
  ·obtain⟨h1,h2⟩:=ih k s h;have hs:=(BS.1 h1).1;rw[Hk hs,List.take_append_of_le_length nB];exact⟨h1,h2⟩
  ·rename_i hk;by_cases hx:x=l
   ·subst hx;rw[Ag rfl]at h;have h3:=(BS.1 h).1;simp only[List.length_singleton]at h3;have h4:k=(symsOf ls x).length:=nB;rw[h4,Gl,List.getElem?_cons_zero]at h;injection h with h;subst h;refine⟨pR,?_⟩;rw[List.take_left,h4,PJ]
   ·rw[Ae hx]at h;simp at h
theorem SQ(ls:List Nat)(l:Nat){a:Nat}(h:a<=b):cnt (ls.take a) l<=cnt (ls.take b) l:=by
 have:ls.take a=(ls.take b).take a:=by rw[List.take_take,Nat.min_eq_left h]
 rw[this];unfold cnt
 conv=>rhs;rw[<-EX a (ls.take b),List.countP_append]
 omega
theorem Z6{l t:Nat}(hs:ls[s]? =some l)(ht:ls[t]? =some l)(h:cnt (ls.take s) l=cnt (ls.take t) l):s=t:=by
 have h1:cnt (ls.take (s+1)) l=cnt (ls.take s) l+1:=by rw[GB hs,GA,Ag rfl]
 have h2:cnt (ls.take (t+1)) l=cnt (ls.take t) l+1:=by rw[GB ht,GA,Ag rfl]
 by_cases h3:s<t
 ·have:=SQ ls l (show s+1<=t by omega);omega
 ·by_cases h4:t<s
  ·have:=SQ ls l (show t+1<=s by omega);omega
  ·omega
theorem VJ{l:Nat}(h:k<cnt ls l):∃s,(symsOf ls l)[k]? =some s/\ls[s]? =some l/\cnt (ls.take s) l=k:=by
 have h1:k<(symsOf ls l).length:=by rw[PJ];exact h
 exact⟨_,AD h1,VM ls k _ (AD h1)⟩
def hit(ls:List Nat)(X there s:Nat):Bool:=decide (ls.getD s 0≠0/\ls.getD s 0<=there/\X / 2 ^ (15-ls.getD s 0)=code ls s)
def JN(ls:List Nat)(X there s:Nat):Bool:=decide (there<ls.getD s 0/\X / 2 ^ (15-there)=code ls s / 2 ^ (ls.getD s 0-there))
def EG(ls:List Nat)(X there:Nat):Int×Int×Nat:=
 match (List.range ls.length).find? (hit ls X there)with
 |some s=>(s,0,ls.getD s 0)
 |none=>if(List.range ls.length).any (JN ls X there)then(-1,1,0)else(-1,7,0)
theorem Hq{there:Nat}:hit ls X there s=true↔∃x,ls[s]? =some x/\x≠0/\x<=there/\X / 2 ^ (15-x)=code ls s:=by
 unfold hit;rw[decide_eq_true_eq];constructor
 ·rintro⟨h1,h2,h3⟩
  have hs:s<ls.length:=by
   rcases Nat.lt_or_ge s ls.length with h|h
   ·exact h
   ·rw[Aq,FO h]at h1;simp at h1
  have e:ls.getD s 0=ls[s]:=by simp[List.getD_eq_getElem?_getD,hs]
  rw[e]at h1 h2 h3;exact⟨_,AD hs,h1,h2,h3⟩
 ·rintro⟨x,h0,h1,h2,h3⟩;have e:ls.getD s 0=x:=by simp[List.getD_eq_getElem?_getD,h0]
  rw[e];exact⟨h1,h2,h3⟩
theorem Qe{c d:Nat}(hd:0<d)(h:X / d=c):c*d<=X/\X<(c+1)*d:=by subst h;exact⟨Nat.div_mul_le_self X d,by rw[Ex,Nat.one_mul];exact Nat.lt_div_mul_add hd⟩
theorem ZM(M:okB ls=true){a t:Nat}(hs:hit ls X a s=true)(ht:hit ls X b t=true):s=t:=by
 obtain⟨x,hx,G,_,E⟩:=Hq.1 hs;obtain⟨y,hy,j,_,J⟩:=Hq.1 ht;obtain⟨_,L,_⟩:=ok_parts M;have i:=L x (AY hx);have h:=L y (AY hy);have h1:=Qe (Gk _) E;have h2:=Qe (Gk _) J;have h3:=Pk hx G i;have h4:=Pk hy j h;by_cases Q:x<y
 ·have:=KK ls (show x+1<=y by omega);omega
 ·by_cases N:y<x
  ·have:=KK ls (show y+1<=x by omega);omega
  ·obtain rfl:x=y:=by omega
   have e:code ls s=code ls t:=(by rw[<-E,<-J]);rw[I6 hx G,I6 hy j]at e;exact Z6 hx hy nB
theorem VG(i:okB ls=true){there:Nat}(hx:ls[s]? =some x)(h:hit ls X there s=true):EG ls X there=((s:Int),0,x):=by
 have hs:s<ls.length:=(BS.1 hx).1;unfold EG
 have:(List.range ls.length).find? (hit ls X there)=some s:=by
  cases hf:(List.range ls.length).find? (hit ls X there)with
  |none=>have:=List.find?_eq_none.1 hf s (FA.2 hs);rw[h]at this;exact absurd rfl this
  |some t=>rw[ZM i h (List.find?_some hf)]
 rw[this];simp[List.getD_eq_getElem?_getD,hx]
theorem W9{there:Nat}(h:∀s,hit ls X there s=false):EG ls X there=if(List.range ls.length).any (JN ls X there)then(-1,1,0)else(-1,7,0):=by unfold EG;have:(List.range ls.length).find? (hit ls X there)=none:=List.find?_eq_none.2 (fun s _=>by rw[h s];simp);rw[this]
theorem lD{l:Nat}(h0:l≠0)(hk:k<cn ls l)(hX:X / 2 ^ (15-l)=fst ls l+k):
 ∃s,(symsOf ls l)[k]? =some s/\ls[s]? =some l/\hit ls X l s=true:=by
 have h:k<cnt ls l:=by unfold cn at hk;rwa [Ae h0]at hk
 obtain⟨s,h1,h2,h3⟩:=VJ h;exact⟨s,h1,h2,Hq.2 ⟨l,h2,h0,Am _,by rw[hX,I6 h2 h0,h3]⟩⟩
theorem WM{l:Nat}(h0:l≠0)(hs:ls[s]? =some l)(h:X / 2 ^ (15-l)=code ls s):fst ls l<=X / 2 ^ (15-l)/\X / 2 ^ (15-l)<fst ls l+cn ls l:=by have h1:=I6 hs h0;have h2:=Pa hs;unfold cn;rw[Ae h0];omega
theorem kG{a:Nat}(h:a<=b)(hs:hit ls X a s=true):hit ls X b s=true:=by obtain⟨x,h1,h2,h3,h4⟩:=Hq.1 hs;exact Hq.2 ⟨x,h1,h2,nB,h4⟩
theorem d6{l:Nat}(h:∀s,hit ls X l s=false)(h1:X / 2 ^ (15-(l+1))<fst ls (l+1)∨fst ls (l+1)+cn ls (l+1)<=X / 2 ^ (15-(l+1))):∀s,hit ls X (l+1) s=false:=by
 intro s;cases hh:hit ls X (l+1) s
 ·rfl
 ·obtain⟨x,hx,j,E,i⟩:=Hq.1 hh;by_cases e:x=l+1
  ·subst e;have:=WM nB hx i;omega
  ·have:=h s;rw[Hq.2 ⟨x,hx,j,nB,i⟩]at this;cases this
theorem cY(ls:List Nat)(X:Nat):∀s,hit ls X 0 s=false:=by
 intro s;cases hh:hit ls X 0 s
 ·rfl
 ·obtain⟨x,_,i,h,_⟩:=Hq.1 hh;omega
theorem Vv{there:Nat}:JN ls X there s=true↔∃x,ls[s]? =some x/\there<x/\X / 2 ^ (15-there)=code ls s / 2 ^ (x-there):=by
 unfold JN;rw[decide_eq_true_eq];constructor
 ·rintro⟨h2,h3⟩
  have hs:s<ls.length:=by
   rcases Nat.lt_or_ge s ls.length with h|h
   ·exact h
   ·rw[Aq,FO h]at h2;simp at h2
  have e:ls.getD s 0=ls[s]:=by simp[List.getD_eq_getElem?_getD,hs]
  rw[e]at h2 h3;exact⟨_,AD hs,h2,h3⟩
 ·rintro⟨x,h0,h2,h3⟩;have e:ls.getD s 0=x:=by simp[List.getD_eq_getElem?_getD,h0]
  rw[e];exact⟨h2,h3⟩
theorem bE{l:Nat}(L:l<k)(h0:0<cn ls k)(h1:x*2 ^ (k-l)<fst ls k+cn ls k)(h2:fst ls k<x*2 ^ (k-l)+2 ^ (k-l)):
 ∃s,ls[s]? =some k/\code ls s / 2 ^ (k-l)=x:=by
 have i:k≠0:=nB
 obtain⟨j,E,J⟩:∃j,j<cn ls k/\(fst ls k+j) / 2 ^ (k-l)=x:=by
  have hp:=Gk (k-l);generalize 2 ^ (k-l)=d at *;by_cases h:fst ls k<=x*d
  ·refine⟨x*d-fst ls k,nB,?_⟩;rw[show fst ls k+(x*d-fst ls k)=x*d by omega];exact Nat.mul_div_cancel _ hp
  ·refine⟨0,h0,?_⟩;rw[Cw];apply Nat.div_eq_of_lt_le
   ·omega
   ·rw[Ex,Nat.one_mul];omega
 have G:j<cnt ls k:=by unfold cn at E;rwa [Ae i]at E
 obtain⟨s,_,h3,h4⟩:=VJ G;exact⟨s,h3,by rw[I6 h3 i,h4,J]⟩
theorem aL{l:Nat}(j:l<k)(hs:ls[s]? =some k)(h:code ls s / 2 ^ (k-l)=x):
 0<cn ls k/\x*2 ^ (k-l)<fst ls k+cn ls k/\fst ls k<x*2 ^ (k-l)+2 ^ (k-l):=by
 have i:k≠0:=nB
 have h1:=I6 hs i;have h2:=Pa hs;have h3:=Qe (Gk (k-l)) h;have e:cn ls k=cnt ls k:=by unfold cn;rw[Ae i]
 rw[Ex,Nat.one_mul]at h3;omega
theorem Vs(bs:List Bool)(i m:Nat):∀d,AN bs i (m+d) / 2 ^ d=AN bs i m
 |0=>pR
 |d+1=>by have h1:=EP bs (i+(m+d));rw[<-Nat.add_assoc,AN,Dl,Nat.mul_comm (2 ^ d) 2,<-LK];rw[show(2*AN bs i (m+d)+bit bs (i+(m+d))) / 2=AN bs i (m+d) by omega];exact Vs bs i m d
theorem Mg(x n:Nat)(hx:x<2 ^ n)(bs pre post:List Bool)(h:bs=pre++msb x n n++post):∀m,m<=n->AN bs pre.length m=x / 2 ^ (n-m)
 |0,_=>by rw[AN,Nat.sub_zero,Nat.div_eq_of_lt hx]
 |m+1,hm=>by
  rw[AN,Mg x n hx bs pre post h m nB]
  have hb:bit bs (pre.length+m)=x / 2 ^ (n-1-m) % 2:=by
   unfold bit;have hl:m<(msb x n n).length:=by rw[uZ];omega
   have e:bs.getD (pre.length+m) false=decide (x / 2 ^ (n-1-m) % 2=1):=(by rw[h,AK,Aq,I8 nB,IE,Hk hl,AD hl];simp[msb]);rw[e];by_cases h1:x / 2 ^ (n-1-m) % 2=1
   ·rw[AQ h1,h1];rfl
   ·rw[AV h1];simp;omega
  rw[hb,show n-m=(n-1-m)+1 by omega,show n-(m+1)=n-1-m by omega,Dl,<-LK];omega
end Huff
end Go.Proofs.YtfgdoknipbpfhaaGreatDoor
