/- Words for memory, fo -/
import Derived.WalkKit
import Derived.ProofKit
import Derived.Lib.Hide
import Derived.Laws.OwnMore
import Derived.Deep.Draws
import Derived.Maps.AppendAt
import Derived.Test.YtfgdoknipbpfhaaGreatDoorProg
import Derived.BigQuiet
import Derived.BigGuardPart
import Derived.Deep.QuietTactic
import Derived.Deep.Light
import Derived.Laws.Rows
import Derived.Deep.MidRow
import Derived.Deep.DeepCutAuto
namespace Go.Proofs.YtfgdoknipbpfhaaGreatDoor
section
open Go Go.RowKit
theorem ic(p:Prop)[Decidable p](h:p:=by first|omega|(simp;omega)|(simp;done)):decide p=true:=decide_eq_true h
theorem ig(p:Prop)[Decidable p](h:¬p:=by first|omega|(simp;omega)|(simp;done)):decide p=false:=decide_eq_false h
theorem ii{α:Sort _}(a:α):∃x,x=a:=⟨a,rfl⟩
instance:Coe World Nat:=⟨fun w=>w.heap.size⟩
instance:Coe Nat Value:=⟨fun n=> .int .i64 n⟩
instance:Coe Int Value:=⟨fun n=> .int .i64 n⟩
instance:Coe Bool Value:=⟨fun b=> .bool b⟩
instance:Coe Unit Value:=⟨fun _=> .slice none 0 0⟩
structure ik where
def ij:ik:=⟨⟩
instance:Coe ik Value:=⟨fun _=> .int .i64 0⟩
theorem mz{p:Prop}(h:p:=by omega):p:=h
theorem qh{p:Prop}(h:p:=by(repeat (with_reducible first|exact Ag _ _|assumption|refine Az ?_ |refine below_drewN ?_ _|refine qZ ?_ |refine aZ ?_ |refine dZ (by assumption) ?_ |refine belA ?_ |refine rZ (by assumption) ?_))):p:=h
theorem ip{p:Prop}(h:p:=by decide):p:=h
theorem jo{p:Prop}(h:p:=by go_light;simp[intOf];omega):p:=h
theorem im{p:Prop}(h:p:=by assumption):p:=h
theorem pI{p:Prop}(h:p:=by simp):p:=h
theorem qg{p:Prop}(h:p:=by unfold maxLen;omega):p:=h
theorem mr{p:Prop}(h:p:=by kernel_rfl):p:=h
theorem mj{p:Prop}(h:p:=by intro u hu;simp at hu;rcases hu with rfl;rfl):p:=h
theorem pQ{p:Prop}(h:p:=by simp;omega):p:=h
theorem nW{p:Prop}(h:p:=by rw[Aw _ (by omega)];omega):p:=h
theorem nc{p:Prop}(h:p:=by rfl):p:=h
theorem iu{p:Prop}(h:p:=by first|rfl|go_num):p:=h
theorem pF{p:Prop}(h:p:=by show b≠w.heap.size;omega):p:=h
theorem oi{p:Prop}(h:p:=by rw[HG.out];exact aw.out.keep (fun b _ h=>((((AV _ _ _ b (by show b≠w.heap.size;omega)).trans (AV _ _ _ b (by show b≠w.heap.size;omega))).trans (AV _ _ _ b (by show b≠w.heap.size;omega))).trans (((AV _ _ _ b (by show b≠w.heap.size;omega)).trans (AV _ _ _ b (by show b≠w.heap.size;omega))).trans (AV _ _ _ b (by show b≠w.heap.size;omega))))) N):p:=h
theorem pn{p:Prop}(h:p:=by show World.ownsRow _ _ _ _ _ _ _;rw[show cZ .u8 (j++List.replicate k x)=cZ .u8 j++cZ .u8 (List.replicate k x) by simp[cZ]];exact E):p:=h
theorem iz{p:Prop}(h:p:=by go_light;exact⟨a2,i,p+k,j++List.replicate k x,by omega,by show _=_;rw[Aj,HP.out,Dr],ay.out,az.out,an.out,aj.out.1,aj.out.2⟩):p:=h
theorem n5{p:Prop}(h:p:=by rw[Bv];omega):p:=h
theorem n9{p:Prop}(h:p:=by rw[HG.out];exact af.out.keep (fun b _ h=>(((AV _ _ _ b (by show b≠w.heap.size;omega)).trans (AV _ _ _ b (by show b≠w.heap.size;omega))).trans (AV _ _ _ b (by show b≠w.heap.size;omega)))) N):p:=h
theorem jp{p:Prop}(h:p:=by go_num):p:=h
theorem jw{p:Prop}(h:p:=by have h3:=Ef.Lr (q:=bound / l.length) (by omega);have h4:efW bound l.length<2 ^ efW bound l.length:=Nat.lt_two_pow_self;unfold efW at h4 ⊢;have h5:l.length*Nat.log2 (bound / l.length)<=l.length*(bound / l.length):=Nat.mul_le_mul_left _ (by omega);exact AN h5 (Nat.mul_div_le _ _)):p:=h
theorem ja{p:Prop}(h:p:=by go_light;exact⟨i+1,a2,t2++ [s],h2++ [s],_,_,by omega,by first|rfl|go_num,by rw[Aj,<-HP.out];simp;omega,by rw[Aj,Aj,<-HP.out,<-HQ.out];simp;omega,bf.out,by intro y hy;rcases BJ.1 hy with h|h;exact ar.out y h;(rw[Eu]at h;rw[h];exact af.out),by rw[Bi (by omega)];exact az.out⟩):p:=h
theorem jb{p:Prop}(h:p:=by go_light;exact⟨i+1,a2,t2++ [s],h2,_,uH,by omega,by first|rfl|go_num,by rw[Aj,<-HP.out];simp;omega,by rw[Aj,<-HP.out];omega,E.out,by intro y hy;rcases BJ.1 hy with h|h;exact ar.out y h;(rw[Eu]at h;rw[h];exact af.out),by rw[Bi (by omega)];exact az.out⟩):p:=h
theorem jh{p:Prop}(h:p:=by go_light;exact⟨k+1,q2+1,x,j++ [z+1],by omega,by omega,by omega,by first|rfl|go_num,by first|rfl|go_num,by show _=_;rw[Aj,N.out];rfl, .inr ⟨by omega,j,z+1,rfl,by omega,by have e:=av.out;rw[<-ar.out]at e;rw[HZ.out];exact e⟩,aq.out,aj.out⟩):p:=h
theorem it{p:Prop}(h:p:=by first|omega|(simp;done)|(simp;omega)):p:=h
theorem ir{p:Prop}(h:p:=by first|exact Blk.made _ _ _|exact Blk.made_at _ _ _ (by simp)|exact Blk.drew (Blk.made _ _ _)|exact Blk.drew (Blk.made_at _ _ _ (by simp))):p:=h
theorem oq{p:Prop}(h:p:=by rw[HN.out];exact Aq _):p:=h
theorem iy{p:Prop}(h:p:=by first|rfl|trivial):p:=h
theorem mq{p:Prop}(h:p:=by intro y hy;rcases BJ.1 hy with h|h;exact ar.out y h;(rw[Eu]at h;rw[h];exact af.out)):p:=h
theorem lp{p:Prop}(h:p:=by have:=HN.out;omega):p:=h
theorem ji{p:Prop}(h:p:=by go_light;exact⟨k+1,x2,by omega,by omega,by first|rfl|trivial,by go_num,HP.out,G.out,by first|rfl|trivial⟩):p:=h
theorem je{p:Prop}(h:p:=by go_light;exact⟨i+j,q'+1+om,m5,c5,A5,P++ [x]++O,by have:=am.out.2;omega,a5,av,rfl,am.out.1,by show _=_;rw[Aj,Aj,HP.out,bC.out];rfl,bN.out,ai.out,b9.out,b6.out⟩):p:=h
theorem jd{p:Prop}(h:p:=by go_light;exact⟨i+1,y+size,a3,0,f1,h6,bx,bq,by omega,by first|rfl|go_num,cd.out,b9,ba,bp.out,bt.out,b4.out,b0.out,bj.out,fun _=>bN.out,fun h=>absurd rfl h⟩):p:=h
theorem jl{p:Prop}(h:p:=by go_light;refine⟨k+1,by omega,by omega,by go_num,U.out,?_⟩;obtain⟨q,rfl⟩:=N.out;exact⟨_,FT _ _ _⟩):p:=h
theorem mp{p:Prop}(h:p:=by intro u hu;simp at hu;subst hu;rfl):p:=h
theorem pM{p:Prop}(h:p:=by simp only[Bp,List.map_cons,List.foldl_cons];rw[Lw];omega):p:=h
theorem kr{p:Prop}(h:p:=by have h:=kZ Z am.out.size;have e1:(Bu bs false).length=F.length+4:=(by unfold Bu;rw[<-HF.out,Aj];exact rfl);rw[e1];unfold Bu;rw[<-HF.out];exact h):p:=h
theorem jn{p:Prop}(h:p:=by go_light;simp only[lenS];rw[aw.out,ba.out];exact aq.out):p:=h
theorem pL{p:Prop}(h:p:=by simp only;omega):p:=h
theorem ky{p:Prop}(h:p:=by have:=(Am HO.out y hy).2;simp;omega):p:=h
theorem jm{p:Prop}(h:p:=by go_light;refine⟨k+1,ws,row++ [x],vo,_,by omega,by go_num,?_,z.out,HA.out w4 _ _ (HN.out ▸ E) M⟩;show _<=_;rw[Aj,HN.out];simp;omega):p:=h
theorem px{p:Prop}(h:p:=by show _=_;omega):p:=h
theorem oO{p:Prop}(h:p:=by rw[bne_iff_ne];omega):p:=h
theorem ph{p:Prop}(h:p:=by rw[show cZ .u8 (P++ [x])=cZ .u8 P++ [.int .u8 (x:Nat)] by simp[cZ]];exact eZ U.out (fun y hy=>ah.block y (Am U.out y hy).2)):p:=h
theorem iw{p:Prop}(h:p:=by first|rfl|go_num|(congr 1;omega)):p:=h
theorem nV{p:Prop}(h:p:=by rw[Aw _ (by omega)]):p:=h
theorem js{p:Prop}(h:p:=by have h1:=AE List.length hf;have h2:=cl.out;have h3:=HP.out;simp only[List.length_append,List.length_cons]at h1;omega):p:=h
theorem pj{p:Prop}(h:p:=by rw[show(128:Int)=((128:Nat):Int) from rfl,u8_or_nat _ _ (by omega) (by omega),Rq _ (by omega)];congr 1;omega):p:=h
theorem jj{p:Prop}(h:p:=by go_light;exact⟨k+r,v3,_,by omega,by go_num,ab.out,ae.out,aa.out,ac.out⟩):p:=h
theorem lz{p:Prop}(h:p:=by have:=h.1;omega):p:=h
theorem ml{p:Prop}(h:p:=by intro u hu;simp at hu;rcases hu with rfl|rfl<;>rfl):p:=h
theorem nm{p:Prop}(h:p:=by rw[AU];omega):p:=h
theorem pE{p:Prop}(h:p:=by show _=_;unfold FX;rw[N.cells.2.2];rfl):p:=h
theorem mu{p:Prop}(h:p:=by obtain⟨es,E,h1,_⟩:=y.map;have h2:w4.heap[bo]? =some (.cells #[vT,vL] 53):=i;rw[e,h2]at h1;cases h1):p:=h
theorem oJ{p:Prop}(h:p:=by rw[Jv];intro h;simp at h;omega):p:=h
theorem ly{p:Prop}(h:p:=by have:=M.out;unfold IE at this;omega):p:=h
theorem mt{p:Prop}(h:p:=by obtain⟨A,n,c,ls,h1,h2,h3,h4,h5,h6,h7⟩:=hR;rw[h5,EC,h3];omega):p:=h
theorem pH{p:Prop}(h:p:=by show w.heap.size≠g;omega):p:=h
theorem kz{p:Prop}(h:p:=by have:=(Am U.out y hy).2;simp;omega):p:=h
theorem kj{p:Prop}(h:p:=by have h:=ah.out;rw[<-show T i=R from ab.out,<-show s=(T i).length from HS.out]at h;exact h):p:=h
theorem iq{p:Prop}(h:p:=by first|exact Blk.made _ _ _|exact Blk.drew (Blk.made _ _ _)):p:=h
theorem pD{p:Prop}(h:p:=by show _=_;unfold Ej;rw[Ab (by omega),Ab];rw[hn];show ¬2 ^ L<(vZ (kOf ks) n).length;omega):p:=h
theorem ko{p:Prop}(h:p:=by have h:=bd.out;rw[h]at G;injection G with G;exact G.symm):p:=h
theorem p5{p:Prop}(h:p:=by simpa using h):p:=h
theorem oM{p:Prop}(h:p:=by rw[ay.out,a0.out];exact S9.out.1):p:=h
theorem oI{p:Prop}(h:p:=by rw[IntKind.wrap_i64];omega):p:=h
theorem pO{p:Prop}(h:p:=by simp only[List.length_cons]at ht ⊢;omega):p:=h
theorem mm{p:Prop}(h:p:=by intro u hu;simp at hu;rcases hu with rfl|rfl|rfl<;>rfl):p:=h
theorem mh{p:Prop}(h:p:=by have:=hy.1;omega):p:=h
theorem p7{p:Prop}(h:p:=by simpa using he):p:=h
theorem lk{p:Prop}(h:p:=by have:=HH.out;have h2:=G.out;subst this;simp[BM];omega):p:=h
theorem oF{p:Prop}(h:p:=by rw[Hp];omega):p:=h
theorem pU{p:Prop}(h:p:=by simp[callFunc,go_sem,Tryz.func347];rfl):p:=h
theorem lc{p:Prop}(h:p:=by have:=Am E x hx;exact⟨this.2,by omega⟩):p:=h
theorem kq{p:Prop}(h:p:=by have h:=bits_and_u64_nat y 1 hy (by omega);rw[Nat.and_one_is_mod]at h;exact h):p:=h
theorem oA{p:Prop}(h:p:=by rw[HT.out,show cZ .u8 (T j++ls)=cZ .u8 (T j)++cZ .u8 ls by simp[cZ]];exact U):p:=h
theorem jf{p:Prop}(h:p:=by go_light;exact⟨j+1,by omega,by first|rfl|go_num,ay.out,au.out,ab.out,am.out⟩):p:=h
theorem jg{p:Prop}(h:p:=by go_light;exact⟨j+1,q+1,D6,ae,rfl,rfl,by have:=HQ.out;omega,by omega,S6.out⟩):p:=h
theorem jr{p:Prop}(h:p:=by have h1:(i+1)*size<=q*size:=Gp size bm;rw[I1,bk.out,<-HY.out]at h1;exact h1):p:=h
theorem pi{p:Prop}(h:p:=by rw[show cZ .u8 (P++ [x]++O)=cZ .u8 (P++ [x])++cZ .u8 O by simp[cZ]];exact J):p:=h
theorem o7{p:Prop}(h:p:=by rw[j];omega):p:=h
theorem oj{p:Prop}(h:p:=by rw[HG.out];rfl):p:=h
theorem nX{p:Prop}(h:p:=by rw[Bd];omega):p:=h
theorem nz{p:Prop}(h:p:=by rw[Aj];omega):p:=h
theorem n8{p:Prop}(h:p:=by rw[FQ];omega):p:=h
theorem na{p:Prop}(h:p:=by refine⟨size_madeCells _ _,fun i hi=> ?_⟩;simp[madeCells,hi,Nat.mod_one]):p:=h
theorem ku{p:Prop}(h:p:=by have hr:=HR.out;rw[aw.out.1 h]at hr;rw[Ab (fun h=>h rfl)]at hr;exact hr):p:=h
theorem pJ{p:Prop}(h:p:=by simp at h):p:=h
theorem pN{p:Prop}(h:p:=by simp only[List.length_cons];omega):p:=h
theorem jz{p:Prop}(h:p:=by have h:=HR.out;rw[Ae (.inr (.inl (HM.out.symm.trans Y)))]at h;exact h):p:=h
theorem pk{p:Prop}(h:p:=by rw[show(i:Int)*(size:Int)=(y:Int) by rw[HY.out];simp,Aw _ (by omega)]):p:=h
theorem pY{p:Prop}(h:p:=by simp[intOf];omega):p:=h
theorem nU{p:Prop}(h:p:=by rw[Aw _ (by have:=HZ.out;omega)];have:=HZ.out;unfold G6 at ac;omega):p:=h
theorem pz{p:Prop}(h:p:=by show _=_;rw[Aj,HP.out,Dr]):p:=h
theorem pg{p:Prop}(h:p:=by rw[show T 0= [] from Q.out];rfl):p:=h
theorem p6{p:Prop}(h:p:=by simpa using h2):p:=h
theorem ke{p:Prop}(h:p:=by have h:=HR.out;rw[Gi z]at h;rw[AJ];exact h):p:=h
theorem kx{p:Prop}(h:p:=by have:2 ^ W<=2 ^ 14:=Cl (by omega) hW;omega):p:=h
theorem oG{p:Prop}(h:p:=by rw[I6];omega):p:=h
theorem ki{p:Prop}(h:p:=by have h:=HT.out rfl;rw[Eb (by rw[HQ.out];exact Aq _)]at h;exact h):p:=h
theorem mg{p:Prop}(h:p:=by have:=hx.1;omega):p:=h
theorem pT{p:Prop}(h:p:=by simp[cZ]):p:=h
theorem nY{p:Prop}(h:p:=by rw[Bi (by omega)];exact az.out):p:=h
theorem mw{p:Prop}(h:p:=by obtain⟨p1,p2,p3⟩:=bf h;have h2:=hT h;rw[p1,p2,p3]at h2;exact h2):p:=h
theorem np{p:Prop}(h:p:=by rw[Ab (by simp),Ab (by omega)]):p:=h
theorem ld{p:Prop}(h:p:=by have:=H9.out j;subst this;rfl):p:=h
theorem oL{p:Prop}(h:p:=by rw[Nat.mul_add,<-hA,hb];omega):p:=h
theorem nw{p:Prop}(h:p:=by rw[Ae (.inr (.inr (by rw[<-bC.out];exact h3)))]at hr;exact hr):p:=h
theorem nu{p:Prop}(h:p:=by rw[Ae (.inr (.inl (by rw[<-bp.out];exact h2)))]at hr;exact hr):p:=h
theorem oy{p:Prop}(h:p:=by rw[HP.out];exact kZ HO.out z1):p:=h
theorem lu{p:Prop}(h:p:=by have:=HQ.out;omega):p:=h
theorem jt{p:Prop}(h:p:=by have h2:=G.out;rw[hF,HH.out];simp;omega):p:=h
theorem mo{p:Prop}(h:p:=by intro u hu;simp at hu;rcases hu with rfl|rfl|rfl|rfl<;>rfl):p:=h
theorem o6{p:Prop}(h:p:=by rw[hy,e]):p:=h
theorem oS{p:Prop}(h:p:=by rw[hT,Aj,<-show s2=(T j).length from HS.out,hn];exact rfl):p:=h
theorem pS{p:Prop}(h:p:=by simp[Program.elem,ht]):p:=h
theorem oT{p:Prop}(h:p:=by rw[hT,Aj,<-show s=(T i).length from HS.out,hn];exact rfl):p:=h
theorem py{p:Prop}(h:p:=by show _=_;rw[Aj,HL.out];rfl):p:=h
theorem nx{p:Prop}(h:p:=by rw[Aj,<-HP.out];simp;omega):p:=h
theorem km{p:Prop}(h:p:=by have h:=ah.out;rw[Ab (fun h=>h rfl),a1.out]at h;exact h):p:=h
theorem ka{p:Prop}(h:p:=by have h:=HR.out;rw[EW z]at h;exact h):p:=h
theorem qc{p:Prop}(h:p:=by unfold Bu;rw[<-HF.out,Aj];exact rfl):p:=h
theorem oY{p:Prop}(h:p:=by rw[hq];exact(Kept.refl _ _).drewN q):p:=h
theorem my{p:Prop}(h:p:=by obtain⟨q,hq⟩:=HQ.out;exact⟨_,by rw[hq];exact FT _ _ _⟩):p:=h
theorem ow{p:Prop}(h:p:=by rw[HO.out.cellAt i (by omega)];unfold cZ;rw[BE,hk];rfl):p:=h
theorem jc{p:Prop}(h:p:=by go_light;exact⟨i+1,s',rfl,rfl,by omega,M.out,trivial⟩):p:=h
theorem pX{p:Prop}(h:p:=by simp[intOf]):p:=h
theorem jy{p:Prop}(h:p:=by have h:=HF.out;rw[HN.out];exact h):p:=h
theorem jq{p:Prop}(h:p:=by have e:=av.out;rw[<-ar.out]at e;rw[HZ.out];exact e):p:=h
theorem nk{p:Prop}(h:p:=by rw[<-j.out,Aj,HL.out,Ji];exact i):p:=h
theorem lj{p:Prop}(h:p:=by have:=HF.out;omega):p:=h
theorem lx{p:Prop}(h:p:=by have:=HZ.out;omega):p:=h
theorem pf{p:Prop}(h:p:=by rw[show 7*(i+1)=7*i+7 by omega,Nat.pow_add];omega):p:=h
theorem jk{p:Prop}(h:p:=by go_light;exact⟨m+1,by omega,by omega,by go_num,G⟩):p:=h
theorem kw{p:Prop}(h:p:=by have hr:=HR.out;rw[aw.out.2 h,Ae h]at hr;exact hr):p:=h
theorem ln{p:Prop}(h:p:=by have:=HM.out;simp;omega):p:=h
theorem pP{p:Prop}(h:p:=by simp;have:=ac.out;omega):p:=h
theorem nS{p:Prop}(h:p:=by rw[Ar,AD hi];exact h8 _ (Fo hi)):p:=h
theorem pq{p:Prop}(h:p:=by show _<=_;rw[Aj,Aj,pZ,pZ];omega):p:=h
theorem pR{p:Prop}(h:p:=by simp[BM];omega):p:=h
theorem io{p:Prop}(h:p:=by cases M with|true=>rfl|false=>exact absurd rfl Y):p:=h
theorem qb{p:Prop}(h:p:=by subst hR;exact⟨hb,fun _=>rfl,fun h=>absurd h he⟩):p:=h
theorem pC{p:Prop}(h:p:=by show _=_;simp):p:=h
theorem oX{p:Prop}(h:p:=by rw[hq];exact FT _ _ _):p:=h
theorem nj{p:Prop}(h:p:=by rw[<-bp.out];exact h2):p:=h
theorem ni{p:Prop}(h:p:=by rw[<-bC.out];exact h3):p:=h
theorem jx{p:Prop}(h:p:=by have h:=G.out;simp[BM];omega):p:=h
theorem md{p:Prop}(h:p:=by have:=h.mi.map.lt;simp;omega):p:=h
theorem pd{p:Prop}(h:p:=by rw[seg_length];omega):p:=h
theorem mv{p:Prop}(h:p:=by obtain⟨g,c,hv,_⟩:=h.ro.form z;exact⟨g,c,hv⟩):p:=h
theorem ng{p:Prop}(h:p:=by rw[<-HP.out];exact j):p:=h
theorem pK{p:Prop}(h:p:=by simp at hx):p:=h
theorem oU{p:Prop}(h:p:=by rw[h];exact HR.out.drewN q1):p:=h
theorem oW{p:Prop}(h:p:=by rw[he];exact ht):p:=h
theorem oD{p:Prop}(h:p:=by rw[He];omega):p:=h
theorem mf{p:Prop}(h:p:=by have:=hb.size;omega):p:=h
theorem ox{p:Prop}(h:p:=by rw[HP.out];exact hp):p:=h
theorem oQ{p:Prop}(h:p:=by rw[hF,HH.out];exact aw.out):p:=h
theorem oP{p:Prop}(h:p:=by rw[hF,HH.out];exact H8.out):p:=h
theorem pu{p:Prop}(h:p:=by show _<=w9.heap.size;omega):p:=h
theorem p8{p:Prop}(h:p:=by subst e;exact Lt.irrefl h):p:=h
theorem pm{p:Prop}(h:p:=by rw[wrap_u64];omega):p:=h
theorem pB{p:Prop}(h:p:=by show _=_;rw[Aj,N.out];rfl):p:=h
theorem lq{p:Prop}(h:p:=by have:=HP.out;omega):p:=h
theorem oR{p:Prop}(h:p:=by rw[hR,<-E];exact HC.out):p:=h
theorem oK{p:Prop}(h:p:=by rw[NI];exact h.1):p:=h
theorem ou{p:Prop}(h:p:=by rw[HN.out];omega):p:=h
theorem oV{p:Prop}(h:p:=by rw[h];rfl):p:=h
theorem pp{p:Prop}(h:p:=by show _<=_;omega):p:=h
theorem ny{p:Prop}(h:p:=by rw[Aj,pZ];omega):p:=h
theorem pG{p:Prop}(h:p:=by show g≠gb;omega):p:=h
theorem pV{p:Prop}(h:p:=by simp[h]):p:=h
theorem pW{p:Prop}(h:p:=by simp[hx]):p:=h
end
open Go.Proofs.Tryz
variable{B X b base g i k n p s x:Nat}{a c w:World}{u:Value}{o:Obj}{e t:TypeId}{xs:List Value}{arr:Array Value}{A:Option Addr}{l ls:List Nat}{most:Int}
section
open Go Go.RowKit
theorem Ab:type_of% @if_neg:=@if_neg
theorem Ae:type_of% @if_pos:=@if_pos
theorem Ag:type_of% @Below.refl:=@Below.refl
theorem Aj:type_of% @List.length_append:=@List.length_append
theorem Am:type_of% @World.ownsRow.lt:=@World.ownsRow.lt
theorem Aq:type_of% @Nat.le_refl:=@Nat.le_refl
theorem Ar:type_of% @List.getD_eq_getElem?_getD:=@List.getD_eq_getElem?_getD
theorem Aw:type_of% @IntWalk.i64_in:=@IntWalk.i64_in
theorem Az:type_of% @Below.drew:=@Below.drew
theorem AD:type_of% @List.getElem?_eq_getElem:=@List.getElem?_eq_getElem
theorem AE:type_of% @congrArg:=@congrArg
theorem AI:type_of% @List.length_cons:=@List.length_cons
theorem AJ:type_of% @List.append_assoc:=@List.append_assoc
theorem AK:type_of% @World.ownsRow_nil:=@World.ownsRow_nil
theorem AN:type_of% @Nat.le_trans:=@Nat.le_trans
theorem AQ:type_of% @List.mem_cons:=@List.mem_cons
theorem AU:type_of% @List.length_drop:=@List.length_drop
theorem AV:type_of% @Below.heap_setCell:=@Below.heap_setCell
theorem AZ:type_of% @Ne.symm:=@Ne.symm
theorem Bc:type_of% @List.length_map:=@List.length_map
theorem Bd:type_of% @List.length_take:=@List.length_take
theorem Be:type_of% @decide_eq_true:=@decide_eq_true
theorem Bg:type_of% @List.mem_of_getElem?:=@List.mem_of_getElem?
theorem Bi:type_of% @decide_eq_false:=@decide_eq_false
theorem Bj:type_of% @Nat.add_zero:=@Nat.add_zero
theorem Bv:type_of% @IntKind.wrap_u64:=@IntKind.wrap_u64
theorem Bw:type_of% @Int.toNat_natCast:=@Int.toNat_natCast
theorem BE:type_of% @List.getElem?_map:=@List.getElem?_map
theorem BJ:type_of% @List.mem_append:=@List.mem_append
theorem BN:type_of% @results_none:=@results_none
theorem BV:type_of% @List.take_of_length_le:=@List.take_of_length_le
theorem BW:type_of% @List.mem_cons_of_mem:=@List.mem_cons_of_mem
theorem BX:type_of% @Bool.and_eq_true:=@Bool.and_eq_true
theorem Cb:type_of% @List.mem_of_mem_drop:=@List.mem_of_mem_drop
theorem Cc:type_of% @List.mem_map:=@List.mem_map
theorem Ce:type_of% @List.append_nil:=@List.append_nil
theorem Ck:type_of% @Nat.zero_add:=@Nat.zero_add
theorem Cl:type_of% @Nat.pow_le_pow_right:=@Nat.pow_le_pow_right
theorem Cm:type_of% @List.take_add_one:=@List.take_add_one
theorem Cr:type_of% @Nat.zero_le:=@Nat.zero_le
theorem Cs:type_of% @List.map_cons:=@List.map_cons
theorem Ct:type_of% @List.flatMap_cons:=@List.flatMap_cons
theorem Cz:type_of% @Nat.lt_irrefl:=@Nat.lt_irrefl
theorem CD:type_of% @List.mem_cons_self:=@List.mem_cons_self
theorem CE:type_of% @List.getElem?_eq_some_iff:=@List.getElem?_eq_some_iff
theorem CG:type_of% @Nat.mul_one:=@Nat.mul_one
theorem CI:type_of% @bodyPost_ret:=@bodyPost_ret
theorem CP:type_of% @Calls.quiet_of_same:=@Calls.quiet_of_same
theorem C7:type_of% @List.mem_of_mem_take:=@List.mem_of_mem_take
theorem De:type_of% @List.length_nil:=@List.length_nil
theorem Df:type_of% @List.drop_eq_getElem_cons:=@List.drop_eq_getElem_cons
theorem Dr:type_of% @List.length_replicate:=@List.length_replicate
theorem Eb:type_of% @List.drop_of_length_le:=@List.drop_of_length_le
theorem Ec:type_of% @List.cons_append:=@List.cons_append
theorem Ed:type_of% @Below.heap_alloc:=@Below.heap_alloc
theorem Et:type_of% @Nat.lt_of_lt_of_le:=@Nat.lt_of_lt_of_le
theorem Eu:type_of% @List.mem_singleton:=@List.mem_singleton
theorem EL:type_of% @Nat.add_mul:=@Nat.add_mul
theorem EM:type_of% @List.take_append_drop:=@List.take_append_drop
theorem EN:type_of% @List.map_append:=@List.map_append
theorem Fl:type_of% @Nat.pow_succ:=@Nat.pow_succ
theorem Fm:type_of% @List.mem_range:=@List.mem_range
theorem Fo:type_of% @List.getElem_mem:=@List.getElem_mem
theorem Fp:type_of% @List.getElem?_eq_none:=@List.getElem?_eq_none
theorem Fz:type_of% @List.pairwise_cons:=@List.pairwise_cons
theorem FA:type_of% @List.nil_append:=@List.nil_append
theorem FC:type_of% @List.map_nil:=@List.map_nil
theorem FD:type_of% @List.length_pos_iff:=@List.length_pos_iff
theorem FE:type_of% @Array.getElem?_setIfInBounds:=@Array.getElem?_setIfInBounds
theorem FQ:type_of% @beq_eq_false_iff_ne:=@beq_eq_false_iff_ne
theorem FT:type_of% @World.drewN_drewN:=@World.drewN_drewN
theorem FU:type_of% @Option.getD_some:=@Option.getD_some
theorem FV:type_of% @Nat.two_pow_pos:=@Nat.two_pow_pos
theorem FW:type_of% @List.all_eq_true:=@List.all_eq_true
theorem Gn:type_of% @Nat.sub_self:=@Nat.sub_self
theorem Gp:type_of% @Nat.mul_le_mul_right:=@Nat.mul_le_mul_right
theorem Gq:type_of% @List.getElem?_take:=@List.getElem?_take
theorem Gr:type_of% @List.eq_nil_of_length_eq_zero:=@List.eq_nil_of_length_eq_zero
theorem GI:type_of% @List.sum_cons:=@List.sum_cons
theorem GJ:type_of% @List.range_succ:=@List.range_succ
theorem GK:type_of% @ByteArray.toList_eq:=@ByteArray.toList_eq
theorem G1:type_of% @List.getElem?_append_left:=@List.getElem?_append_left
theorem Hn:type_of% @Nat.mul_le_mul:=@Nat.mul_le_mul
theorem Ho:type_of% @Nat.div_le_self:=@Nat.div_le_self
theorem Hp:type_of% @IntKind.wrap_u8':=@IntKind.wrap_u8'
theorem Ix:type_of% @List.flatMap_append:=@List.flatMap_append
theorem Iy:type_of% @List.drop_zero:=@List.drop_zero
theorem Iz:type_of% @Int.eq_ofNat_of_zero_le:=@Int.eq_ofNat_of_zero_le
theorem I1:type_of% @Nat.succ_mul:=@Nat.succ_mul
theorem I2:type_of% @Nat.add_sub_cancel_left:=@Nat.add_sub_cancel_left
theorem I3:type_of% @List.getElem?_drop:=@List.getElem?_drop
theorem I4:type_of% @List.getElem?_append_right:=@List.getElem?_append_right
theorem I5:type_of% @IntWalk.wrap64_in:=@IntWalk.wrap64_in
theorem I6:type_of% @IntKind.wrap_u32':=@IntKind.wrap_u32'
theorem I7:type_of% @Bool.false_and:=@Bool.false_and
theorem Ju:type_of% @Decidable.byContradiction:=@Decidable.byContradiction
theorem Jv:type_of% @Bool.eq_false_iff:=@Bool.eq_false_iff
theorem Kf:type_of% @List.map_congr_left:=@List.map_congr_left
theorem Kg:type_of% @List.length_singleton:=@List.length_singleton
theorem Kh:type_of% @Bool.eq_iff_iff:=@Bool.eq_iff_iff
theorem Ki:type_of% @Array.getElem?_eq_getElem:=@Array.getElem?_eq_getElem
theorem LB:type_of% @Nat.mod_two_eq_zero_or_one:=@Nat.mod_two_eq_zero_or_one
theorem LC:type_of% @Classical.byContradiction:=@Classical.byContradiction
theorem NF:type_of% @Nat.div_div_eq_div_mul:=@Nat.div_div_eq_div_mul
theorem NG:type_of% @Nat.and_two_pow_sub_one_eq_mod:=@Nat.and_two_pow_sub_one_eq_mod
theorem NH:type_of% @List.sum_append:=@List.sum_append
theorem NI:type_of% @Array.size_setIfInBounds:=@Array.size_setIfInBounds
theorem VY:type_of% @List.length_eq_zero_iff:=@List.length_eq_zero_iff
end
open Go.Lib (hid)
set_option maxHeartbeats 1000000
set_option maxRecDepth 100000
namespace Mem
open Go.RowKit
theorem below_drewN(h:Below B a w)(n:Nat):Below B a (w.drewN n):=⟨h.os,h.tape,h.output,h.size,h.block⟩
theorem B4{p:Addr}(hp:B<=p.block)(h:Below B a w):Below B a (w.setCell p u):=h.setCell hp u
theorem mZ(hB:B<=w.heap.size)(h:Below B a w):Below B a (w.alloc o):=h.alloc hB o
theorem aZ(h:Below a a w):Below a a (w.alloc o):=h.alloc h.size o
theorem dZ{b:World}(h:Below b b c)(k:Below a a b):Below a a c:=k.trans (h.mono k.size)
theorem uZ{b:World}(h:Below b b c)(hB:B<=b.heap.size)(k:Below B a b):Below B a c:=k.trans (h.mono hB)
theorem qZ{p:Addr}(h:Below B a w)(hp:B<=p.block:=by first|(simp;done)|(simp;omega)|omega|(simp at *;omega)):Below B a (w.setCell p u):=h.setCell hp u
theorem belA(h:Below B a w)(hB:B<=w.heap.size:=by first|(simp;done)|(simp;omega)|omega|(simp at *;omega)):Below B a (w.alloc o):=h.alloc hB o
theorem rZ{b:World}(h:Below b b c)(k:Below B a b)(hB:B<=b.heap.size:=by first|(simp;done)|(simp;omega)|omega|(simp at *;omega)):Below B a c:=k.trans (h.mono hB)
theorem Hj{a b:Bool}(h:a=b):Ending.returned (.bool a)= .returned (.bool b):=by rw[h]
theorem Ih{k:IntKind}{a b:Int}(h:a=b):Ending.returned (.int k a)= .returned (.int k b):=by rw[h]
def Blk(w:World)(g:Nat)(t:TypeId)(cs:Array Value):Prop:=w.heap[g]? =some (.cells cs t (0,0))
section
variable {w w':World} {g:Nat} {t:TypeId} {cs:Array Value}
theorem Blk.lt(h:Blk w g t cs):g<w.heap.size:=by
 unfold Blk at h;rcases Nat.lt_or_ge g w with k|k
 ·exact k
 ·rw[Array.getElem?_eq_none k]at h;cases h
theorem Blk.cell(h:Blk w g t cs)(i:Nat):w.cell? ⟨g,i,none⟩=cs[i]? :=by unfold Blk at h;simp[World.cell?,h]
def ib:List Value->Nat->Option Value
 |[],_=>none
 |x::_,0=>some x
 |_::l,n+1=>ib l n
theorem Blk.ia{l:List Value}(h:Blk w g t l.toArray)(i:Nat){v:Value}(e:ib l i=some v:=by exact rfl):w.cell? ⟨g,i,none⟩=some v:=by
 rw[h.cell i];simp only[List.getElem?_toArray];clear h;induction l generalizing i with
 |nil=>cases e
 |cons x l ih=>cases i with
  |zero=>exact e
  |succ i=>exact ih i e
theorem Blk.frozen(h:Blk w g t cs)(i:Nat):w.frozen? ⟨g,i,none⟩=false:=by unfold Blk at h;simp[World.frozen?,h]
theorem Blk.six{a0 a1 a2 a3 a4 a5:Value}(h:Blk w g t #[a0,a1,a2,a3,a4,a5]):w.cell? ⟨g,0,none⟩=some a0/\w.cell? ⟨g,1,none⟩=some a1/\w.cell? ⟨g,2,none⟩=some a2/\w.cell? ⟨g,3,none⟩=some a3/\w.cell? ⟨g,4,none⟩=some a4/\w.cell? ⟨g,5,none⟩=some a5:=⟨h.cell 0,h.cell 1,h.cell 2,h.cell 3,h.cell 4,h.cell 5⟩
theorem Blk.sixf(h:Blk w g t cs):w.frozen? ⟨g,0,none⟩=false/\w.frozen? ⟨g,1,none⟩=false/\w.frozen? ⟨g,2,none⟩=false/\w.frozen? ⟨g,3,none⟩=false/\w.frozen? ⟨g,4,none⟩=false/\w.frozen? ⟨g,5,none⟩=false:=⟨h.frozen 0,h.frozen 1,h.frozen 2,h.frozen 3,h.frozen 4,h.frozen 5⟩
theorem Blk.made(w:World)(t:TypeId)(cs:Array Value):Blk (w.alloc (.cells cs t)) w t cs:=heap_alloc_new w _
theorem Blk.made_at(w:World)(t:TypeId)(cs:Array Value)(hg:g=w.heap.size):Blk (w.alloc (.cells cs t)) g t cs:=by subst hg;exact Blk.made w t cs
theorem Blk.drew(h:Blk w g t cs):Blk w.drew g t cs:=h
theorem Blk.drewN(h:Blk w g t cs)(n:Nat):Blk (w.drewN n) g t cs:=h
theorem Blk.alloc(h:Blk w g t cs)(o:Obj):Blk (w.alloc o) g t cs:=(Ed w o g h.lt).trans h
theorem Blk.set(h:Blk w g t cs)(i:Nat)(u:Value):Blk (w.setCell ⟨g,i,none⟩ u) g t (cs.setIfInBounds i u):=by unfold Blk at h ⊢;simp[World.setCell,Array.getElem?_modify,h]
theorem Blk.far(h:Blk w g t cs){p:Addr}(hp:g≠p.block)(u:Value):Blk (w.setCell p u) g t cs:=(AV w p u g hp).trans h
theorem Blk.below(h:Blk w g t cs)(hb:Below B w w')(hg:g<B):Blk w' g t cs:=(hb.block g hg).trans h
theorem Blk.step(h:Blk w g t cs)(hb:Below w w w'):Blk w' g t cs:=h.below hb h.lt
theorem Blk.grown{row:Option Nat}(h:Blk w g t cs)(hb:w.grownBy w' row)(hg:some g≠row):Blk w' g t cs:=(hb.block g h.lt hg).trans h
theorem Blk.apart{g':Nat}{t':TypeId}{j:Array Value}(h:Blk w g t cs)(h':Blk w g' t' j)(i:t≠t'):g≠g':=by intro e;subst e;unfold Blk at h h';rw[h]at h';injection h' with h';injection h' with _ ht;exact i ht
end
def Wf(A:Option Addr)(n c:Nat):Prop:=(A=none->n=0/\c=0)/\n<=c
theorem Wf.nil:Wf none 0 0:=⟨fun _=>⟨rfl,rfl⟩,Aq _⟩
theorem Wf.some{a:Addr}{c:Nat}(h:n<=c):Wf (Option.some a) n c:=⟨(fun h=>by cases h),h⟩
def Row(w:World)(B:Nat)(A:Option Addr)(n s:Nat)(f:Nat->Nat->Value):Prop:=
 0<n->∃b off,A=some ⟨b,off,none⟩/\b<B/\∀i j,i<n->j<s->w.cell? ⟨b,off+(i*s+j),none⟩=some (f i j)
section
variable {w w':World} {B B' n s:Nat} {A:Option Addr} {f g:Nat->Nat->Value}
theorem Row.zero:Row w B A 0 s f:=fun h=>absurd h mz
theorem Row.keep(h:Row w B A n s f)(hk:∀p:Addr,p.block<B->w'.cell? p=w.cell? p):Row w' B A n s f:=fun hn=>by obtain⟨b,y,e,hb,hc⟩:=h hn;exact⟨b,y,e,hb,fun i j hi hj=>(hk _ hb).trans (hc i j hi hj)⟩
theorem Row.below(h:Row w B A n s f)(hb:Below B w w'):Row w' B A n s f:=h.keep fun _ hp=>hb.cell hp
theorem Row.mono(h:Row w B A n s f)(hB:B<=B'):Row w B' A n s f:=fun hn=>by obtain⟨b,i,e,hb,hc⟩:=h hn;exact⟨b,i,e,mz,hc⟩
theorem Row.drewN(h:Row w B A n s f)(k:Nat):Row (w.drewN k) B A n s f:=h
theorem Row.congr(h:Row w B A n s f)(y:∀i j,i<n->j<s->f i j=g i j):Row w B A n s g:=fun hn=>by obtain⟨b,z,e,hb,hc⟩:=h hn;exact⟨b,z,e,hb,fun i j hi hj=>by rw[<-y i j hi hj];exact hc i j hi hj⟩
theorem Row.alloc(h:Row w B A n s f)(hB:B<=w.heap.size)(o:Obj):Row (w.alloc o) B A n s f:=h.keep fun p hp=>World.cell?_alloc_lt (w:=w) (a:=p) (o:=o) mz
theorem Row.of_blk{cs:Array Value}(h:Blk w b t cs)(hB:b<B)(hf:∀i j,i<n->j<s->cs[i*s+j]? =some (f i j)):Row w B (some ⟨b,0,none⟩) n s f:=
 fun _=>⟨b,0,rfl,hB,fun i j hi hj=>by rw[Ck,h.cell];exact hf i j hi hj⟩
theorem Row.of_own{v:Value}{c:Nat}(h:w.ownsRow base e s v n xs)(hv:v= .slice A n c)(hf:∀i j,i<n->j<s->xs[i*s+j]? =some (f i j)):Row w w A n s f:=fun hn=>by
 rcases h.2 with ⟨_,h0⟩|⟨g,E,cur,z,_,hh,G,_,J,y⟩
 ·omega
 ·rw[hv]at z;injection z with e1 e2 e3;refine⟨g,0,e1,Blk.lt hh,fun i j hi hj=> ?_⟩;rw[Ck,Blk.cell hh];have:=hf i j hi hj;rw[<-y,Gq]at this;split at this
  ·simpa using this
  ·cases this
end
theorem bZ{v:Value}(h:w.ownsRow base e s v n xs):∃A c,v= .slice A n c:=by
 rcases h.2 with ⟨rfl,rfl⟩|⟨g,i,cur,rfl,_⟩
 ·exact⟨_,_,rfl⟩
 ·exact⟨_,_,rfl⟩
def ints(k:IntKind)(l:List Int):Array Value:=(l.map (Value.int k)).toArray
theorem KA(k:IntKind)(l:List Int)(i:Nat)(h:i<l.length):(ints k l)[i]? =some (.int k (l.getD i 0)):=by simp[ints,h]
theorem ints_set(k:IntKind)(l:List Int)(i:Nat)(x:Int):(ints k l).setIfInBounds i (.int k x)=ints k (l.set i x):=by simp[ints,List.map_set]
end Mem
namespace Canon
open Go.RowKit Mem
def cnt(ls:List Nat)(l:Nat):Nat:=ls.countP (fun x=>decide (x=l))
def cn(ls:List Nat)(l:Nat):Nat:=if l=0 then 0 else cnt ls l
theorem Kq(l:Nat):cnt [] l=0:=rfl
theorem Hg(ls:List Nat)(x l:Nat):cnt (ls++ [x]) l=cnt ls l+if x=l then 1 else 0:=by unfold cnt;rw[List.countP_append];by_cases h:x=l<;>simp[h]
theorem Pf(ls:List Nat)(l:Nat):cnt ls l<=ls.length:=List.countP_le_length
theorem JU(ls:List Nat)(l:Nat):cn ls l<=ls.length:=by
 unfold cn;split
 ·omega
 ·exact Pf ls l
theorem Is{α:Type}{l:List α}{x:α}(h:l[k]? =some x):l.take (k+1)=l.take k++ [x]:=by rw[Cm,h];rfl
def CX(ls:List Nat):Nat->Nat
 |0=>0
 |l+1=>CX ls l+cn ls l*2 ^ (15-l)
def Fa(ls:List Nat):Nat->Nat
 |0=>0
 |l+1=>Fa ls l+cn ls l
def JO(ls:List Nat):Nat:=(ls.map fun x=>if x=0 then 0 else 2 ^ (15-x)).sum
def used(ls:List Nat):Nat:=ls.countP (fun x=>decide (x≠0))
theorem UB(x:Nat)(ls:List Nat)(l:Nat):cn (x :: ls) l=cn ls l+if x≠0/\x=l then 1 else 0:=by
 unfold cn cnt;by_cases hl:l=0
 ·subst hl;simp
 ·rw[Ab hl,Ab hl,List.countP_cons];by_cases hx:x=l
  ·simp[hx,hl]
  ·simp[hx]
theorem TD:∀l,CX [] l=0
 |0=>rfl
 |l+1=>by rw[CX,TD l];simp[cn,Kq]
theorem Tr:∀l,Fa [] l=0
 |0=>rfl
 |l+1=>by rw[Fa,Tr l];simp[cn,Kq]
theorem Ul(x:Nat)(ls:List Nat):∀l,CX (x :: ls) l=CX ls l+if x≠0/\x<l then 2 ^ (15-x)else 0
 |0=>by simp[CX]
 |l+1=>by
  rw[CX,Ul x ls l,CX,UB,EL];by_cases h0:x=0
  ·simp[h0]
  ·by_cases h1:x=l
   ·subst h1;simp[h0];omega
   ·by_cases h2:x<l
    ·have:x<l+1:=mz;simp[h0,h1,h2,this];omega
    ·have:¬x<l+1:=mz;simp[h1,h2,this]
theorem T9(x:Nat)(ls:List Nat):∀l,Fa (x :: ls) l=Fa ls l+if x≠0/\x<l then 1 else 0
 |0=>by simp[Fa]
 |l+1=>by
  rw[Fa,T9 x ls l,Fa,UB];by_cases h0:x=0
  ·simp[h0]
  ·by_cases h1:x=l
   ·subst h1;simp[h0];omega
   ·by_cases h2:x<l
    ·have:x<l+1:=mz;simp[h0,h1,h2,this];omega
    ·have:¬x<l+1:=mz;simp[h1,h2,this]
theorem LG:∀ (ls:List Nat),(∀x∈ls,x<=15)->CX ls 16=JO ls
 | [],_=>by rw[TD];rfl
 |x :: ls,h=>by
  have h1:=h x pI;rw[Ul,LG ls (fun y hy=>h y (by simp[hy]))];unfold JO;rw[Cs,GI];by_cases h0:x=0
  ·simp[h0]
  ·have:x<16:=mz;simp[h0,this];omega
theorem MQ:∀ (ls:List Nat),(∀x∈ls,x<=15)->Fa ls 16=used ls
 | [],_=>by rw[Tr];rfl
 |x :: ls,h=>by
  have h1:=h x pI;rw[T9,MQ ls (fun y hy=>h y (by simp[hy]))];unfold used;rw[List.countP_cons];by_cases h0:x=0
  ·simp[h0]
  ·have:x<16:=mz;simp[h0,this]
def okB(ls:List Nat):Bool:=decide (ls.length<=300)&&ls.all (fun x=>decide (x<=15))&&(decide (used ls=0) || decide (used ls=1/\cnt ls 1=1) || decide (JO ls=32768))
def fst(ls:List Nat):Nat->Nat
 |0=>0
 |l+1=>2*(fst ls l+cn ls l)
def code(ls:List Nat)(s:Nat):Nat:=let x:=ls.getD s 0;if x=0 then 0 else fst ls x+cnt (ls.take s) x
def codes(ls:List Nat):List Nat:=(List.range ls.length).map (code ls)
theorem OY(ls:List Nat):∀l,fst ls l+2*ls.length<=2 ^ (l+1)*ls.length
 |0=>by simp[fst]
 |l+1=>by
  have h1:=OY ls l;have h2:=JU ls l;have h3:2 ^ (l+1+1)*ls.length=2*(2 ^ (l+1)*ls.length):=by rw[Fl 2 (l+1),Nat.mul_comm (2 ^ (l+1)) 2,Nat.mul_assoc]
  rw[fst,h3];omega
def jZ(k:IntKind)(l:List Nat):Nat->Nat->Value:=fun i _=> .int k (l.getD i 0:Nat)
def Cnts(f:Nat->Nat)(n:Nat)(arr:Array Value):Prop:=arr.size=n/\∀l,l<n->arr[l]? =some (.int .i64 (f l))
theorem Cnts.set{f g:Nat->Nat}{v:Nat}(h:Cnts f n arr)(hv:g x=v)(ho:∀l,l≠x->g l=f l):Cnts g n (arr.setIfInBounds x (.int .i64 (v:Nat))):=by
 refine⟨oK,fun l hl=> ?_⟩;rw[FE];by_cases e:x=l
 ·subst e;rw[Ae rfl,Ae lz,hv]
 ·rw[Ab e,h.2 l hl,ho l (AZ e)]
end Canon
namespace Canon
open Go.RowKit Mem
theorem XJ{cs:Array Value}{v:Value}(h:cs[i]? =some v):cs.setIfInBounds i v=cs:=by
 apply Array.ext_getElem?
 intro j;rw[FE];split
 ·rename_i e;subst e;obtain⟨hi,_⟩:=Array.getElem?_eq_some_iff.1 h;rw[Ae hi,h]
 ·rfl
theorem LV{g:Nat}{t:TypeId}{cs:Array Value}:∀ (vs:List Value) (o:Nat) (w:World),Blk w g t cs->(∀j v,vs[j]? =some v->cs[o+j]? =some v)->Blk (w.setCells g o vs) g t cs
 | [],_,_,h,_=>h
 |v :: vs,o,w,h,hc=>by
  refine LV vs (o+1) _ ?_ (fun j u hu=>by rw[show o+1+j=o+(j+1) by omega];exact hc (j+1) u hu);have:=h.set o v
  rwa [XJ (by simpa using hc 0 v rfl)]at this
theorem JT{B g:Nat}{a:World}(hB:B<=g):∀ (vs:List Value) (o:Nat) (w:World),Below B a w->Below B a (w.setCells g o vs)
 | [],_,_,h=>h
 |_ :: vs,o,_,h=>JT hB vs (o+1) _ (B4 (p:=⟨g,o,none⟩) hB h)
theorem Kj{cs:Array Value}(h:Blk w g t cs):w.there g 0 cs.size:=fun j hj=>by rw[Ck];exact⟨by rw[h.cell,Ki hj];rfl,h.frozen j⟩
theorem Cnts.one{f:Nat->Nat}(h:Cnts f n arr):arr.all (·.oneCell')=true:=by rw[Array.all_eq_true];intro i hi;have:=h.2 i lz;rw[Ki hi]at this;injection this with this;rw[this];rfl
theorem Cnts.zero:Cnts (fun _=>0) 16 #[ij,ij,ij,ij,ij,ij,ij,ij,ij,ij,ij,ij,ij,ij,ij,ij]:=by
 refine⟨rfl,fun l hl=> ?_⟩;have:l=0∨l=1∨l=2∨l=3∨l=4∨l=5∨l=6∨l=7∨l=8∨l=9∨l=10∨l=11∨l=12∨l=13∨l=14∨l=15:=mz
 rcases this with rfl|rfl|rfl|rfl|rfl|rfl|rfl|rfl|rfl|rfl|rfl|rfl|rfl|rfl|rfl|rfl<;>rfl
theorem results_cell_tmp{P:Program}{fn:Func}{p q:Tmp}{ty:TypeId}(h:fn.results=#[.cell p ty, .tmp q])(i:Array Value)(w:World)(g:Nat)(t:TypeId)(cs:Array Value)(d:TypeDesc)(u:Value)
 (hp:i.getD p undef= .pointer (some ⟨g,0,none⟩))(hq:i.getD q undef=u)(hg:Blk w g t cs)
 (hu:P.underlying ty=some d)(hd:(match d with| .struct _| .array _ _=>true|_=>false)=true)(hi:(P.info? ty).map (·.size)=some cs.size):
 (results fn i).run P w= .ok (.tuple #[.agg cs,u]) w:=by
 have j:i[p]?.getD undef= .pointer (some ⟨g,0,none⟩):=by simpa using hp
 have y:i[q]?.getD undef=u:=by simpa using hq
 simp[results,h,j,y,asAddr,run_loadVar_row w g t ty cs (0,0) d hg hu hd hi]
theorem J1:(prog.info? 442).map (·.size)=some 16:=mr
def Dm(ls:List Nat):Bool:=decide (ls.length<=300)&&ls.all (fun x=>decide (x<=15))
def CountPost(ls:List Nat)(w:World)(e:Ending)(w':World):Prop:=
 ∃ (arr:Array Value) (f:Nat->Nat),e= .returned (.tuple #[.agg arr, .bool (Dm ls)])/\Cnts f 16 arr/\(∀l,f l<=300)/\(Dm ls=true->f=cn ls)/\Below w w w'
theorem CF{k:IntKind}(h:Row w B A n 1 (jZ k ls))(hn:ls.length=n)(hi:i<n):
 ∃b j x,A=some ⟨b,j,none⟩/\b<B/\ls[i]? =some x/\w.cell? ⟨b,j+i,none⟩=some (.int k (x:Nat)):=by
 obtain⟨b,j,e,hb,hc⟩:=h mz;have hl:i<ls.length:=mz
 have h1:=hc i 0 hi mz;simp only[jZ,Nat.mul_one,Nat.add_zero,List.getD_eq_getElem?_getD,List.getElem?_eq_getElem hl,Option.getD_some]at h1;exact⟨b,j,ls[i],e,hb,AD hl,h1⟩
theorem TU(w:World)(A:Option Addr)(n c:Nat)(ls:List Nat)(hn:ls.length=n)(hN:n<=9223372036854775807)(ha:Row w w A n 1 (jZ .u8 ls)):
 Calls prog 349 #[.slice A n c] w (CountPost ls w):=by
 have HN:=hid hn;clear hn;by_cases ay:n<=300
 ·have hd:=ig (300<n)
  go_enter func349,ntmps349;go_wp2_with fail;go_loopw [12] (fun i wr=>∃ (k:Nat) (arr:Array Value),k<=n/\i= .int .i64 k/\Blk wr w 442 arr/\Hid (Cnts (cnt (ls.take k)) 16 arr)/\Hid (∀x∈ls.take k,x<=15)/\Below w w wr) (fun i _=>n-(intOf i).toNat)
  case atStart=>exact⟨0,_,mz,rfl,Blk.made _ _ _,Cnts.zero,fun x hx=>pK,aZ (Ag _ _)⟩
  case round=>
   obtain⟨k,arr,hk,rfl,blk,G,al,Q⟩:=hrel;have ac:(prog.info? 442).map (·.size)=some arr.size:=(by rw[G.out.1];exact J1);have HI:=hid ac;clear ac;have au:=blk.frozen 0;by_cases av:k<n
   ·obtain⟨b,a0,x,rfl,az,hx,c0⟩:=CF (ha.below Q) HN.out av;have am:=Is hx;have HX:=hid hx;have ag:=hid am;clear hx am;by_cases ar:15<x
    ·have J:Dm ls=false:=(by unfold Dm;have:ls.all (fun x=>decide (x<=15))=false:=(by rw[List.all_eq_false];exact⟨x,Bg HX.out,by simpa using ar⟩);rw[this,Bool.and_false]);have HB:=hid J;clear J
     go_wp2_with(first
      |(refine wpList_load_row rfl 442 (.tmp 2) rfl w.heap.size nc _ arr (0,0) _ blk underlying442 rfl HI.out ?_)
      |(refine wpList_store_mid rfl 442 (.tmp 2) _ rfl w.heap.size 0 arr nc nc (Kj blk) HI.out G.out.one ?_))
     have N:=LV arr.toList 0 wr blk (fun j v hv=>by rw[Ck];simpa using hv);refine CI (results_cell_tmp rfl _ _ w.heap.size _ arr _ (.bool false) rfl rfl N underlying442 rfl HI.out) rfl ⟨arr,cnt (ls.take k),by rw[HB.out],G.out,fun l=> ?_,(fun h=>by rw[HB.out]at h;cases h),JT (Aq _) _ _ _ Q⟩;have h1:=Pf (ls.take k) l;rw[Bd]at h1;omega
    ·have af:=G.out.2 x mz;have c1:=blk.cell x;rw[af]at c1;have f1:=blk.frozen x;have h1:=Pf (ls.take k) x;rw[Bd]at h1
     have ai:Cnts (cnt (ls.take (k+1))) 16 (arr.setIfInBounds x (.int .i64 ((cnt (ls.take k) x+1:Nat):Int))):=by
      refine G.out.set ?_ fun l hl=> ?_
      ·rw[ag.out,Hg,Ae rfl]
      ·rw[ag.out,Hg,Ab (fun e=>hl e.symm)];rfl
     generalize cnt (ls.take k) x=y at *;have an:=hid ai
     have ak:∀z∈ls.take (k+1),z<=15:=by
      intro z hz;rw[ag.out,BJ,Eu]at hz;rcases hz with hz|rfl
      ·exact al.out z hz
      ·omega
     have aq:=hid ak;clear af ai ak;have x1:(x:Int)<16:=mz;have x0:(0:Int)<=(x:Int):=mz;go_wp2_with fail;go_roundw
     case rel=>go_light;exact⟨k+1,_,mz,jp,blk.set x _,an,aq,B4 (p:=⟨w.heap.size,x,none⟩) (Aq _) Q⟩
     case measure=>exact jo
   ·obtain rfl:k=n:=by omega
    have U:ls.take k=ls:=BV lp;have Y:Dm ls=true:=(by have:=al.out;rw[U]at this;unfold Dm;rw[BX,FW];exact⟨by have:=HN.out;simp;omega,fun x hx=>by simpa using this x hx⟩);have HG:=hid Y;have hc:=G.out;rw[U]at hc;have h0:Cnts (cn ls) 16 (arr.setIfInBounds 0 (.int .i64 ((0:Nat):Int))):=hc.set (by simp[cn]) (fun l hl=>by simp[cn,hl]);have H0:=hid h0;have aj:=blk.cell 0;rw[hc.2 0 mz]at aj;generalize cnt ls 0=y at aj;have M:=blk.set 0 (.int .i64 0);have ax:=M.frozen 0;have Z:(prog.info? 442).map (·.size)=some (arr.setIfInBounds 0 (.int .i64 0)).size:=(by rw[NI];exact HI.out);have aa:=hid Z;have ae:=hid h0.one;clear U Y hc h0 Z;obtain⟨E,ab⟩:=ii (arr.setIfInBounds 0 (.int .i64 0));have aw:Hid (Cnts (cn ls) 16 E):=(by rw[ab];exact H0);have ah:Hid (E.all (·.oneCell')=true):=(by rw[ab];exact ae);rw[<-ab]at M aa;clear H0 ae ab
    go_wp2_with(first
     |(refine wpList_load_row rfl 442 (.tmp 2) rfl w.heap.size nc _ E (0,0) _ M underlying442 rfl aa.out ?_)
     |(refine wpList_store_mid rfl 442 (.tmp 2) _ rfl w.heap.size 0 E nc nc (Kj M) aa.out ah.out ?_))
    have N:=LV E.toList 0 _ M (fun j v hv=>by rw[Ck];simpa using hv);refine CI (results_cell_tmp rfl _ _ w.heap.size _ E _ (.bool true) rfl rfl N underlying442 rfl aa.out) rfl ⟨E,cn ls,by rw[HG.out],aw.out,fun l=> ?_,(fun _=>rfl),JT (Aq _) _ _ _ (B4 (p:=⟨w,0,none⟩) (Aq _) Q)⟩;have h1:=JU ls l;have:=HN.out;omega
 ·have J:Dm ls=false:=by unfold Dm;have:decide (ls.length<=300)=false:=(by simp;have:=HN.out;omega);rw[this,I7]
  have HB:=hid J;clear J;have blk:Blk (w.alloc (.cells #[ij,ij,ij,ij,ij,ij,ij,ij,ij,ij,ij,ij,ij,ij,ij,ij] 442)) w 442 _:=Blk.made _ _ _;go_enter func349,ntmps349
  go_wp2_with(first
   |(refine wpList_load_row rfl 442 (.tmp 2) rfl w.heap.size nc _ _ (0,0) _ blk underlying442 rfl J1 ?_)
   |(refine wpList_store_mid rfl 442 (.tmp 2) _ rfl w.heap.size 0 _ nc nc (Kj blk) J1 Cnts.zero.one ?_))
  have N:=LV _ 0 _ blk (fun j v hv=>by rw[Ck];simpa using hv);refine CI (results_cell_tmp rfl _ _ w.heap.size _ _ _ (.bool false) rfl rfl N underlying442 rfl J1) rfl ⟨_,_,by rw[HB.out],Cnts.zero,fun l=>mz,(fun h=>by rw[HB.out]at h;cases h),JT (Aq _) _ _ _ (aZ (Ag _ _))⟩
end Canon
namespace Canon
open Go.RowKit Mem
def wsF(f:Nat->Nat):Nat->Nat
 |0=>0
 |l+1=>wsF f l+(if l=0 then 0 else f l)*2 ^ (15-l)
def wnF(f:Nat->Nat):Nat->Nat
 |0=>0
 |l+1=>wnF f l+(if l=0 then 0 else f l)
theorem OR(ls:List Nat):∀l,wsF (cn ls) l=CX ls l
 |0=>rfl
 |l+1=>by rw[wsF,CX,OR ls l];by_cases h:l=0<;>simp[h,cn]
theorem OM(ls:List Nat):∀l,wnF (cn ls) l=Fa ls l
 |0=>rfl
 |l+1=>by rw[wnF,Fa,OM ls l];by_cases h:l=0<;>simp[h,cn]
theorem SI(f:Nat->Nat)(hf:∀l,f l<=300):∀l,wsF f l<=l*9830400
 |0=>by simp[wsF]
 |l+1=>by have h1:=SI f hf l;have h2:=hf l;have h3:2 ^ (15-l)<=2 ^ 15:=Cl mz mz;have h4:(if l=0 then 0 else f l)*2 ^ (15-l)<=300*32768:=Hn (by split<;>omega) h3;rw[wsF,EL];omega
theorem Sw(f:Nat->Nat)(hf:∀l,f l<=300):∀l,wnF f l<=l*300
 |0=>by simp[wnF]
 |l+1=>by
  have h1:=Sw f hf l;have h2:=hf l;have h3:(if l=0 then 0 else f l)<=300:=by split<;>omega
  rw[wnF,EL];omega
theorem mG(w:World)(arr:Array Value)(f:Nat->Nat)(hc:Cnts f 16 arr)(hf:∀l,f l<=300):
 Calls prog 350 #[.agg arr] w fun e w'=>e= .returned (.tuple #[.int .i64 (wsF f 16:Nat), .int .i64 (wnF f 16:Nat)])/\Below w w w':=by
 have HC:=hid hc;have HF:=hid hf;have G:=hc.1;have U:=hid G;clear hc hf G;go_enter func350,ntmps350;go_wp2_with fail;go_loopw [2,3,4] (fun s n i wr=>∃ (l S N:Nat),1<=l/\l<=16/\i= .int .i64 l/\s= .int .i64 S/\n= .int .i64 N/\Hid (S=wsF f l)/\Hid (N=wnF f l)/\S<=157286400/\N<=4800/\Blk wr w 442 arr/\Below w w wr) (fun _ _ i _=>16-(intOf i).toNat)
 case atStart=>exact⟨1,0,0,mz,mz,rfl,rfl,rfl,rfl,rfl,mz,mz,Blk.made _ _ _,aZ (Ag _ _)⟩
 case round=>
  obtain⟨l,S,N,Y,Z,rfl,rfl,rfl,hS,hN,bS,bN,blk,h⟩:=hrel;by_cases Q:l<16
  ·have c0:=blk.cell l;rw[HC.out.2 l Q]at c0;have aa:=HF.out l;have E:S+f l*2 ^ (15-l)=wsF f (l+1):=(by rw[wsF,Ab mz,hS.out]);have j:N+f l=wnF f (l+1):=(by rw[wnF,Ab mz,hN.out]);have b1:=SI f HF.out (l+1);have b2:=Sw f HF.out (l+1);rw[<-E]at b1;rw[<-j]at b2;have J:=hid E;have M:=hid j;clear E j;generalize f l=y at *;have x0:(0:Int)<=(l:Int):=mz;have x1:(l:Int)<16:=mz;go_wp2_with fail;go_roundw
   case rel=>go_light;have b3:(l+1)*9830400<=16*9830400:=Gp _ mz;have b4:(l+1)*300<=16*300:=Gp _ mz;generalize hz:y*2 ^ (15-l)=z at *;have e1:wrap64 ((y:Int)*2 ^ (15-l))=(z:Int):=(by have:((y:Int)*2 ^ (15-l))=((z:Nat):Int):=(by rw[<-hz];simp);rw[this];exact I5 _ ⟨mz,mz⟩);have e2:wrap64 ((S:Int)+(z:Int))=((S+z:Nat):Int):=(by rw[I5 _ ⟨mz,mz⟩];simp);exact⟨l+1,S+z,N+y,mz,mz,jp,by rw[e1,e2],jp,J,M,mz,mz,blk,h⟩
   case measure=>exact jo
  ·obtain rfl:l=16:=by omega
   go_wp2_with fail;go_ret2;go_light;exact⟨by rw[<-hS.out,<-hN.out];rfl,h⟩
theorem Qd(h:Dm ls=true):ls.length<=300/\∀x∈ls,x<=15:=by unfold Dm at h;rw[BX,FW]at h;exact⟨by simpa using h.1,fun x hx=>by simpa using h.2 x hx⟩
def GM(ls:List Nat):Int:=if okB ls=true then 0 else 7
theorem Sp(h:Dm ls=false):okB ls=false:=by unfold okB;unfold Dm at h;rw[h,I7]
theorem dB(h:Dm ls=true):okB ls=(decide (Fa ls 16=0) || decide (Fa ls 16=1/\cn ls 1=1) || decide (CX ls 16=32768)):=by obtain⟨_,h2⟩:=Qd h;unfold okB;unfold Dm at h;rw[h,Bool.true_and,LG ls h2,MQ ls h2];rfl
theorem blk_over{g:Nat}{t:TypeId}:∀ (vs pre i:List Value) (w:World),i.length=vs.length->Blk w g t (pre++i).toArray->Blk (w.setCells g pre.length vs) g t (pre++vs).toArray
 | [],pre,i,w,hl,h=>by have:i= []:=Gr hl;subst this;exact h
 |v :: vs,pre,[],w,hl,h=>by simp at hl
 |v :: vs,pre,x :: i,w,hl,h=>by
  have h1:=h.set pre.length v
  have e1:(pre++x :: i).toArray.setIfInBounds pre.length v=((pre++ [v])++i).toArray:=by
   apply Array.ext'
   simp
  rw[e1]at h1;have:=blk_over vs (pre++ [v]) i _ (by simpa using hl) h1;simpa[World.setCells]using this
theorem TG{cs:Array Value}(h:Blk w g t cs)(hs:arr.size=cs.size):Blk (w.setCells g 0 arr.toList) g t arr:=by have:=blk_over (g:=g) (t:=t) arr.toList [] cs.toList w (by simp[hs]) p5;simpa using this
theorem Tu(ls:List Nat)(f:Nat->Nat)(hg:Dm ls=true->f=cn ls):GM ls=if Dm ls=true/\(wnF f 16=0∨(wnF f 16=1/\f 1=1)∨wsF f 16=32768)then 0 else 7:=by
 unfold GM;cases hb:Dm ls
 ·rw[Sp hb];simp
 ·rw[dB hb,hg hb,OR,OM];by_cases h1:Fa ls 16=0<;>by_cases h2:(Fa ls 16=1/\cn ls 1=1)<;>by_cases h3:CX ls 16=32768<;>simp[h1,h2,h3]
theorem PW(w:World)(A:Option Addr)(n c:Nat)(ls:List Nat)(hn:ls.length=n)(hN:n<=9223372036854775807)(ha:Row w w A n 1 (jZ .u8 ls)):
 Calls prog 317 #[.slice A n c] w fun e w'=>e= .returned (.int .i64 (GM ls))/\Below w w w':=by
 have C:=hid (TU w A n c ls hn hN ha);clear hn ha;go_enter func317,ntmps317;go_wp2_with fail;refine C.out.mono ?_;rintro e w1 ⟨arr,f,rfl,hc,hf,hg,z⟩;have i:arr.size=16:=hc.1;have Q:=Tu ls f hg;have N:Blk (w1.alloc (.cells #[ij,ij,ij,ij,ij,ij,ij,ij,ij,ij,ij,ij,ij,ij,ij,ij] 442)) w1 442 _:=Blk.made _ _ _;have j:=TG (arr:=arr) N (by rw[i];rfl);have Z:(w1.alloc (.cells #[ij,ij,ij,ij,ij,ij,ij,ij,ij,ij,ij,ij,ij,ij,ij,ij] 442)).there w1 0 arr.size:=by rw[i];exact Kj N
 have J:(prog.info? 442).map (·.size)=some arr.size:=by rw[i];exact J1
 have h:Below w w ((w1.alloc (.cells #[ij,ij,ij,ij,ij,ij,ij,ij,ij,ij,ij,ij,ij,ij,ij,ij] 442)).setCells w1 0 arr.toList):=
  JT z.size _ _ _ (mZ z.size z)
 have Y:=hid hc.one;have G:=hid J;have HC:=hid hc;have HF:=hid hf;have E:=hid Q;clear i J hc hf Q hg N;go_upto_region 2 with (refine wpList_store_mid rfl 442 (.tmp 3) (.tmp 10) rfl w1.heap.size 0 arr nc nc Z G.out Y.out ?_);have ab:w1.heap.size<(World.heap ((w1.alloc (.cells #[ij,ij,ij,ij,ij,ij,ij,ij,ij,ij,ij,ij,ij,ij,ij,ij] 442)).setCells w1 0 arr.toList)).size:=j.lt;clear Z;generalize (w1.alloc (.cells #[ij,ij,ij,ij,ij,ij,ij,ij,ij,ij,ij,ij,ij,ij,ij,ij] 442)).setCells w1 0 arr.toList=w2 at *;go_wp2_with(refine wpList_load_row rfl 442 (.tmp 3) rfl w1.heap.size nc _ arr (0,0) _ j underlying442 rfl G.out ?_);refine(mG w2 arr f HC.out HF.out).mono ?_;rintro e w3 ⟨rfl,U⟩;have aa:=j.step U;have M:Below w w w3:=uZ U h.size h;have c1:=aa.cell 1;rw[HC.out.2 1 mz]at c1;generalize f 1=y at *;generalize wnF f 16=wn at *;generalize wsF f 16=ws at *;clear C z j h;cases hgood:Dm ls
 ·rw[hgood]at E;go_wp2_with fail;go_ret;refine⟨Ih ?_,M⟩;rw[E.out];simp
 ·rw[hgood]at E;go_wp2_with fail
  all_goals
   go_ret;refine⟨Ih ?_,M⟩;rw[E.out];go_light;simp only[true_and]
   first|(rw[Ae mz];done)|(rw[Ab mz];done)|skip
  all_goals
   simp only[bne_iff_ne,ne_eq,bne_eq_false_iff_eq]at *
   first|(rw[Ae mz];done)|(rw[Ab mz];done)
end Canon
namespace Recs
open Go.RowKit Mem
structure Rec where
 time:Int
 level:Int
 source:ByteArray
 text:ByteArray
def FY:Rec:=⟨0,0, .empty, .empty⟩
def BS(l:List Rec):Nat->Nat->Value:=fun i j=>match j with
 |0=> .int .u64 (l.getD i FY).time
 |1=> .int .u8 (l.getD i FY).level
 |2=> .string (l.getD i FY).source
 |_=> .string (l.getD i FY).text
def Nf(a b:Rec):Bool:=a.time==b.time&&(a.level==b.level&&(a.source.toList==b.source.toList&&a.text.toList==b.text.toList))
theorem Tg{a b:ByteArray}(h:a.toList=b.toList):a=b:=by
 have h':a.data.toList=b.data.toList:=by rw[<-GK,<-GK];exact h
 cases a;cases b
 simp at h';rw[h']
theorem SR(a b:Rec):Nf a b=true↔a=b:=by
 constructor
 ·intro h;simp only[Nf,Bool.and_eq_true,beq_iff_eq]at h;obtain⟨h1,h2,h3,h4⟩:=h;cases a;cases b;simp only at h1 h2 h3 h4;rw[h1,h2,Tg h3,Tg h4]
 ·intro h;subst h;simp[Nf]
instance:DecidableEq Rec:=fun a b=>if h:Nf a b=true then .isTrue ((SR a b).1 h)else .isFalse fun e=>h ((SR a b).2 e)
def weigh(r:Rec):Int:=16+r.source.size+r.text.size
def Bp(l:List Rec):Int:=(l.map weigh).foldl (·+ ·) 0
theorem Lw(l:List Int):∀a:Int,l.foldl (·+ ·) a=a+l.foldl (·+ ·) 0:=by
 induction l with
 |nil=>intro a;simp
 |cons x l ih=>intro a;simp only[List.foldl_cons];rw[ih (a+x),ih (0+x)];omega
theorem VM(l:List Rec)(r:Rec):Bp (l++ [r])=Bp l+weigh r:=by simp[Bp]
theorem J7:Bp []=0:=rfl
end Recs
namespace Recs
open Go.RowKit Mem
theorem Row.rec{l:List Rec}(h:Row w B A n 4 (BS l))(hn:l.length=n)(hk:k<n):
 ∃b i r,A=some ⟨b,i,none⟩/\b<B/\l[k]? =some r/\w.cell? ⟨b,i+k*4,none⟩=some (.int .u64 r.time)/\w.cell? ⟨b,i+k*4+1,none⟩=some (.int .u8 r.level)/\
  w.cell? ⟨b,i+k*4+2,none⟩=some (.string r.source)/\w.cell? ⟨b,i+k*4+3,none⟩=some (.string r.text):=by
 obtain⟨b,i,rfl,hb,hc⟩:=h mz;have hl:k<l.length:=mz
 refine⟨b,i,l[k],rfl,hb,AD hl,?_⟩;have c0:=hc k 0 hk mz;have c1:=hc k 1 hk mz;have c2:=hc k 2 hk mz;have c3:=hc k 3 hk mz;simp only[BS,List.getD_eq_getElem?_getD,List.getElem?_eq_getElem hl,Option.getD_some,Nat.add_zero,<-Nat.add_assoc]at c0 c1 c2 c3;exact⟨c0,c1,c2,c3⟩
def bQ(l:List Rec)(w:World)(e:Ending)(w':World):Prop:=
 ∃x:Int,e= .returned (.int .i64 x)/\0<=x/\x<=4398046511104/\(x<=1099511627776->x=Bp l)/\Below w w w'
theorem lI(w:World)(A:Option Addr)(n c:Nat)(la:List Rec)(hn:la.length=n)(hN:n<=9223372036854775807)(ha:Row w w A n 4 (BS la)):
 Calls prog 43 #[.slice A n c] w (bQ la w):=by
 have HN:=hid hn;clear hn;go_enter func43,ntmps43
 go_wp2
 go_loopw [3,4] (fun s i wr=>∃ (k:Nat) (x:Int),k<=n/\i= .int .i64 k/\s= .int .i64 x/\0<=x/\x<=4398046511104/\Hid (x=Bp (la.take k))/\Below w w wr) (fun _ i _=>n-(intOf i).toNat)
 case atStart=>exact⟨0,0,mz,rfl,rfl,mz,mz,rfl,Ag _ _⟩
 case round=>
  obtain⟨k,x,hk,rfl,rfl,z,E,hx,j⟩:=hrel;by_cases G:k<n
  ·obtain⟨b,M,r,rfl,J,hr,c0,c1,c2,c3⟩:=Row.rec (ha.below j) HN.out G;have HR:=hid hr;clear hr;have i1:(0:Int)<=(k:Int):=mz;have i2:(k:Int)<(n:Int):=mz;by_cases y:1099511627776<x∨1099511627776<(r.source.size:Int)∨1099511627776<(r.text.size:Int)
   ·go_wp2_with fail
    all_goals
     go_ret;go_light;exact⟨2199023255552,rfl,mz,mz,fun h=>mz,j⟩
   ·have h1:x<=1099511627776:=mz;have h2:(r.source.size:Int)<=1099511627776:=mz;have h3:(r.text.size:Int)<=1099511627776:=mz;clear y;go_wp2_with fail;go_quiet (fail);go_wp2_with fail;go_roundw
    case rel=>go_light;refine⟨k+1,x+16+r.source.size+r.text.size,mz,jp,rfl,mz,mz,?_,below_drewN j _⟩;show x+16+r.source.size+r.text.size=Bp (la.take (k+1));rw[Cm,HR.out];simp only[Option.toList_some,VM,<-hx.out,weigh];omega
    case measure=>exact jo
  ·obtain rfl:k=n:=by omega
   go_wp2_with fail;go_ret;go_light;refine⟨x,rfl,z,E,fun _=> ?_,j⟩;have h:=hx.out
   rwa [BV lp]at h
def SC(n:Nat)(l:List Rec)(r b:Int)(w:World)(e:Ending)(w':World):Prop:=
 ∃g:Bool,e= .returned (.bool g)/\(g=false->(n:Int)<=r/\Bp l<=b)/\Below w w w'
theorem YK(w:World)(A:Option Addr)(n c:Nat)(la:List Rec)(r b:Int)(hb:b<=1099511627776)(hn:la.length=n)(hN:n<=9223372036854775807)(ha:Row w w A n 4 (BS la)):
 Calls prog 11 #[.slice A n c,r,b] w (SC n la r b w):=by
 have HW:=hid (lI w A n c la hn hN ha);clear hn;by_cases h:r<(n:Int)
 ·go_enter func11,ntmps11;go_wp2_with fail;go_ret;exact⟨true,rfl,(fun h=>by cases h),Ag _ _⟩
 ·go_enter func11,ntmps11;go_wp2_with fail;refine HW.out.mono ?_;rintro e w1 ⟨x,rfl,y,j,hx,i⟩;have HX:=hid hx;clear hx;go_wp2_with fail;go_ret;refine⟨decide (b<x),rfl,fun hd=>⟨mz,?_⟩,i⟩;have hd:=of_decide_eq_false hd;have:=HX.out mz;omega
end Recs
namespace Toks
open Go.RowKit
def lg(v:Int):Int:=((Nat.log2 v.toNat:Nat):Int)
def pw(b:Int):Int:=((2 ^ b.toNat:Nat):Int)
theorem IY(v:Int):0<=lg v:=by unfold lg;omega
theorem R6(b:Int):1<=pw b:=by unfold pw;have:0<2 ^ b.toNat:=FV _;omega
theorem Kx(v:Int)(h:1<=v):pw (lg v)<=v:=by unfold pw lg;have:=Nat.log2_self_le (n:=v.toNat) mz;rw[Bw];omega
theorem Mc(v:Int)(h:1<=v):v<2*pw (lg v):=by unfold pw lg;have:=Nat.lt_log2_self (n:=v.toNat);rw[Bw];rw[Fl]at this;omega
theorem Uq(a b:Int)(h:a<=b):pw a<=pw b:=by unfold pw;have:=Cl (n:=2) mz (show a.toNat<=b.toNat by omega);omega
theorem IP(v b:Int)(i:0<=b)(h1:1<=v)(h2:v<pw b):lg v<b:=by
 have h3:=Kx v h1;rcases Int.lt_or_le (lg v) b with h|h
 ·exact h
 ·have:=Uq b (lg v) h;omega
def A0(lit len dist:Int):Bool:=
 if len=0 then decide (dist=0)else decide (lit=0/\3<=len/\len<=257/\1<=dist/\dist<=4095)
structure Pc where
 sym:Int
 len:Int
 dist:Int
 far:Int
structure Tk where
 lit:Int
 len:Int
 dist:Int
def Pc.val(p:Pc):Value:= .agg #[p.sym,p.len,p.dist,p.far]
def Tk.val(t:Tk):Value:= .agg #[.int .u8 t.lit,t.len,t.dist]
def oZ(t:Tk):Pc:=
 if A0 t.lit t.len t.dist=true then
  if t.len=0 then⟨t.lit,0,0,0⟩else⟨257+lg (t.len-2),t.len-2-pw (lg (t.len-2)),lg t.dist,t.dist-pw (lg t.dist)⟩
 else⟨0,0,0,0⟩
def ED(t:Tk):Int:=if A0 t.lit t.len t.dist=true then 0 else 7
def Gw(p:Pc):Bool:=decide (0<=p.sym/\p.sym<256/\p.len=0/\p.dist=0/\p.far=0)
def IZ(p:Pc):Bool:=
 decide (257<=p.sym/\p.sym<265/\0<=p.dist/\p.dist<12/\0<=p.len/\p.len<pw (p.sym-257)/\0<=p.far/\p.far<pw p.dist)
def Du(p:Pc):Tk:=
 if Gw p=true then⟨p.sym,0,0⟩else if IZ p=true then⟨0,2+pw (p.sym-257)+p.len,pw p.dist+p.far⟩else⟨0,0,0⟩
def Em(p:Pc):Int:=if Gw p=true then 0 else if IZ p=true then 0 else 7
theorem pw_8:pw 8=256:=ip
theorem PQ:pw 12=4096:=ip
theorem iY(t:Tk)(h0:0<=t.lit)(h1:t.lit<256)(h:ED t=0):Em (oZ t)=0/\Du (oZ t)=t:=by
 have hm:A0 t.lit t.len t.dist=true:=by
  unfold ED at h;split at h
  ·assumption
  ·simp at h
 unfold oZ;rw[Ae hm];by_cases hl:t.len=0
 ·rw[Ae hl];unfold A0 at hm;rw[Ae hl]at hm;have hd:t.dist=0:=by simpa using hm
  have i:Gw ⟨t.lit,0,0,0⟩=true:=by simp[Gw];omega
  refine⟨by simp[Em,i],?_⟩;unfold Du;rw[Ae i];cases t
  simp_all
 ·rw[Ab hl];unfold A0 at hm;rw[Ab hl]at hm;obtain⟨e1,e2,e3,e4,e5⟩:=of_decide_eq_true hm;have a1:=Kx (t.len-2) mz;have a2:=Mc (t.len-2) mz;have a3:=IY (t.len-2);have a4:=IP (t.len-2) 8 mz mz (by rw[pw_8];omega);have b1:=Kx t.dist mz;have b2:=Mc t.dist mz;have b3:=IY t.dist;have b4:=IP t.dist 12 mz mz (by rw[PQ];omega);have hs:257+lg (t.len-2)-257=lg (t.len-2):=by omega
  have i:Gw ⟨257+lg (t.len-2),t.len-2-pw (lg (t.len-2)),lg t.dist,t.dist-pw (lg t.dist)⟩=false:=by simp[Gw];omega
  have j:IZ ⟨257+lg (t.len-2),t.len-2-pw (lg (t.len-2)),lg t.dist,t.dist-pw (lg t.dist)⟩=true:=by simp only[IZ,hs,decide_eq_true_eq];omega
  refine⟨by simp[Em,i,j],?_⟩;unfold Du;rw[Ab (by simp[i]),Ae j];cases t;simp only[hs]
  simp_all
  omega
end Toks
namespace Toks
def bump(l:List Int)(i:Nat):List Int:=l.set i (l.getD i 0+1)
def CJ(st:List Int×List Int)(t:Tk):List Int×List Int:=
 (bump st.1 (oZ t).sym.toNat,if t.len=0 then st.2 else bump st.2 (oZ t).dist.toNat)
def Dq(ts:List Tk):List Int×List Int:=ts.foldl CJ (List.replicate 265 0,List.replicate 12 0)
def symsOf(ts:List Tk):List Int:=bump (Dq ts).1 256
def L9(ts:List Tk):List Int:=(Dq ts).2
def Dk(ts:List Tk):Bool:=ts.all fun t=>A0 t.lit t.len t.dist
theorem Pe(l:List Int)(i:Nat):(bump l i).length=l.length:=by simp[bump]
theorem Qy(st:List Int×List Int)(t:Tk):(CJ st t).1.length=st.1.length/\(CJ st t).2.length=st.2.length:=by
 unfold CJ;refine⟨Pe _ _,?_⟩;simp only;split
 ·rfl
 ·exact Pe _ _
theorem l6(ts:List Tk):∀st:List Int×List Int,(ts.foldl CJ st).1.length=st.1.length/\(ts.foldl CJ st).2.length=st.2.length:=by
 induction ts with
 |nil=>intro st;exact⟨rfl,rfl⟩
 |cons t ts ih=>intro st;have h:=ih (CJ st t);have h2:=Qy st t;exact⟨h.1.trans h2.1,h.2.trans h2.2⟩
theorem Ks(ts:List Tk):(Dq ts).1.length=265/\(Dq ts).2.length=12:=by have h:=l6 ts (List.replicate 265 0,List.replicate 12 0);exact⟨h.1.trans Dr,h.2.trans Dr⟩
theorem X9(ts:List Tk)(k:Nat)(h:k<ts.length):Dq (ts.take (k+1))=CJ (Dq (ts.take k)) ts[k]:=by unfold Dq;rw[List.take_succ_eq_append_getElem h,List.foldl_append];rfl
def Within(b:Int)(l:List Int):Prop:=∀i,0<=l.getD i 0/\l.getD i 0<=b
theorem Within.mono{b c:Int}{l:List Int}(h:Within b l)(j:b<=c):Within c l:=fun i=>by have:=h i;omega
theorem Within.bump{b:Int}{l:List Int}(h:Within b l)(j:Nat):Within (b+1) (bump l j):=by
 intro i;unfold Toks.bump;simp only[List.getD_eq_getElem?_getD,List.getElem?_set];have hi:=h i;have hj:=h j;simp only[List.getD_eq_getElem?_getD]at hi hj;split
 ·split
  ·simp;omega
  ·simp;omega
 ·omega
theorem Mn(ts:List Tk):Within ts.length (Dq ts).1/\Within ts.length (Dq ts).2:=by
 have j:∀ (ts:List Tk) (st:List Int×List Int) (b:Int),Within b st.1->Within b st.2->Within (b+ts.length) (ts.foldl CJ st).1/\Within (b+ts.length) (ts.foldl CJ st).2:=by
  intro ts
  induction ts with
  |nil=>intro st b h1 h2;simpa using ⟨h1,h2⟩
  |cons t ts ih=>
   intro st b h1 h2
   have h:=ih (CJ st t) (b+1) (h1.bump _) (by
    unfold CJ;simp only;split
    ·exact h2.mono mz
    ·exact h2.bump _)
   simp only[List.length_cons,List.foldl_cons];exact⟨h.1.mono mz,h.2.mono mz⟩
 have z:∀n:Nat,Within 0 (List.replicate n 0):=by intro n i;simp only[List.getD_eq_getElem?_getD,List.getElem?_replicate];split<;>simp
 have h:=j ts (List.replicate 265 0,List.replicate 12 0) 0 (z _) (z _);rw[Int.zero_add]at h;exact h
theorem L1(t:Tk)(h0:0<=t.lit)(h1:t.lit<=255)(hm:A0 t.lit t.len t.dist=true):
 ∃S D:Nat,∃L F:Int,oZ t=⟨S,L,D,F⟩/\S<265/\D<12/\(t.len=0->S<256)/\(t.len≠0->257<=S/\3<=t.len)/\ED t=0:=by
 by_cases hl:t.len=0
 ·refine⟨t.lit.toNat,0,0,0,?_,mz,mz,fun _=>mz,fun h=>absurd hl h,?_⟩
  ·unfold oZ;rw[Ae hm,Ae hl,Int.toNat_of_nonneg h0];rfl
  ·unfold ED;rw[Ae hm]
 ·have hb:t.lit=0/\3<=t.len/\t.len<=257/\1<=t.dist/\t.dist<=4095:=by unfold A0 at hm;rw[Ab hl]at hm;exact of_decide_eq_true hm
  have a1:=IY (t.len-2);have a2:=IP (t.len-2) 8 mz mz (by rw[pw_8];omega);have b1:=IY t.dist;have b2:=IP t.dist 12 mz mz (by rw[PQ];omega);refine⟨(257+lg (t.len-2)).toNat,(lg t.dist).toNat,t.len-2-pw (lg (t.len-2)),t.dist-pw (lg t.dist),?_,mz,mz,fun h=>absurd h hl,fun _=>⟨mz,hb.2.1⟩,?_⟩
  ·unfold oZ;rw[Ae hm,Ab hl,Int.toNat_of_nonneg mz,Int.toNat_of_nonneg b1]
  ·unfold ED;rw[Ae hm]
end Toks
namespace Lz
open Toks (Tk A0)
def Lm(l:List Nat)(p at_:Nat):Nat->Nat->Nat
 |0,n=>n
 |f+1,n=>if n<257/\at_+n<l.length/\l.getD (p+n) 0=l.getD (at_+n) 0 then Lm l p at_ f (n+1)else n
def alike(l:List Nat)(p at_:Nat):Nat:=Lm l p at_ 257 0
structure IsAlike (l:List Nat) (p at_ k:Nat):Prop where
 le:k<=257
 fits:k=0∨at_+k<=l.length
 same:∀j,j<k->l.getD (p+j) 0=l.getD (at_+j) 0
 stop:¬(k<257/\at_+k<l.length/\l.getD (p+k) 0=l.getD (at_+k) 0)
theorem Ss(l:List Nat)(p at_:Nat):∀ (f n:Nat),n+f=257->(n=0∨at_+n<=l.length)->(∀j,j<n->l.getD (p+j) 0=l.getD (at_+j) 0)->IsAlike l p at_ (Lm l p at_ f n)
 |0,n,hf,h1,h2=>by rw[Lm];exact⟨mz,h1,h2,mz⟩
 |f+1,n,hf,h1,h2=>by
  rw[Lm];split
  ·rename_i h;refine Ss l p at_ f (n+1) mz (.inr mz) fun j hj=> ?_;by_cases e:j<n
   ·exact h2 j e
   ·obtain rfl:j=n:=by omega
    exact h.2.2
  ·rename_i h;exact⟨mz,h1,h2,h⟩
theorem JP(l:List Nat)(p at_:Nat):IsAlike l p at_ (alike l p at_):=Ss l p at_ 257 0 rfl (.inl rfl) fun j hj=>absurd hj mz
theorem IsAlike.unique{at_ k':Nat}(h:IsAlike l p at_ k)(h':IsAlike l p at_ k'):k=k':=by
 have i:∀ {a b:Nat},IsAlike l p at_ a->IsAlike l p at_ b->¬a<b:=by
  intro a b ha hb j;refine ha.stop ⟨?_,?_,hb.same a j⟩
  ·have:=hb.le;omega
  ·rcases hb.fits with h0|h0<;>omega
 have h1:=i h h';have h2:=i h' h;omega
theorem Xq{at_:Nat}(h:IsAlike l p at_ k):alike l p at_=k:=(JP l p at_).unique h
theorem P8(l:List Nat)(p at_:Nat):alike l p at_<=257:=(JP l p at_).le
def JJ(l:List Nat)(at_:Nat)(nd:Nat×Nat)(d:Nat):Nat×Nat:=if nd.1<alike l (at_-d) at_ then(alike l (at_-d) at_,d)else nd
def ET(l:List Nat)(at_:Nat):Nat->Nat×Nat
 |0=>(0,0)
 |d+1=>JJ l at_ (ET l at_ d) (d+1)
def Bk(l:List Nat)(at_:Nat):Nat×Nat:=ET l at_ (min 4095 at_)
structure Good (l:List Nat) (at_:Nat) (nd:Nat×Nat) (D:Nat):Prop where
 n:nd.1<=257
 d1:nd.1≠0->1<=nd.2
 d2:nd.2<=D
 is:nd.1≠0->nd.1=alike l (at_-nd.2) at_
theorem RJ(l:List Nat)(at_:Nat):∀D,Good l at_ (ET l at_ D) D
 |0=>⟨by simp[ET],by simp[ET],by simp[ET],by simp[ET]⟩
 |D+1=>by
  have h:=RJ l at_ D;rw[ET,JJ];split
  ·exact⟨P8 _ _ _,fun _=>pI,pI,fun _=>rfl⟩
  ·exact⟨h.n,h.d1,by have:=h.d2;omega,h.is⟩
theorem NE(l:List Nat)(at_:Nat):Good l at_ (Bk l at_) (min 4095 at_):=RJ l at_ _
theorem Kr{at_:Nat}(h:(Bk l at_).1≠0):at_+(Bk l at_).1<=l.length:=by have hg:=(NE l at_).is h;rcases(JP l (at_-(Bk l at_).2) at_).fits with h0|h0<;>omega
def Do(l:List Nat)(at_:Nat):List Tk:=
 if at_<l.length then
  if 3<=(Bk l at_).1 then⟨0,((Bk l at_).1:Nat),((Bk l at_).2:Nat)⟩ :: Do l (at_+(Bk l at_).1)
  else⟨(l.getD at_ 0:Nat),0,0⟩ :: Do l (at_+1)
 else []
termination_by l.length-at_
def find(l:List Nat):List Tk:=Do l 0
theorem LM{at_:Nat}(h:¬at_<l.length):Do l at_= []:=by rw[Do,Ab h]
theorem Kw{at_:Nat}(h:at_<l.length)(h3:3<=(Bk l at_).1):Do l at_=⟨0,((Bk l at_).1:Nat),((Bk l at_).2:Nat)⟩ :: Do l (at_+(Bk l at_).1):=by rw[Do,Ae h,Ae h3]
theorem Kn{at_:Nat}(h:at_<l.length)(h3:¬3<=(Bk l at_).1):Do l at_=⟨(l.getD at_ 0:Nat),0,0⟩ :: Do l (at_+1):=by rw[Do,Ae h,Ab h3]
theorem OA{i:Nat->Prop}(h1:∀at_,¬at_<l.length->i at_)(h2:∀at_,at_<l.length->3<=(Bk l at_).1->i (at_+(Bk l at_).1)->i at_)
 (h3:∀at_,at_<l.length->¬3<=(Bk l at_).1->i (at_+1)->i at_):∀at_,i at_:=by
 intro at_;obtain⟨m,hm⟩:=ii (l.length-at_)
 induction m using Nat.strongRecOn generalizing at_ with
 |ind m ih=>
  by_cases h:at_<l.length
  ·by_cases h':3<=(Bk l at_).1
   ·exact h2 at_ h h' (ih _ mz _ rfl)
   ·exact h3 at_ h h' (ih _ mz _ rfl)
  ·exact h1 at_ h
theorem find_ok(h8:∀x∈l,x<=255):∀at_,(∀t∈Do l at_,(0<=t.lit/\t.lit<=255)/\A0 t.lit t.len t.dist=true)/\(Do l at_).length<=l.length-at_:=by
 refine OA (l:=l) ?_ ?_ ?_
 ·intro at_ h;rw[LM h];simp
 ·intro at_ h h3 ih;rw[Kw h h3];have hg:=NE l at_;have i:=hg.d1 mz;have j:=hg.d2;have hn:=hg.n;refine⟨fun t ht=> ?_,by rw[AI];have:=ih.2;have:=Kr (l:=l) (at_:=at_) mz;omega⟩;rcases AQ.1 ht with rfl|ht
  ·refine⟨⟨pI,pI⟩,?_⟩;unfold A0;generalize (Bk l at_).1=n at *;generalize (Bk l at_).2=d at *;rw[Ab (by show ¬(n:Int)=0;omega)];exact Be ⟨rfl,by show(3:Int)<=(n:Int);omega,by show(n:Int)<=257;omega,by show(1:Int)<=(d:Int);omega,by show(d:Int)<=4095;omega⟩
  ·exact ih.1 t ht
 ·intro at_ h h3 ih;rw[Kn h h3];refine⟨fun t ht=> ?_,by rw[AI];have:=ih.2;omega⟩;rcases AQ.1 ht with rfl|ht
  ·have hx:=h8 l[at_] (Fo h);have e:l.getD at_ 0=l[at_]:=(by rw[Ar,AD h];rfl);refine⟨⟨pI,by simp only[e];omega⟩,?_⟩;unfold A0;simp
  ·exact ih.1 t ht
def Dj(out:List Nat):Nat->Nat->List Nat
 |0,_=>out
 |n+1,d=>Dj (out++ [out.getD (out.length-d) 0]) n d
theorem LH:∀ (n d:Nat) (out:List Nat),(Dj out n d).length=out.length+n
 |0,_,out=>rfl
 |n+1,d,out=>by rw[Dj,LH n d];simp;omega
def G0(most:Int)(out:List Nat)(t:Tk):Int:=
 if A0 t.lit t.len t.dist=true then if(out.length:Int)<t.dist then 8 else if most-(out.length:Int)<max 1 t.len then 6 else 0 else 7
def ES(most:Int):List Nat->List Tk->List Nat×Int
 |out,[]=>(out,0)
 |out,t :: ts=>if G0 most out t=0 then ES most (if t.len=0 then out++ [t.lit.toNat]else Dj out t.len.toNat t.dist.toNat) ts else([],G0 most out t)
def Fy(ts:List Tk)(most:Int):List Nat×Int:=if most<0 then([],13)else ES most [] ts
theorem Sd{l:List Nat}{d:Nat}(hd:1<=d):∀ (n at_:Nat),d<=at_->at_+n<=l.length->(∀j,j<n->l.getD (at_-d+j) 0=l.getD (at_+j) 0)->Dj (l.take at_) n d=l.take (at_+n)
 |0,at_,_,_,_=>rfl
 |n+1,at_,h1,h2,h3=>by
  have h:(l.take at_).length=at_:=nX
  rw[Dj,h];have e:(l.take at_).getD (at_-d) 0=l.getD at_ 0:=by rw[Ar,List.getElem?_take_of_lt mz,<-Ar];have:=h3 0 mz;simpa using this
  have e2:l.take at_++ [l.getD at_ 0]=l.take (at_+1):=by rw[Cm,AD mz,Ar,AD mz];rfl
  rw[e,e2,Sd hd n (at_+1) mz mz (fun j hj=> ?_),show at_+1+n=at_+(n+1) by omega];have:=h3 (j+1) mz;rw[show at_+1-d+j=at_-d+(j+1) by omega,show at_+1+j=at_+(j+1) by omega];exact this
theorem XN(h8:∀x∈l,x<=255)(hm:(l.length:Int)<=most):∀at_,at_<=l.length->ES most (l.take at_) (Do l at_)=(l,0):=by
 refine OA (l:=l) ?_ ?_ ?_
 ·intro at_ h G;rw[LM h,ES,BV mz]
 ·intro at_ h h3 ih _;have y:=((find_ok h8 at_).1 _ (by rw[Kw h h3];exact CD)).2;have hg:=NE l at_;have z:=hg.d1 mz;have J:=hg.d2;have E:=hg.is mz;have hf:=Kr (l:=l) (at_:=at_) mz;have j:=(JP l (at_-(Bk l at_).2) at_).same;rw[<-E]at j;rw[Kw h h3]at ⊢;generalize (Bk l at_).1=n at *;generalize (Bk l at_).2=d at *;have i:(l.take at_).length=at_:=by rw[Bd];omega
  have hE:G0 most (l.take at_) ⟨0,(n:Nat),(d:Nat)⟩=0:=by unfold G0;rw[Ae y,i,Ab (by show ¬(at_:Int)<(d:Int);omega),Ab (by show ¬most-(at_:Int)<max 1 (n:Int);omega)]
  rw[ES,Ae hE,Ab (by show ¬(n:Int)=0;omega)];show ES most (Dj (l.take at_) ((n:Nat):Int).toNat ((d:Nat):Int).toNat) _=_;rw[Bw,Bw,Sd z n at_ mz hf j];exact ih mz
 ·intro at_ h h3 ih _;have y:=((find_ok h8 at_).1 _ (by rw[Kn h h3];exact CD)).2;rw[Kn h h3];have i:(l.take at_).length=at_:=by rw[Bd];omega
  have hE:G0 most (l.take at_) ⟨(l.getD at_ 0:Nat),0,0⟩=0:=by unfold G0;rw[Ae y,i,Ab (by show ¬(at_:Int)<0;omega),Ab (by show ¬most-(at_:Int)<max 1 0;omega)]
  rw[ES,Ae hE,Ae rfl];show ES most (l.take at_++ [((l.getD at_ 0:Nat):Int).toNat]) _=_;rw[Bw,show l.take at_++ [l.getD at_ 0]=l.take (at_+1) by rw[Cm,AD h,Ar,AD h];rfl];exact ih mz
theorem Xu(h8:∀x∈l,x<=255)(hm:(l.length:Int)<=most):Fy (find l) most=(l,0):=by unfold Fy find;rw[Ab mz];exact XN h8 hm 0 (Cr _)
def BR(l:List Nat)(p:Nat):Nat×Nat×Nat:=(l.getD p 0,l.getD (p+1) 0,l.getD (p+2) 0)
def norm(nd:Nat×Nat):Nat×Nat:=if 3<=nd.1 then nd else(0,0)
theorem Xc{at_:Nat}(h:3<=alike l p at_):BR l p=BR l at_:=by have hs:=(JP l p at_).same;unfold BR;have h0:=hs 0 mz;have h1:=hs 1 mz;have h2:=hs 2 mz;simp only[Nat.add_zero]at h0;rw[h0,h1,h2]
theorem XT{at_:Nat}(h:BR l p=BR l at_)(hf:at_+3<=l.length):3<=alike l p at_:=by
 have ha:=JP l p at_;unfold BR at h;simp only[Prod.mk.injEq]at h;rcases Nat.lt_or_ge (alike l p at_) 3 with hlt|hge
 ·exfalso;refine ha.stop ⟨mz,mz,?_⟩;generalize alike l p at_=k at hlt
  match k,hlt with
  |0,_=>exact h.1
  |1,_=>exact h.2.1
  |2,_=>exact h.2.2
 ·exact hge
end Lz
namespace Huff
def bit(bs:List Bool)(i:Nat):Nat:=if bs.getD i false then 1 else 0
def CT(bs:List Bool)(k:Nat):Nat:=
 bit bs (8*k)*128+bit bs (8*k+1)*64+bit bs (8*k+2)*32+bit bs (8*k+3)*16+bit bs (8*k+4)*8+bit bs (8*k+5)*4+bit bs (8*k+6)*2+bit bs (8*k+7)
def bytesOf(bs:List Bool):List Nat:=(List.range ((bs.length+7) / 8)).map (CT bs)
theorem bytesOf_length(bs:List Bool):(bytesOf bs).length=(bs.length+7) / 8:=by simp[bytesOf]
theorem Ey(bs:List Bool)(i:Nat):bit bs i<=1:=by unfold bit;split<;>omega
theorem Lu(bs:List Bool)(k:Nat):CT bs k<=255:=by unfold CT;have h0:=Ey bs (8*k);have h1:=Ey bs (8*k+1);have h2:=Ey bs (8*k+2);have h3:=Ey bs (8*k+3);have h4:=Ey bs (8*k+4);have h5:=Ey bs (8*k+5);have h6:=Ey bs (8*k+6);have h7:=Ey bs (8*k+7);omega
theorem Fw{bs:List Bool}(h:bs.length<=i):bit bs i=0:=by unfold bit;simp[List.getD_eq_getElem?_getD,List.getElem?_eq_none h]
theorem Ia{bs:List Bool}{b:Bool}(h:i≠bs.length):bit (bs++ [b]) i=bit bs i:=by
 unfold bit;by_cases j:i<bs.length
 ·simp[List.getD_eq_getElem?_getD,List.getElem?_append_left j]
 ·simp[List.getD_eq_getElem?_getD,List.getElem?_eq_none (show(bs++ [b]).length<=i by simp;omega),List.getElem?_eq_none (show bs.length<=i by omega)]
theorem Xz(bs:List Bool)(b:Bool):bit (bs++ [b]) bs.length=if b then 1 else 0:=by unfold bit;simp[List.getD_eq_getElem?_getD]
theorem Yy{bs:List Bool}{b:Bool}(h:k≠bs.length / 8):CT (bs++ [b]) k=CT bs k:=by unfold CT;rw[Ia mz,Ia mz,Ia mz,Ia mz,Ia mz,Ia mz,Ia mz,Ia mz]
theorem Xh{bs:List Bool}(h:bs.length<=8*k):CT bs k=0:=by unfold CT;rw[Fw mz,Fw mz,Fw mz,Fw mz,Fw mz,Fw mz,Fw mz,Fw mz]
theorem iE(bs:List Bool):2 ^ (8-bs.length % 8) ∣ CT bs (bs.length / 8):=by
 obtain⟨q,r,hr,hl⟩:∃q r,r<8/\bs.length=8*q+r:=⟨bs.length / 8,bs.length % 8,mz,mz⟩;have e1:bs.length / 8=q:=mz
 have e2:bs.length % 8=r:=mz
 rw[e1,e2];have ho:∀i,r<=i->bit bs (8*q+i)=0:=fun i hi=>Fw mz;unfold CT;have h0:=ho 0;have:r=0∨r=1∨r=2∨r=3∨r=4∨r=5∨r=6∨r=7:=mz
 rcases this with rfl|rfl|rfl|rfl|rfl|rfl|rfl|rfl<;>
  first
  |(simp only[ho 1 mz,ho 2 mz,ho 3 mz,ho 4 mz,ho 5 mz,ho 6 mz,ho 7 mz];have:=h0 mz;simp at this;simp[this];done)
  |(rw[ho 7 mz];(try rw[ho 6 mz]);(try rw[ho 5 mz]);(try rw[ho 4 mz]);(try rw[ho 3 mz]);(try rw[ho 2 mz]);(try rw[ho 1 mz]);omega)
theorem WV(bs:List Bool)(b:Bool):CT (bs++ [b]) (bs.length / 8)=CT bs (bs.length / 8)+(if b then 1 else 0)*2 ^ (7-bs.length % 8):=by
 obtain⟨q,r,hr,hl⟩:∃q r,r<8/\bs.length=8*q+r:=⟨bs.length / 8,bs.length % 8,mz,mz⟩;have e1:bs.length / 8=q:=mz
 have e2:bs.length % 8=r:=mz
 rw[e1,e2];have hn:∀i,i≠r->bit (bs++ [b]) (8*q+i)=bit bs (8*q+i):=fun i hi=>Ia mz;have he:bit (bs++ [b]) (8*q+r)=if b then 1 else 0:=by rw[<-hl];exact Xz bs b
 have hz:bit bs (8*q+r)=0:=Fw mz;have h0:=hn 0;simp only[Nat.add_zero]at h0;unfold CT;generalize (if b then 1 else 0)=x at he ⊢;have:r=0∨r=1∨r=2∨r=3∨r=4∨r=5∨r=6∨r=7:=mz
 rcases this with rfl|rfl|rfl|rfl|rfl|rfl|rfl|rfl<;>(try simp only[Nat.add_zero]at he hz)<;>simp only[he,hz]<;>
  (try rw[h0 mz])<;>(try rw[hn 1 mz])<;>(try rw[hn 2 mz])<;>(try rw[hn 3 mz])<;>(try rw[hn 4 mz])<;>(try rw[hn 5 mz])<;>(try rw[hn 6 mz])<;>(try rw[hn 7 mz])<;>omega
theorem aV{y:Nat}(hx:2 ^ (s+1) ∣ x)(hy:y<=1):x |||y*2 ^ s=x+y*2 ^ s:=by
 obtain⟨q,rfl⟩:=hx;have h1:y*2 ^ s<2 ^ (s+1):=by rw[Fl];have h2:0<2 ^ s:=FV s;have h3:y*2 ^ s<=1*2 ^ s:=Gp _ hy;omega
 exact(Nat.two_pow_add_eq_or_of_lt h1 q).symm
theorem WO(bs:List Bool)(b:Bool):CT bs (bs.length / 8) |||(if b then 1 else 0)*2 ^ (7-bs.length % 8)=CT (bs++ [b]) (bs.length / 8):=by rw[WV];refine aV ?_ (by split<;>omega);rw[show 7-bs.length % 8+1=8-bs.length % 8 by omega];exact iE bs
def Iw(bs:List Bool):List Nat:=if bs.length % 8=0 then bytesOf bs++ [0]else bytesOf bs
theorem RW(bs:List Bool):Iw bs=(List.range (bs.length / 8+1)).map (CT bs):=by
 unfold Iw;split
 ·rename_i h;rw[GJ,EN,bytesOf,show(bs.length+7) / 8=bs.length / 8 by omega];simp only[List.map_cons,List.map_nil];rw[Xh (k:=bs.length / 8) mz]
 ·rw[bytesOf,show(bs.length+7) / 8=bs.length / 8+1 by omega]
theorem Yg(bs:List Bool)(b:Bool):bytesOf (bs++ [b])=(Iw bs).set (bs.length / 8) (CT (bs++ [b]) (bs.length / 8)):=by
 rw[RW,bytesOf,Aj,Kg,show(bs.length+1+7) / 8=bs.length / 8+1 by omega];apply List.ext_getElem
 ·simp
 ·intro i h1 h2;rw[List.getElem_set];simp only[List.getElem_map,List.getElem_range];split
  ·rename_i e;rw[e]
  ·rename_i e;exact Yy (fun e2=>e e2.symm)
end Huff
namespace Huff
open Canon
def msb(x n k:Nat):List Bool:=(List.range k).map fun j=>decide (x / 2 ^ (n-1-j) % 2=1)
theorem pZ(x n k:Nat):(msb x n k).length=k:=by simp[msb]
theorem W8(x n:Nat):msb x n 0= []:=rfl
theorem WJ(x n k:Nat):msb x n (k+1)=msb x n k++ [decide (x / 2 ^ (n-1-k) % 2=1)]:=by simp[msb,List.range_succ]
def word(ls:List Nat)(s:Nat):List Bool:=msb (code ls s) (ls.getD s 0) (ls.getD s 0)
theorem Ez(ls:List Nat)(s:Nat):(word ls s).length=ls.getD s 0:=pZ _ _ _
def zZ(bs:List Bool)(i:Nat):Nat->Nat
 |0=>0
 |m+1=>2*zZ bs i m+bit bs (i+m)
theorem GO(bs:List Bool)(i:Nat):∀m,zZ bs i m<2 ^ m
 |0=>by simp[zZ]
 |m+1=>by have h1:=GO bs i m;have h2:=Ey bs (i+m);rw[zZ,Fl];omega
theorem L7(ls:List Nat):∀l,l<=15->(fst ls l+cn ls l)*2 ^ (15-l)=CX ls (l+1)
 |0,_=>by simp[fst,cn,CX]
 |l+1,h=>by
  have h1:=L7 ls l mz;have e:15-l=(15-(l+1))+1:=mz
  rw[CX,<-h1,fst,e,Fl,EL];congr 1;rw[Nat.mul_comm 2,Nat.mul_assoc,Nat.mul_comm 2]
theorem Wu(ls:List Nat)(l:Nat)(h:l<=15):fst ls l*2 ^ (15-l)=CX ls l:=by have h1:=L7 ls l h;rw[CX,EL]at h1;omega
theorem Ls(ls:List Nat){a:Nat}:∀ {b:Nat},a<=b->CX ls a<=CX ls b
 |0,h=>by
  obtain rfl:a=0:=mz
  exact Aq _
 |b+1,h=>by
  by_cases e:a=b+1
  ·subst e;exact Aq _
  ·have:=Ls ls (a:=a) (b:=b) mz;rw[CX];omega
theorem ok_parts(h:okB ls=true):ls.length<=300/\(∀x∈ls,x<=15)/\CX ls 16<=32768:=by
 unfold okB at h;simp only[Bool.and_eq_true,Bool.or_eq_true,decide_eq_true_eq,List.all_eq_true]at h;obtain⟨⟨h1,h2⟩,h3⟩:=h;refine⟨h1,h2,?_⟩;have hk:=LG ls h2;have hu:=MQ ls h2;rcases h3 with (h3|⟨h3,h4⟩)|h3
 ·rw[h3]at hu;simp only[Fa]at hu;simp only[CX];have e0:cn ls 0=0:=by simp[cn]
  have e:∀l,l<16->cn ls l=0:=by intro l hl;have:l=0∨l=1∨l=2∨l=3∨l=4∨l=5∨l=6∨l=7∨l=8∨l=9∨l=10∨l=11∨l=12∨l=13∨l=14∨l=15:=mz;rcases this with rfl|rfl|rfl|rfl|rfl|rfl|rfl|rfl|rfl|rfl|rfl|rfl|rfl|rfl|rfl|rfl<;>omega
  simp[e]
 ·have e1:cn ls 1=1:=by unfold cn;rw[Ab mz,h4]
  rw[h3]at hu;simp only[Fa]at hu;simp only[CX];have e:∀l,l<16->l≠1->cn ls l=0:=by intro l hl i;have:l=0∨l=1∨l=2∨l=3∨l=4∨l=5∨l=6∨l=7∨l=8∨l=9∨l=10∨l=11∨l=12∨l=13∨l=14∨l=15:=mz;rcases this with rfl|rfl|rfl|rfl|rfl|rfl|rfl|rfl|rfl|rfl|rfl|rfl|rfl|rfl|rfl|rfl<;>omega
  simp[e,e1]
 ·omega
theorem O7(hx:ls[s]? =some x):cnt (ls.take s) x+1<=cnt ls x:=by
 have h1:cnt (ls.take (s+1)) x=cnt (ls.take s) x+1:=by rw[Is hx,Hg,Ae rfl]
 have h2:cnt (ls.take (s+1)) x<=cnt ls x:=by
  unfold cnt
  conv=>rhs;rw[<-EM (s+1) ls,List.countP_append]
  omega
 omega
theorem IK(hx:ls[s]? =some x)(h0:x≠0):code ls s=fst ls x+cnt (ls.take s) x:=by unfold code;simp[List.getD_eq_getElem?_getD,hx,h0]
theorem P3(hx:ls[s]? =some x)(h0:x≠0)(h:x<=15):
 CX ls x<=code ls s*2 ^ (15-x)/\(code ls s+1)*2 ^ (15-x)<=CX ls (x+1):=by
 have h1:=IK hx h0;have h2:=O7 hx;constructor
 ·rw[<-Wu ls x h];exact Gp _ mz
 ·rw[<-L7 ls x h];refine Gp _ ?_;unfold cn;rw[Ab h0];omega
theorem PT(i:okB ls=true)(hx:ls[s]? =some x)(h0:x≠0):code ls s<2 ^ x:=by
 obtain⟨_,h2,h3⟩:=ok_parts i;have h:=h2 x (Bg hx);have h4:=(P3 hx h0 h).2;have h5:=Ls ls (show x+1<=16 by omega);have h6:(code ls s+1)*2 ^ (15-x)<=2 ^ x*2 ^ (15-x):=by rw[<-Nat.pow_add,show x+(15-x)=15 by omega];omega
 exact Nat.le_of_mul_le_mul_right h6 (FV _)
theorem mQ(y:Nat):((if decide (y % 2=1)=true then 1 else 0:Nat):Int)=((y % 2:Nat):Int):=by rcases LB y with h|h<;>simp[h]
end Huff
namespace Huff
open Canon
def symsOf(ls:List Nat)(l:Nat):List Nat:=(List.range ls.length).filter fun s=>decide (ls.getD s 0=l)
theorem gG(l:Nat):symsOf [] l= []:=rfl
theorem Ml(ls:List Nat)(x l:Nat):symsOf (ls++ [x]) l=symsOf ls l++if x=l then [ls.length]else []:=by
 unfold symsOf;rw[Aj,Kg,GJ,List.filter_append];congr 1
 ·apply List.filter_congr
  intro s hs;have hs:=Fm.1 hs;simp[List.getD_eq_getElem?_getD,List.getElem?_append_left hs]
 ·by_cases h:x=l<;>simp[List.getD_eq_getElem?_getD,h]
theorem Rz{α:Type}{p:List α->Prop}(h0:p [])(h1:∀l x,p l->p (l++ [x])):∀l,p l:=by
 intro l
 have:∀r:List α,p r.reverse:=by
  intro r
  induction r with
  |nil=>exact h0
  |cons x r ih=>rw[List.reverse_cons];exact h1 _ _ ih
 have h:=this l.reverse
 rwa [List.reverse_reverse]at h
theorem OB(l:Nat):∀ls:List Nat,(symsOf ls l).length=cnt ls l:=by
 apply Rz
 ·rfl
 ·intro ls x ih;rw[Ml,Hg,Aj,ih];split<;>rfl
theorem Rs{l:Nat}:∀ (ls:List Nat) (k s:Nat),(symsOf ls l)[k]? =some s->ls[s]? =some l/\cnt (ls.take s) l=k:=by
 apply Rz (p:=fun ls=>∀ (k s:Nat),(symsOf ls l)[k]? =some s->ls[s]? =some l/\cnt (ls.take s) l=k)
 ·intro k s h;simp[gG]at h
 ·intro ls x ih k s h;rw[Ml,List.getElem?_append]at h;split at h
  ·obtain⟨h1,h2⟩:=ih k s h;have hs:=(CE.1 h1).1;rw[G1 hs,List.take_append_of_le_length mz];exact⟨h1,h2⟩
  ·rename_i hk;by_cases hx:x=l
   ·subst hx;rw[Ae rfl]at h;have h3:=(CE.1 h).1;simp only[List.length_singleton]at h3;have h4:k=(symsOf ls x).length:=mz;rw[h4,Gn,List.getElem?_cons_zero]at h;injection h with h;subst h;refine⟨pI,?_⟩;rw[List.take_left,h4,OB]
   ·rw[Ab hx]at h;simp at h
theorem Qm(ls:List Nat)(l:Nat){a:Nat}(h:a<=b):cnt (ls.take a) l<=cnt (ls.take b) l:=by
 have:ls.take a=(ls.take b).take a:=by rw[List.take_take,Nat.min_eq_left h]
 rw[this];unfold cnt
 conv=>rhs;rw[<-EM a (ls.take b),List.countP_append]
 omega
theorem lS{l t:Nat}(hs:ls[s]? =some l)(ht:ls[t]? =some l)(h:cnt (ls.take s) l=cnt (ls.take t) l):s=t:=by
 have h1:cnt (ls.take (s+1)) l=cnt (ls.take s) l+1:=by rw[Is hs,Hg,Ae rfl]
 have h2:cnt (ls.take (t+1)) l=cnt (ls.take t) l+1:=by rw[Is ht,Hg,Ae rfl]
 by_cases h3:s<t
 ·have:=Qm ls l (show s+1<=t by omega);omega
 ·by_cases h4:t<s
  ·have:=Qm ls l (show t+1<=s by omega);omega
  ·omega
theorem RF{l:Nat}(h:k<cnt ls l):∃s,(symsOf ls l)[k]? =some s/\ls[s]? =some l/\cnt (ls.take s) l=k:=by
 have h1:k<(symsOf ls l).length:=by rw[OB];exact h
 exact⟨_,AD h1,Rs ls k _ (AD h1)⟩
def hit(ls:List Nat)(X there s:Nat):Bool:=decide (ls.getD s 0≠0/\ls.getD s 0<=there/\X / 2 ^ (15-ls.getD s 0)=code ls s)
def Jy(ls:List Nat)(X there s:Nat):Bool:=decide (there<ls.getD s 0/\X / 2 ^ (15-there)=code ls s / 2 ^ (ls.getD s 0-there))
def En(ls:List Nat)(X there:Nat):Int×Int×Nat:=
 match (List.range ls.length).find? (hit ls X there)with
 |some s=>(s,0,ls.getD s 0)
 |none=>if(List.range ls.length).any (Jy ls X there)then(-1,1,0)else(-1,7,0)
theorem Hd{there:Nat}:hit ls X there s=true↔∃x,ls[s]? =some x/\x≠0/\x<=there/\X / 2 ^ (15-x)=code ls s:=by
 unfold hit;rw[decide_eq_true_eq];constructor
 ·rintro⟨h1,h2,h3⟩
  have hs:s<ls.length:=by
   rcases Nat.lt_or_ge s ls.length with h|h
   ·exact h
   ·rw[Ar,Fp h]at h1;simp at h1
  have e:ls.getD s 0=ls[s]:=by simp[List.getD_eq_getElem?_getD,hs]
  rw[e]at h1 h2 h3;exact⟨_,AD hs,h1,h2,h3⟩
 ·rintro⟨x,h0,h1,h2,h3⟩;have e:ls.getD s 0=x:=by simp[List.getD_eq_getElem?_getD,h0]
  rw[e];exact⟨h1,h2,h3⟩
theorem Og{c d:Nat}(hd:0<d)(h:X / d=c):c*d<=X/\X<(c+1)*d:=by subst h;exact⟨Nat.div_mul_le_self X d,by rw[EL,Nat.one_mul];exact Nat.lt_div_mul_add hd⟩
theorem kV(M:okB ls=true){a t:Nat}(hs:hit ls X a s=true)(ht:hit ls X b t=true):s=t:=by
 obtain⟨x,hx,h,_,z⟩:=Hd.1 hs;obtain⟨y,hy,E,_,G⟩:=Hd.1 ht;obtain⟨_,i,_⟩:=ok_parts M;have J:=i x (Bg hx);have j:=i y (Bg hy);have h1:=Og (FV _) z;have h2:=Og (FV _) G;have h3:=P3 hx h J;have h4:=P3 hy E j;by_cases Q:x<y
 ·have:=Ls ls (show x+1<=y by omega);omega
 ·by_cases N:y<x
  ·have:=Ls ls (show y+1<=x by omega);omega
  ·obtain rfl:x=y:=by omega
   have e:code ls s=code ls t:=(by rw[<-z,<-G]);rw[IK hx h,IK hy E]at e;exact lS hx hy mz
theorem Q9(i:okB ls=true){there:Nat}(hx:ls[s]? =some x)(h:hit ls X there s=true):En ls X there=((s:Int),0,x):=by
 have hs:s<ls.length:=(CE.1 hx).1;unfold En
 have:(List.range ls.length).find? (hit ls X there)=some s:=by
  cases hf:(List.range ls.length).find? (hit ls X there)with
  |none=>have:=List.find?_eq_none.1 hf s (Fm.2 hs);rw[h]at this;exact absurd rfl this
  |some t=>rw[kV i h (List.find?_some hf)]
 rw[this];simp[List.getD_eq_getElem?_getD,hx]
theorem V5{there:Nat}(h:∀s,hit ls X there s=false):En ls X there=if(List.range ls.length).any (Jy ls X there)then(-1,1,0)else(-1,7,0):=by unfold En;have:(List.range ls.length).find? (hit ls X there)=none:=List.find?_eq_none.2 (fun s _=>by rw[h s];simp);rw[this]
theorem Wo{l:Nat}(h0:l≠0)(hk:k<cn ls l)(hX:X / 2 ^ (15-l)=fst ls l+k):
 ∃s,(symsOf ls l)[k]? =some s/\ls[s]? =some l/\hit ls X l s=true:=by
 have h:k<cnt ls l:=by unfold cn at hk;rwa [Ab h0]at hk
 obtain⟨s,h1,h2,h3⟩:=RF h;exact⟨s,h1,h2,Hd.2 ⟨l,h2,h0,Aq _,by rw[hX,IK h2 h0,h3]⟩⟩
theorem m9{l:Nat}(h0:l≠0)(hs:ls[s]? =some l)(h:X / 2 ^ (15-l)=code ls s):fst ls l<=X / 2 ^ (15-l)/\X / 2 ^ (15-l)<fst ls l+cn ls l:=by have h1:=IK hs h0;have h2:=O7 hs;unfold cn;rw[Ab h0];omega
theorem V1{a:Nat}(h:a<=b)(hs:hit ls X a s=true):hit ls X b s=true:=by obtain⟨x,h1,h2,h3,h4⟩:=Hd.1 hs;exact Hd.2 ⟨x,h1,h2,mz,h4⟩
theorem WA{l:Nat}(h:∀s,hit ls X l s=false)(h1:X / 2 ^ (15-(l+1))<fst ls (l+1)∨fst ls (l+1)+cn ls (l+1)<=X / 2 ^ (15-(l+1))):∀s,hit ls X (l+1) s=false:=by
 intro s;cases hh:hit ls X (l+1) s
 ·rfl
 ·obtain⟨x,hx,j,y,i⟩:=Hd.1 hh;by_cases e:x=l+1
  ·subst e;have:=m9 mz hx i;omega
  ·have:=h s;rw[Hd.2 ⟨x,hx,j,mz,i⟩]at this;cases this
theorem Wb(ls:List Nat)(X:Nat):∀s,hit ls X 0 s=false:=by
 intro s;cases hh:hit ls X 0 s
 ·rfl
 ·obtain⟨x,_,i,h,_⟩:=Hd.1 hh;omega
theorem Rp{there:Nat}:Jy ls X there s=true↔∃x,ls[s]? =some x/\there<x/\X / 2 ^ (15-there)=code ls s / 2 ^ (x-there):=by
 unfold Jy;rw[decide_eq_true_eq];constructor
 ·rintro⟨h2,h3⟩
  have hs:s<ls.length:=by
   rcases Nat.lt_or_ge s ls.length with h|h
   ·exact h
   ·rw[Ar,Fp h]at h2;simp at h2
  have e:ls.getD s 0=ls[s]:=by simp[List.getD_eq_getElem?_getD,hs]
  rw[e]at h2 h3;exact⟨_,AD hs,h2,h3⟩
 ·rintro⟨x,h0,h2,h3⟩;have e:ls.getD s 0=x:=by simp[List.getD_eq_getElem?_getD,h0]
  rw[e];exact⟨h2,h3⟩
theorem nF{l:Nat}(G:l<k)(h0:0<cn ls k)(h1:x*2 ^ (k-l)<fst ls k+cn ls k)(h2:fst ls k<x*2 ^ (k-l)+2 ^ (k-l)):
 ∃s,ls[s]? =some k/\code ls s / 2 ^ (k-l)=x:=by
 have i:k≠0:=mz
 obtain⟨j,y,z⟩:∃j,j<cn ls k/\(fst ls k+j) / 2 ^ (k-l)=x:=by
  have hp:=FV (k-l);generalize 2 ^ (k-l)=d at *;by_cases h:fst ls k<=x*d
  ·refine⟨x*d-fst ls k,mz,?_⟩;rw[show fst ls k+(x*d-fst ls k)=x*d by omega];exact Nat.mul_div_cancel _ hp
  ·refine⟨0,h0,?_⟩;rw[Bj];apply Nat.div_eq_of_lt_le
   ·omega
   ·rw[EL,Nat.one_mul];omega
 have E:j<cnt ls k:=by unfold cn at y;rwa [Ab i]at y
 obtain⟨s,_,h3,h4⟩:=RF E;exact⟨s,h3,by rw[IK h3 i,h4,z]⟩
theorem mJ{l:Nat}(j:l<k)(hs:ls[s]? =some k)(h:code ls s / 2 ^ (k-l)=x):
 0<cn ls k/\x*2 ^ (k-l)<fst ls k+cn ls k/\fst ls k<x*2 ^ (k-l)+2 ^ (k-l):=by
 have i:k≠0:=mz
 have h1:=IK hs i;have h2:=O7 hs;have h3:=Og (FV (k-l)) h;have e:cn ls k=cnt ls k:=by unfold cn;rw[Ab i]
 rw[EL,Nat.one_mul]at h3;omega
theorem QS(bs:List Bool)(i m:Nat):∀d,zZ bs i (m+d) / 2 ^ d=zZ bs i m
 |0=>pI
 |d+1=>by have h1:=Ey bs (i+(m+d));rw[<-Nat.add_assoc,zZ,Fl,Nat.mul_comm (2 ^ d) 2,<-NF];rw[show(2*zZ bs i (m+d)+bit bs (i+(m+d))) / 2=zZ bs i (m+d) by omega];exact QS bs i m d
theorem L3(x n:Nat)(hx:x<2 ^ n)(bs pre post:List Bool)(h:bs=pre++msb x n n++post):∀m,m<=n->zZ bs pre.length m=x / 2 ^ (n-m)
 |0,_=>by rw[zZ,Nat.sub_zero,Nat.div_eq_of_lt hx]
 |m+1,hm=>by
  rw[zZ,L3 x n hx bs pre post h m mz]
  have hb:bit bs (pre.length+m)=x / 2 ^ (n-1-m) % 2:=by
   unfold bit;have hl:m<(msb x n n).length:=by rw[pZ];omega
   have e:bs.getD (pre.length+m) false=decide (x / 2 ^ (n-1-m) % 2=1):=(by rw[h,AJ,Ar,I4 mz,I2,G1 hl,AD hl];simp[msb]);rw[e];by_cases h1:x / 2 ^ (n-1-m) % 2=1
   ·rw[Be h1,h1];rfl
   ·rw[Bi h1];simp;omega
  rw[hb,show n-m=(n-1-m)+1 by omega,show n-(m+1)=n-1-m by omega,Fl,<-NF];omega
end Huff
end Go.Proofs.YtfgdoknipbpfhaaGreatDoor
