/- Words for memory, fo -/
import Derived.WalkKit
import Derived.ProofKit
import Derived.Lib.Hide
import Derived.Laws.OwnMore
import Derived.Deep.Draws
import Derived.Maps.AppendAt
import Derived.Test.YtfgdoknipbpfhaaGreatDoorProg
import Derived.BigQuiet
import Derived.BigGuardPart
import Derived.Deep.QuietTactic
import Derived.Deep.Light
import Derived.Laws.Rows
import Derived.Deep.MidRow
import Derived.Deep.DeepCutAuto
namespace Go.Proofs.YtfgdoknipbpfhaaGreatDoor
section
open Go Go.RowKit
theorem ic(p:Prop)[Decidable p](h:p:=by first|omega|(simp;omega)|(simp;done)):decide p=true:=decide_eq_true h
theorem ig(p:Prop)[Decidable p](h:¬p:=by first|omega|(simp;omega)|(simp;done)):decide p=false:=decide_eq_false h
theorem ii{α:Sort _}(a:α):∃x,x=a:=⟨a,rfl⟩
instance:Coe World Nat:=⟨fun w=>w.heap.size⟩
instance:Coe Nat Value:=⟨fun n=> .int .i64 n⟩
instance:Coe Int Value:=⟨fun n=> .int .i64 n⟩
instance:Coe Bool Value:=⟨fun b=> .bool b⟩
instance:Coe Unit Value:=⟨fun _=> .slice none 0 0⟩
structure ik where
def ij:ik:=⟨⟩
instance:Coe ik Value:=⟨fun _=> .int .i64 0⟩
theorem mw{p:Prop}(h:p:=by omega):p:=h
theorem pn{p:Prop}(h:p:=by(repeat (with_reducible first|exact Ag _ _|assumption|refine Ar ?_ |refine below_drewN ?_ _|refine sZ ?_ |refine aZ ?_ |refine dZ (by assumption) ?_ |refine belA ?_ |refine tZ (by assumption) ?_))):p:=h
theorem ip{p:Prop}(h:p:=by decide):p:=h
theorem jo{p:Prop}(h:p:=by go_light;simp[intOf];omega):p:=h
theorem oK{p:Prop}(h:p:=by simp):p:=h
theorem im{p:Prop}(h:p:=by assumption):p:=h
theorem mr{p:Prop}(h:p:=by kernel_rfl):p:=h
theorem pm{p:Prop}(h:p:=by unfold maxLen;omega):p:=h
theorem mj{p:Prop}(h:p:=by intro u hu;simp at hu;rcases hu with rfl;rfl):p:=h
theorem oT{p:Prop}(h:p:=by simp;omega):p:=h
theorem m8{p:Prop}(h:p:=by rw[Aq _ (by omega)];omega):p:=h
theorem mz{p:Prop}(h:p:=by rfl):p:=h
theorem iu{p:Prop}(h:p:=by first|rfl|go_num):p:=h
theorem oG{p:Prop}(h:p:=by show b≠w.heap.size;omega):p:=h
theorem nj{p:Prop}(h:p:=by rw[HG.out];exact aq.out.keep (fun b _ h=>((((AR _ _ _ b (by show b≠w.heap.size;omega)).trans (AR _ _ _ b (by show b≠w.heap.size;omega))).trans (AR _ _ _ b (by show b≠w.heap.size;omega))).trans (((AR _ _ _ b (by show b≠w.heap.size;omega)).trans (AR _ _ _ b (by show b≠w.heap.size;omega))).trans (AR _ _ _ b (by show b≠w.heap.size;omega))))) N):p:=h
theorem n9{p:Prop}(h:p:=by show World.ownsRow _ _ _ _ _ _ _;rw[show cZ .u8 (j++List.replicate k x)=cZ .u8 j++cZ .u8 (List.replicate k x) by simp[cZ]];exact E):p:=h
theorem iz{p:Prop}(h:p:=by go_light;exact⟨a2,i,p+k,j++List.replicate k x,by omega,by show _=_;rw[Ae,HP.out,Di],am.out,au.out,ay.out,ai.out.1,ai.out.2⟩):p:=h
theorem m9{p:Prop}(h:p:=by rw[Bq];omega):p:=h
theorem ni{p:Prop}(h:p:=by rw[HG.out];exact ae.out.keep (fun b _ h=>(((AR _ _ _ b (by show b≠w.heap.size;omega)).trans (AR _ _ _ b (by show b≠w.heap.size;omega))).trans (AR _ _ _ b (by show b≠w.heap.size;omega)))) N):p:=h
theorem jw{p:Prop}(h:p:=by have h3:=Ef.Ke (q:=bound / l.length) (by omega);have h4:efW bound l.length<2 ^ efW bound l.length:=Nat.lt_two_pow_self;unfold efW at h4 ⊢;have h5:l.length*Nat.log2 (bound / l.length)<=l.length*(bound / l.length):=Nat.mul_le_mul_left _ (by omega);exact AK h5 (Nat.mul_div_le _ _)):p:=h
theorem jp{p:Prop}(h:p:=by go_num):p:=h
theorem jb{p:Prop}(h:p:=by go_light;exact⟨i+1,a2,t2++ [s],h2++ [s],_,_,by omega,by first|rfl|go_num,by rw[Ae,<-HP.out];simp;omega,by rw[Ae,Ae,<-HP.out,<-HQ.out];simp;omega,bg.out,by intro y hy;rcases BF.1 hy with h|h;exact aw.out y h;(rw[Ei]at h;rw[h];exact af.out),by rw[Bt (by omega)];exact az.out⟩):p:=h
theorem jc{p:Prop}(h:p:=by go_light;exact⟨i+1,a2,t2++ [s],h2,_,uH,by omega,by first|rfl|go_num,by rw[Ae,<-HP.out];simp;omega,by rw[Ae,<-HP.out];omega,E.out,by intro y hy;rcases BF.1 hy with h|h;exact aw.out y h;(rw[Ei]at h;rw[h];exact af.out),by rw[Bt (by omega)];exact az.out⟩):p:=h
theorem jh{p:Prop}(h:p:=by go_light;exact⟨k+1,q2+1,x,j++ [z+1],by omega,by omega,by omega,by first|rfl|go_num,by first|rfl|go_num,by show _=_;rw[Ae,L.out];rfl, .inr ⟨by omega,j,z+1,rfl,by omega,by have e:=av.out;rw[<-aq.out]at e;rw[HZ.out];exact e⟩,an.out,al.out⟩):p:=h
theorem it{p:Prop}(h:p:=by first|omega|(simp;done)|(simp;omega)):p:=h
theorem ir{p:Prop}(h:p:=by first|exact Blk.made _ _ _|exact Blk.made_at _ _ _ (by simp)|exact Blk.drew (Blk.made _ _ _)|exact Blk.drew (Blk.made_at _ _ _ (by simp))):p:=h
theorem mq{p:Prop}(h:p:=by intro y hy;rcases BF.1 hy with h|h;exact aw.out y h;(rw[Ei]at h;rw[h];exact af.out)):p:=h
theorem lq{p:Prop}(h:p:=by have:=HN.out;omega):p:=h
theorem nm{p:Prop}(h:p:=by rw[HN.out];exact Ak _):p:=h
theorem ji{p:Prop}(h:p:=by go_light;exact⟨k+1,x2,by omega,by omega,by first|rfl|trivial,by go_num,HP.out,G.out,by first|rfl|trivial⟩):p:=h
theorem je{p:Prop}(h:p:=by go_light;exact⟨i+j,q'+1+om,m5,c5,A5,P++ [x]++O,by have:=al.out.2;omega,be,ax,rfl,al.out.1,by show _=_;rw[Ae,Ae,HP.out,cc.out];rfl,bq.out,ab.out,bC.out,bu.out⟩):p:=h
theorem ix{p:Prop}(h:p:=by first|rfl|trivial):p:=h
theorem jd{p:Prop}(h:p:=by go_light;exact⟨i+1,y+size,a3,0,f1,h6,bu,bS,by omega,by first|rfl|go_num,b8.out,b0,bh,bp.out,b3.out,cc.out,b4.out,a5.out,fun _=>bl.out,fun h=>absurd rfl h⟩):p:=h
theorem jl{p:Prop}(h:p:=by go_light;refine⟨k+1,by omega,by omega,by go_num,U.out,?_⟩;obtain⟨q,rfl⟩:=L.out;exact⟨_,Ij _ _ _⟩):p:=h
theorem mp{p:Prop}(h:p:=by intro u hu;simp at hu;subst hu;rfl):p:=h
theorem oP{p:Prop}(h:p:=by simp only[Bp,List.map_cons,List.foldl_cons];rw[Kq];omega):p:=h
theorem kr{p:Prop}(h:p:=by have h:=kZ aa Z.out.size;have e1:(Bm bs false).length=F.length+4:=(by unfold Bm;rw[<-HF.out,Ae];exact rfl);rw[e1];unfold Bm;rw[<-HF.out];exact h):p:=h
theorem jn{p:Prop}(h:p:=by go_light;simp only[lenS];rw[av.out,ba.out];exact aw.out):p:=h
theorem oO{p:Prop}(h:p:=by simp only;omega):p:=h
theorem ky{p:Prop}(h:p:=by have:=(Aj HO.out y hy).2;simp;omega):p:=h
theorem jm{p:Prop}(h:p:=by go_light;refine⟨k+1,ws,row++ [x],vo,_,by omega,by go_num,?_,E.out,HA.out w4 _ _ (HN.out ▸ z) M⟩;show _<=_;rw[Ae,HN.out];simp;omega):p:=h
theorem ou{p:Prop}(h:p:=by show _=_;omega):p:=h
theorem nW{p:Prop}(h:p:=by rw[show cZ .u8 (P++ [x])=cZ .u8 P++ [.int .u8 (x:Nat)] by simp[cZ]];exact eZ U.out (fun y hy=>ae.block y (Aj U.out y hy).2)):p:=h
theorem iw{p:Prop}(h:p:=by first|rfl|go_num|(congr 1;omega)):p:=h
theorem m4{p:Prop}(h:p:=by rw[Aq _ (by omega)]):p:=h
theorem js{p:Prop}(h:p:=by have h1:=Aw List.length hf;have h2:=cd.out;have h3:=HP.out;simp only[List.length_append,List.length_cons]at h1;omega):p:=h
theorem nY{p:Prop}(h:p:=by rw[show(128:Int)=((128:Nat):Int) from rfl,u8_or_nat _ _ (by omega) (by omega),Vi _ (by omega)];congr 1;omega):p:=h
theorem jj{p:Prop}(h:p:=by go_light;exact⟨k+r,v3,_,by omega,by go_num,ac.out,ab.out,Y.out,aa.out⟩):p:=h
theorem lz{p:Prop}(h:p:=by have:=h.1;omega):p:=h
theorem ml{p:Prop}(h:p:=by intro u hu;simp at hu;rcases hu with rfl|rfl<;>rfl):p:=h
theorem mP{p:Prop}(h:p:=by rw[AO];omega):p:=h
theorem oF{p:Prop}(h:p:=by show _=_;unfold FO;rw[Q.cells.2.2];rfl):p:=h
theorem mt{p:Prop}(h:p:=by obtain⟨es,z,h1,_⟩:=y.map;have h2:w4.heap[bo]? =some (.cells #[vT,vL] 53):=i;rw[e,h2]at h1;cases h1):p:=h
theorem nC{p:Prop}(h:p:=by rw[Jl];intro h;simp at h;omega):p:=h
theorem ld{p:Prop}(h:p:=by have:=E.out;unfold IB at this;omega):p:=h
theorem ms{p:Prop}(h:p:=by obtain⟨A,n,c,ls,h1,h2,h3,h4,h5,h6,h7⟩:=hR;rw[h5,Es,h3];omega):p:=h
theorem oJ{p:Prop}(h:p:=by show w.heap.size≠g;omega):p:=h
theorem kz{p:Prop}(h:p:=by have:=(Aj U.out y hy).2;simp;omega):p:=h
theorem nG{p:Prop}(h:p:=by rw[bne_iff_ne];omega):p:=h
theorem iq{p:Prop}(h:p:=by first|exact Blk.made _ _ _|exact Blk.drew (Blk.made _ _ _)):p:=h
theorem kj{p:Prop}(h:p:=by have h:=ab.out;rw[<-show T i=R from U.out,<-show s=(T i).length from HS.out]at h;exact h):p:=h
theorem oD{p:Prop}(h:p:=by show _=_;unfold D9;rw[Aa (by omega),Aa];rw[hn];show ¬2 ^ L<(wZ (kOf ks) n).length;omega):p:=h
theorem ko{p:Prop}(h:p:=by have h:=av.out;rw[h]at G;injection G with G;exact G.symm):p:=h
theorem pf{p:Prop}(h:p:=by simpa using h):p:=h
theorem nF{p:Prop}(h:p:=by rw[ay.out,ax.out];exact S9.out.1):p:=h
theorem nB{p:Prop}(h:p:=by rw[IntKind.wrap_i64];omega):p:=h
theorem oR{p:Prop}(h:p:=by simp only[List.length_cons]at ht ⊢;omega):p:=h
theorem mm{p:Prop}(h:p:=by intro u hu;simp at hu;rcases hu with rfl|rfl|rfl<;>rfl):p:=h
theorem mh{p:Prop}(h:p:=by have:=hy.1;omega):p:=h
theorem ln{p:Prop}(h:p:=by have:=HH.out;have h2:=M.out;subst this;simp[BI];omega):p:=h
theorem nz{p:Prop}(h:p:=by rw[He];omega):p:=h
theorem oX{p:Prop}(h:p:=by simp[callFunc,go_sem,Tryz.func347];rfl):p:=h
theorem lc{p:Prop}(h:p:=by have:=Aj E x hx;exact⟨this.2,by omega⟩):p:=h
theorem kq{p:Prop}(h:p:=by have h:=bits_and_u64_nat y 1 hy (by omega);rw[Nat.and_one_is_mod]at h;exact h):p:=h
theorem ny{p:Prop}(h:p:=by rw[HT.out,show cZ .u8 (T j++ls)=cZ .u8 (T j)++cZ .u8 ls by simp[cZ]];exact M):p:=h
theorem oL{p:Prop}(h:p:=by simp at h):p:=h
theorem jg{p:Prop}(h:p:=by go_light;exact⟨j+1,q+1,D6,ab,rfl,rfl,by have:=HQ.out;omega,by omega,S6.out⟩):p:=h
theorem jr{p:Prop}(h:p:=by have h1:(i+1)*size<=q*size:=Gc size bn;rw[IR,bj.out,<-HY.out]at h1;exact h1):p:=h
theorem nX{p:Prop}(h:p:=by rw[show cZ .u8 (P++ [x]++O)=cZ .u8 (P++ [x])++cZ .u8 O by simp[cZ]];exact J):p:=h
theorem ph{p:Prop}(h:p:=by simpa using he):p:=h
theorem nk{p:Prop}(h:p:=by rw[HG.out];rfl):p:=h
theorem mQ{p:Prop}(h:p:=by rw[AZ];omega):p:=h
theorem mW{p:Prop}(h:p:=by rw[Ae];omega):p:=h
theorem nc{p:Prop}(h:p:=by rw[FG];omega):p:=h
theorem my{p:Prop}(h:p:=by refine⟨size_madeCells _ _,fun i hi=> ?_⟩;simp[madeCells,hi,Nat.mod_one]):p:=h
theorem ku{p:Prop}(h:p:=by have hr:=HR.out;rw[av.out.1 h]at hr;rw[Aa (fun h=>h rfl)]at hr;exact hr):p:=h
theorem oQ{p:Prop}(h:p:=by simp only[List.length_cons];omega):p:=h
theorem jy{p:Prop}(h:p:=by have h:=HR.out;rw[Ab (.inr (.inl (HM.out.symm.trans U)))]at h;exact h):p:=h
theorem n5{p:Prop}(h:p:=by rw[show(i:Int)*(size:Int)=(y:Int) by rw[HY.out];simp,Aq _ (by omega)]):p:=h
theorem o7{p:Prop}(h:p:=by simp[intOf];omega):p:=h
theorem ja{p:Prop}(h:p:=by go_light;exact⟨h+1,j,by omega,by omega,by omega,by go_num,rfl,HX,M⟩):p:=h
theorem mY{p:Prop}(h:p:=by rw[Aq _ (by have:=HZ.out;omega)];have:=HZ.out;unfold GV at ab;omega):p:=h
theorem ox{p:Prop}(h:p:=by show _=_;rw[Ae,HP.out,Di]):p:=h
theorem pg{p:Prop}(h:p:=by simpa using h2):p:=h
theorem ka{p:Prop}(h:p:=by have h:=HR.out;rw[FZ z]at h;rw[AE];exact h):p:=h
theorem kx{p:Prop}(h:p:=by have:2 ^ W<=2 ^ 14:=Cc (by omega) hW;omega):p:=h
theorem nA{p:Prop}(h:p:=by rw[IV];omega):p:=h
theorem ke{p:Prop}(h:p:=by have h:=HT.out rfl;rw[EB (by rw[HQ.out];exact Ak _)]at h;exact h):p:=h
theorem mg{p:Prop}(h:p:=by have:=hx.1;omega):p:=h
theorem oW{p:Prop}(h:p:=by simp[cZ]):p:=h
theorem na{p:Prop}(h:p:=by rw[Bt (by omega)];exact az.out):p:=h
theorem mv{p:Prop}(h:p:=by obtain⟨p1,p2,p3⟩:=a9 h;have h2:=hT h;rw[p1,p2,p3]at h2;exact h2):p:=h
theorem mR{p:Prop}(h:p:=by rw[Aa (by simp),Aa (by omega)]):p:=h
theorem lj{p:Prop}(h:p:=by have:=H9.out j;subst this;rfl):p:=h
theorem nD{p:Prop}(h:p:=by rw[Nat.mul_add,<-hA,hb];omega):p:=h
theorem mT{p:Prop}(h:p:=by rw[Ab (.inr (.inr (by rw[<-bh.out];exact h3)))]at hr;exact hr):p:=h
theorem mS{p:Prop}(h:p:=by rw[Ab (.inr (.inl (by rw[<-bx.out];exact h2)))]at hr;exact hr):p:=h
theorem nx{p:Prop}(h:p:=by rw[HP.out];exact kZ HO.out z1):p:=h
theorem nS{p:Prop}(h:p:=by rw[i];omega):p:=h
theorem lx{p:Prop}(h:p:=by have:=HQ.out;omega):p:=h
theorem jt{p:Prop}(h:p:=by have h2:=M.out;rw[hF,HH.out];simp;omega):p:=h
theorem jf{p:Prop}(h:p:=by go_light;exact⟨i,h,by omega,by omega,by omega,rfl,rfl,HX,M⟩):p:=h
theorem mo{p:Prop}(h:p:=by intro u hu;simp at hu;rcases hu with rfl|rfl|rfl|rfl<;>rfl):p:=h
theorem nR{p:Prop}(h:p:=by rw[hy,e]):p:=h
theorem nK{p:Prop}(h:p:=by rw[hT,Ae,<-show s2=(T j).length from HS.out,hn];exact rfl):p:=h
theorem oV{p:Prop}(h:p:=by simp[Program.elem,ht]):p:=h
theorem iy{p:Prop}(h:p:=by first|trivial|rfl):p:=h
theorem nM{p:Prop}(h:p:=by rw[hT,Ae,<-show s=(T i).length from HS.out,hn];exact rfl):p:=h
theorem ow{p:Prop}(h:p:=by show _=_;rw[Ae,HL.out];rfl):p:=h
theorem mU{p:Prop}(h:p:=by rw[Ae,<-HP.out];simp;omega):p:=h
theorem km{p:Prop}(h:p:=by have h:=ag.out;rw[Aa (fun h=>h rfl),bd.out]at h;exact h):p:=h
theorem jz{p:Prop}(h:p:=by have h:=HR.out;rw[EM z]at h;exact h):p:=h
theorem pk{p:Prop}(h:p:=by unfold Bm;rw[<-HF.out,Ae];exact rfl):p:=h
theorem nQ{p:Prop}(h:p:=by rw[hq];exact(Kept.refl _ _).drewN q):p:=h
theorem nu{p:Prop}(h:p:=by rw[HO.out.cellAt i (by omega)];unfold cZ;rw[BG,hk];rfl):p:=h
theorem o6{p:Prop}(h:p:=by simp[intOf]):p:=h
theorem jx{p:Prop}(h:p:=by have h:=HF.out;rw[HN.out];exact h):p:=h
theorem jq{p:Prop}(h:p:=by have e:=av.out;rw[<-aq.out]at e;rw[HZ.out];exact e):p:=h
theorem mO{p:Prop}(h:p:=by rw[<-j.out,Ae,HL.out,Jf];exact i):p:=h
theorem lk{p:Prop}(h:p:=by have:=HF.out;omega):p:=h
theorem ly{p:Prop}(h:p:=by have:=HZ.out;omega):p:=h
theorem nV{p:Prop}(h:p:=by rw[show 7*(i+1)=7*i+7 by omega,Nat.pow_add];omega):p:=h
theorem jk{p:Prop}(h:p:=by go_light;exact⟨m+1,by omega,by omega,by go_num,G⟩):p:=h
theorem kw{p:Prop}(h:p:=by have hr:=HR.out;rw[av.out.2 h,Ab h]at hr;exact hr):p:=h
theorem lp{p:Prop}(h:p:=by have:=HM.out;simp;omega):p:=h
theorem oS{p:Prop}(h:p:=by simp;have:=ab.out;omega):p:=h
theorem mX{p:Prop}(h:p:=by rw[Am,Az hi];exact h8 _ (Fe hi)):p:=h
theorem oj{p:Prop}(h:p:=by show _<=_;rw[Ae,Ae,pZ,pZ];omega):p:=h
theorem oU{p:Prop}(h:p:=by simp[BI];omega):p:=h
theorem io{p:Prop}(h:p:=by cases M with|true=>rfl|false=>exact absurd rfl U):p:=h
theorem pj{p:Prop}(h:p:=by subst hR;exact⟨hb,fun _=>rfl,fun h=>absurd h he⟩):p:=h
theorem mN{p:Prop}(h:p:=by rw[<-bx.out];exact h2):p:=h
theorem mM{p:Prop}(h:p:=by rw[<-bh.out];exact h3):p:=h
theorem np{p:Prop}(h:p:=by rw[HN.out];omega):p:=h
theorem ki{p:Prop}(h:p:=by have h:=M.out;simp[BI];omega):p:=h
theorem md{p:Prop}(h:p:=by have:=h.mi.map.lt;simp;omega):p:=h
theorem nU{p:Prop}(h:p:=by rw[seg_length];omega):p:=h
theorem mu{p:Prop}(h:p:=by obtain⟨g,c,hv,_⟩:=h.ro.form z;exact⟨g,c,hv⟩):p:=h
theorem mL{p:Prop}(h:p:=by rw[<-HP.out];exact j):p:=h
theorem oM{p:Prop}(h:p:=by simp at hx):p:=h
theorem nN{p:Prop}(h:p:=by rw[h];exact HR.out.drewN q1):p:=h
theorem nP{p:Prop}(h:p:=by rw[he];exact ht):p:=h
theorem ng{p:Prop}(h:p:=by rw[GX];omega):p:=h
theorem mf{p:Prop}(h:p:=by have:=hb.size;omega):p:=h
theorem nw{p:Prop}(h:p:=by rw[HP.out];exact hp):p:=h
theorem nI{p:Prop}(h:p:=by rw[hF,HH.out];exact a1.out):p:=h
theorem nH{p:Prop}(h:p:=by rw[hF,HH.out];exact H8.out):p:=h
theorem oq{p:Prop}(h:p:=by show _<=w9.heap.size;omega):p:=h
theorem pi{p:Prop}(h:p:=by subst e;exact Lt.irrefl h):p:=h
theorem n8{p:Prop}(h:p:=by rw[wrap_u64];omega):p:=h
theorem oy{p:Prop}(h:p:=by show _=_;rw[Ae,L.out];rfl):p:=h
theorem lu{p:Prop}(h:p:=by have:=HP.out;omega):p:=h
theorem oA{p:Prop}(h:p:=by show _=_;simp):p:=h
theorem pd{p:Prop}(h:p:=by simpa using U):p:=h
theorem nJ{p:Prop}(h:p:=by rw[hR,<-z];exact HC.out):p:=h
theorem nE{p:Prop}(h:p:=by rw[No];exact h.1):p:=h
theorem nO{p:Prop}(h:p:=by rw[h];rfl):p:=h
theorem oi{p:Prop}(h:p:=by show _<=_;omega):p:=h
theorem mV{p:Prop}(h:p:=by rw[Ae,pZ];omega):p:=h
theorem oI{p:Prop}(h:p:=by show g≠gb;omega):p:=h
theorem oY{p:Prop}(h:p:=by simp[h]):p:=h
end
open Go.Proofs.Tryz
variable{B X b base g i k n p s x:Nat}{a c w:World}{u:Value}{o:Obj}{e t:TypeId}{xs:List Value}{arr:Array Value}{A:Option Addr}{l ls:List Nat}{most:Int}
section
open Go Go.RowKit
theorem Aa:type_of% @if_neg:=@if_neg
theorem Ab:type_of% @if_pos:=@if_pos
theorem Ae:type_of% @List.length_append:=@List.length_append
theorem Ag:type_of% @Below.refl:=@Below.refl
theorem Aj:type_of% @World.ownsRow.lt:=@World.ownsRow.lt
theorem Ak:type_of% @Nat.le_refl:=@Nat.le_refl
theorem Am:type_of% @List.getD_eq_getElem?_getD:=@List.getD_eq_getElem?_getD
theorem Aq:type_of% @IntWalk.i64_in:=@IntWalk.i64_in
theorem Ar:type_of% @Below.drew:=@Below.drew
theorem Aw:type_of% @congrArg:=@congrArg
theorem Az:type_of% @List.getElem?_eq_getElem:=@List.getElem?_eq_getElem
theorem AD:type_of% @List.length_cons:=@List.length_cons
theorem AE:type_of% @List.append_assoc:=@List.append_assoc
theorem AI:type_of% @World.ownsRow_nil:=@World.ownsRow_nil
theorem AK:type_of% @Nat.le_trans:=@Nat.le_trans
theorem AM:type_of% @List.mem_cons:=@List.mem_cons
theorem AO:type_of% @List.length_drop:=@List.length_drop
theorem AR:type_of% @Below.heap_setCell:=@Below.heap_setCell
theorem AU:type_of% @Ne.symm:=@Ne.symm
theorem AZ:type_of% @List.length_take:=@List.length_take
theorem Bb:type_of% @List.length_map:=@List.length_map
theorem Bc:type_of% @decide_eq_true:=@decide_eq_true
theorem Be:type_of% @List.mem_of_getElem?:=@List.mem_of_getElem?
theorem Bf:type_of% @Nat.add_zero:=@Nat.add_zero
theorem Bq:type_of% @IntKind.wrap_u64:=@IntKind.wrap_u64
theorem Br:type_of% @Int.toNat_natCast:=@Int.toNat_natCast
theorem Bt:type_of% @decide_eq_false:=@decide_eq_false
theorem BF:type_of% @List.mem_append:=@List.mem_append
theorem BG:type_of% @List.getElem?_map:=@List.getElem?_map
theorem BJ:type_of% @results_none:=@results_none
theorem BQ:type_of% @List.take_of_length_le:=@List.take_of_length_le
theorem BR:type_of% @List.mem_cons_of_mem:=@List.mem_cons_of_mem
theorem BV:type_of% @Bool.and_eq_true:=@Bool.and_eq_true
theorem BY:type_of% @List.mem_of_mem_drop:=@List.mem_of_mem_drop
theorem BZ:type_of% @List.append_nil:=@List.append_nil
theorem Cb:type_of% @Nat.zero_add:=@Nat.zero_add
theorem Cc:type_of% @Nat.pow_le_pow_right:=@Nat.pow_le_pow_right
theorem Cj:type_of% @List.take_add_one:=@List.take_add_one
theorem Ck:type_of% @List.mem_map:=@List.mem_map
theorem Cl:type_of% @List.map_cons:=@List.map_cons
theorem Cm:type_of% @List.flatMap_cons:=@List.flatMap_cons
theorem Cr:type_of% @Nat.zero_le:=@Nat.zero_le
theorem Cs:type_of% @Nat.lt_irrefl:=@Nat.lt_irrefl
theorem Cu:type_of% @List.mem_cons_self:=@List.mem_cons_self
theorem Cv:type_of% @List.getElem?_eq_some_iff:=@List.getElem?_eq_some_iff
theorem Cz:type_of% @bodyPost_ret:=@bodyPost_ret
theorem CG:type_of% @Calls.quiet_of_same:=@Calls.quiet_of_same
theorem CM:type_of% @Nat.mul_one:=@Nat.mul_one
theorem CV:type_of% @List.mem_of_mem_take:=@List.mem_of_mem_take
theorem CZ:type_of% @List.length_nil:=@List.length_nil
theorem Di:type_of% @List.length_replicate:=@List.length_replicate
theorem Dj:type_of% @List.drop_eq_getElem_cons:=@List.drop_eq_getElem_cons
theorem DH:type_of% @List.cons_append:=@List.cons_append
theorem DJ:type_of% @Below.heap_alloc:=@Below.heap_alloc
theorem Eh:type_of% @Nat.lt_of_lt_of_le:=@Nat.lt_of_lt_of_le
theorem Ei:type_of% @List.mem_singleton:=@List.mem_singleton
theorem Ez:type_of% @Nat.add_mul:=@Nat.add_mul
theorem EA:type_of% @List.take_append_drop:=@List.take_append_drop
theorem EB:type_of% @List.drop_of_length_le:=@List.drop_of_length_le
theorem EP:type_of% @List.map_append:=@List.map_append
theorem zY:type_of% @Nat.pow_succ:=@Nat.pow_succ
theorem Fe:type_of% @List.getElem_mem:=@List.getElem_mem
theorem Ff:type_of% @List.getElem?_eq_none:=@List.getElem?_eq_none
theorem Fo:type_of% @List.sum_cons:=@List.sum_cons
theorem Fp:type_of% @List.pairwise_cons:=@List.pairwise_cons
theorem Fq:type_of% @List.nil_append:=@List.nil_append
theorem Fs:type_of% @List.mem_range:=@List.mem_range
theorem Fu:type_of% @List.map_nil:=@List.map_nil
theorem Fv:type_of% @List.length_pos_iff:=@List.length_pos_iff
theorem Fw:type_of% @Array.getElem?_setIfInBounds:=@Array.getElem?_setIfInBounds
theorem FG:type_of% @beq_eq_false_iff_ne:=@beq_eq_false_iff_ne
theorem FH:type_of% @Nat.two_pow_pos:=@Nat.two_pow_pos
theorem FJ:type_of% @List.all_eq_true:=@List.all_eq_true
theorem Gb:type_of% @Option.getD_some:=@Option.getD_some
theorem Gc:type_of% @Nat.mul_le_mul_right:=@Nat.mul_le_mul_right
theorem Gd:type_of% @List.getElem?_take:=@List.getElem?_take
theorem Gf:type_of% @List.eq_nil_of_length_eq_zero:=@List.eq_nil_of_length_eq_zero
theorem Gx:type_of% @Nat.sub_self:=@Nat.sub_self
theorem Gy:type_of% @ByteArray.toList_eq:=@ByteArray.toList_eq
theorem GQ:type_of% @List.range_succ:=@List.range_succ
theorem GR:type_of% @List.getElem?_append_left:=@List.getElem?_append_left
theorem Hb:type_of% @Nat.mul_le_mul:=@Nat.mul_le_mul
theorem Hc:type_of% @Nat.div_le_self:=@Nat.div_le_self
theorem Hd:type_of% @List.drop_zero:=@List.drop_zero
theorem He:type_of% @IntKind.wrap_u8':=@IntKind.wrap_u8'
theorem Hf:type_of% @Int.eq_ofNat_of_zero_le:=@Int.eq_ofNat_of_zero_le
theorem Ij:type_of% @World.drewN_drewN:=@World.drewN_drewN
theorem Ik:type_of% @List.getElem?_drop:=@List.getElem?_drop
theorem Il:type_of% @List.flatMap_append:=@List.flatMap_append
theorem IR:type_of% @Nat.succ_mul:=@Nat.succ_mul
theorem IS:type_of% @Nat.add_sub_cancel_left:=@Nat.add_sub_cancel_left
theorem IT:type_of% @List.getElem?_append_right:=@List.getElem?_append_right
theorem IU:type_of% @IntWalk.wrap64_in:=@IntWalk.wrap64_in
theorem IV:type_of% @IntKind.wrap_u32':=@IntKind.wrap_u32'
theorem Jk:type_of% @Decidable.byContradiction:=@Decidable.byContradiction
theorem Jl:type_of% @Bool.eq_false_iff:=@Bool.eq_false_iff
theorem J4:type_of% @List.map_congr_left:=@List.map_congr_left
theorem J5:type_of% @List.length_singleton:=@List.length_singleton
theorem J6:type_of% @Bool.false_and:=@Bool.false_and
theorem J7:type_of% @Array.getElem?_eq_getElem:=@Array.getElem?_eq_getElem
theorem Lk:type_of% @Nat.mod_two_eq_zero_or_one:=@Nat.mod_two_eq_zero_or_one
theorem Ll:type_of% @Bool.eq_iff_iff:=@Bool.eq_iff_iff
theorem Nk:type_of% @Nat.div_div_eq_div_mul:=@Nat.div_div_eq_div_mul
theorem Nl:type_of% @Nat.and_two_pow_sub_one_eq_mod:=@Nat.and_two_pow_sub_one_eq_mod
theorem Nm:type_of% @List.sum_append:=@List.sum_append
theorem Nn:type_of% @Classical.byContradiction:=@Classical.byContradiction
theorem No:type_of% @Array.size_setIfInBounds:=@Array.size_setIfInBounds
theorem Vt:type_of% @List.length_eq_zero_iff:=@List.length_eq_zero_iff
end
open Go.Lib (hid)
set_option maxHeartbeats 1000000
set_option maxRecDepth 100000
namespace Mem
open Go.RowKit
theorem below_drewN(h:Below B a w)(n:Nat):Below B a (w.drewN n):=⟨h.os,h.tape,h.output,h.size,h.block⟩
theorem BW{p:Addr}(hp:B<=p.block)(h:Below B a w):Below B a (w.setCell p u):=h.setCell hp u
theorem nZ(hB:B<=w.heap.size)(h:Below B a w):Below B a (w.alloc o):=h.alloc hB o
theorem aZ(h:Below a a w):Below a a (w.alloc o):=h.alloc h.size o
theorem dZ{b:World}(h:Below b b c)(k:Below a a b):Below a a c:=k.trans (h.mono k.size)
theorem uZ{b:World}(h:Below b b c)(hB:B<=b.heap.size)(k:Below B a b):Below B a c:=k.trans (h.mono hB)
theorem sZ{p:Addr}(h:Below B a w)(hp:B<=p.block:=by first|(simp;done)|(simp;omega)|omega|(simp at *;omega)):Below B a (w.setCell p u):=h.setCell hp u
theorem belA(h:Below B a w)(hB:B<=w.heap.size:=by first|(simp;done)|(simp;omega)|omega|(simp at *;omega)):Below B a (w.alloc o):=h.alloc hB o
theorem tZ{b:World}(h:Below b b c)(k:Below B a b)(hB:B<=b.heap.size:=by first|(simp;done)|(simp;omega)|omega|(simp at *;omega)):Below B a c:=k.trans (h.mono hB)
theorem KN{a b:Bool}(h:a=b):Ending.returned (.bool a)= .returned (.bool b):=by rw[h]
theorem Hy{k:IntKind}{a b:Int}(h:a=b):Ending.returned (.int k a)= .returned (.int k b):=by rw[h]
def Blk(w:World)(g:Nat)(t:TypeId)(cs:Array Value):Prop:=w.heap[g]? =some (.cells cs t (0,0))
section
variable {w w':World} {g:Nat} {t:TypeId} {cs:Array Value}
theorem Blk.lt(h:Blk w g t cs):g<w.heap.size:=by
 unfold Blk at h;rcases Nat.lt_or_ge g w with k|k
 ·exact k
 ·rw[Array.getElem?_eq_none k]at h;cases h
theorem Blk.cell(h:Blk w g t cs)(i:Nat):w.cell? ⟨g,i,none⟩=cs[i]? :=by unfold Blk at h;simp[World.cell?,h]
def ib:List Value->Nat->Option Value
 |[],_=>none
 |x::_,0=>some x
 |_::l,n+1=>ib l n
theorem Blk.ia{l:List Value}(h:Blk w g t l.toArray)(i:Nat){v:Value}(e:ib l i=some v:=by exact rfl):w.cell? ⟨g,i,none⟩=some v:=by
 rw[h.cell i];simp only[List.getElem?_toArray];clear h;induction l generalizing i with
 |nil=>cases e
 |cons x l ih=>cases i with
  |zero=>exact e
  |succ i=>exact ih i e
theorem Blk.frozen(h:Blk w g t cs)(i:Nat):w.frozen? ⟨g,i,none⟩=false:=by unfold Blk at h;simp[World.frozen?,h]
theorem Blk.six{a0 a1 a2 a3 a4 a5:Value}(h:Blk w g t #[a0,a1,a2,a3,a4,a5]):w.cell? ⟨g,0,none⟩=some a0/\w.cell? ⟨g,1,none⟩=some a1/\w.cell? ⟨g,2,none⟩=some a2/\w.cell? ⟨g,3,none⟩=some a3/\w.cell? ⟨g,4,none⟩=some a4/\w.cell? ⟨g,5,none⟩=some a5:=⟨h.cell 0,h.cell 1,h.cell 2,h.cell 3,h.cell 4,h.cell 5⟩
theorem Blk.sixf(h:Blk w g t cs):w.frozen? ⟨g,0,none⟩=false/\w.frozen? ⟨g,1,none⟩=false/\w.frozen? ⟨g,2,none⟩=false/\w.frozen? ⟨g,3,none⟩=false/\w.frozen? ⟨g,4,none⟩=false/\w.frozen? ⟨g,5,none⟩=false:=⟨h.frozen 0,h.frozen 1,h.frozen 2,h.frozen 3,h.frozen 4,h.frozen 5⟩
theorem Blk.made(w:World)(t:TypeId)(cs:Array Value):Blk (w.alloc (.cells cs t)) w t cs:=heap_alloc_new w _
theorem Blk.made_at(w:World)(t:TypeId)(cs:Array Value)(hg:g=w.heap.size):Blk (w.alloc (.cells cs t)) g t cs:=by subst hg;exact Blk.made w t cs
theorem Blk.drew(h:Blk w g t cs):Blk w.drew g t cs:=h
theorem Blk.drewN(h:Blk w g t cs)(n:Nat):Blk (w.drewN n) g t cs:=h
theorem Blk.alloc(h:Blk w g t cs)(o:Obj):Blk (w.alloc o) g t cs:=(DJ w o g h.lt).trans h
theorem Blk.set(h:Blk w g t cs)(i:Nat)(u:Value):Blk (w.setCell ⟨g,i,none⟩ u) g t (cs.setIfInBounds i u):=by unfold Blk at h ⊢;simp[World.setCell,Array.getElem?_modify,h]
theorem Blk.far(h:Blk w g t cs){p:Addr}(hp:g≠p.block)(u:Value):Blk (w.setCell p u) g t cs:=(AR w p u g hp).trans h
theorem Blk.below(h:Blk w g t cs)(hb:Below B w w')(hg:g<B):Blk w' g t cs:=(hb.block g hg).trans h
theorem Blk.step(h:Blk w g t cs)(hb:Below w w w'):Blk w' g t cs:=h.below hb h.lt
theorem Blk.grown{row:Option Nat}(h:Blk w g t cs)(hb:w.grownBy w' row)(hg:some g≠row):Blk w' g t cs:=(hb.block g h.lt hg).trans h
theorem Blk.apart{g':Nat}{t':TypeId}{j:Array Value}(h:Blk w g t cs)(h':Blk w g' t' j)(i:t≠t'):g≠g':=by intro e;subst e;unfold Blk at h h';rw[h]at h';injection h' with h';injection h' with _ ht;exact i ht
end
def Wf(A:Option Addr)(n c:Nat):Prop:=(A=none->n=0/\c=0)/\n<=c
theorem Wf.nil:Wf none 0 0:=⟨fun _=>⟨rfl,rfl⟩,Ak _⟩
theorem Wf.some{a:Addr}{c:Nat}(h:n<=c):Wf (Option.some a) n c:=⟨(fun h=>by cases h),h⟩
def Row(w:World)(B:Nat)(A:Option Addr)(n s:Nat)(f:Nat->Nat->Value):Prop:=
 0<n->∃b off,A=some ⟨b,off,none⟩/\b<B/\∀i j,i<n->j<s->w.cell? ⟨b,off+(i*s+j),none⟩=some (f i j)
section
variable {w w':World} {B B' n s:Nat} {A:Option Addr} {f g:Nat->Nat->Value}
theorem Row.zero:Row w B A 0 s f:=fun h=>absurd h mw
theorem Row.keep(h:Row w B A n s f)(hk:∀p:Addr,p.block<B->w'.cell? p=w.cell? p):Row w' B A n s f:=fun hn=>by obtain⟨b,y,e,hb,hc⟩:=h hn;exact⟨b,y,e,hb,fun i j hi hj=>(hk _ hb).trans (hc i j hi hj)⟩
theorem Row.below(h:Row w B A n s f)(hb:Below B w w'):Row w' B A n s f:=h.keep fun _ hp=>hb.cell hp
theorem Row.mono(h:Row w B A n s f)(hB:B<=B'):Row w B' A n s f:=fun hn=>by obtain⟨b,i,e,hb,hc⟩:=h hn;exact⟨b,i,e,mw,hc⟩
theorem Row.drewN(h:Row w B A n s f)(k:Nat):Row (w.drewN k) B A n s f:=h
theorem Row.congr(h:Row w B A n s f)(y:∀i j,i<n->j<s->f i j=g i j):Row w B A n s g:=fun hn=>by obtain⟨b,z,e,hb,hc⟩:=h hn;exact⟨b,z,e,hb,fun i j hi hj=>by rw[<-y i j hi hj];exact hc i j hi hj⟩
theorem Row.alloc(h:Row w B A n s f)(hB:B<=w.heap.size)(o:Obj):Row (w.alloc o) B A n s f:=h.keep fun p hp=>World.cell?_alloc_lt (w:=w) (a:=p) (o:=o) mw
theorem Row.of_blk{cs:Array Value}(h:Blk w b t cs)(hB:b<B)(hf:∀i j,i<n->j<s->cs[i*s+j]? =some (f i j)):Row w B (some ⟨b,0,none⟩) n s f:=
 fun _=>⟨b,0,rfl,hB,fun i j hi hj=>by rw[Cb,h.cell];exact hf i j hi hj⟩
theorem Row.of_own{v:Value}{c:Nat}(h:w.ownsRow base e s v n xs)(hv:v= .slice A n c)(hf:∀i j,i<n->j<s->xs[i*s+j]? =some (f i j)):Row w w A n s f:=fun hn=>by
 rcases h.2 with ⟨_,h0⟩|⟨g,E,cur,z,_,hh,G,_,J,y⟩
 ·omega
 ·rw[hv]at z;injection z with e1 e2 e3;refine⟨g,0,e1,Blk.lt hh,fun i j hi hj=> ?_⟩;rw[Cb,Blk.cell hh];have:=hf i j hi hj;rw[<-y,Gd]at this;split at this
  ·simpa using this
  ·cases this
end
theorem bZ{v:Value}(h:w.ownsRow base e s v n xs):∃A c,v= .slice A n c:=by
 rcases h.2 with ⟨rfl,rfl⟩|⟨g,i,cur,rfl,_⟩
 ·exact⟨_,_,rfl⟩
 ·exact⟨_,_,rfl⟩
def ints(k:IntKind)(l:List Int):Array Value:=(l.map (Value.int k)).toArray
theorem KJ(k:IntKind)(l:List Int)(i:Nat)(h:i<l.length):(ints k l)[i]? =some (.int k (l.getD i 0)):=by simp[ints,h]
theorem ints_set(k:IntKind)(l:List Int)(i:Nat)(x:Int):(ints k l).setIfInBounds i (.int k x)=ints k (l.set i x):=by simp[ints,List.map_set]
end Mem
namespace Canon
open Go.RowKit Mem
def cnt(ls:List Nat)(l:Nat):Nat:=ls.countP (fun x=>decide (x=l))
def cn(ls:List Nat)(l:Nat):Nat:=if l=0 then 0 else cnt ls l
theorem Ks(l:Nat):cnt [] l=0:=rfl
theorem G6(ls:List Nat)(x l:Nat):cnt (ls++ [x]) l=cnt ls l+if x=l then 1 else 0:=by unfold cnt;rw[List.countP_append];by_cases h:x=l<;>simp[h]
theorem Nw(ls:List Nat)(l:Nat):cnt ls l<=ls.length:=List.countP_le_length
theorem JQ(ls:List Nat)(l:Nat):cn ls l<=ls.length:=by
 unfold cn;split
 ·omega
 ·exact Nw ls l
theorem If{α:Type}{l:List α}{x:α}(h:l[k]? =some x):l.take (k+1)=l.take k++ [x]:=by rw[Cj,h];rfl
def CT(ls:List Nat):Nat->Nat
 |0=>0
 |l+1=>CT ls l+cn ls l*2 ^ (15-l)
def ET(ls:List Nat):Nat->Nat
 |0=>0
 |l+1=>ET ls l+cn ls l
def JN(ls:List Nat):Nat:=(ls.map fun x=>if x=0 then 0 else 2 ^ (15-x)).sum
def used(ls:List Nat):Nat:=ls.countP (fun x=>decide (x≠0))
theorem Su(x:Nat)(ls:List Nat)(l:Nat):cn (x :: ls) l=cn ls l+if x≠0/\x=l then 1 else 0:=by
 unfold cn cnt;by_cases hl:l=0
 ·subst hl;simp
 ·rw[Aa hl,Aa hl,List.countP_cons];by_cases hx:x=l
  ·simp[hx,hl]
  ·simp[hx]
theorem Qc:∀l,CT [] l=0
 |0=>rfl
 |l+1=>by rw[CT,Qc l];simp[cn,Ks]
theorem Vp:∀l,ET [] l=0
 |0=>rfl
 |l+1=>by rw[ET,Vp l];simp[cn,Ks]
theorem U6(x:Nat)(ls:List Nat):∀l,CT (x :: ls) l=CT ls l+if x≠0/\x<l then 2 ^ (15-x)else 0
 |0=>by simp[CT]
 |l+1=>by
  rw[CT,U6 x ls l,CT,Su,Ez];by_cases h0:x=0
  ·simp[h0]
  ·by_cases h1:x=l
   ·subst h1;simp[h0];omega
   ·by_cases h2:x<l
    ·have:x<l+1:=mw;simp[h0,h1,h2,this];omega
    ·have:¬x<l+1:=mw;simp[h1,h2,this]
theorem UT(x:Nat)(ls:List Nat):∀l,ET (x :: ls) l=ET ls l+if x≠0/\x<l then 1 else 0
 |0=>by simp[ET]
 |l+1=>by
  rw[ET,UT x ls l,ET,Su];by_cases h0:x=0
  ·simp[h0]
  ·by_cases h1:x=l
   ·subst h1;simp[h0];omega
   ·by_cases h2:x<l
    ·have:x<l+1:=mw;simp[h0,h1,h2,this];omega
    ·have:¬x<l+1:=mw;simp[h1,h2,this]
theorem L7:∀ (ls:List Nat),(∀x∈ls,x<=15)->CT ls 16=JN ls
 | [],_=>by rw[Qc];rfl
 |x :: ls,h=>by
  have h1:=h x oK;rw[U6,L7 ls (fun y hy=>h y (by simp[hy]))];unfold JN;rw[Cl,Fo];by_cases h0:x=0
  ·simp[h0]
  ·have:x<16:=mw;simp[h0,this];omega
theorem MX:∀ (ls:List Nat),(∀x∈ls,x<=15)->ET ls 16=used ls
 | [],_=>by rw[Vp];rfl
 |x :: ls,h=>by
  have h1:=h x oK;rw[UT,MX ls (fun y hy=>h y (by simp[hy]))];unfold used;rw[List.countP_cons];by_cases h0:x=0
  ·simp[h0]
  ·have:x<16:=mw;simp[h0,this]
def okB(ls:List Nat):Bool:=decide (ls.length<=300)&&ls.all (fun x=>decide (x<=15))&&(decide (used ls=0) || decide (used ls=1/\cnt ls 1=1) || decide (JN ls=32768))
def fst(ls:List Nat):Nat->Nat
 |0=>0
 |l+1=>2*(fst ls l+cn ls l)
def code(ls:List Nat)(s:Nat):Nat:=let x:=ls.getD s 0;if x=0 then 0 else fst ls x+cnt (ls.take s) x
def codes(ls:List Nat):List Nat:=(List.range ls.length).map (code ls)
theorem PM(ls:List Nat):∀l,fst ls l+2*ls.length<=2 ^ (l+1)*ls.length
 |0=>by simp[fst]
 |l+1=>by
  have h1:=PM ls l;have h2:=JQ ls l;have h3:2 ^ (l+1+1)*ls.length=2*(2 ^ (l+1)*ls.length):=by rw[zY 2 (l+1),Nat.mul_comm (2 ^ (l+1)) 2,Nat.mul_assoc]
  rw[fst,h3];omega
def jZ(k:IntKind)(l:List Nat):Nat->Nat->Value:=fun i _=> .int k (l.getD i 0:Nat)
def Cnts(f:Nat->Nat)(n:Nat)(arr:Array Value):Prop:=arr.size=n/\∀l,l<n->arr[l]? =some (.int .i64 (f l))
theorem Cnts.set{f g:Nat->Nat}{v:Nat}(h:Cnts f n arr)(hv:g x=v)(ho:∀l,l≠x->g l=f l):Cnts g n (arr.setIfInBounds x (.int .i64 (v:Nat))):=by
 refine⟨nE,fun l hl=> ?_⟩;rw[Fw];by_cases e:x=l
 ·subst e;rw[Ab rfl,Ab lz,hv]
 ·rw[Aa e,h.2 l hl,ho l (AU e)]
end Canon
namespace Canon
open Go.RowKit Mem
theorem Wb{cs:Array Value}{v:Value}(h:cs[i]? =some v):cs.setIfInBounds i v=cs:=by
 apply Array.ext_getElem?
 intro j;rw[Fw];split
 ·rename_i e;subst e;obtain⟨hi,_⟩:=Array.getElem?_eq_some_iff.1 h;rw[Ab hi,h]
 ·rfl
theorem Mb{g:Nat}{t:TypeId}{cs:Array Value}:∀ (vs:List Value) (o:Nat) (w:World),Blk w g t cs->(∀j v,vs[j]? =some v->cs[o+j]? =some v)->Blk (w.setCells g o vs) g t cs
 | [],_,_,h,_=>h
 |v :: vs,o,w,h,hc=>by
  refine Mb vs (o+1) _ ?_ (fun j u hu=>by rw[show o+1+j=o+(j+1) by omega];exact hc (j+1) u hu);have:=h.set o v
  rwa [Wb (by simpa using hc 0 v rfl)]at this
theorem JB{B g:Nat}{a:World}(hB:B<=g):∀ (vs:List Value) (o:Nat) (w:World),Below B a w->Below B a (w.setCells g o vs)
 | [],_,_,h=>h
 |_ :: vs,o,_,h=>JB hB vs (o+1) _ (BW (p:=⟨g,o,none⟩) hB h)
theorem Kt{cs:Array Value}(h:Blk w g t cs):w.there g 0 cs.size:=fun j hj=>by rw[Cb];exact⟨by rw[h.cell,J7 hj];rfl,h.frozen j⟩
theorem Cnts.one{f:Nat->Nat}(h:Cnts f n arr):arr.all (·.oneCell')=true:=by rw[Array.all_eq_true];intro i hi;have:=h.2 i lz;rw[J7 hi]at this;injection this with this;rw[this];rfl
theorem Cnts.zero:Cnts (fun _=>0) 16 #[ij,ij,ij,ij,ij,ij,ij,ij,ij,ij,ij,ij,ij,ij,ij,ij]:=by
 refine⟨rfl,fun l hl=> ?_⟩;have:l=0∨l=1∨l=2∨l=3∨l=4∨l=5∨l=6∨l=7∨l=8∨l=9∨l=10∨l=11∨l=12∨l=13∨l=14∨l=15:=mw
 rcases this with rfl|rfl|rfl|rfl|rfl|rfl|rfl|rfl|rfl|rfl|rfl|rfl|rfl|rfl|rfl|rfl<;>rfl
theorem results_cell_tmp{P:Program}{fn:Func}{p q:Tmp}{ty:TypeId}(h:fn.results=#[.cell p ty, .tmp q])(i:Array Value)(w:World)(g:Nat)(t:TypeId)(cs:Array Value)(d:TypeDesc)(u:Value)
 (hp:i.getD p undef= .pointer (some ⟨g,0,none⟩))(hq:i.getD q undef=u)(hg:Blk w g t cs)
 (hu:P.underlying ty=some d)(hd:(match d with| .struct _| .array _ _=>true|_=>false)=true)(hi:(P.info? ty).map (·.size)=some cs.size):
 (results fn i).run P w= .ok (.tuple #[.agg cs,u]) w:=by
 have j:i[p]?.getD undef= .pointer (some ⟨g,0,none⟩):=by simpa using hp
 have y:i[q]?.getD undef=u:=by simpa using hq
 simp[results,h,j,y,asAddr,run_loadVar_row w g t ty cs (0,0) d hg hu hd hi]
theorem JW:(prog.info? 442).map (·.size)=some 16:=mr
def De(ls:List Nat):Bool:=decide (ls.length<=300)&&ls.all (fun x=>decide (x<=15))
def CountPost(ls:List Nat)(w:World)(e:Ending)(w':World):Prop:=
 ∃ (arr:Array Value) (f:Nat->Nat),e= .returned (.tuple #[.agg arr, .bool (De ls)])/\Cnts f 16 arr/\(∀l,f l<=300)/\(De ls=true->f=cn ls)/\Below w w w'
theorem Cx{k:IntKind}(h:Row w B A n 1 (jZ k ls))(hn:ls.length=n)(hi:i<n):
 ∃b j x,A=some ⟨b,j,none⟩/\b<B/\ls[i]? =some x/\w.cell? ⟨b,j+i,none⟩=some (.int k (x:Nat)):=by
 obtain⟨b,j,e,hb,hc⟩:=h mw;have hl:i<ls.length:=mw
 have h1:=hc i 0 hi mw;simp only[jZ,Nat.mul_one,Nat.add_zero,List.getD_eq_getElem?_getD,List.getElem?_eq_getElem hl,Option.getD_some]at h1;exact⟨b,j,ls[i],e,hb,Az hl,h1⟩
theorem UH(w:World)(A:Option Addr)(n c:Nat)(ls:List Nat)(hn:ls.length=n)(hN:n<=9223372036854775807)(ha:Row w w A n 1 (jZ .u8 ls)):
 Calls prog 349 #[.slice A n c] w (CountPost ls w):=by
 have HN:=hid hn;clear hn;by_cases aw:n<=300
 ·have hd:=ig (300<n)
  go_enter func349,ntmps349;go_wp2_with fail;go_loopw [12] (fun i wr=>∃ (k:Nat) (arr:Array Value),k<=n/\i= .int .i64 k/\Blk wr w 442 arr/\Hid (Cnts (cnt (ls.take k)) 16 arr)/\Hid (∀x∈ls.take k,x<=15)/\Below w w wr) (fun i _=>n-(intOf i).toNat)
  case atStart=>exact⟨0,_,mw,rfl,Blk.made _ _ _,Cnts.zero,fun x hx=>oM,aZ (Ag _ _)⟩
  case round=>
   obtain⟨k,arr,hk,rfl,blk,G,ai,N⟩:=hrel;have ae:(prog.info? 442).map (·.size)=some arr.size:=(by rw[G.out.1];exact JW);have HI:=hid ae;clear ae;have an:=blk.frozen 0;by_cases av:k<n
   ·obtain⟨b,az,x,rfl,ay,hx,c0⟩:=Cx (ha.below N) HN.out av;have ak:=If hx;have HX:=hid hx;have ag:=hid ak;clear hx ak;by_cases ar:15<x
    ·have L:De ls=false:=(by unfold De;have:ls.all (fun x=>decide (x<=15))=false:=(by rw[List.all_eq_false];exact⟨x,Be HX.out,by simpa using ar⟩);rw[this,Bool.and_false]);have HB:=hid L;clear L
     go_wp2_with(first
      |(refine wpList_load_row rfl 442 (.tmp 2) rfl w.heap.size mz _ arr (0,0) _ blk underlying442 rfl HI.out ?_)
      |(refine wpList_store_mid rfl 442 (.tmp 2) _ rfl w.heap.size 0 arr mz mz (Kt blk) HI.out G.out.one ?_))
     have M:=Mb arr.toList 0 wr blk (fun j v hv=>by rw[Cb];simpa using hv);refine Cz (results_cell_tmp rfl _ _ w.heap.size _ arr _ (.bool false) rfl rfl M underlying442 rfl HI.out) rfl ⟨arr,cnt (ls.take k),by rw[HB.out],G.out,fun l=> ?_,(fun h=>by rw[HB.out]at h;cases h),JB (Ak _) _ _ _ N⟩;have h1:=Nw (ls.take k) l;rw[AZ]at h1;omega
    ·have ab:=G.out.2 x mw;have c1:=blk.cell x;rw[ab]at c1;have f1:=blk.frozen x;have h1:=Nw (ls.take k) x;rw[AZ]at h1
     have aj:Cnts (cnt (ls.take (k+1))) 16 (arr.setIfInBounds x (.int .i64 ((cnt (ls.take k) x+1:Nat):Int))):=by
      refine G.out.set ?_ fun l hl=> ?_
      ·rw[ag.out,G6,Ab rfl]
      ·rw[ag.out,G6,Aa (fun e=>hl e.symm)];rfl
     generalize cnt (ls.take k) x=y at *;have aq:=hid aj
     have al:∀z∈ls.take (k+1),z<=15:=by
      intro z hz;rw[ag.out,BF,Ei]at hz;rcases hz with hz|rfl
      ·exact ai.out z hz
      ·omega
     have au:=hid al;clear ab aj al;have x1:(x:Int)<16:=mw;have x0:(0:Int)<=(x:Int):=mw;go_wp2_with fail;go_roundw
     case rel=>go_light;exact⟨k+1,_,mw,jp,blk.set x _,aq,au,BW (p:=⟨w.heap.size,x,none⟩) (Ak _) N⟩
     case measure=>exact jo
   ·obtain rfl:k=n:=by omega
    have U:ls.take k=ls:=BQ lq;have Y:De ls=true:=(by have:=ai.out;rw[U]at this;unfold De;rw[BV,FJ];exact⟨by have:=HN.out;simp;omega,fun x hx=>by simpa using this x hx⟩);have HG:=hid Y;have hc:=G.out;rw[U]at hc;have h0:Cnts (cn ls) 16 (arr.setIfInBounds 0 (.int .i64 ((0:Nat):Int))):=hc.set (by simp[cn]) (fun l hl=>by simp[cn,hl]);have H0:=hid h0;have ah:=blk.cell 0;rw[hc.2 0 mw]at ah;generalize cnt ls 0=y at ah;have J:=blk.set 0 (.int .i64 0);have ax:=J.frozen 0;have Q:(prog.info? 442).map (·.size)=some (arr.setIfInBounds 0 (.int .i64 0)).size:=(by rw[No];exact HI.out);have Z:=hid Q;have ac:=hid h0.one;clear U Y hc h0 Q;obtain⟨E,aa⟩:=ii (arr.setIfInBounds 0 (.int .i64 0));have am:Hid (Cnts (cn ls) 16 E):=(by rw[aa];exact H0);have af:Hid (E.all (·.oneCell')=true):=(by rw[aa];exact ac);rw[<-aa]at J Z;clear H0 ac aa
    go_wp2_with(first
     |(refine wpList_load_row rfl 442 (.tmp 2) rfl w.heap.size mz _ E (0,0) _ J underlying442 rfl Z.out ?_)
     |(refine wpList_store_mid rfl 442 (.tmp 2) _ rfl w.heap.size 0 E mz mz (Kt J) Z.out af.out ?_))
    have M:=Mb E.toList 0 _ J (fun j v hv=>by rw[Cb];simpa using hv);refine Cz (results_cell_tmp rfl _ _ w.heap.size _ E _ (.bool true) rfl rfl M underlying442 rfl Z.out) rfl ⟨E,cn ls,by rw[HG.out],am.out,fun l=> ?_,(fun _=>rfl),JB (Ak _) _ _ _ (BW (p:=⟨w,0,none⟩) (Ak _) N)⟩;have h1:=JQ ls l;have:=HN.out;omega
 ·have L:De ls=false:=by unfold De;have:decide (ls.length<=300)=false:=(by simp;have:=HN.out;omega);rw[this,J6]
  have HB:=hid L;clear L;have blk:Blk (w.alloc (.cells #[ij,ij,ij,ij,ij,ij,ij,ij,ij,ij,ij,ij,ij,ij,ij,ij] 442)) w 442 _:=Blk.made _ _ _;go_enter func349,ntmps349
  go_wp2_with(first
   |(refine wpList_load_row rfl 442 (.tmp 2) rfl w.heap.size mz _ _ (0,0) _ blk underlying442 rfl JW ?_)
   |(refine wpList_store_mid rfl 442 (.tmp 2) _ rfl w.heap.size 0 _ mz mz (Kt blk) JW Cnts.zero.one ?_))
  have M:=Mb _ 0 _ blk (fun j v hv=>by rw[Cb];simpa using hv);refine Cz (results_cell_tmp rfl _ _ w.heap.size _ _ _ (.bool false) rfl rfl M underlying442 rfl JW) rfl ⟨_,_,by rw[HB.out],Cnts.zero,fun l=>mw,(fun h=>by rw[HB.out]at h;cases h),JB (Ak _) _ _ _ (aZ (Ag _ _))⟩
end Canon
namespace Canon
open Go.RowKit Mem
def wsF(f:Nat->Nat):Nat->Nat
 |0=>0
 |l+1=>wsF f l+(if l=0 then 0 else f l)*2 ^ (15-l)
def wnF(f:Nat->Nat):Nat->Nat
 |0=>0
 |l+1=>wnF f l+(if l=0 then 0 else f l)
theorem PE(ls:List Nat):∀l,wsF (cn ls) l=CT ls l
 |0=>rfl
 |l+1=>by rw[wsF,CT,PE ls l];by_cases h:l=0<;>simp[h,cn]
theorem Pv(ls:List Nat):∀l,wnF (cn ls) l=ET ls l
 |0=>rfl
 |l+1=>by rw[wnF,ET,Pv ls l];by_cases h:l=0<;>simp[h,cn]
theorem Sg(f:Nat->Nat)(hf:∀l,f l<=300):∀l,wsF f l<=l*9830400
 |0=>by simp[wsF]
 |l+1=>by have h1:=Sg f hf l;have h2:=hf l;have h3:2 ^ (15-l)<=2 ^ 15:=Cc mw mw;have h4:(if l=0 then 0 else f l)*2 ^ (15-l)<=300*32768:=Hb (by split<;>omega) h3;rw[wsF,Ez];omega
theorem RW(f:Nat->Nat)(hf:∀l,f l<=300):∀l,wnF f l<=l*300
 |0=>by simp[wnF]
 |l+1=>by
  have h1:=RW f hf l;have h2:=hf l;have h3:(if l=0 then 0 else f l)<=300:=by split<;>omega
  rw[wnF,Ez];omega
theorem gO(w:World)(arr:Array Value)(f:Nat->Nat)(hc:Cnts f 16 arr)(hf:∀l,f l<=300):
 Calls prog 350 #[.agg arr] w fun e w'=>e= .returned (.tuple #[.int .i64 (wsF f 16:Nat), .int .i64 (wnF f 16:Nat)])/\Below w w w':=by
 have HC:=hid hc;have HF:=hid hf;have G:=hc.1;have Z:=hid G;clear hc hf G;go_enter func350,ntmps350;go_wp2_with fail;go_loopw [2,3,4] (fun s n i wr=>∃ (l S N:Nat),1<=l/\l<=16/\i= .int .i64 l/\s= .int .i64 S/\n= .int .i64 N/\Hid (S=wsF f l)/\Hid (N=wnF f l)/\S<=157286400/\N<=4800/\Blk wr w 442 arr/\Below w w wr) (fun _ _ i _=>16-(intOf i).toNat)
 case atStart=>exact⟨1,0,0,mw,mw,rfl,rfl,rfl,rfl,rfl,mw,mw,Blk.made _ _ _,aZ (Ag _ _)⟩
 case round=>
  obtain⟨l,S,N,Q,U,rfl,rfl,rfl,hS,hN,bS,bN,blk,h⟩:=hrel;by_cases M:l<16
  ·have c0:=blk.cell l;rw[HC.out.2 l M]at c0;have Y:=HF.out l;have E:S+f l*2 ^ (15-l)=wsF f (l+1):=(by rw[wsF,Aa mw,hS.out]);have j:N+f l=wnF f (l+1):=(by rw[wnF,Aa mw,hN.out]);have b1:=Sg f HF.out (l+1);have b2:=RW f HF.out (l+1);rw[<-E]at b1;rw[<-j]at b2;have J:=hid E;have L:=hid j;clear E j;generalize f l=y at *;have x0:(0:Int)<=(l:Int):=mw;have x1:(l:Int)<16:=mw;go_wp2_with fail;go_roundw
   case rel=>go_light;have b3:(l+1)*9830400<=16*9830400:=Gc _ mw;have b4:(l+1)*300<=16*300:=Gc _ mw;generalize hz:y*2 ^ (15-l)=z at *;have e1:wrap64 ((y:Int)*2 ^ (15-l))=(z:Int):=(by have:((y:Int)*2 ^ (15-l))=((z:Nat):Int):=(by rw[<-hz];simp);rw[this];exact IU _ ⟨mw,mw⟩);have e2:wrap64 ((S:Int)+(z:Int))=((S+z:Nat):Int):=(by rw[IU _ ⟨mw,mw⟩];simp);exact⟨l+1,S+z,N+y,mw,mw,jp,by rw[e1,e2],jp,J,L,mw,mw,blk,h⟩
   case measure=>exact jo
  ·obtain rfl:l=16:=by omega
   go_wp2_with fail;go_ret2;go_light;exact⟨by rw[<-hS.out,<-hN.out];rfl,h⟩
theorem N5(h:De ls=true):ls.length<=300/\∀x∈ls,x<=15:=by unfold De at h;rw[BV,FJ]at h;exact⟨by simpa using h.1,fun x hx=>by simpa using h.2 x hx⟩
def GI(ls:List Nat):Int:=if okB ls=true then 0 else 7
theorem UE(h:De ls=false):okB ls=false:=by unfold okB;unfold De at h;rw[h,J6]
theorem Yv(h:De ls=true):okB ls=(decide (ET ls 16=0) || decide (ET ls 16=1/\cn ls 1=1) || decide (CT ls 16=32768)):=by obtain⟨_,h2⟩:=N5 h;unfold okB;unfold De at h;rw[h,Bool.true_and,L7 ls h2,MX ls h2];rfl
theorem blk_over{g:Nat}{t:TypeId}:∀ (vs pre i:List Value) (w:World),i.length=vs.length->Blk w g t (pre++i).toArray->Blk (w.setCells g pre.length vs) g t (pre++vs).toArray
 | [],pre,i,w,hl,h=>by have:i= []:=Gf hl;subst this;exact h
 |v :: vs,pre,[],w,hl,h=>by simp at hl
 |v :: vs,pre,x :: i,w,hl,h=>by
  have h1:=h.set pre.length v
  have e1:(pre++x :: i).toArray.setIfInBounds pre.length v=((pre++ [v])++i).toArray:=by
   apply Array.ext'
   simp
  rw[e1]at h1;have:=blk_over vs (pre++ [v]) i _ (by simpa using hl) h1;simpa[World.setCells]using this
theorem Uu{cs:Array Value}(h:Blk w g t cs)(hs:arr.size=cs.size):Blk (w.setCells g 0 arr.toList) g t arr:=by have:=blk_over (g:=g) (t:=t) arr.toList [] cs.toList w (by simp[hs]) pf;simpa using this
theorem Ug(ls:List Nat)(f:Nat->Nat)(hg:De ls=true->f=cn ls):GI ls=if De ls=true/\(wnF f 16=0∨(wnF f 16=1/\f 1=1)∨wsF f 16=32768)then 0 else 7:=by
 unfold GI;cases hb:De ls
 ·rw[UE hb];simp
 ·rw[Yv hb,hg hb,PE,Pv];by_cases h1:ET ls 16=0<;>by_cases h2:(ET ls 16=1/\cn ls 1=1)<;>by_cases h3:CT ls 16=32768<;>simp[h1,h2,h3]
theorem NO(w:World)(A:Option Addr)(n c:Nat)(ls:List Nat)(hn:ls.length=n)(hN:n<=9223372036854775807)(ha:Row w w A n 1 (jZ .u8 ls)):
 Calls prog 317 #[.slice A n c] w fun e w'=>e= .returned (.int .i64 (GI ls))/\Below w w w':=by
 have C:=hid (UH w A n c ls hn hN ha);clear hn ha;go_enter func317,ntmps317;go_wp2_with fail;refine C.out.mono ?_;rintro e w1 ⟨arr,f,rfl,hc,hf,hg,E⟩;have z:arr.size=16:=hc.1;have U:=Ug ls f hg;have M:Blk (w1.alloc (.cells #[ij,ij,ij,ij,ij,ij,ij,ij,ij,ij,ij,ij,ij,ij,ij,ij] 442)) w1 442 _:=Blk.made _ _ _;have i:=Uu (arr:=arr) M (by rw[z];rfl);have N:(w1.alloc (.cells #[ij,ij,ij,ij,ij,ij,ij,ij,ij,ij,ij,ij,ij,ij,ij,ij] 442)).there w1 0 arr.size:=by rw[z];exact Kt M
 have L:(prog.info? 442).map (·.size)=some arr.size:=by rw[z];exact JW
 have h:Below w w ((w1.alloc (.cells #[ij,ij,ij,ij,ij,ij,ij,ij,ij,ij,ij,ij,ij,ij,ij,ij] 442)).setCells w1 0 arr.toList):=
  JB E.size _ _ _ (nZ E.size E)
 have Q:=hid hc.one;have J:=hid L;have HC:=hid hc;have HF:=hid hf;have j:=hid U;clear z L hc hf U hg M;go_upto_region 2 with (refine wpList_store_mid rfl 442 (.tmp 3) (.tmp 10) rfl w1.heap.size 0 arr mz mz N J.out Q.out ?_);have aa:w1.heap.size<(World.heap ((w1.alloc (.cells #[ij,ij,ij,ij,ij,ij,ij,ij,ij,ij,ij,ij,ij,ij,ij,ij] 442)).setCells w1 0 arr.toList)).size:=i.lt;clear N;generalize (w1.alloc (.cells #[ij,ij,ij,ij,ij,ij,ij,ij,ij,ij,ij,ij,ij,ij,ij,ij] 442)).setCells w1 0 arr.toList=w2 at *;go_wp2_with(refine wpList_load_row rfl 442 (.tmp 3) rfl w1.heap.size mz _ arr (0,0) _ i underlying442 rfl J.out ?_);refine(gO w2 arr f HC.out HF.out).mono ?_;rintro e w3 ⟨rfl,Y⟩;have Z:=i.step Y;have G:Below w w w3:=uZ Y h.size h;have c1:=Z.cell 1;rw[HC.out.2 1 mw]at c1;generalize f 1=y at *;generalize wnF f 16=wn at *;generalize wsF f 16=ws at *;clear C E i h;cases hgood:De ls
 ·rw[hgood]at j;go_wp2_with fail;go_ret;refine⟨Hy ?_,G⟩;rw[j.out];simp
 ·rw[hgood]at j;go_wp2_with fail
  all_goals
   go_ret;refine⟨Hy ?_,G⟩;rw[j.out];go_light;simp only[true_and]
   first|(rw[Ab mw];done)|(rw[Aa mw];done)|skip
  all_goals
   simp only[bne_iff_ne,ne_eq,bne_eq_false_iff_eq]at *
   first|(rw[Ab mw];done)|(rw[Aa mw];done)
end Canon
namespace Recs
open Go.RowKit Mem
structure Rec where
 time:Int
 level:Int
 source:ByteArray
 text:ByteArray
def FP:Rec:=⟨0,0, .empty, .empty⟩
def BP(l:List Rec):Nat->Nat->Value:=fun i j=>match j with
 |0=> .int .u64 (l.getD i FP).time
 |1=> .int .u8 (l.getD i FP).level
 |2=> .string (l.getD i FP).source
 |_=> .string (l.getD i FP).text
def I5(a b:Rec):Bool:=a.time==b.time&&(a.level==b.level&&(a.source.toList==b.source.toList&&a.text.toList==b.text.toList))
theorem T3{a b:ByteArray}(h:a.toList=b.toList):a=b:=by
 have h':a.data.toList=b.data.toList:=by rw[<-Gy,<-Gy];exact h
 cases a;cases b
 simp at h';rw[h']
theorem NI(a b:Rec):I5 a b=true↔a=b:=by
 constructor
 ·intro h;simp only[I5,Bool.and_eq_true,beq_iff_eq]at h;obtain⟨h1,h2,h3,h4⟩:=h;cases a;cases b;simp only at h1 h2 h3 h4;rw[h1,h2,T3 h3,T3 h4]
 ·intro h;subst h;simp[I5]
instance:DecidableEq Rec:=fun a b=>if h:I5 a b=true then .isTrue ((NI a b).1 h)else .isFalse fun e=>h ((NI a b).2 e)
def weigh(r:Rec):Int:=16+r.source.size+r.text.size
def Bp(l:List Rec):Int:=(l.map weigh).foldl (·+ ·) 0
theorem Kq(l:List Int):∀a:Int,l.foldl (·+ ·) a=a+l.foldl (·+ ·) 0:=by
 induction l with
 |nil=>intro a;simp
 |cons x l ih=>intro a;simp only[List.foldl_cons];rw[ih (a+x),ih (0+x)];omega
theorem Se(l:List Rec)(r:Rec):Bp (l++ [r])=Bp l+weigh r:=by simp[Bp]
theorem J3:Bp []=0:=rfl
end Recs
namespace Recs
open Go.RowKit Mem
theorem fX(a b:Rec)(w:World):(binOp .eql 43 (.agg #[.int .u64 a.time, .int .u8 a.level, .string a.source, .string a.text]) (.agg #[.int .u64 b.time, .int .u8 b.level, .string b.source, .string b.text])).run prog w= .ok (.bool (I5 a b)) w:=by
 go_simp
 simp only[I5];by_cases h1:a.time=b.time<;>by_cases h2:a.level=b.level<;>by_cases h3:a.source.toList=b.source.toList<;>by_cases h4:a.text.toList=b.text.toList<;>simp[h1,h2,h3,h4]
theorem Row.rec{l:List Rec}(h:Row w B A n 4 (BP l))(hn:l.length=n)(hk:k<n):
 ∃b i r,A=some ⟨b,i,none⟩/\b<B/\l[k]? =some r/\w.cell? ⟨b,i+k*4,none⟩=some (.int .u64 r.time)/\w.cell? ⟨b,i+k*4+1,none⟩=some (.int .u8 r.level)/\
  w.cell? ⟨b,i+k*4+2,none⟩=some (.string r.source)/\w.cell? ⟨b,i+k*4+3,none⟩=some (.string r.text):=by
 obtain⟨b,i,rfl,hb,hc⟩:=h mw;have hl:k<l.length:=mw
 refine⟨b,i,l[k],rfl,hb,Az hl,?_⟩;have c0:=hc k 0 hk mw;have c1:=hc k 1 hk mw;have c2:=hc k 2 hk mw;have c3:=hc k 3 hk mw;simp only[BP,List.getD_eq_getElem?_getD,List.getElem?_eq_getElem hl,Option.getD_some,Nat.add_zero,<-Nat.add_assoc]at c0 c1 c2 c3;exact⟨c0,c1,c2,c3⟩
def X8(l:List Rec)(w:World)(e:Ending)(w':World):Prop:=
 ∃x:Int,e= .returned (.int .i64 x)/\0<=x/\x<=4398046511104/\(x<=1099511627776->x=Bp l)/\Below w w w'
theorem fP(w:World)(A:Option Addr)(n c:Nat)(la:List Rec)(hn:la.length=n)(hN:n<=9223372036854775807)(ha:Row w w A n 4 (BP la)):
 Calls prog 43 #[.slice A n c] w (X8 la w):=by
 have HN:=hid hn;clear hn;go_enter func43,ntmps43
 go_wp2
 go_loopw [3,4] (fun s i wr=>∃ (k:Nat) (x:Int),k<=n/\i= .int .i64 k/\s= .int .i64 x/\0<=x/\x<=4398046511104/\Hid (x=Bp (la.take k))/\Below w w wr) (fun _ i _=>n-(intOf i).toNat)
 case atStart=>exact⟨0,0,mw,rfl,rfl,mw,mw,rfl,Ag _ _⟩
 case round=>
  obtain⟨k,x,hk,rfl,rfl,z,E,hx,j⟩:=hrel;by_cases G:k<n
  ·obtain⟨b,L,r,rfl,J,hr,c0,c1,c2,c3⟩:=Row.rec (ha.below j) HN.out G;have HR:=hid hr;clear hr;have i1:(0:Int)<=(k:Int):=mw;have i2:(k:Int)<(n:Int):=mw;by_cases y:1099511627776<x∨1099511627776<(r.source.size:Int)∨1099511627776<(r.text.size:Int)
   ·go_wp2_with fail
    all_goals
     go_ret;go_light;exact⟨2199023255552,rfl,mw,mw,fun h=>mw,j⟩
   ·have h1:x<=1099511627776:=mw;have h2:(r.source.size:Int)<=1099511627776:=mw;have h3:(r.text.size:Int)<=1099511627776:=mw;clear y;go_wp2_with fail;go_quiet (fail);go_wp2_with fail;go_roundw
    case rel=>go_light;refine⟨k+1,x+16+r.source.size+r.text.size,mw,jp,rfl,mw,mw,?_,below_drewN j _⟩;show x+16+r.source.size+r.text.size=Bp (la.take (k+1));rw[Cj,HR.out];simp only[Option.toList_some,Se,<-hx.out,weigh];omega
    case measure=>exact jo
  ·obtain rfl:k=n:=by omega
   go_wp2_with fail;go_ret;go_light;refine⟨x,rfl,z,E,fun _=> ?_,j⟩;have h:=hx.out
   rwa [BQ lq]at h
def TN(n:Nat)(l:List Rec)(r b:Int)(w:World)(e:Ending)(w':World):Prop:=
 ∃g:Bool,e= .returned (.bool g)/\(g=false->(n:Int)<=r/\Bp l<=b)/\Below w w w'
theorem Yn(w:World)(A:Option Addr)(n c:Nat)(la:List Rec)(r b:Int)(hb:b<=1099511627776)(hn:la.length=n)(hN:n<=9223372036854775807)(ha:Row w w A n 4 (BP la)):
 Calls prog 11 #[.slice A n c,r,b] w (TN n la r b w):=by
 have HW:=hid (fP w A n c la hn hN ha);clear hn;by_cases h:r<(n:Int)
 ·go_enter func11,ntmps11;go_wp2_with fail;go_ret;exact⟨true,rfl,(fun h=>by cases h),Ag _ _⟩
 ·go_enter func11,ntmps11;go_wp2_with fail;refine HW.out.mono ?_;rintro e w1 ⟨x,rfl,y,j,hx,i⟩;have HX:=hid hx;clear hx;go_wp2_with fail;go_ret;refine⟨decide (b<x),rfl,fun hd=>⟨mw,?_⟩,i⟩;have hd:=of_decide_eq_false hd;have:=HX.out mw;omega
end Recs
namespace Toks
open Go.RowKit
def lg(v:Int):Int:=((Nat.log2 v.toNat:Nat):Int)
def pw(b:Int):Int:=((2 ^ b.toNat:Nat):Int)
theorem Is(v:Int):0<=lg v:=by unfold lg;omega
theorem Rs(b:Int):1<=pw b:=by unfold pw;have:0<2 ^ b.toNat:=FH _;omega
theorem KF(v:Int)(h:1<=v):pw (lg v)<=v:=by unfold pw lg;have:=Nat.log2_self_le (n:=v.toNat) mw;rw[Br];omega
theorem Mk(v:Int)(h:1<=v):v<2*pw (lg v):=by unfold pw lg;have:=Nat.lt_log2_self (n:=v.toNat);rw[Br];rw[zY]at this;omega
theorem Si(a b:Int)(h:a<=b):pw a<=pw b:=by unfold pw;have:=Cc (n:=2) mw (show a.toNat<=b.toNat by omega);omega
theorem IM(v b:Int)(_i:0<=b)(h1:1<=v)(h2:v<pw b):lg v<b:=by
 have h3:=KF v h1;rcases Int.lt_or_le (lg v) b with h|h
 ·exact h
 ·have:=Si b (lg v) h;omega
def AW(lit len dist:Int):Bool:=
 if len=0 then decide (dist=0)else decide (lit=0/\3<=len/\len<=257/\1<=dist/\dist<=4095)
structure Pc where
 sym:Int
 len:Int
 dist:Int
 far:Int
structure Tk where
 lit:Int
 len:Int
 dist:Int
def Pc.val(p:Pc):Value:= .agg #[p.sym,p.len,p.dist,p.far]
def Tk.val(t:Tk):Value:= .agg #[.int .u8 t.lit,t.len,t.dist]
def oZ(t:Tk):Pc:=
 if AW t.lit t.len t.dist=true then
  if t.len=0 then⟨t.lit,0,0,0⟩else⟨257+lg (t.len-2),t.len-2-pw (lg (t.len-2)),lg t.dist,t.dist-pw (lg t.dist)⟩
 else⟨0,0,0,0⟩
def Eu(t:Tk):Int:=if AW t.lit t.len t.dist=true then 0 else 7
def Gq(p:Pc):Bool:=decide (0<=p.sym/\p.sym<256/\p.len=0/\p.dist=0/\p.far=0)
def Iv(p:Pc):Bool:=
 decide (257<=p.sym/\p.sym<265/\0<=p.dist/\p.dist<12/\0<=p.len/\p.len<pw (p.sym-257)/\0<=p.far/\p.far<pw p.dist)
def Dz(p:Pc):Tk:=
 if Gq p=true then⟨p.sym,0,0⟩else if Iv p=true then⟨0,2+pw (p.sym-257)+p.len,pw p.dist+p.far⟩else⟨0,0,0⟩
def El(p:Pc):Int:=if Gq p=true then 0 else if Iv p=true then 0 else 7
theorem pw_8:pw 8=256:=ip
theorem OW:pw 12=4096:=ip
theorem bW(t:Tk)(h0:0<=t.lit)(h1:t.lit<256)(h:Eu t=0):El (oZ t)=0/\Dz (oZ t)=t:=by
 have hm:AW t.lit t.len t.dist=true:=by
  unfold Eu at h;split at h
  ·assumption
  ·simp at h
 unfold oZ;rw[Ab hm];by_cases hl:t.len=0
 ·rw[Ab hl];unfold AW at hm;rw[Ab hl]at hm;have hd:t.dist=0:=by simpa using hm
  have i:Gq ⟨t.lit,0,0,0⟩=true:=by simp[Gq];omega
  refine⟨by simp[El,i],?_⟩;unfold Dz;rw[Ab i];cases t
  simp_all
 ·rw[Aa hl];unfold AW at hm;rw[Aa hl]at hm;obtain⟨e1,e2,e3,e4,e5⟩:=of_decide_eq_true hm;have a1:=KF (t.len-2) mw;have a2:=Mk (t.len-2) mw;have a3:=Is (t.len-2);have a4:=IM (t.len-2) 8 mw mw (by rw[pw_8];omega);have b1:=KF t.dist mw;have b2:=Mk t.dist mw;have b3:=Is t.dist;have b4:=IM t.dist 12 mw mw (by rw[OW];omega);have hs:257+lg (t.len-2)-257=lg (t.len-2):=by omega
  have i:Gq ⟨257+lg (t.len-2),t.len-2-pw (lg (t.len-2)),lg t.dist,t.dist-pw (lg t.dist)⟩=false:=by simp[Gq];omega
  have j:Iv ⟨257+lg (t.len-2),t.len-2-pw (lg (t.len-2)),lg t.dist,t.dist-pw (lg t.dist)⟩=true:=by simp only[Iv,hs,decide_eq_true_eq];omega
  refine⟨by simp[El,i,j],?_⟩;unfold Dz;rw[Aa (by simp[i]),Ab j];cases t;simp only[hs]
  simp_all
  omega
end Toks
namespace Toks
def bump(l:List Int)(i:Nat):List Int:=l.set i (l.getD i 0+1)
def CA(st:List Int×List Int)(t:Tk):List Int×List Int:=
 (bump st.1 (oZ t).sym.toNat,if t.len=0 then st.2 else bump st.2 (oZ t).dist.toNat)
def C7(ts:List Tk):List Int×List Int:=ts.foldl CA (List.replicate 265 0,List.replicate 12 0)
def symsOf(ts:List Tk):List Int:=bump (C7 ts).1 256
def MG(ts:List Tk):List Int:=(C7 ts).2
def Dc(ts:List Tk):Bool:=ts.all fun t=>AW t.lit t.len t.dist
theorem Ph(l:List Int)(i:Nat):(bump l i).length=l.length:=by simp[bump]
theorem Rt(st:List Int×List Int)(t:Tk):(CA st t).1.length=st.1.length/\(CA st t).2.length=st.2.length:=by
 unfold CA;refine⟨Ph _ _,?_⟩;simp only;split
 ·rfl
 ·exact Ph _ _
theorem YE(ts:List Tk):∀st:List Int×List Int,(ts.foldl CA st).1.length=st.1.length/\(ts.foldl CA st).2.length=st.2.length:=by
 induction ts with
 |nil=>intro st;exact⟨rfl,rfl⟩
 |cons t ts ih=>intro st;have h:=ih (CA st t);have h2:=Rt st t;exact⟨h.1.trans h2.1,h.2.trans h2.2⟩
theorem Kv(ts:List Tk):(C7 ts).1.length=265/\(C7 ts).2.length=12:=by have h:=YE ts (List.replicate 265 0,List.replicate 12 0);exact⟨h.1.trans Di,h.2.trans Di⟩
theorem XF(ts:List Tk)(k:Nat)(h:k<ts.length):C7 (ts.take (k+1))=CA (C7 (ts.take k)) ts[k]:=by unfold C7;rw[List.take_succ_eq_append_getElem h,List.foldl_append];rfl
def Within(b:Int)(l:List Int):Prop:=∀i,0<=l.getD i 0/\l.getD i 0<=b
theorem Within.mono{b c:Int}{l:List Int}(h:Within b l)(j:b<=c):Within c l:=fun i=>by have:=h i;omega
theorem Within.bump{b:Int}{l:List Int}(h:Within b l)(j:Nat):Within (b+1) (bump l j):=by
 intro i;unfold Toks.bump;simp only[List.getD_eq_getElem?_getD,List.getElem?_set];have hi:=h i;have hj:=h j;simp only[List.getD_eq_getElem?_getD]at hi hj;split
 ·split
  ·simp;omega
  ·simp;omega
 ·omega
theorem MF(ts:List Tk):Within ts.length (C7 ts).1/\Within ts.length (C7 ts).2:=by
 have j:∀ (ts:List Tk) (st:List Int×List Int) (b:Int),Within b st.1->Within b st.2->Within (b+ts.length) (ts.foldl CA st).1/\Within (b+ts.length) (ts.foldl CA st).2:=by
  intro ts
  induction ts with
  |nil=>intro st b h1 h2;simpa using ⟨h1,h2⟩
  |cons t ts ih=>
   intro st b h1 h2
   have h:=ih (CA st t) (b+1) (h1.bump _) (by
    unfold CA;simp only;split
    ·exact h2.mono mw
    ·exact h2.bump _)
   simp only[List.length_cons,List.foldl_cons];exact⟨h.1.mono mw,h.2.mono mw⟩
 have z:∀n:Nat,Within 0 (List.replicate n 0):=by intro n i;simp only[List.getD_eq_getElem?_getD,List.getElem?_replicate];split<;>simp
 have h:=j ts (List.replicate 265 0,List.replicate 12 0) 0 (z _) (z _);rw[Int.zero_add]at h;exact h
theorem Mm(t:Tk)(h0:0<=t.lit)(h1:t.lit<=255)(hm:AW t.lit t.len t.dist=true):
 ∃S D:Nat,∃L F:Int,oZ t=⟨S,L,D,F⟩/\S<265/\D<12/\(t.len=0->S<256)/\(t.len≠0->257<=S/\3<=t.len)/\Eu t=0:=by
 by_cases hl:t.len=0
 ·refine⟨t.lit.toNat,0,0,0,?_,mw,mw,fun _=>mw,fun h=>absurd hl h,?_⟩
  ·unfold oZ;rw[Ab hm,Ab hl,Int.toNat_of_nonneg h0];rfl
  ·unfold Eu;rw[Ab hm]
 ·have hb:t.lit=0/\3<=t.len/\t.len<=257/\1<=t.dist/\t.dist<=4095:=by unfold AW at hm;rw[Aa hl]at hm;exact of_decide_eq_true hm
  have a1:=Is (t.len-2);have a2:=IM (t.len-2) 8 mw mw (by rw[pw_8];omega);have b1:=Is t.dist;have b2:=IM t.dist 12 mw mw (by rw[OW];omega);refine⟨(257+lg (t.len-2)).toNat,(lg t.dist).toNat,t.len-2-pw (lg (t.len-2)),t.dist-pw (lg t.dist),?_,mw,mw,fun h=>absurd h hl,fun _=>⟨mw,hb.2.1⟩,?_⟩
  ·unfold oZ;rw[Ab hm,Aa hl,Int.toNat_of_nonneg mw,Int.toNat_of_nonneg b1]
  ·unfold Eu;rw[Ab hm]
end Toks
namespace Lz
open Toks (Tk AW)
def Kd(l:List Nat)(p at_:Nat):Nat->Nat->Nat
 |0,n=>n
 |f+1,n=>if n<257/\at_+n<l.length/\l.getD (p+n) 0=l.getD (at_+n) 0 then Kd l p at_ f (n+1)else n
def alike(l:List Nat)(p at_:Nat):Nat:=Kd l p at_ 257 0
structure IsAlike (l:List Nat) (p at_ k:Nat):Prop where
 le:k<=257
 fits:k=0∨at_+k<=l.length
 same:∀j,j<k->l.getD (p+j) 0=l.getD (at_+j) 0
 stop:¬(k<257/\at_+k<l.length/\l.getD (p+k) 0=l.getD (at_+k) 0)
theorem TD(l:List Nat)(p at_:Nat):∀ (f n:Nat),n+f=257->(n=0∨at_+n<=l.length)->(∀j,j<n->l.getD (p+j) 0=l.getD (at_+j) 0)->IsAlike l p at_ (Kd l p at_ f n)
 |0,n,hf,h1,h2=>by rw[Kd];exact⟨mw,h1,h2,mw⟩
 |f+1,n,hf,h1,h2=>by
  rw[Kd];split
  ·rename_i h;refine TD l p at_ f (n+1) mw (.inr mw) fun j hj=> ?_;by_cases e:j<n
   ·exact h2 j e
   ·obtain rfl:j=n:=by omega
    exact h.2.2
  ·rename_i h;exact⟨mw,h1,h2,h⟩
theorem JM(l:List Nat)(p at_:Nat):IsAlike l p at_ (alike l p at_):=TD l p at_ 257 0 rfl (.inl rfl) fun j hj=>absurd hj mw
theorem IsAlike.unique{at_ k':Nat}(h:IsAlike l p at_ k)(h':IsAlike l p at_ k'):k=k':=by
 have i:∀ {a b:Nat},IsAlike l p at_ a->IsAlike l p at_ b->¬a<b:=by
  intro a b ha hb j;refine ha.stop ⟨?_,?_,hb.same a j⟩
  ·have:=hb.le;omega
  ·rcases hb.fits with h0|h0<;>omega
 have h1:=i h h';have h2:=i h' h;omega
theorem VT{at_:Nat}(h:IsAlike l p at_ k):alike l p at_=k:=(JM l p at_).unique h
theorem Oc(l:List Nat)(p at_:Nat):alike l p at_<=257:=(JM l p at_).le
def JG(l:List Nat)(at_:Nat)(nd:Nat×Nat)(d:Nat):Nat×Nat:=if nd.1<alike l (at_-d) at_ then(alike l (at_-d) at_,d)else nd
def EH(l:List Nat)(at_:Nat):Nat->Nat×Nat
 |0=>(0,0)
 |d+1=>JG l at_ (EH l at_ d) (d+1)
def Bd(l:List Nat)(at_:Nat):Nat×Nat:=EH l at_ (min 4095 at_)
structure Good (l:List Nat) (at_:Nat) (nd:Nat×Nat) (D:Nat):Prop where
 n:nd.1<=257
 d1:nd.1≠0->1<=nd.2
 d2:nd.2<=D
 is:nd.1≠0->nd.1=alike l (at_-nd.2) at_
theorem TG(l:List Nat)(at_:Nat):∀D,Good l at_ (EH l at_ D) D
 |0=>⟨by simp[EH],by simp[EH],by simp[EH],by simp[EH]⟩
 |D+1=>by
  have h:=TG l at_ D;rw[EH,JG];split
  ·exact⟨Oc _ _ _,fun _=>oK,oK,fun _=>rfl⟩
  ·exact⟨h.n,h.d1,by have:=h.d2;omega,h.is⟩
theorem L1(l:List Nat)(at_:Nat):Good l at_ (Bd l at_) (min 4095 at_):=TG l at_ _
theorem Ku{at_:Nat}(h:(Bd l at_).1≠0):at_+(Bd l at_).1<=l.length:=by have hg:=(L1 l at_).is h;rcases(JM l (at_-(Bd l at_).2) at_).fits with h0|h0<;>omega
def Dg(l:List Nat)(at_:Nat):List Tk:=
 if at_<l.length then
  if 3<=(Bd l at_).1 then⟨0,((Bd l at_).1:Nat),((Bd l at_).2:Nat)⟩ :: Dg l (at_+(Bd l at_).1)
  else⟨(l.getD at_ 0:Nat),0,0⟩ :: Dg l (at_+1)
 else []
termination_by l.length-at_
def find(l:List Nat):List Tk:=Dg l 0
theorem L2{at_:Nat}(h:¬at_<l.length):Dg l at_= []:=by rw[Dg,Aa h]
theorem Kw{at_:Nat}(h:at_<l.length)(h3:3<=(Bd l at_).1):Dg l at_=⟨0,((Bd l at_).1:Nat),((Bd l at_).2:Nat)⟩ :: Dg l (at_+(Bd l at_).1):=by rw[Dg,Ab h,Ab h3]
theorem Ko{at_:Nat}(h:at_<l.length)(h3:¬3<=(Bd l at_).1):Dg l at_=⟨(l.getD at_ 0:Nat),0,0⟩ :: Dg l (at_+1):=by rw[Dg,Ab h,Aa h3]
theorem OK{i:Nat->Prop}(h1:∀at_,¬at_<l.length->i at_)(h2:∀at_,at_<l.length->3<=(Bd l at_).1->i (at_+(Bd l at_).1)->i at_)
 (h3:∀at_,at_<l.length->¬3<=(Bd l at_).1->i (at_+1)->i at_):∀at_,i at_:=by
 intro at_;obtain⟨m,hm⟩:=ii (l.length-at_)
 induction m using Nat.strongRecOn generalizing at_ with
 |ind m ih=>
  by_cases h:at_<l.length
  ·by_cases h':3<=(Bd l at_).1
   ·exact h2 at_ h h' (ih _ mw _ rfl)
   ·exact h3 at_ h h' (ih _ mw _ rfl)
  ·exact h1 at_ h
theorem find_ok(h8:∀x∈l,x<=255):∀at_,(∀t∈Dg l at_,(0<=t.lit/\t.lit<=255)/\AW t.lit t.len t.dist=true)/\(Dg l at_).length<=l.length-at_:=by
 refine OK (l:=l) ?_ ?_ ?_
 ·intro at_ h;rw[L2 h];simp
 ·intro at_ h h3 ih;rw[Kw h h3];have hg:=L1 l at_;have j:=hg.d1 mw;have i:=hg.d2;have hn:=hg.n;refine⟨fun t ht=> ?_,by rw[AD];have:=ih.2;have:=Ku (l:=l) (at_:=at_) mw;omega⟩;rcases AM.1 ht with rfl|ht
  ·refine⟨⟨oK,oK⟩,?_⟩;unfold AW;generalize (Bd l at_).1=n at *;generalize (Bd l at_).2=d at *;rw[Aa (by show ¬(n:Int)=0;omega)];exact Bc ⟨rfl,by show(3:Int)<=(n:Int);omega,by show(n:Int)<=257;omega,by show(1:Int)<=(d:Int);omega,by show(d:Int)<=4095;omega⟩
  ·exact ih.1 t ht
 ·intro at_ h h3 ih;rw[Ko h h3];refine⟨fun t ht=> ?_,by rw[AD];have:=ih.2;omega⟩;rcases AM.1 ht with rfl|ht
  ·have hx:=h8 l[at_] (Fe h);have e:l.getD at_ 0=l[at_]:=(by rw[Am,Az h];rfl);refine⟨⟨oK,by simp only[e];omega⟩,?_⟩;unfold AW;simp
  ·exact ih.1 t ht
def Db(out:List Nat):Nat->Nat->List Nat
 |0,_=>out
 |n+1,d=>Db (out++ [out.getD (out.length-d) 0]) n d
theorem LW:∀ (n d:Nat) (out:List Nat),(Db out n d).length=out.length+n
 |0,_,out=>rfl
 |n+1,d,out=>by rw[Db,LW n d];simp;omega
def GG(most:Int)(out:List Nat)(t:Tk):Int:=
 if AW t.lit t.len t.dist=true then if(out.length:Int)<t.dist then 8 else if most-(out.length:Int)<max 1 t.len then 6 else 0 else 7
def EG(most:Int):List Nat->List Tk->List Nat×Int
 |out,[]=>(out,0)
 |out,t :: ts=>if GG most out t=0 then EG most (if t.len=0 then out++ [t.lit.toNat]else Db out t.len.toNat t.dist.toNat) ts else([],GG most out t)
def Fm(ts:List Tk)(most:Int):List Nat×Int:=if most<0 then([],13)else EG most [] ts
theorem Tt{l:List Nat}{d:Nat}(hd:1<=d):∀ (n at_:Nat),d<=at_->at_+n<=l.length->(∀j,j<n->l.getD (at_-d+j) 0=l.getD (at_+j) 0)->Db (l.take at_) n d=l.take (at_+n)
 |0,at_,_,_,_=>rfl
 |n+1,at_,h1,h2,h3=>by
  have h:(l.take at_).length=at_:=mQ
  rw[Db,h];have e:(l.take at_).getD (at_-d) 0=l.getD at_ 0:=by rw[Am,List.getElem?_take_of_lt mw,<-Am];have:=h3 0 mw;simpa using this
  have e2:l.take at_++ [l.getD at_ 0]=l.take (at_+1):=by rw[Cj,Az mw,Am,Az mw];rfl
  rw[e,e2,Tt hd n (at_+1) mw mw (fun j hj=> ?_),show at_+1+n=at_+(n+1) by omega];have:=h3 (j+1) mw;rw[show at_+1-d+j=at_-d+(j+1) by omega,show at_+1+j=at_+(j+1) by omega];exact this
theorem Xk(h8:∀x∈l,x<=255)(hm:(l.length:Int)<=most):∀at_,at_<=l.length->EG most (l.take at_) (Dg l at_)=(l,0):=by
 refine OK (l:=l) ?_ ?_ ?_
 ·intro at_ h J;rw[L2 h,EG,BQ mw]
 ·intro at_ h h3 ih _;have y:=((find_ok h8 at_).1 _ (by rw[Kw h h3];exact Cu)).2;have hg:=L1 l at_;have z:=hg.d1 mw;have G:=hg.d2;have E:=hg.is mw;have hf:=Ku (l:=l) (at_:=at_) mw;have i:=(JM l (at_-(Bd l at_).2) at_).same;rw[<-E]at i;rw[Kw h h3]at ⊢;generalize (Bd l at_).1=n at *;generalize (Bd l at_).2=d at *;have j:(l.take at_).length=at_:=by rw[AZ];omega
  have hE:GG most (l.take at_) ⟨0,(n:Nat),(d:Nat)⟩=0:=by unfold GG;rw[Ab y,j,Aa (by show ¬(at_:Int)<(d:Int);omega),Aa (by show ¬most-(at_:Int)<max 1 (n:Int);omega)]
  rw[EG,Ab hE,Aa (by show ¬(n:Int)=0;omega)];show EG most (Db (l.take at_) ((n:Nat):Int).toNat ((d:Nat):Int).toNat) _=_;rw[Br,Br,Tt z n at_ mw hf i];exact ih mw
 ·intro at_ h h3 ih _;have y:=((find_ok h8 at_).1 _ (by rw[Ko h h3];exact Cu)).2;rw[Ko h h3];have j:(l.take at_).length=at_:=by rw[AZ];omega
  have hE:GG most (l.take at_) ⟨(l.getD at_ 0:Nat),0,0⟩=0:=by unfold GG;rw[Ab y,j,Aa (by show ¬(at_:Int)<0;omega),Aa (by show ¬most-(at_:Int)<max 1 0;omega)]
  rw[EG,Ab hE,Ab rfl];show EG most (l.take at_++ [((l.getD at_ 0:Nat):Int).toNat]) _=_;rw[Br,show l.take at_++ [l.getD at_ 0]=l.take (at_+1) by rw[Cj,Az h,Am,Az h];rfl];exact ih mw
theorem WX(h8:∀x∈l,x<=255)(hm:(l.length:Int)<=most):Fm (find l) most=(l,0):=by unfold Fm find;rw[Aa mw];exact Xk h8 hm 0 (Cr _)
def BN(l:List Nat)(p:Nat):Nat×Nat×Nat:=(l.getD p 0,l.getD (p+1) 0,l.getD (p+2) 0)
def norm(nd:Nat×Nat):Nat×Nat:=if 3<=nd.1 then nd else(0,0)
theorem WA{at_:Nat}(h:3<=alike l p at_):BN l p=BN l at_:=by have hs:=(JM l p at_).same;unfold BN;have h0:=hs 0 mw;have h1:=hs 1 mw;have h2:=hs 2 mw;simp only[Nat.add_zero]at h0;rw[h0,h1,h2]
theorem lK{at_:Nat}(h:BN l p=BN l at_)(hf:at_+3<=l.length):3<=alike l p at_:=by
 have ha:=JM l p at_;unfold BN at h;simp only[Prod.mk.injEq]at h;rcases Nat.lt_or_ge (alike l p at_) 3 with hlt|hge
 ·exfalso;refine ha.stop ⟨mw,mw,?_⟩;generalize alike l p at_=k at hlt
  match k,hlt with
  |0,_=>exact h.1
  |1,_=>exact h.2.1
  |2,_=>exact h.2.2
 ·exact hge
end Lz
namespace Huff
def bit(bs:List Bool)(i:Nat):Nat:=if bs.getD i false then 1 else 0
def CH(bs:List Bool)(k:Nat):Nat:=
 bit bs (8*k)*128+bit bs (8*k+1)*64+bit bs (8*k+2)*32+bit bs (8*k+3)*16+bit bs (8*k+4)*8+bit bs (8*k+5)*4+bit bs (8*k+6)*2+bit bs (8*k+7)
def bytesOf(bs:List Bool):List Nat:=(List.range ((bs.length+7) / 8)).map (CH bs)
theorem bytesOf_length(bs:List Bool):(bytesOf bs).length=(bs.length+7) / 8:=by simp[bytesOf]
theorem En(bs:List Bool)(i:Nat):bit bs i<=1:=by unfold bit;split<;>omega
theorem Kj(bs:List Bool)(k:Nat):CH bs k<=255:=by unfold CH;have h0:=En bs (8*k);have h1:=En bs (8*k+1);have h2:=En bs (8*k+2);have h3:=En bs (8*k+3);have h4:=En bs (8*k+4);have h5:=En bs (8*k+5);have h6:=En bs (8*k+6);have h7:=En bs (8*k+7);omega
theorem Fi{bs:List Bool}(h:bs.length<=i):bit bs i=0:=by unfold bit;simp[List.getD_eq_getElem?_getD,List.getElem?_eq_none h]
theorem Hn{bs:List Bool}{b:Bool}(h:i≠bs.length):bit (bs++ [b]) i=bit bs i:=by
 unfold bit;by_cases j:i<bs.length
 ·simp[List.getD_eq_getElem?_getD,List.getElem?_append_left j]
 ·simp[List.getD_eq_getElem?_getD,List.getElem?_eq_none (show(bs++ [b]).length<=i by simp;omega),List.getElem?_eq_none (show bs.length<=i by omega)]
theorem kP(bs:List Bool)(b:Bool):bit (bs++ [b]) bs.length=if b then 1 else 0:=by unfold bit;simp[List.getD_eq_getElem?_getD]
theorem iM{bs:List Bool}{b:Bool}(h:k≠bs.length / 8):CH (bs++ [b]) k=CH bs k:=by unfold CH;rw[Hn mw,Hn mw,Hn mw,Hn mw,Hn mw,Hn mw,Hn mw,Hn mw]
theorem jT{bs:List Bool}(h:bs.length<=8*k):CH bs k=0:=by unfold CH;rw[Fi mw,Fi mw,Fi mw,Fi mw,Fi mw,Fi mw,Fi mw,Fi mw]
theorem aX(bs:List Bool):2 ^ (8-bs.length % 8) ∣ CH bs (bs.length / 8):=by
 obtain⟨q,r,hr,hl⟩:∃q r,r<8/\bs.length=8*q+r:=⟨bs.length / 8,bs.length % 8,mw,mw⟩;have e1:bs.length / 8=q:=mw
 have e2:bs.length % 8=r:=mw
 rw[e1,e2];have ho:∀i,r<=i->bit bs (8*q+i)=0:=fun i hi=>Fi mw;unfold CH;have h0:=ho 0;have:r=0∨r=1∨r=2∨r=3∨r=4∨r=5∨r=6∨r=7:=mw
 rcases this with rfl|rfl|rfl|rfl|rfl|rfl|rfl|rfl<;>
  first
  |(simp only[ho 1 mw,ho 2 mw,ho 3 mw,ho 4 mw,ho 5 mw,ho 6 mw,ho 7 mw];have:=h0 mw;simp at this;simp[this];done)
  |(rw[ho 7 mw];(try rw[ho 6 mw]);(try rw[ho 5 mw]);(try rw[ho 4 mw]);(try rw[ho 3 mw]);(try rw[ho 2 mw]);(try rw[ho 1 mw]);omega)
theorem i9(bs:List Bool)(b:Bool):CH (bs++ [b]) (bs.length / 8)=CH bs (bs.length / 8)+(if b then 1 else 0)*2 ^ (7-bs.length % 8):=by
 obtain⟨q,r,hr,hl⟩:∃q r,r<8/\bs.length=8*q+r:=⟨bs.length / 8,bs.length % 8,mw,mw⟩;have e1:bs.length / 8=q:=mw
 have e2:bs.length % 8=r:=mw
 rw[e1,e2];have hn:∀i,i≠r->bit (bs++ [b]) (8*q+i)=bit bs (8*q+i):=fun i hi=>Hn mw;have he:bit (bs++ [b]) (8*q+r)=if b then 1 else 0:=by rw[<-hl];exact kP bs b
 have hz:bit bs (8*q+r)=0:=Fi mw;have h0:=hn 0;simp only[Nat.add_zero]at h0;unfold CH;generalize (if b then 1 else 0)=x at he ⊢;have:r=0∨r=1∨r=2∨r=3∨r=4∨r=5∨r=6∨r=7:=mw
 rcases this with rfl|rfl|rfl|rfl|rfl|rfl|rfl|rfl<;>(try simp only[Nat.add_zero]at he hz)<;>simp only[he,hz]<;>
  (try rw[h0 mw])<;>(try rw[hn 1 mw])<;>(try rw[hn 2 mw])<;>(try rw[hn 3 mw])<;>(try rw[hn 4 mw])<;>(try rw[hn 5 mw])<;>(try rw[hn 6 mw])<;>(try rw[hn 7 mw])<;>omega
theorem XM{y:Nat}(hx:2 ^ (s+1) ∣ x)(hy:y<=1):x |||y*2 ^ s=x+y*2 ^ s:=by
 obtain⟨q,rfl⟩:=hx;have h1:y*2 ^ s<2 ^ (s+1):=by rw[zY];have h2:0<2 ^ s:=FH s;have h3:y*2 ^ s<=1*2 ^ s:=Gc _ hy;omega
 exact(Nat.two_pow_add_eq_or_of_lt h1 q).symm
theorem Wh(bs:List Bool)(b:Bool):CH bs (bs.length / 8) |||(if b then 1 else 0)*2 ^ (7-bs.length % 8)=CH (bs++ [b]) (bs.length / 8):=by rw[i9];refine XM ?_ (by split<;>omega);rw[show 7-bs.length % 8+1=8-bs.length % 8 by omega];exact aX bs
def Hj(bs:List Bool):List Nat:=if bs.length % 8=0 then bytesOf bs++ [0]else bytesOf bs
theorem Ti(bs:List Bool):Hj bs=(List.range (bs.length / 8+1)).map (CH bs):=by
 unfold Hj;split
 ·rename_i h;rw[GQ,EP,bytesOf,show(bs.length+7) / 8=bs.length / 8 by omega];simp only[List.map_cons,List.map_nil];rw[jT (k:=bs.length / 8) mw]
 ·rw[bytesOf,show(bs.length+7) / 8=bs.length / 8+1 by omega]
theorem gU(bs:List Bool)(b:Bool):bytesOf (bs++ [b])=(Hj bs).set (bs.length / 8) (CH (bs++ [b]) (bs.length / 8)):=by
 rw[Ti,bytesOf,Ae,J5,show(bs.length+1+7) / 8=bs.length / 8+1 by omega];apply List.ext_getElem
 ·simp
 ·intro i h1 h2;rw[List.getElem_set];simp only[List.getElem_map,List.getElem_range];split
  ·rename_i e;rw[e]
  ·rename_i e;exact iM (fun e2=>e e2.symm)
end Huff
namespace Huff
open Canon
def msb(x n k:Nat):List Bool:=(List.range k).map fun j=>decide (x / 2 ^ (n-1-j) % 2=1)
theorem pZ(x n k:Nat):(msb x n k).length=k:=by simp[msb]
theorem Vy(x n:Nat):msb x n 0= []:=rfl
theorem lT(x n k:Nat):msb x n (k+1)=msb x n k++ [decide (x / 2 ^ (n-1-k) % 2=1)]:=by simp[msb,List.range_succ]
def word(ls:List Nat)(s:Nat):List Bool:=msb (code ls s) (ls.getD s 0) (ls.getD s 0)
theorem Ep(ls:List Nat)(s:Nat):(word ls s).length=ls.getD s 0:=pZ _ _ _
def yZ(bs:List Bool)(i:Nat):Nat->Nat
 |0=>0
 |m+1=>2*yZ bs i m+bit bs (i+m)
theorem GK(bs:List Bool)(i:Nat):∀m,yZ bs i m<2 ^ m
 |0=>by simp[yZ]
 |m+1=>by have h1:=GK bs i m;have h2:=En bs (i+m);rw[yZ,zY];omega
theorem Mg(ls:List Nat):∀l,l<=15->(fst ls l+cn ls l)*2 ^ (15-l)=CT ls (l+1)
 |0,_=>by simp[fst,cn,CT]
 |l+1,h=>by
  have h1:=Mg ls l mw;have e:15-l=(15-(l+1))+1:=mw
  rw[CT,<-h1,fst,e,zY,Ez];congr 1;rw[Nat.mul_comm 2,Nat.mul_assoc,Nat.mul_comm 2]
theorem VY(ls:List Nat)(l:Nat)(h:l<=15):fst ls l*2 ^ (15-l)=CT ls l:=by have h1:=Mg ls l h;rw[CT,Ez]at h1;omega
theorem Ki(ls:List Nat){a:Nat}:∀ {b:Nat},a<=b->CT ls a<=CT ls b
 |0,h=>by
  obtain rfl:a=0:=mw
  exact Ak _
 |b+1,h=>by
  by_cases e:a=b+1
  ·subst e;exact Ak _
  ·have:=Ki ls (a:=a) (b:=b) mw;rw[CT];omega
theorem ok_parts(h:okB ls=true):ls.length<=300/\(∀x∈ls,x<=15)/\CT ls 16<=32768:=by
 unfold okB at h;simp only[Bool.and_eq_true,Bool.or_eq_true,decide_eq_true_eq,List.all_eq_true]at h;obtain⟨⟨h1,h2⟩,h3⟩:=h;refine⟨h1,h2,?_⟩;have hk:=L7 ls h2;have hu:=MX ls h2;rcases h3 with (h3|⟨h3,h4⟩)|h3
 ·rw[h3]at hu;simp only[ET]at hu;simp only[CT];have e0:cn ls 0=0:=by simp[cn]
  have e:∀l,l<16->cn ls l=0:=by intro l hl;have:l=0∨l=1∨l=2∨l=3∨l=4∨l=5∨l=6∨l=7∨l=8∨l=9∨l=10∨l=11∨l=12∨l=13∨l=14∨l=15:=mw;rcases this with rfl|rfl|rfl|rfl|rfl|rfl|rfl|rfl|rfl|rfl|rfl|rfl|rfl|rfl|rfl|rfl<;>omega
  simp[e]
 ·have e1:cn ls 1=1:=by unfold cn;rw[Aa mw,h4]
  rw[h3]at hu;simp only[ET]at hu;simp only[CT];have e:∀l,l<16->l≠1->cn ls l=0:=by intro l hl i;have:l=0∨l=1∨l=2∨l=3∨l=4∨l=5∨l=6∨l=7∨l=8∨l=9∨l=10∨l=11∨l=12∨l=13∨l=14∨l=15:=mw;rcases this with rfl|rfl|rfl|rfl|rfl|rfl|rfl|rfl|rfl|rfl|rfl|rfl|rfl|rfl|rfl|rfl<;>omega
  simp[e,e1]
 ·omega
theorem Pa(hx:ls[s]? =some x):cnt (ls.take s) x+1<=cnt ls x:=by
 have h1:cnt (ls.take (s+1)) x=cnt (ls.take s) x+1:=by rw[If hx,G6,Ab rfl]
 have h2:cnt (ls.take (s+1)) x<=cnt ls x:=by
  unfold cnt
  conv=>rhs;rw[<-EA (s+1) ls,List.countP_append]
  omega
 omega
theorem IG(hx:ls[s]? =some x)(h0:x≠0):code ls s=fst ls x+cnt (ls.take s) x:=by unfold code;simp[List.getD_eq_getElem?_getD,hx,h0]
theorem NW(hx:ls[s]? =some x)(h0:x≠0)(h:x<=15):
 CT ls x<=code ls s*2 ^ (15-x)/\(code ls s+1)*2 ^ (15-x)<=CT ls (x+1):=by
 have h1:=IG hx h0;have h2:=Pa hx;constructor
 ·rw[<-VY ls x h];exact Gc _ mw
 ·rw[<-Mg ls x h];refine Gc _ ?_;unfold cn;rw[Aa h0];omega
theorem NQ(i:okB ls=true)(hx:ls[s]? =some x)(h0:x≠0):code ls s<2 ^ x:=by
 obtain⟨_,h2,h3⟩:=ok_parts i;have h:=h2 x (Be hx);have h4:=(NW hx h0 h).2;have h5:=Ki ls (show x+1<=16 by omega);have h6:(code ls s+1)*2 ^ (15-x)<=2 ^ x*2 ^ (15-x):=by rw[<-Nat.pow_add,show x+(15-x)=15 by omega];omega
 exact Nat.le_of_mul_le_mul_right h6 (FH _)
theorem eW(y:Nat):((if decide (y % 2=1)=true then 1 else 0:Nat):Int)=((y % 2:Nat):Int):=by rcases Lk y with h|h<;>simp[h]
end Huff
namespace Huff
open Canon
def symsOf(ls:List Nat)(l:Nat):List Nat:=(List.range ls.length).filter fun s=>decide (ls.getD s 0=l)
theorem aA(l:Nat):symsOf [] l= []:=rfl
theorem MC(ls:List Nat)(x l:Nat):symsOf (ls++ [x]) l=symsOf ls l++if x=l then [ls.length]else []:=by
 unfold symsOf;rw[Ae,J5,GQ,List.filter_append];congr 1
 ·apply List.filter_congr
  intro s hs;have hs:=Fs.1 hs;simp[List.getD_eq_getElem?_getD,List.getElem?_append_left hs]
 ·by_cases h:x=l<;>simp[List.getD_eq_getElem?_getD,h]
theorem TX{α:Type}{p:List α->Prop}(h0:p [])(h1:∀l x,p l->p (l++ [x])):∀l,p l:=by
 intro l
 have:∀r:List α,p r.reverse:=by
  intro r
  induction r with
  |nil=>exact h0
  |cons x r ih=>rw[List.reverse_cons];exact h1 _ _ ih
 have h:=this l.reverse
 rwa [List.reverse_reverse]at h
theorem OQ(l:Nat):∀ls:List Nat,(symsOf ls l).length=cnt ls l:=by
 apply TX
 ·rfl
 ·intro ls x ih;rw[MC,G6,Ae,ih];split<;>rfl
theorem Tw{l:Nat}:∀ (ls:List Nat) (k s:Nat),(symsOf ls l)[k]? =some s->ls[s]? =some l/\cnt (ls.take s) l=k:=by
 apply TX (p:=fun ls=>∀ (k s:Nat),(symsOf ls l)[k]? =some s->ls[s]? =some l/\cnt (ls.take s) l=k)
 ·intro k s h;simp[aA]at h
 ·intro ls x ih k s h;rw[MC,List.getElem?_append]at h;split at h
  ·obtain⟨h1,h2⟩:=ih k s h;have hs:=(Cv.1 h1).1;rw[GR hs,List.take_append_of_le_length mw];exact⟨h1,h2⟩
  ·rename_i hk;by_cases hx:x=l
   ·subst hx;rw[Ab rfl]at h;have h3:=(Cv.1 h).1;simp only[List.length_singleton]at h3;have h4:k=(symsOf ls x).length:=mw;rw[h4,Gx,List.getElem?_cons_zero]at h;injection h with h;subst h;refine⟨oK,?_⟩;rw[List.take_left,h4,OQ]
   ·rw[Aa hx]at h;simp at h
theorem RI(ls:List Nat)(l:Nat){a:Nat}(h:a<=b):cnt (ls.take a) l<=cnt (ls.take b) l:=by
 have:ls.take a=(ls.take b).take a:=by rw[List.take_take,Nat.min_eq_left h]
 rw[this];unfold cnt
 conv=>rhs;rw[<-EA a (ls.take b),List.countP_append]
 omega
theorem dT{l t:Nat}(hs:ls[s]? =some l)(ht:ls[t]? =some l)(h:cnt (ls.take s) l=cnt (ls.take t) l):s=t:=by
 have h1:cnt (ls.take (s+1)) l=cnt (ls.take s) l+1:=by rw[If hs,G6,Ab rfl]
 have h2:cnt (ls.take (t+1)) l=cnt (ls.take t) l+1:=by rw[If ht,G6,Ab rfl]
 by_cases h3:s<t
 ·have:=RI ls l (show s+1<=t by omega);omega
 ·by_cases h4:t<s
  ·have:=RI ls l (show t+1<=s by omega);omega
  ·omega
theorem SU{l:Nat}(h:k<cnt ls l):∃s,(symsOf ls l)[k]? =some s/\ls[s]? =some l/\cnt (ls.take s) l=k:=by
 have h1:k<(symsOf ls l).length:=by rw[OQ];exact h
 exact⟨_,Az h1,Tw ls k _ (Az h1)⟩
def hit(ls:List Nat)(X there s:Nat):Bool:=decide (ls.getD s 0≠0/\ls.getD s 0<=there/\X / 2 ^ (15-ls.getD s 0)=code ls s)
def Js(ls:List Nat)(X there s:Nat):Bool:=decide (there<ls.getD s 0/\X / 2 ^ (15-there)=code ls s / 2 ^ (ls.getD s 0-there))
def Ed(ls:List Nat)(X there:Nat):Int×Int×Nat:=
 match (List.range ls.length).find? (hit ls X there)with
 |some s=>(s,0,ls.getD s 0)
 |none=>if(List.range ls.length).any (Js ls X there)then(-1,1,0)else(-1,7,0)
theorem G3{there:Nat}:hit ls X there s=true↔∃x,ls[s]? =some x/\x≠0/\x<=there/\X / 2 ^ (15-x)=code ls s:=by
 unfold hit;rw[decide_eq_true_eq];constructor
 ·rintro⟨h1,h2,h3⟩
  have hs:s<ls.length:=by
   rcases Nat.lt_or_ge s ls.length with h|h
   ·exact h
   ·rw[Am,Ff h]at h1;simp at h1
  have e:ls.getD s 0=ls[s]:=by simp[List.getD_eq_getElem?_getD,hs]
  rw[e]at h1 h2 h3;exact⟨_,Az hs,h1,h2,h3⟩
 ·rintro⟨x,h0,h1,h2,h3⟩;have e:ls.getD s 0=x:=by simp[List.getD_eq_getElem?_getD,h0]
  rw[e];exact⟨h1,h2,h3⟩
theorem O3{c d:Nat}(hd:0<d)(h:X / d=c):c*d<=X/\X<(c+1)*d:=by subst h;exact⟨Nat.div_mul_le_self X d,by rw[Ez,Nat.one_mul];exact Nat.lt_div_mul_add hd⟩
theorem cO(L:okB ls=true){a t:Nat}(hs:hit ls X a s=true)(ht:hit ls X b t=true):s=t:=by
 obtain⟨x,hx,i,_,J⟩:=G3.1 hs;obtain⟨y,hy,j,_,h⟩:=G3.1 ht;obtain⟨_,E,_⟩:=ok_parts L;have z:=E x (Be hx);have G:=E y (Be hy);have h1:=O3 (FH _) J;have h2:=O3 (FH _) h;have h3:=NW hx i z;have h4:=NW hy j G;by_cases N:x<y
 ·have:=Ki ls (show x+1<=y by omega);omega
 ·by_cases M:y<x
  ·have:=Ki ls (show y+1<=x by omega);omega
  ·obtain rfl:x=y:=by omega
   have e:code ls s=code ls t:=(by rw[<-J,<-h]);rw[IG hx i,IG hy j]at e;exact dT hx hy mw
theorem TA(i:okB ls=true){there:Nat}(hx:ls[s]? =some x)(h:hit ls X there s=true):Ed ls X there=((s:Int),0,x):=by
 have hs:s<ls.length:=(Cv.1 hx).1;unfold Ed
 have:(List.range ls.length).find? (hit ls X there)=some s:=by
  cases hf:(List.range ls.length).find? (hit ls X there)with
  |none=>have:=List.find?_eq_none.1 hf s (Fs.2 hs);rw[h]at this;exact absurd rfl this
  |some t=>rw[cO i h (List.find?_some hf)]
 rw[this];simp[List.getD_eq_getElem?_getD,hx]
theorem VC{there:Nat}(h:∀s,hit ls X there s=false):Ed ls X there=if(List.range ls.length).any (Js ls X there)then(-1,1,0)else(-1,7,0):=by unfold Ed;have:(List.range ls.length).find? (hit ls X there)=none:=List.find?_eq_none.2 (fun s _=>by rw[h s];simp);rw[this]
theorem lA{l:Nat}(h0:l≠0)(hk:k<cn ls l)(hX:X / 2 ^ (15-l)=fst ls l+k):
 ∃s,(symsOf ls l)[k]? =some s/\ls[s]? =some l/\hit ls X l s=true:=by
 have h:k<cnt ls l:=by unfold cn at hk;rwa [Aa h0]at hk
 obtain⟨s,h1,h2,h3⟩:=SU h;exact⟨s,h1,h2,G3.2 ⟨l,h2,h0,Ak _,by rw[hX,IG h2 h0,h3]⟩⟩
theorem lY{l:Nat}(h0:l≠0)(hs:ls[s]? =some l)(h:X / 2 ^ (15-l)=code ls s):fst ls l<=X / 2 ^ (15-l)/\X / 2 ^ (15-l)<fst ls l+cn ls l:=by have h1:=IG hs h0;have h2:=Pa hs;unfold cn;rw[Aa h0];omega
theorem j9{a:Nat}(h:a<=b)(hs:hit ls X a s=true):hit ls X b s=true:=by obtain⟨x,h1,h2,h3,h4⟩:=G3.1 hs;exact G3.2 ⟨x,h1,h2,mw,h4⟩
theorem iK{l:Nat}(h:∀s,hit ls X l s=false)(h1:X / 2 ^ (15-(l+1))<fst ls (l+1)∨fst ls (l+1)+cn ls (l+1)<=X / 2 ^ (15-(l+1))):∀s,hit ls X (l+1) s=false:=by
 intro s;cases hh:hit ls X (l+1) s
 ·rfl
 ·obtain⟨x,hx,j,y,i⟩:=G3.1 hh;by_cases e:x=l+1
  ·subst e;have:=lY mw hx i;omega
  ·have:=h s;rw[G3.2 ⟨x,hx,j,mw,i⟩]at this;cases this
theorem gR(ls:List Nat)(X:Nat):∀s,hit ls X 0 s=false:=by
 intro s;cases hh:hit ls X 0 s
 ·rfl
 ·obtain⟨x,_,i,h,_⟩:=G3.1 hh;omega
theorem SK{there:Nat}:Js ls X there s=true↔∃x,ls[s]? =some x/\there<x/\X / 2 ^ (15-there)=code ls s / 2 ^ (x-there):=by
 unfold Js;rw[decide_eq_true_eq];constructor
 ·rintro⟨h2,h3⟩
  have hs:s<ls.length:=by
   rcases Nat.lt_or_ge s ls.length with h|h
   ·exact h
   ·rw[Am,Ff h]at h2;simp at h2
  have e:ls.getD s 0=ls[s]:=by simp[List.getD_eq_getElem?_getD,hs]
  rw[e]at h2 h3;exact⟨_,Az hs,h2,h3⟩
 ·rintro⟨x,h0,h2,h3⟩;have e:ls.getD s 0=x:=by simp[List.getD_eq_getElem?_getD,h0]
  rw[e];exact⟨h2,h3⟩
theorem fS{l:Nat}(G:l<k)(h0:0<cn ls k)(h1:x*2 ^ (k-l)<fst ls k+cn ls k)(h2:fst ls k<x*2 ^ (k-l)+2 ^ (k-l)):
 ∃s,ls[s]? =some k/\code ls s / 2 ^ (k-l)=x:=by
 have y:k≠0:=mw
 obtain⟨j,i,E⟩:∃j,j<cn ls k/\(fst ls k+j) / 2 ^ (k-l)=x:=by
  have hp:=FH (k-l);generalize 2 ^ (k-l)=d at *;by_cases h:fst ls k<=x*d
  ·refine⟨x*d-fst ls k,mw,?_⟩;rw[show fst ls k+(x*d-fst ls k)=x*d by omega];exact Nat.mul_div_cancel _ hp
  ·refine⟨0,h0,?_⟩;rw[Bf];apply Nat.div_eq_of_lt_le
   ·omega
   ·rw[Ez,Nat.one_mul];omega
 have z:j<cnt ls k:=by unfold cn at i;rwa [Aa y]at i
 obtain⟨s,_,h3,h4⟩:=SU z;exact⟨s,h3,by rw[IG h3 y,h4,E]⟩
theorem eN{l:Nat}(j:l<k)(hs:ls[s]? =some k)(h:code ls s / 2 ^ (k-l)=x):
 0<cn ls k/\x*2 ^ (k-l)<fst ls k+cn ls k/\fst ls k<x*2 ^ (k-l)+2 ^ (k-l):=by
 have i:k≠0:=mw
 have h1:=IG hs i;have h2:=Pa hs;have h3:=O3 (FH (k-l)) h;have e:cn ls k=cnt ls k:=by unfold cn;rw[Aa i]
 rw[Ez,Nat.one_mul]at h3;omega
theorem Tq(bs:List Bool)(i m:Nat):∀d,yZ bs i (m+d) / 2 ^ d=yZ bs i m
 |0=>oK
 |d+1=>by have h1:=En bs (i+(m+d));rw[<-Nat.add_assoc,yZ,zY,Nat.mul_comm (2 ^ d) 2,<-Nk];rw[show(2*yZ bs i (m+d)+bit bs (i+(m+d))) / 2=yZ bs i (m+d) by omega];exact Tq bs i m d
theorem Mc(x n:Nat)(hx:x<2 ^ n)(bs pre post:List Bool)(h:bs=pre++msb x n n++post):∀m,m<=n->yZ bs pre.length m=x / 2 ^ (n-m)
 |0,_=>by rw[yZ,Nat.sub_zero,Nat.div_eq_of_lt hx]
 |m+1,hm=>by
  rw[yZ,Mc x n hx bs pre post h m mw]
  have hb:bit bs (pre.length+m)=x / 2 ^ (n-1-m) % 2:=by
   unfold bit;have hl:m<(msb x n n).length:=by rw[pZ];omega
   have e:bs.getD (pre.length+m) false=decide (x / 2 ^ (n-1-m) % 2=1):=(by rw[h,AE,Am,IT mw,IS,GR hl,Az hl];simp[msb]);rw[e];by_cases h1:x / 2 ^ (n-1-m) % 2=1
   ·rw[Bc h1,h1];rfl
   ·rw[Bt h1];simp;omega
  rw[hb,show n-m=(n-1-m)+1 by omega,show n-(m+1)=n-1-m by omega,zY,<-Nk];omega
end Huff
end Go.Proofs.YtfgdoknipbpfhaaGreatDoor
