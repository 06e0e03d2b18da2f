/- Words for memory, fo -/
import Derived.WalkKit
import Derived.ProofKit
import Derived.Lib.Hide
import Derived.Laws.OwnMore
import Derived.Deep.Draws
import Derived.Maps.AppendAt
import Derived.Test.YtfgdoknipbpfhaaGreatDoorProg
import Derived.BigQuiet
import Derived.BigGuardPart
import Derived.Deep.QuietTactic
import Derived.Deep.Light
import Derived.Laws.Rows
import Derived.Deep.MidRow
import Derived.Deep.DeepCutAuto
namespace Go.Proofs.YtfgdoknipbpfhaaGreatDoor
section
open Go Go.RowKit
theorem ic(p:Prop)[Decidable p](h:p:=by first|omega|(simp;omega)|(simp;done)):decide p=true:=decide_eq_true h
theorem ig(p:Prop)[Decidable p](h:¬p:=by first|omega|(simp;omega)|(simp;done)):decide p=false:=decide_eq_false h
theorem ii{α:Sort _}(a:α):∃x,x=a:=⟨a,rfl⟩
theorem A00{p q r:Prop}(c:r)(h:p)(a:RowKit.Hid r->RowKit.Hid p->q:=by intro c h;go_wp2_with fail;refine c.out.mono h.out):q:=a c h
theorem A01{p q:Prop}(h:p)(a:RowKit.Hid p->q:=by intro h;go_wp2;refine bodyPost_end (Cb rfl _ _ _) rfl h.out):q:=a h
instance:Coe World Nat:=⟨fun w=>w.heap.size⟩
instance:Coe Nat Value:=⟨fun n=> .int .i64 n⟩
instance(g k:Nat):CoeDep (Nat×Nat) (g,k) Addr:=⟨⟨g,k,none⟩⟩
instance(w:World)(k:Nat):CoeDep (World×Nat) (w,k) Addr:=⟨⟨w.heap.size,k,none⟩⟩
instance:Coe Nat (Option Addr):=⟨fun g=>some ⟨g,0,none⟩⟩
instance:Coe Int Value:=⟨fun n=> .int .i64 n⟩
instance:Coe Bool Value:=⟨fun b=> .bool b⟩
instance:Coe Unit Value:=⟨fun _=> .slice none 0 0⟩
structure ik where
def ij:ik:=⟨⟩
instance:Coe ik Value:=⟨fun _=> .int .i64 0⟩
theorem a3d{p:Prop}(h:p:=by
  unfold uZ;split
  ·exact h
  ·have:=(Hu most (bs.drop at_) (fun x hx=>h8 x (Bz hx))).2.1;rw[AQ]at this;omega):p:=h
theorem a2u{p:Prop}(h:p:=by
  rcases ho.2 with ⟨hv,hx⟩|⟨g,y,cur,hv,_⟩
  ·injection hv with _ e _;exact hx.trans e.symm
  ·injection hv with _ e _;exact e.symm):p:=h
theorem a1u{p:Prop}(h:p:=by go_wp2_with fail;go_quiet (fail);go_wp2_with fail;go_ret;exact⟨rfl,_,rfl⟩):p:=h
theorem nj{p:Prop}(h:p:=by omega):p:=h
theorem sT{p:Prop}(h:p:=by(repeat (with_reducible first|exact Ae _ _|assumption|refine Am ?_ |refine below_drewN ?_ _|refine mZ ?_ |refine aZ ?_ |refine cZ (by assumption) ?_ |refine belA ?_ |refine nZ (by assumption) ?_))):p:=h
theorem ip{p:Prop}(h:p:=by decide):p:=h
theorem im{p:Prop}(h:p:=by assumption):p:=h
theorem jq{p:Prop}(h:p:=by go_light;simp[intOf];omega):p:=h
theorem rX{p:Prop}(h:p:=by simp):p:=h
theorem sS{p:Prop}(h:p:=by unfold maxLen;omega):p:=h
theorem my{p:Prop}(h:p:=by kernel_rfl):p:=h
theorem mp{p:Prop}(h:p:=by intro u hu;simp at hu;rcases hu with rfl;rfl):p:=h
theorem sj{p:Prop}(h:p:=by simp;omega):p:=h
theorem pj{p:Prop}(h:p:=by rw[Ar _ (by omega)];omega):p:=h
theorem nm{p:Prop}(h:p:=by rfl):p:=h
theorem iw{p:Prop}(h:p:=by first|rfl|go_num):p:=h
theorem rU{p:Prop}(h:p:=by show b≠w.heap.size;omega):p:=h
theorem ir{p:Prop}(h:p:=by first|exact Blk.made _ _ _|exact Blk.made_at _ _ _ (by simp)|exact Blk.drew (Blk.made _ _ _)|exact Blk.drew (Blk.made_at _ _ _ (by simp))):p:=h
theorem pm{p:Prop}(h:p:=by rw[Bi];omega):p:=h
theorem pu{p:Prop}(h:p:=by rw[HG.out];exact ay.out.keep (fun b _ h=>((((AW _ _ _ b (by show b≠w.heap.size;omega)).trans (AW _ _ _ b (by show b≠w.heap.size;omega))).trans (AW _ _ _ b (by show b≠w.heap.size;omega))).trans (((AW _ _ _ b (by show b≠w.heap.size;omega)).trans (AW _ _ _ b (by show b≠w.heap.size;omega))).trans (AW _ _ _ b (by show b≠w.heap.size;omega))))) N):p:=h
theorem rJ{p:Prop}(h:p:=by show World.ownsRow _ _ _ _ _ _ _;rw[show dZ .u8 (j++List.replicate k x)=dZ .u8 j++dZ .u8 (List.replicate k x) by simp[dZ]];exact E):p:=h
theorem jb{p:Prop}(h:p:=by go_light;exact⟨a2,i,p+k,j++List.replicate k x,by omega,by show _=_;rw[Ag,HP.out,Dv],ar.out,am.out,av.out,af.out.1,af.out.2⟩):p:=h
theorem jr{p:Prop}(h:p:=by go_num):p:=h
theorem pq{p:Prop}(h:p:=by rw[HG.out];exact ab.out.keep (fun b _ h=>(((AW _ _ _ b (by show b≠w.heap.size;omega)).trans (AW _ _ _ b (by show b≠w.heap.size;omega))).trans (AW _ _ _ b (by show b≠w.heap.size;omega)))) N):p:=h
theorem jy{p:Prop}(h:p:=by have h3:=Lv (q:=bound / l.length) (by omega);have h4:efW bound l.length<2 ^ efW bound l.length:=Nat.lt_two_pow_self;unfold efW at h4 ⊢;have h5:l.length*Nat.log2 (bound / l.length)<=l.length*(bound / l.length):=Nat.mul_le_mul_left _ (by omega);exact AN h5 (Nat.mul_div_le _ _)):p:=h
theorem jc{p:Prop}(h:p:=by go_light;exact⟨i+1,a2,t2++ [s],h2++ [s],_,_,by omega,by first|rfl|go_num,by rw[Ag,<-HP.out];simp;omega,by rw[Ag,Ag,<-HP.out,<-HQ.out];simp;omega,bc.out,by intro y hy;rcases BJ.1 hy with h|h;exact aw.out y h;(rw[Eo]at h;rw[h];exact af.out),by rw[Be (by omega)];exact ax.out⟩):p:=h
theorem iz{p:Prop}(h:p:=by first|rfl|trivial):p:=h
theorem jd{p:Prop}(h:p:=by go_light;exact⟨i+1,a2,t2++ [s],h2,_,uH,by omega,by first|rfl|go_num,by rw[Ag,<-HP.out];simp;omega,by rw[Ag,<-HP.out];omega,E.out,by intro y hy;rcases BJ.1 hy with h|h;exact aw.out y h;(rw[Eo]at h;rw[h];exact af.out),by rw[Be (by omega)];exact ax.out⟩):p:=h
theorem ji{p:Prop}(h:p:=by go_light;exact⟨k+1,q2+1,x,j++ [z+1],by omega,by omega,by omega,by first|rfl|go_num,by first|rfl|go_num,by show _=_;rw[Ag,L.out];rfl, .inr ⟨by omega,j,z+1,rfl,by omega,by have e:=au.out;rw[<-al.out]at e;rw[HZ.out];exact e⟩,am.out,af.out⟩):p:=h
theorem iu{p:Prop}(h:p:=by first|omega|(simp;done)|(simp;omega)):p:=h
theorem jk{p:Prop}(h:p:=by go_light;exact⟨k+1,x2,m2,by omega,by omega,by first|rfl|trivial,by first|rfl|trivial,by go_num,HP.out,aa.out,J.out,by first|rfl|trivial⟩):p:=h
theorem py{p:Prop}(h:p:=by rw[HN.out];exact Ak _):p:=h
theorem qi{p:Prop}(h:p:=by rw[Hm];intro h;simp at h;omega):p:=h
theorem ly{p:Prop}(h:p:=by have:=HN.out;omega):p:=h
theorem pi{p:Prop}(h:p:=by rw[Ar _ (by omega)]):p:=h
theorem mw{p:Prop}(h:p:=by intro y hy;rcases BJ.1 hy with h|h;exact aw.out y h;(rw[Eo]at h;rw[h];exact af.out)):p:=h
theorem jj{p:Prop}(h:p:=by go_light;exact⟨k+1,x2,by omega,by omega,by first|rfl|trivial,by go_num,HP.out,G.out,by first|rfl|trivial⟩):p:=h
theorem jg{p:Prop}(h:p:=by go_light;exact⟨i+j,q'+1+om,m5,c5,A5,P++ [x]++O,by have:=ab.out.2;omega,ax,a0,rfl,ab.out.1,by show _=_;rw[Ag,Ag,HP.out,bS.out];rfl,bp.out,ah.out,bk.out,b0.out⟩):p:=h
theorem jf{p:Prop}(h:p:=by go_light;exact⟨i+1,y+size,a3,0,f1,h6,bx,b7,by omega,by first|rfl|go_num,b0.out,bO,ba,bN.out,b5.out,b6.out,bp.out,a8.out,fun _=>bu.out,fun h=>absurd rfl h⟩):p:=h
theorem jn{p:Prop}(h:p:=by go_light;refine⟨k+1,by omega,by omega,by go_num,Q.out,?_⟩;obtain⟨q,rfl⟩:=L.out;exact⟨_,Gy _ _ _⟩):p:=h
theorem mu{p:Prop}(h:p:=by intro u hu;simp at hu;subst hu;rfl):p:=h
theorem kw{p:Prop}(h:p:=by have h:=kZ aj aa.out.size;have e1:(Bm bs false).length=F.length+4:=(by unfold Bm;rw[<-HF.out,Ag];exact rfl);rw[e1];unfold Bm;rw[<-HF.out];exact h):p:=h
theorem sd{p:Prop}(h:p:=by simp only[BC,List.map_cons,List.foldl_cons];rw[LN];omega):p:=h
theorem jp{p:Prop}(h:p:=by go_light;simp only[lenS];rw[aq.out,bg.out];exact an.out):p:=h
theorem sA{p:Prop}(h:p:=by simp[hdR,z.out,y.out]):p:=h
theorem qr{p:Prop}(h:p:=by rw[bne_iff_ne];omega):p:=h
theorem sa{p:Prop}(h:p:=by simp only;omega):p:=h
theorem lc{p:Prop}(h:p:=by have:=(Aj HO.out y hy).2;simp;omega):p:=h
theorem jo{p:Prop}(h:p:=by go_light;refine⟨k+1,ws,row++ [x],vo,_,by omega,by go_num,?_,z.out,HA.out w4 _ _ (HN.out ▸ y) L⟩;show _<=_;rw[Ag,HN.out];simp;omega):p:=h
theorem oj{p:Prop}(h:p:=by rw[AY];omega):p:=h
theorem rN{p:Prop}(h:p:=by show _=_;omega):p:=h
theorem rp{p:Prop}(h:p:=by rw[show dZ .u8 (P++ [x])=dZ .u8 P++ [.int .u8 (x:Nat)] by simp[dZ]];exact eZ M.out (fun y hy=>ac.block y (Aj M.out y hy).2)):p:=h
theorem ix{p:Prop}(h:p:=by first|rfl|go_num|(congr 1;omega)):p:=h
theorem nz{p:Prop}(h:p:=by rw[AQ];omega):p:=h
theorem jw{p:Prop}(h:p:=by have h1:=Aw List.length hf;have h2:=co.out;have h3:=HP.out;simp only[List.length_append,List.length_cons]at h1;omega):p:=h
theorem rr{p:Prop}(h:p:=by rw[show(128:Int)=((128:Nat):Int) from rfl,u8_or_nat _ _ (by omega) (by omega),RO _ (by omega)];congr 1;omega):p:=h
theorem sJ{p:Prop}(h:p:=by simpa using he):p:=h
theorem jl{p:Prop}(h:p:=by go_light;exact⟨k+r,v3,_,by omega,by go_num,aa.out,ae.out,U.out,ab.out⟩):p:=h
theorem mg{p:Prop}(h:p:=by have:=h.1;omega):p:=h
theorem mq{p:Prop}(h:p:=by intro u hu;simp at hu;rcases hu with rfl|rfl<;>rfl):p:=h
theorem rT{p:Prop}(h:p:=by show _=_;unfold GI;rw[M.cells.2.2];rfl):p:=h
theorem na{p:Prop}(h:p:=by obtain⟨es,z,h1,_⟩:=y.map;have h2:w4.heap[bo]? =some (.cells #[vT,vL] 53):=i;rw[e,h2]at h1;cases h1):p:=h
theorem lk{p:Prop}(h:p:=by have:=E.out;unfold Jg at this;omega):p:=h
theorem mz{p:Prop}(h:p:=by obtain⟨A,n,c,ls,h1,h2,h3,h4,h5,h6,h7⟩:=hR;rw[h5,Fi,h3];omega):p:=h
theorem rW{p:Prop}(h:p:=by show w.heap.size≠g;omega):p:=h
theorem sI{p:Prop}(h:p:=by simpa using h2):p:=h
theorem ld{p:Prop}(h:p:=by have:=(Aj Y.out y hy).2;simp;omega):p:=h
theorem kq{p:Prop}(h:p:=by have h:=ae.out;rw[<-show T i=R from ac.out,<-show s=(T i).length from HS.out]at h;exact h):p:=h
theorem iq{p:Prop}(h:p:=by first|exact Blk.made _ _ _|exact Blk.drew (Blk.made _ _ _)):p:=h
theorem rS{p:Prop}(h:p:=by show _=_;unfold EQ;rw[Aa (by omega),Aa];rw[hn];show ¬2 ^ L<(yZ (kOf ks) n).length;omega):p:=h
theorem ko{p:Prop}(h:p:=by have h:=a4.out;rw[h]at G;injection G with G;exact G.symm):p:=h
theorem sH{p:Prop}(h:p:=by simpa using h):p:=h
theorem qq{p:Prop}(h:p:=by rw[ax.out,ay.out];exact S9.out.1):p:=h
theorem qk{p:Prop}(h:p:=by rw[IntKind.wrap_i64];omega):p:=h
theorem sf{p:Prop}(h:p:=by simp only[List.length_cons]at ht ⊢;omega):p:=h
theorem mr{p:Prop}(h:p:=by intro u hu;simp at hu;rcases hu with rfl|rfl|rfl<;>rfl):p:=h
theorem mo{p:Prop}(h:p:=by have:=hy.1;omega):p:=h
theorem lu{p:Prop}(h:p:=by have:=HH.out;have h2:=L.out;subst this;simp[BN];omega):p:=h
theorem ql{p:Prop}(h:p:=by rw[Iz];omega):p:=h
theorem pf{p:Prop}(h:p:=by rw[Ag];omega):p:=h
theorem sq{p:Prop}(h:p:=by simp[callFunc,go_sem,Tryz.func347];rfl):p:=h
theorem ml{p:Prop}(h:p:=by have:=hx.1;have:=Z.out.size;simp;omega):p:=h
theorem lj{p:Prop}(h:p:=by have:=Aj E x hx;exact⟨this.2,by omega⟩):p:=h
theorem ku{p:Prop}(h:p:=by have h:=bits_and_u64_nat y 1 hy (by omega);rw[Nat.and_one_is_mod]at h;exact h):p:=h
theorem qh{p:Prop}(h:p:=by rw[HT.out,show dZ .u8 (T j++ls)=dZ .u8 (T j)++dZ .u8 ls by simp[dZ]];exact L):p:=h
theorem jh{p:Prop}(h:p:=by go_light;exact⟨j+1,q+1,D6,ac,rfl,rfl,by have:=HQ.out;omega,by omega,S6.out⟩):p:=h
theorem jt{p:Prop}(h:p:=by have h1:(i+1)*size<=q*size:=GB size b1;rw[JB,bh.out,<-HY.out]at h1;exact h1):p:=h
theorem rq{p:Prop}(h:p:=by rw[show dZ .u8 (P++ [x]++O)=dZ .u8 (P++ [x])++dZ .u8 O by simp[dZ]];exact J):p:=h
theorem px{p:Prop}(h:p:=by rw[HG.out];rfl):p:=h
theorem pp{p:Prop}(h:p:=by rw[FW];omega):p:=h
theorem nk{p:Prop}(h:p:=by refine⟨size_madeCells _ _,fun i hi=> ?_⟩;simp[madeCells,hi,Nat.mod_one]):p:=h
theorem kx{p:Prop}(h:p:=by have hr:=HR.out;rw[an.out.1 h]at hr;rw[Aa (fun h=>h rfl)]at hr;exact hr):p:=h
theorem rY{p:Prop}(h:p:=by simp at h):p:=h
theorem se{p:Prop}(h:p:=by simp only[List.length_cons];omega):p:=h
theorem ka{p:Prop}(h:p:=by have h:=HR.out;rw[Ab (.inr (.inl (HM.out.symm.trans Y)))]at h;exact h):p:=h
theorem ru{p:Prop}(h:p:=by rw[show(i:Int)*(size:Int)=(y:Int) by rw[HY.out];simp,Ar _ (by omega)]):p:=h
theorem sG{p:Prop}(h:p:=by simp[intOf];omega):p:=h
theorem ph{p:Prop}(h:p:=by rw[Ar _ (by have:=HZ.out;omega)];have:=HZ.out;unfold Ir at aa;omega):p:=h
theorem rP{p:Prop}(h:p:=by show _=_;rw[Ag,HP.out,Dv]):p:=h
theorem rn{p:Prop}(h:p:=by rw[show T 0= [] from N.out];rfl):p:=h
theorem ki{p:Prop}(h:p:=by have h:=HR.out;rw[GW z]at h;rw[AE];exact h):p:=h
theorem kz{p:Prop}(h:p:=by have:2 ^ W<=2 ^ 14:=Cm (by omega) hW;omega):p:=h
theorem qm{p:Prop}(h:p:=by rw[JF];omega):p:=h
theorem kj{p:Prop}(h:p:=by have h:=HT.out rfl;rw[El (by rw[HQ.out];exact Ak _)]at h;exact h):p:=h
theorem mm{p:Prop}(h:p:=by have:=hx.1;omega):p:=h
theorem su{p:Prop}(h:p:=by simp[dZ]):p:=h
theorem qy{p:Prop}(h:p:=by rw[h];rfl):p:=h
theorem pk{p:Prop}(h:p:=by rw[Be (by omega)];exact ax.out):p:=h
theorem ng{p:Prop}(h:p:=by obtain⟨p1,p2,p3⟩:=a4 h;have h2:=hT h;rw[p1,p2,p3]at h2;exact h2):p:=h
theorem oq{p:Prop}(h:p:=by rw[Aa (by simp),Aa (by omega)]):p:=h
theorem sw{p:Prop}(h:p:=by simp[h]):p:=h
theorem ln{p:Prop}(h:p:=by have:=H9.out j;subst this;rfl):p:=h
theorem lp{p:Prop}(h:p:=by have:=H9.out z;subst this;rfl):p:=h
theorem qn{p:Prop}(h:p:=by rw[Nat.mul_add,<-hA,hb];omega):p:=h
theorem ow{p:Prop}(h:p:=by rw[Ab (.inr (.inr (by rw[<-bc.out];exact h3)))]at hr;exact hr):p:=h
theorem ou{p:Prop}(h:p:=by rw[Ab (.inr (.inl (by rw[<-bh.out];exact h2)))]at hr;exact hr):p:=h
theorem qg{p:Prop}(h:p:=by rw[HP.out];exact kZ HO.out z1):p:=h
theorem ri{p:Prop}(h:p:=by rw[i];omega):p:=h
theorem md{p:Prop}(h:p:=by have:=HQ.out;omega):p:=h
theorem jx{p:Prop}(h:p:=by have h2:=L.out;rw[hF,HH.out];simp;omega):p:=h
theorem mt{p:Prop}(h:p:=by intro u hu;simp at hu;rcases hu with rfl|rfl|rfl|rfl<;>rfl):p:=h
theorem rh{p:Prop}(h:p:=by rw[hy,e]):p:=h
theorem qv{p:Prop}(h:p:=by rw[hT,Ag,<-show s2=(T j).length from HS.out,hn];exact rfl):p:=h
theorem sn{p:Prop}(h:p:=by simp[Program.elem,ht]):p:=h
theorem qw{p:Prop}(h:p:=by rw[hT,Ag,<-show s=(T i).length from HS.out,hn];exact rfl):p:=h
theorem rO{p:Prop}(h:p:=by show _=_;rw[Ag,HL.out];rfl):p:=h
theorem ox{p:Prop}(h:p:=by rw[Ag,<-HP.out];simp;omega):p:=h
theorem kr{p:Prop}(h:p:=by have h:=ag.out;rw[Aa (fun h=>h rfl),be.out]at h;exact h):p:=h
theorem nu{p:Prop}(h:p:=by rw[<-HS.out];rfl):p:=h
theorem ke{p:Prop}(h:p:=by have h:=HR.out;rw[Fp z]at h;exact h):p:=h
theorem sP{p:Prop}(h:p:=by unfold Bm;rw[<-HF.out,Ag];exact rfl):p:=h
theorem rg{p:Prop}(h:p:=by rw[hq];exact(Kept.refl _ _).drewN q):p:=h
theorem ni{p:Prop}(h:p:=by obtain⟨q,hq⟩:=HQ.out;exact⟨_,by rw[hq];exact Gy _ _ _⟩):p:=h
theorem qb{p:Prop}(h:p:=by rw[HO.out.cellAt i (by omega)];unfold dZ;rw[Co,hk];rfl):p:=h
theorem rR{p:Prop}(h:p:=by show _=_;simp):p:=h
theorem je{p:Prop}(h:p:=by go_light;exact⟨i+1,s',rfl,rfl,by omega,Q.out,trivial⟩):p:=h
theorem sF{p:Prop}(h:p:=by simp[intOf]):p:=h
theorem sR{p:Prop}(h:p:=by unfold FU;rw[Aa (by rw[e];decide)]):p:=h
theorem jz{p:Prop}(h:p:=by have h:=HF.out;rw[HN.out];exact h):p:=h
theorem js{p:Prop}(h:p:=by have e:=au.out;rw[<-al.out]at e;rw[HZ.out];exact e):p:=h
theorem ny{p:Prop}(h:p:=by rw[<-j.out,Ag,HL.out,JO];exact i):p:=h
theorem lq{p:Prop}(h:p:=by have:=HF.out;omega):p:=h
theorem mf{p:Prop}(h:p:=by have:=HZ.out;omega):p:=h
theorem rm{p:Prop}(h:p:=by rw[show 7*(i+1)=7*i+7 by omega,Nat.pow_add];omega):p:=h
theorem qp{p:Prop}(h:p:=by rw[Q,show 7*(k+1)=E+7 by omega,Nat.pow_add];omega):p:=h
theorem jm{p:Prop}(h:p:=by go_light;exact⟨m+1,by omega,by omega,by go_num,G⟩):p:=h
theorem ky{p:Prop}(h:p:=by have hr:=HR.out;rw[an.out.2 h,Ab h]at hr;exact hr):p:=h
theorem lx{p:Prop}(h:p:=by have:=HM.out;simp;omega):p:=h
theorem si{p:Prop}(h:p:=by simp;have:=ag.out;omega):p:=h
theorem pg{p:Prop}(h:p:=by rw[Aq,Az hi];exact h8 _ (FM hi)):p:=h
theorem rL{p:Prop}(h:p:=by show _<=_;rw[Ag,Ag,tZ,tZ];omega):p:=h
theorem sl{p:Prop}(h:p:=by simp[BN];omega):p:=h
theorem io{p:Prop}(h:p:=by cases M with|true=>rfl|false=>exact absurd rfl Y):p:=h
theorem sO{p:Prop}(h:p:=by subst hR;exact⟨hb,fun _=>rfl,fun h=>absurd h he⟩):p:=h
theorem ja{p:Prop}(h:p:=by first|trivial|rfl):p:=h
theorem sN{p:Prop}(h:p:=by subst hE;exact⟨hb,fun _=>rfl,fun h=>absurd h i⟩):p:=h
theorem sD{p:Prop}(h:p:=by simp[hx]):p:=h
theorem rd{p:Prop}(h:p:=by rw[hq];exact Gy _ _ _):p:=h
theorem nx{p:Prop}(h:p:=by rw[<-bh.out];exact h2):p:=h
theorem nw{p:Prop}(h:p:=by rw[<-bc.out];exact h3):p:=h
theorem km{p:Prop}(h:p:=by have h:=L.out;simp[BN];omega):p:=h
theorem mh{p:Prop}(h:p:=by have:=h.mi.map.lt;simp;omega):p:=h
theorem iy{p:Prop}(h:p:=by first|rfl|rw[Ab he]|simp[he]):p:=h
theorem rk{p:Prop}(h:p:=by rw[seg_length];omega):p:=h
theorem nc{p:Prop}(h:p:=by obtain⟨g,c,hv,_⟩:=h.ro.form z;exact⟨g,c,hv⟩):p:=h
theorem np{p:Prop}(h:p:=by rw[<-HP.out];exact j):p:=h
theorem r9{p:Prop}(h:p:=by simp at hx):p:=h
theorem qz{p:Prop}(h:p:=by rw[h];simp):p:=h
theorem oi{p:Prop}(h:p:=by rw[AY,AQ];omega):p:=h
theorem rK{p:Prop}(h:p:=by show _<=_;omega):p:=h
theorem qx{p:Prop}(h:p:=by rw[h];exact HR.out.drewN q1):p:=h
theorem rc{p:Prop}(h:p:=by rw[he];exact ht):p:=h
theorem qj{p:Prop}(h:p:=by rw[Im];omega):p:=h
theorem sC{p:Prop}(h:p:=by simp[he]):p:=h
theorem mj{p:Prop}(h:p:=by have:=hb.size;omega):p:=h
theorem qc{p:Prop}(h:p:=by rw[HP.out];exact hp):p:=h
theorem qt{p:Prop}(h:p:=by rw[hF,HH.out];exact aq.out):p:=h
theorem qs{p:Prop}(h:p:=by rw[hF,HH.out];exact H8.out):p:=h
theorem rM{p:Prop}(h:p:=by show _<=w9.heap.size;omega):p:=h
theorem sM{p:Prop}(h:p:=by subst e;exact Lt.irrefl h):p:=h
theorem ry{p:Prop}(h:p:=by rw[wrap_u64];omega):p:=h
theorem rQ{p:Prop}(h:p:=by show _=_;rw[Ag,L.out];rfl):p:=h
theorem lz{p:Prop}(h:p:=by have:=HP.out;omega):p:=h
theorem sE{p:Prop}(h:p:=by simp[i]):p:=h
theorem sL{p:Prop}(h:p:=by simpa using j):p:=h
theorem sK{p:Prop}(h:p:=by simpa using i):p:=h
theorem r6{p:Prop}(h:p:=by simp at hl):p:=h
theorem qu{p:Prop}(h:p:=by rw[hR,<-z];exact HC.out):p:=h
theorem sQ{p:Prop}(h:p:=by unfold Dq;split<;>omega):p:=h
theorem qo{p:Prop}(h:p:=by rw[Oy];exact h.1):p:=h
theorem pz{p:Prop}(h:p:=by rw[HN.out];omega):p:=h
theorem pn{p:Prop}(h:p:=by rw[Dt];omega):p:=h
theorem pd{p:Prop}(h:p:=by rw[Ag,tZ];omega):p:=h
theorem rV{p:Prop}(h:p:=by show g≠gb;omega):p:=h
theorem oy{p:Prop}(h:p:=by rw[Ag,Dv];omega):p:=h
end
open Go.Proofs.Tryz
variable{B X b base g i k n p s x:Nat}{a c w:World}{u:Value}{o:Obj}{e t:TypeId}{xs:List Value}{arr:Array Value}{A:Option Addr}{l ls:List Nat}{most:Int}
section
open Go Go.RowKit
theorem Aa:type_of% @if_neg:=@if_neg
theorem Ab:type_of% @if_pos:=@if_pos
theorem Ae:type_of% @Below.refl:=@Below.refl
theorem Ag:type_of% @List.length_append:=@List.length_append
theorem Aj:type_of% @World.ownsRow.lt:=@World.ownsRow.lt
theorem Ak:type_of% @Nat.le_refl:=@Nat.le_refl
theorem Am:type_of% @Below.drew:=@Below.drew
theorem Aq:type_of% @List.getD_eq_getElem?_getD:=@List.getD_eq_getElem?_getD
theorem Ar:type_of% @IntWalk.i64_in:=@IntWalk.i64_in
theorem Aw:type_of% @congrArg:=@congrArg
theorem Az:type_of% @List.getElem?_eq_getElem:=@List.getElem?_eq_getElem
theorem AD:type_of% @List.length_cons:=@List.length_cons
theorem AE:type_of% @List.append_assoc:=@List.append_assoc
theorem AI:type_of% @World.ownsRow_nil:=@World.ownsRow_nil
theorem AN:type_of% @Nat.le_trans:=@Nat.le_trans
theorem AO:type_of% @List.mem_cons:=@List.mem_cons
theorem AQ:type_of% @List.length_drop:=@List.length_drop
theorem AW:type_of% @Below.heap_setCell:=@Below.heap_setCell
theorem AY:type_of% @List.length_take:=@List.length_take
theorem Ba:type_of% @Ne.symm:=@Ne.symm
theorem Bd:type_of% @decide_eq_true:=@decide_eq_true
theorem Be:type_of% @decide_eq_false:=@decide_eq_false
theorem Bf:type_of% @Nat.zero_le:=@Nat.zero_le
theorem Bi:type_of% @IntKind.wrap_u64:=@IntKind.wrap_u64
theorem Bp:type_of% @List.mem_of_getElem?:=@List.mem_of_getElem?
theorem Bt:type_of% @Nat.add_zero:=@Nat.add_zero
theorem Bu:type_of% @List.length_map:=@List.length_map
theorem Bx:type_of% @bodyPost_ret:=@bodyPost_ret
theorem Bz:type_of% @List.mem_of_mem_drop:=@List.mem_of_mem_drop
theorem BD:type_of% @Int.toNat_natCast:=@Int.toNat_natCast
theorem BJ:type_of% @List.mem_append:=@List.mem_append
theorem BX:type_of% @List.mem_of_mem_take:=@List.mem_of_mem_take
theorem Ca:type_of% @Nat.zero_add:=@Nat.zero_add
theorem Cb:type_of% @results_none:=@results_none
theorem Cf:type_of% @List.take_of_length_le:=@List.take_of_length_le
theorem Cg:type_of% @List.append_nil:=@List.append_nil
theorem Cm:type_of% @Nat.pow_le_pow_right:=@Nat.pow_le_pow_right
theorem Cn:type_of% @List.mem_cons_of_mem:=@List.mem_cons_of_mem
theorem Co:type_of% @List.getElem?_map:=@List.getElem?_map
theorem Cp:type_of% @Bool.and_eq_true:=@Bool.and_eq_true
theorem Ct:type_of% @List.map_cons:=@List.map_cons
theorem Cw:type_of% @List.take_add_one:=@List.take_add_one
theorem CD:type_of% @List.flatMap_cons:=@List.flatMap_cons
theorem CH:type_of% @List.mem_map:=@List.mem_map
theorem CM:type_of% @Nat.lt_irrefl:=@Nat.lt_irrefl
theorem CP:type_of% @List.mem_cons_self:=@List.mem_cons_self
theorem CQ:type_of% @List.getElem?_eq_some_iff:=@List.getElem?_eq_some_iff
theorem CZ:type_of% @Nat.mul_one:=@Nat.mul_one
theorem C9:type_of% @Calls.quiet_of_same:=@Calls.quiet_of_same
theorem Dg:type_of% @List.length_nil:=@List.length_nil
theorem Dl:type_of% @List.drop_eq_getElem_cons:=@List.drop_eq_getElem_cons
theorem Dv:type_of% @List.length_replicate:=@List.length_replicate
theorem Ek:type_of% @Nat.lt_of_lt_of_le:=@Nat.lt_of_lt_of_le
theorem El:type_of% @List.drop_of_length_le:=@List.drop_of_length_le
theorem Eo:type_of% @List.mem_singleton:=@List.mem_singleton
theorem Ez:type_of% @List.cons_append:=@List.cons_append
theorem EA:type_of% @Below.heap_alloc:=@Below.heap_alloc
theorem ER:type_of% @List.take_append_drop:=@List.take_append_drop
theorem Fk:type_of% @Nat.add_mul:=@Nat.add_mul
theorem Fz:type_of% @List.map_nil:=@List.map_nil
theorem FA:type_of% @List.map_append:=@List.map_append
theorem FM:type_of% @List.getElem_mem:=@List.getElem_mem
theorem FN:type_of% @List.getElem?_eq_none:=@List.getElem?_eq_none
theorem FW:type_of% @beq_eq_false_iff_ne:=@beq_eq_false_iff_ne
theorem FX:type_of% @Nat.pow_succ:=@Nat.pow_succ
theorem FY:type_of% @List.nil_append:=@List.nil_append
theorem Gk:type_of% @List.pairwise_cons:=@List.pairwise_cons
theorem Gl:type_of% @List.mem_range:=@List.mem_range
theorem Gm:type_of% @List.length_pos_iff:=@List.length_pos_iff
theorem Gn:type_of% @List.eq_nil_of_length_eq_zero:=@List.eq_nil_of_length_eq_zero
theorem Gp:type_of% @Array.getElem?_setIfInBounds:=@Array.getElem?_setIfInBounds
theorem Gy:type_of% @World.drewN_drewN:=@World.drewN_drewN
theorem Gz:type_of% @Option.getD_some:=@Option.getD_some
theorem GA:type_of% @Nat.two_pow_pos:=@Nat.two_pow_pos
theorem GB:type_of% @Nat.mul_le_mul_right:=@Nat.mul_le_mul_right
theorem GC:type_of% @List.sum_cons:=@List.sum_cons
theorem GD:type_of% @List.getElem?_take:=@List.getElem?_take
theorem GE:type_of% @List.all_eq_true:=@List.all_eq_true
theorem GF:type_of% @ByteArray.toList_eq:=@ByteArray.toList_eq
theorem G0:type_of% @Nat.sub_self:=@Nat.sub_self
theorem G1:type_of% @Classical.byContradiction:=@Classical.byContradiction
theorem Hm:type_of% @Bool.eq_false_iff:=@Bool.eq_false_iff
theorem Ib:type_of% @List.range_succ:=@List.range_succ
theorem Ic:type_of% @List.getElem?_append_left:=@List.getElem?_append_left
theorem Iw:type_of% @Nat.mul_le_mul:=@Nat.mul_le_mul
theorem Ix:type_of% @Nat.div_le_self:=@Nat.div_le_self
theorem Iy:type_of% @List.getElem?_drop:=@List.getElem?_drop
theorem Iz:type_of% @IntKind.wrap_u8':=@IntKind.wrap_u8'
theorem I5:type_of% @Nat.add_sub_cancel_left:=@Nat.add_sub_cancel_left
theorem I6:type_of% @List.flatMap_append:=@List.flatMap_append
theorem I7:type_of% @List.drop_zero:=@List.drop_zero
theorem I8:type_of% @Int.eq_ofNat_of_zero_le:=@Int.eq_ofNat_of_zero_le
theorem JB:type_of% @Nat.succ_mul:=@Nat.succ_mul
theorem JC:type_of% @List.getElem?_append_right:=@List.getElem?_append_right
theorem JD:type_of% @IntWalk.wrap64_in:=@IntWalk.wrap64_in
theorem JF:type_of% @IntKind.wrap_u32':=@IntKind.wrap_u32'
theorem JG:type_of% @Bool.false_and:=@Bool.false_and
theorem J1:type_of% @List.map_congr_left:=@List.map_congr_left
theorem J2:type_of% @List.length_singleton:=@List.length_singleton
theorem KK:type_of% @Decidable.byContradiction:=@Decidable.byContradiction
theorem KL:type_of% @Bool.eq_iff_iff:=@Bool.eq_iff_iff
theorem KM:type_of% @Array.getElem?_eq_getElem:=@Array.getElem?_eq_getElem
theorem L5:type_of% @Nat.mod_two_eq_zero_or_one:=@Nat.mod_two_eq_zero_or_one
theorem Ov:type_of% @Nat.div_div_eq_div_mul:=@Nat.div_div_eq_div_mul
theorem Ow:type_of% @Nat.and_two_pow_sub_one_eq_mod:=@Nat.and_two_pow_sub_one_eq_mod
theorem Ox:type_of% @List.sum_append:=@List.sum_append
theorem Oy:type_of% @Array.size_setIfInBounds:=@Array.size_setIfInBounds
theorem W5:type_of% @List.length_eq_zero_iff:=@List.length_eq_zero_iff
end
open Go.Lib (hid)
set_option maxHeartbeats 1000000
set_option maxRecDepth 100000
open Go.RowKit
theorem below_drewN(h:Below B a w)(n:Nat):Below B a (w.drewN n):=⟨h.os,h.tape,h.output,h.size,h.block⟩
theorem BS{p:Addr}(hp:B<=p.block)(h:Below B a w):Below B a (w.setCell p u):=h.setCell hp u
theorem pZ(hB:B<=w.heap.size)(h:Below B a w):Below B a (w.alloc o):=h.alloc hB o
theorem aZ(h:Below a a w):Below a a (w.alloc o):=h.alloc h.size o
theorem cZ{b:World}(h:Below b b c)(k:Below a a b):Below a a c:=k.trans (h.mono k.size)
theorem xZ{b:World}(h:Below b b c)(hB:B<=b.heap.size)(k:Below B a b):Below B a c:=k.trans (h.mono hB)
theorem mZ{p:Addr}(h:Below B a w)(hp:B<=p.block:=by first|(simp;done)|(simp;omega)|omega|(simp at *;omega)):Below B a (w.setCell p u):=h.setCell hp u
theorem belA(h:Below B a w)(hB:B<=w.heap.size:=by first|(simp;done)|(simp;omega)|omega|(simp at *;omega)):Below B a (w.alloc o):=h.alloc hB o
theorem nZ{b:World}(h:Below b b c)(k:Below B a b)(hB:B<=b.heap.size:=by first|(simp;done)|(simp;omega)|omega|(simp at *;omega)):Below B a c:=k.trans (h.mono hB)
theorem GV{a b:Bool}(h:a=b):Ending.returned (.bool a)= .returned (.bool b):=by rw[h]
theorem IR{k:IntKind}{a b:Int}(h:a=b):Ending.returned (.int k a)= .returned (.int k b):=by rw[h]
def Blk(w:World)(g:Nat)(t:TypeId)(cs:Array Value):Prop:=w.heap[g]? =some (.cells cs t (0,0))
section
variable {w w':World} {g:Nat} {t:TypeId} {cs:Array Value}
theorem Blk.lt(h:Blk w g t cs):g<w.heap.size:=by
 unfold Blk at h;rcases Nat.lt_or_ge g w with k|k
 ·exact k
 ·rw[Array.getElem?_eq_none k]at h;cases h
theorem Blk.cell(h:Blk w g t cs)(i:Nat):w.cell? ⟨g,i,none⟩=cs[i]? :=by unfold Blk at h;simp[World.cell?,h]
def ib:List Value->Nat->Option Value
 |[],_=>none
 |x::_,0=>some x
 |_::l,n+1=>ib l n
theorem Blk.ia{l:List Value}(h:Blk w g t l.toArray)(i:Nat){v:Value}(e:ib l i=some v:=by exact rfl):w.cell? ⟨g,i,none⟩=some v:=by
 rw[h.cell i];simp only[List.getElem?_toArray];clear h;induction l generalizing i with
 |nil=>cases e
 |cons x l ih=>cases i with
  |zero=>exact e
  |succ i=>exact ih i e
theorem Blk.frozen(h:Blk w g t cs)(i:Nat):w.frozen? ⟨g,i,none⟩=false:=by unfold Blk at h;simp[World.frozen?,h]
theorem Blk.six{a0 a1 a2 a3 a4 a5:Value}(h:Blk w g t #[a0,a1,a2,a3,a4,a5]):w.cell? ⟨g,0,none⟩=some a0/\w.cell? ⟨g,1,none⟩=some a1/\w.cell? ⟨g,2,none⟩=some a2/\w.cell? ⟨g,3,none⟩=some a3/\w.cell? ⟨g,4,none⟩=some a4/\w.cell? ⟨g,5,none⟩=some a5:=⟨h.cell 0,h.cell 1,h.cell 2,h.cell 3,h.cell 4,h.cell 5⟩
theorem Blk.sixf(h:Blk w g t cs):w.frozen? ⟨g,0,none⟩=false/\w.frozen? ⟨g,1,none⟩=false/\w.frozen? ⟨g,2,none⟩=false/\w.frozen? ⟨g,3,none⟩=false/\w.frozen? ⟨g,4,none⟩=false/\w.frozen? ⟨g,5,none⟩=false:=⟨h.frozen 0,h.frozen 1,h.frozen 2,h.frozen 3,h.frozen 4,h.frozen 5⟩
theorem Blk.made(w:World)(t:TypeId)(cs:Array Value):Blk (w.alloc (.cells cs t)) w t cs:=heap_alloc_new w _
theorem Blk.made_at(w:World)(t:TypeId)(cs:Array Value)(hg:g=w.heap.size):Blk (w.alloc (.cells cs t)) g t cs:=by subst hg;exact Blk.made w t cs
theorem Blk.drew(h:Blk w g t cs):Blk w.drew g t cs:=h
theorem Blk.drewN(h:Blk w g t cs)(n:Nat):Blk (w.drewN n) g t cs:=h
theorem Blk.alloc(h:Blk w g t cs)(o:Obj):Blk (w.alloc o) g t cs:=(EA w o g h.lt).trans h
theorem Blk.set(h:Blk w g t cs)(i:Nat)(u:Value):Blk (w.setCell ⟨g,i,none⟩ u) g t (cs.setIfInBounds i u):=by unfold Blk at h ⊢;simp[World.setCell,Array.getElem?_modify,h]
theorem Blk.far(h:Blk w g t cs){p:Addr}(hp:g≠p.block)(u:Value):Blk (w.setCell p u) g t cs:=(AW w p u g hp).trans h
theorem Blk.below(h:Blk w g t cs)(hb:Below B w w')(hg:g<B):Blk w' g t cs:=(hb.block g hg).trans h
theorem Blk.step(h:Blk w g t cs)(hb:Below w w w'):Blk w' g t cs:=h.below hb h.lt
theorem Blk.grown{row:Option Nat}(h:Blk w g t cs)(hb:w.grownBy w' row)(hg:some g≠row):Blk w' g t cs:=(hb.block g h.lt hg).trans h
theorem Blk.apart{g':Nat}{t':TypeId}{i:Array Value}(h:Blk w g t cs)(h':Blk w g' t' i)(j:t≠t'):g≠g':=by intro e;subst e;unfold Blk at h h';rw[h]at h';injection h' with h';injection h' with _ ht;exact j ht
end
def Wf(A:Option Addr)(n c:Nat):Prop:=(A=none->n=0/\c=0)/\n<=c
theorem Wf.nil:Wf none 0 0:=⟨fun _=>⟨rfl,rfl⟩,Ak _⟩
theorem Wf.some{a:Addr}{c:Nat}(h:n<=c):Wf (Option.some a) n c:=⟨(fun h=>by cases h),h⟩
def Row(w:World)(B:Nat)(A:Option Addr)(n s:Nat)(f:Nat->Nat->Value):Prop:=
 0<n->∃b off,A=some ⟨b,off,none⟩/\b<B/\∀i j,i<n->j<s->w.cell? ⟨b,off+(i*s+j),none⟩=some (f i j)
section
variable {w w':World} {B B' n s:Nat} {A:Option Addr} {f g:Nat->Nat->Value}
theorem Row.zero:Row w B A 0 s f:=fun h=>absurd h nj
theorem Row.keep(h:Row w B A n s f)(hk:∀p:Addr,p.block<B->w'.cell? p=w.cell? p):Row w' B A n s f:=fun hn=>by obtain⟨b,y,e,hb,hc⟩:=h hn;exact⟨b,y,e,hb,fun i j hi hj=>(hk _ hb).trans (hc i j hi hj)⟩
theorem Row.below(h:Row w B A n s f)(hb:Below B w w'):Row w' B A n s f:=h.keep fun _ hp=>hb.cell hp
theorem Row.mono(h:Row w B A n s f)(hB:B<=B'):Row w B' A n s f:=fun hn=>by obtain⟨b,i,e,hb,hc⟩:=h hn;exact⟨b,i,e,nj,hc⟩
theorem Row.drewN(h:Row w B A n s f)(k:Nat):Row (w.drewN k) B A n s f:=h
theorem Row.congr(h:Row w B A n s f)(z:∀i j,i<n->j<s->f i j=g i j):Row w B A n s g:=fun hn=>by obtain⟨b,y,e,hb,hc⟩:=h hn;exact⟨b,y,e,hb,fun i j hi hj=>by rw[<-z i j hi hj];exact hc i j hi hj⟩
theorem Row.alloc(h:Row w B A n s f)(hB:B<=w.heap.size)(o:Obj):Row (w.alloc o) B A n s f:=h.keep fun p hp=>World.cell?_alloc_lt (w:=w) (a:=p) (o:=o) nj
theorem Row.of_blk{cs:Array Value}(h:Blk w b t cs)(hB:b<B)(hf:∀i j,i<n->j<s->cs[i*s+j]? =some (f i j)):Row w B (some ⟨b,0,none⟩) n s f:=
 fun _=>⟨b,0,rfl,hB,fun i j hi hj=>by rw[Ca,h.cell];exact hf i j hi hj⟩
theorem Row.of_own{v:Value}{c:Nat}(h:w.ownsRow base e s v n xs)(hv:v= .slice A n c)(hf:∀i j,i<n->j<s->xs[i*s+j]? =some (f i j)):Row w w A n s f:=fun hn=>by
 rcases h.2 with ⟨_,h0⟩|⟨g,E,cur,z,_,hh,J,_,G,y⟩
 ·omega
 ·rw[hv]at z;injection z with e1 e2 e3;refine⟨g,0,e1,Blk.lt hh,fun i j hi hj=> ?_⟩;rw[Ca,Blk.cell hh];have:=hf i j hi hj;rw[<-y,GD]at this;split at this
  ·simpa using this
  ·cases this
end
theorem bZ{v:Value}(h:w.ownsRow base e s v n xs):∃A c,v= .slice A n c:=by
 rcases h.2 with ⟨rfl,rfl⟩|⟨g,i,cur,rfl,_⟩
 ·exact⟨_,_,rfl⟩
 ·exact⟨_,_,rfl⟩
def ints(k:IntKind)(l:List Int):Array Value:=(l.map (Value.int k)).toArray
theorem LV(k:IntKind)(l:List Int)(i:Nat)(h:i<l.length):(ints k l)[i]? =some (.int k (l.getD i 0)):=by simp[ints,h]
theorem ints_set(k:IntKind)(l:List Int)(i:Nat)(x:Int):(ints k l).setIfInBounds i (.int k x)=ints k (l.set i x):=by simp[ints,List.map_set]
def cnt(ls:List Nat)(l:Nat):Nat:=ls.countP (fun x=>decide (x=l))
def cn(ls:List Nat)(l:Nat):Nat:=if l=0 then 0 else cnt ls l
theorem LD(l:Nat):cnt [] l=0:=rfl
theorem Ip(ls:List Nat)(x l:Nat):cnt (ls++ [x]) l=cnt ls l+if x=l then 1 else 0:=by unfold cnt;rw[List.countP_append];by_cases h:x=l<;>simp[h]
theorem P8(ls:List Nat)(l:Nat):cnt ls l<=ls.length:=List.countP_le_length
theorem Ku(ls:List Nat)(l:Nat):cn ls l<=ls.length:=by
 unfold cn;split
 ·omega
 ·exact P8 ls l
theorem I4{α:Type}{l:List α}{x:α}(h:l[k]? =some x):l.take (k+1)=l.take k++ [x]:=by rw[Cw,h];rfl
def Do(ls:List Nat):Nat->Nat
 |0=>0
 |l+1=>Do ls l+cn ls l*2 ^ (15-l)
def FC(ls:List Nat):Nat->Nat
 |0=>0
 |l+1=>FC ls l+cn ls l
def Ks(ls:List Nat):Nat:=(ls.map fun x=>if x=0 then 0 else 2 ^ (15-x)).sum
def Aa0(ls:List Nat):Nat:=ls.countP (fun x=>decide (x≠0))
theorem UQ(x:Nat)(ls:List Nat)(l:Nat):cn (x :: ls) l=cn ls l+if x≠0/\x=l then 1 else 0:=by
 unfold cn cnt;by_cases hl:l=0
 ·subst hl;simp
 ·rw[Aa hl,Aa hl,List.countP_cons];by_cases hx:x=l
  ·simp[hx,hl]
  ·simp[hx]
theorem UF:∀l,Do [] l=0
 |0=>rfl
 |l+1=>by rw[Do,UF l];simp[cn,LD]
theorem Ut:∀l,FC [] l=0
 |0=>rfl
 |l+1=>by rw[FC,Ut l];simp[cn,LD]
theorem Vz(x:Nat)(ls:List Nat):∀l,Do (x :: ls) l=Do ls l+if x≠0/\x<l then 2 ^ (15-x)else 0
 |0=>by simp[Do]
 |l+1=>by
  rw[Do,Vz x ls l,Do,UQ,Fk];by_cases h0:x=0
  ·simp[h0]
  ·by_cases h1:x=l
   ·subst h1;simp[h0];omega
   ·by_cases h2:x<l
    ·have:x<l+1:=nj;simp[h0,h1,h2,this];omega
    ·have:¬x<l+1:=nj;simp[h1,h2,this]
theorem Vn(x:Nat)(ls:List Nat):∀l,FC (x :: ls) l=FC ls l+if x≠0/\x<l then 1 else 0
 |0=>by simp[FC]
 |l+1=>by
  rw[FC,Vn x ls l,FC,UQ];by_cases h0:x=0
  ·simp[h0]
  ·by_cases h1:x=l
   ·subst h1;simp[h0];omega
   ·by_cases h2:x<l
    ·have:x<l+1:=nj;simp[h0,h1,h2,this];omega
    ·have:¬x<l+1:=nj;simp[h1,h2,this]
theorem NF:∀ (ls:List Nat),(∀x∈ls,x<=15)->Do ls 16=Ks ls
 | [],_=>by rw[UF];rfl
 |x :: ls,h=>by
  have h1:=h x rX;rw[Vz,NF ls (fun y hy=>h y (by simp[hy]))];unfold Ks;rw[Ct,GC];by_cases h0:x=0
  ·simp[h0]
  ·have:x<16:=nj;simp[h0,this];omega
theorem Me:∀ (ls:List Nat),(∀x∈ls,x<=15)->FC ls 16=Aa0 ls
 | [],_=>by rw[Ut];rfl
 |x :: ls,h=>by
  have h1:=h x rX;rw[Vn,Me ls (fun y hy=>h y (by simp[hy]))];unfold Aa0;rw[List.countP_cons];by_cases h0:x=0
  ·simp[h0]
  ·have:x<16:=nj;simp[h0,this]
def okB(ls:List Nat):Bool:=decide (ls.length<=300)&&ls.all (fun x=>decide (x<=15))&&(decide (Aa0 ls=0) || decide (Aa0 ls=1/\cnt ls 1=1) || decide (Ks ls=32768))
def fst(ls:List Nat):Nat->Nat
 |0=>0
 |l+1=>2*(fst ls l+cn ls l)
def code(ls:List Nat)(s:Nat):Nat:=let x:=ls.getD s 0;if x=0 then 0 else fst ls x+cnt (ls.take s) x
def codes(ls:List Nat):List Nat:=(List.range ls.length).map (code ls)
theorem PJ(ls:List Nat):∀l,fst ls l+2*ls.length<=2 ^ (l+1)*ls.length
 |0=>by simp[fst]
 |l+1=>by
  have h1:=PJ ls l;have h2:=Ku ls l;have h3:2 ^ (l+1+1)*ls.length=2*(2 ^ (l+1)*ls.length):=by rw[FX 2 (l+1),Nat.mul_comm (2 ^ (l+1)) 2,Nat.mul_assoc]
  rw[fst,h3];omega
def jZ(k:IntKind)(l:List Nat):Nat->Nat->Value:=fun i _=> .int k (l.getD i 0:Nat)
def Cnts(f:Nat->Nat)(n:Nat)(arr:Array Value):Prop:=arr.size=n/\∀l,l<n->arr[l]? =some (.int .i64 (f l))
theorem Cnts.set{f g:Nat->Nat}{v:Nat}(h:Cnts f n arr)(hv:g x=v)(ho:∀l,l≠x->g l=f l):Cnts g n (arr.setIfInBounds x (.int .i64 (v:Nat))):=by
 refine⟨qo,fun l hl=> ?_⟩;rw[Gp];by_cases e:x=l
 ·subst e;rw[Ab rfl,Ab mg,hv]
 ·rw[Aa e,h.2 l hl,ho l (Ba e)]
theorem bG{cs:Array Value}{v:Value}(h:cs[i]? =some v):cs.setIfInBounds i v=cs:=by
 apply Array.ext_getElem?
 intro j;rw[Gp];split
 ·rename_i e;subst e;obtain⟨hi,_⟩:=Array.getElem?_eq_some_iff.1 h;rw[Ab hi,h]
 ·rfl
theorem N4{g:Nat}{t:TypeId}{cs:Array Value}:∀ (vs:List Value) (o:Nat) (w:World),Blk w g t cs->(∀j v,vs[j]? =some v->cs[o+j]? =some v)->Blk (w.setCells g o vs) g t cs
 | [],_,_,h,_=>h
 |v :: vs,o,w,h,hc=>by
  refine N4 vs (o+1) _ ?_ (fun j u hu=>by rw[show o+1+j=o+(j+1) by omega];exact hc (j+1) u hu);have:=h.set o v
  rwa [bG (by simpa using hc 0 v rfl)]at this
theorem Kg{B g:Nat}{a:World}(hB:B<=g):∀ (vs:List Value) (o:Nat) (w:World),Below B a w->Below B a (w.setCells g o vs)
 | [],_,_,h=>h
 |_ :: vs,o,_,h=>Kg hB vs (o+1) _ (BS (p:=⟨g,o,none⟩) hB h)
theorem LP{cs:Array Value}(h:Blk w g t cs):w.there g 0 cs.size:=fun j hj=>by rw[Ca];exact⟨by rw[h.cell,KM hj];rfl,h.frozen j⟩
theorem Cnts.one{f:Nat->Nat}(h:Cnts f n arr):arr.all (·.oneCell')=true:=by rw[Array.all_eq_true];intro i hi;have:=h.2 i mg;rw[KM hi]at this;injection this with this;rw[this];rfl
theorem a1r{p:Prop}(h:p:=by rcases this with rfl|rfl|rfl|rfl|rfl|rfl|rfl|rfl|rfl|rfl|rfl|rfl|rfl|rfl|rfl|rfl<;>rfl):p:=h
theorem Cnts.zero:Cnts (fun _=>0) 16 #[ij,ij,ij,ij,ij,ij,ij,ij,ij,ij,ij,ij,ij,ij,ij,ij]:=by
 refine⟨rfl,fun l hl=> ?_⟩;have:l=0∨l=1∨l=2∨l=3∨l=4∨l=5∨l=6∨l=7∨l=8∨l=9∨l=10∨l=11∨l=12∨l=13∨l=14∨l=15:=nj
 exact a1r
theorem results_cell_tmp{P:Program}{fn:Func}{p q:Tmp}{ty:TypeId}(h:fn.results=#[.cell p ty, .tmp q])(i:Array Value)(w:World)(g:Nat)(t:TypeId)(cs:Array Value)(d:TypeDesc)(u:Value)
 (hp:i.getD p undef= .pointer (some ⟨g,0,none⟩))(hq:i.getD q undef=u)(hg:Blk w g t cs)
 (hu:P.underlying ty=some d)(hd:(match d with| .struct _| .array _ _=>true|_=>false)=true)(hi:(P.info? ty).map (·.size)=some cs.size):
 (results fn i).run P w= .ok (.tuple #[.agg cs,u]) w:=by
 have j:i[p]?.getD undef= .pointer (some ⟨g,0,none⟩):=by simpa using hp
 have y:i[q]?.getD undef=u:=by simpa using hq
 simp[results,h,j,y,asAddr,run_loadVar_row w g t ty cs (0,0) d hg hu hd hi]
theorem Ki:(prog.info? 442).map (·.size)=some 16:=my
def Eh(ls:List Nat):Bool:=decide (ls.length<=300)&&ls.all (fun x=>decide (x<=15))
def Aa2(ls:List Nat)(w:World)(e:Ending)(w':World):Prop:=
 ∃ (arr:Array Value) (f:Nat->Nat),e= .returned (.tuple #[.agg arr, .bool (Eh ls)])/\Cnts f 16 arr/\(∀l,f l<=300)/\(Eh ls=true->f=cn ls)/\Below w w w'
theorem CO{k:IntKind}(h:Row w B A n 1 (jZ k ls))(hn:ls.length=n)(hi:i<n):
 ∃b j x,A=some ⟨b,j,none⟩/\b<B/\ls[i]? =some x/\w.cell? ⟨b,j+i,none⟩=some (.int k (x:Nat)):=by
 obtain⟨b,j,e,hb,hc⟩:=h nj;have hl:i<ls.length:=nj
 have h1:=hc i 0 hi nj;simp only[jZ,Nat.mul_one,Nat.add_zero,List.getD_eq_getElem?_getD,List.getElem?_eq_getElem hl,Option.getD_some]at h1;exact⟨b,j,ls[i],e,hb,Az hl,h1⟩
theorem Va(w:World)(A:Option Addr)(n c:Nat)(ls:List Nat)(hn:ls.length=n)(hN:n<=9223372036854775807)(ha:Row w w A n 1 (jZ .u8 ls)):
 Calls prog 349 #[.slice A n c] w (Aa2 ls w):=by
 have HN:=hid hn;clear hn;by_cases ax:n<=300
 ·have hd:=ig (300<n)
  go_enter func349,ntmps349;go_wp2_with fail;go_loopw [12] (fun i wr=>∃ (k:Nat) (arr:Array Value),k<=n/\i= .int .i64 k/\Blk wr w 442 arr/\Hid (Cnts (cnt (ls.take k)) 16 arr)/\Hid (∀x∈ls.take k,x<=15)/\Below w w wr) (fun i _=>n-(intOf i).toNat)
  case atStart=>exact⟨0,_,nj,rfl,Blk.made _ _ _,Cnts.zero,fun x hx=>r9,aZ (Ae _ _)⟩
  case round=>
   obtain⟨k,arr,hk,rfl,blk,G,aj,N⟩:=hrel;have ab:(prog.info? 442).map (·.size)=some arr.size:=(by rw[G.out.1];exact Ki);have HI:=hid ab;clear ab;have au:=blk.frozen 0;by_cases ar:k<n
   ·obtain⟨b,az,x,rfl,ay,hx,c0⟩:=CO (ha.below N) HN.out ar;have al:=I4 hx;have HX:=hid hx;have af:=hid al;clear hx al;by_cases aq:15<x
    ·have L:Eh ls=false:=(by unfold Eh;have:ls.all (fun x=>decide (x<=15))=false:=(by rw[List.all_eq_false];exact⟨x,Bp HX.out,by simpa using aq⟩);rw[this,Bool.and_false]);have HB:=hid L;clear L
     go_wp2_with(first
      |(refine wpList_load_row rfl 442 (.tmp 2) rfl w.heap.size nm _ arr (0,0) _ blk underlying442 rfl HI.out ?_)
      |(refine wpList_store_mid rfl 442 (.tmp 2) _ rfl w.heap.size 0 arr nm nm (LP blk) HI.out G.out.one ?_))
     have J:=N4 arr.toList 0 wr blk (fun j v hv=>by rw[Ca];simpa using hv);refine Bx (results_cell_tmp rfl _ _ w.heap.size _ arr _ (.bool false) rfl rfl J underlying442 rfl HI.out) rfl ⟨arr,cnt (ls.take k),by rw[HB.out],G.out,fun l=> ?_,(fun h=>by rw[HB.out]at h;cases h),Kg (Ak _) _ _ _ N⟩;have h1:=P8 (ls.take k) l;rw[AY]at h1;omega
    ·have ae:=G.out.2 x nj;have c1:=blk.cell x;rw[ae]at c1;have f1:=blk.frozen x;have h1:=P8 (ls.take k) x;rw[AY]at h1
     have ak:Cnts (cnt (ls.take (k+1))) 16 (arr.setIfInBounds x (.int .i64 ((cnt (ls.take k) x+1:Nat):Int))):=by
      refine G.out.set ?_ fun l hl=> ?_
      ·rw[af.out,Ip,Ab rfl]
      ·rw[af.out,Ip,Aa (fun e=>hl e.symm)];rfl
     generalize cnt (ls.take k) x=y at *;have an:=hid ak
     have ah:∀z∈ls.take (k+1),z<=15:=by
      intro z hz;rw[af.out,BJ,Eo]at hz;rcases hz with hz|rfl
      ·exact aj.out z hz
      ·omega
     have av:=hid ah;clear ae ak ah;have x1:(x:Int)<16:=nj;have x0:(0:Int)<=(x:Int):=nj;go_wp2_with fail;go_roundw
     case rel=>go_light;exact⟨k+1,_,nj,jr,blk.set x _,an,av,BS (p:=⟨w.heap.size,x,none⟩) (Ak _) N⟩
     case measure=>exact jq
   ·obtain rfl:k=n:=by omega
    have U:ls.take k=ls:=Cf ly;have Q:Eh ls=true:=(by have:=aj.out;rw[U]at this;unfold Eh;rw[Cp,GE];exact⟨by have:=HN.out;simp;omega,fun x hx=>by simpa using this x hx⟩);have HG:=hid Q;have hc:=G.out;rw[U]at hc;have h0:Cnts (cn ls) 16 (arr.setIfInBounds 0 (.int .i64 ((0:Nat):Int))):=hc.set (by simp[cn]) (fun l hl=>by simp[cn,hl]);have H0:=hid h0;have ai:=blk.cell 0;rw[hc.2 0 nj]at ai;generalize cnt ls 0=y at ai;have M:=blk.set 0 (.int .i64 0);have aw:=M.frozen 0;have Y:(prog.info? 442).map (·.size)=some (arr.setIfInBounds 0 (.int .i64 0)).size:=(by rw[Oy];exact HI.out);have aa:=hid Y;have ac:=hid h0.one;clear U Q hc h0 Y;obtain⟨E,Z⟩:=ii (arr.setIfInBounds 0 (.int .i64 0));have am:Hid (Cnts (cn ls) 16 E):=(by rw[Z];exact H0);have ag:Hid (E.all (·.oneCell')=true):=(by rw[Z];exact ac);rw[<-Z]at M aa;clear H0 ac Z
    go_wp2_with(first
     |(refine wpList_load_row rfl 442 (.tmp 2) rfl w.heap.size nm _ E (0,0) _ M underlying442 rfl aa.out ?_)
     |(refine wpList_store_mid rfl 442 (.tmp 2) _ rfl w.heap.size 0 E nm nm (LP M) aa.out ag.out ?_))
    have J:=N4 E.toList 0 _ M (fun j v hv=>by rw[Ca];simpa using hv);refine Bx (results_cell_tmp rfl _ _ w.heap.size _ E _ (.bool true) rfl rfl J underlying442 rfl aa.out) rfl ⟨E,cn ls,by rw[HG.out],am.out,fun l=> ?_,(fun _=>rfl),Kg (Ak _) _ _ _ (BS (p:=⟨w,0,none⟩) (Ak _) N)⟩;have h1:=Ku ls l;have:=HN.out;omega
 ·have L:Eh ls=false:=by unfold Eh;have:decide (ls.length<=300)=false:=(by simp;have:=HN.out;omega);rw[this,JG]
  have HB:=hid L;clear L;have blk:Blk (w.alloc (.cells #[ij,ij,ij,ij,ij,ij,ij,ij,ij,ij,ij,ij,ij,ij,ij,ij] 442)) w 442 _:=Blk.made _ _ _;go_enter func349,ntmps349
  go_wp2_with(first
   |(refine wpList_load_row rfl 442 (.tmp 2) rfl w.heap.size nm _ _ (0,0) _ blk underlying442 rfl Ki ?_)
   |(refine wpList_store_mid rfl 442 (.tmp 2) _ rfl w.heap.size 0 _ nm nm (LP blk) Ki Cnts.zero.one ?_))
  have J:=N4 _ 0 _ blk (fun j v hv=>by rw[Ca];simpa using hv);refine Bx (results_cell_tmp rfl _ _ w.heap.size _ _ _ (.bool false) rfl rfl J underlying442 rfl Ki) rfl ⟨_,_,by rw[HB.out],Cnts.zero,fun l=>nj,(fun h=>by rw[HB.out]at h;cases h),Kg (Ak _) _ _ _ (aZ (Ae _ _))⟩
def wsF(f:Nat->Nat):Nat->Nat
 |0=>0
 |l+1=>wsF f l+(if l=0 then 0 else f l)*2 ^ (15-l)
def wnF(f:Nat->Nat):Nat->Nat
 |0=>0
 |l+1=>wnF f l+(if l=0 then 0 else f l)
theorem PE(ls:List Nat):∀l,wsF (cn ls) l=Do ls l
 |0=>rfl
 |l+1=>by rw[wsF,Do,PE ls l];by_cases h:l=0<;>simp[h,cn]
theorem Pv(ls:List Nat):∀l,wnF (cn ls) l=FC ls l
 |0=>rfl
 |l+1=>by rw[wnF,FC,Pv ls l];by_cases h:l=0<;>simp[h,cn]
theorem RW(f:Nat->Nat)(hf:∀l,f l<=300):∀l,wsF f l<=l*9830400
 |0=>by simp[wsF]
 |l+1=>by have h1:=RW f hf l;have h2:=hf l;have h3:2 ^ (15-l)<=2 ^ 15:=Cm nj nj;have h4:(if l=0 then 0 else f l)*2 ^ (15-l)<=300*32768:=Iw (by split<;>omega) h3;rw[wsF,Fk];omega
theorem Rz(f:Nat->Nat)(hf:∀l,f l<=300):∀l,wnF f l<=l*300
 |0=>by simp[wnF]
 |l+1=>by
  have h1:=Rz f hf l;have h2:=hf l;have h3:(if l=0 then 0 else f l)<=300:=by split<;>omega
  rw[wnF,Fk];omega
theorem iM(w:World)(arr:Array Value)(f:Nat->Nat)(hc:Cnts f 16 arr)(hf:∀l,f l<=300):
 Calls prog 350 #[.agg arr] w fun e w'=>e= .returned (.tuple #[.int .i64 (wsF f 16:Nat), .int .i64 (wnF f 16:Nat)])/\Below w w w':=by
 have HC:=hid hc;have HF:=hid hf;have G:=hc.1;have U:=hid G;clear hc hf G;go_enter func350,ntmps350;go_wp2_with fail;go_loopw [2,3,4] (fun s n i wr=>∃ (l S N:Nat),1<=l/\l<=16/\i= .int .i64 l/\s= .int .i64 S/\n= .int .i64 N/\Hid (S=wsF f l)/\Hid (N=wnF f l)/\S<=157286400/\N<=4800/\Blk wr w 442 arr/\Below w w wr) (fun _ _ i _=>16-(intOf i).toNat)
 case atStart=>exact⟨1,0,0,nj,nj,rfl,rfl,rfl,rfl,rfl,nj,nj,Blk.made _ _ _,aZ (Ae _ _)⟩
 case round=>
  obtain⟨l,S,N,Y,Z,rfl,rfl,rfl,hS,hN,bS,bN,blk,h⟩:=hrel;by_cases L:l<16
  ·have c0:=blk.cell l;rw[HC.out.2 l L]at c0;have Q:=HF.out l;have j:S+f l*2 ^ (15-l)=wsF f (l+1):=(by rw[wsF,Aa nj,hS.out]);have E:N+f l=wnF f (l+1):=(by rw[wnF,Aa nj,hN.out]);have b1:=RW f HF.out (l+1);have b2:=Rz f HF.out (l+1);rw[<-j]at b1;rw[<-E]at b2;have M:=hid j;have J:=hid E;clear j E;generalize f l=y at *;have x0:(0:Int)<=(l:Int):=nj;have x1:(l:Int)<16:=nj;go_wp2_with fail;go_roundw
   case rel=>go_light;have b3:(l+1)*9830400<=16*9830400:=GB _ nj;have b4:(l+1)*300<=16*300:=GB _ nj;generalize hz:y*2 ^ (15-l)=z at *;have e1:wrap64 ((y:Int)*2 ^ (15-l))=(z:Int):=(by have:((y:Int)*2 ^ (15-l))=((z:Nat):Int):=(by rw[<-hz];simp);rw[this];exact JD _ ⟨nj,nj⟩);have e2:wrap64 ((S:Int)+(z:Int))=((S+z:Nat):Int):=(by rw[JD _ ⟨nj,nj⟩];simp);exact⟨l+1,S+z,N+y,nj,nj,jr,by rw[e1,e2],jr,M,J,nj,nj,blk,h⟩
   case measure=>exact jq
  ·obtain rfl:l=16:=by omega
   go_wp2_with fail;go_ret2;go_light;exact⟨by rw[<-hS.out,<-hN.out];rfl,h⟩
theorem OZ(h:Eh ls=true):ls.length<=300/\∀x∈ls,x<=15:=by unfold Eh at h;rw[Cp,GE]at h;exact⟨by simpa using h.1,fun x hx=>by simpa using h.2 x hx⟩
def Ho(ls:List Nat):Int:=if okB ls=true then 0 else 7
theorem Tx(h:Eh ls=false):okB ls=false:=by unfold okB;unfold Eh at h;rw[h,JG]
theorem bX(h:Eh ls=true):okB ls=(decide (FC ls 16=0) || decide (FC ls 16=1/\cn ls 1=1) || decide (Do ls 16=32768)):=by obtain⟨_,h2⟩:=OZ h;unfold okB;unfold Eh at h;rw[h,Bool.true_and,NF ls h2,Me ls h2];rfl
theorem Aa4{g:Nat}{t:TypeId}:∀ (vs pre i:List Value) (w:World),i.length=vs.length->Blk w g t (pre++i).toArray->Blk (w.setCells g pre.length vs) g t (pre++vs).toArray
 | [],pre,i,w,hl,h=>by have:i= []:=Gn hl;subst this;exact h
 |v :: vs,pre,[],w,hl,h=>r6
 |v :: vs,pre,x :: i,w,hl,h=>by
  have h1:=h.set pre.length v
  have e1:(pre++x :: i).toArray.setIfInBounds pre.length v=((pre++ [v])++i).toArray:=by
   apply Array.ext'
   simp
  rw[e1]at h1;have:=Aa4 vs (pre++ [v]) i _ (by simpa using hl) h1;simpa[World.setCells]using this
theorem UY{cs:Array Value}(h:Blk w g t cs)(hs:arr.size=cs.size):Blk (w.setCells g 0 arr.toList) g t arr:=by have:=Aa4 (g:=g) (t:=t) arr.toList [] cs.toList w (by simp[hs]) sH;simpa using this
theorem UI(ls:List Nat)(f:Nat->Nat)(hg:Eh ls=true->f=cn ls):Ho ls=if Eh ls=true/\(wnF f 16=0∨(wnF f 16=1/\f 1=1)∨wsF f 16=32768)then 0 else 7:=by
 unfold Ho;cases hb:Eh ls
 ·rw[Tx hb];simp
 ·rw[bX hb,hg hb,PE,Pv];by_cases h1:FC ls 16=0<;>by_cases h2:(FC ls 16=1/\cn ls 1=1)<;>by_cases h3:Do ls 16=32768<;>simp[h1,h2,h3]
theorem O2(w:World)(A:Option Addr)(n c:Nat)(ls:List Nat)(hn:ls.length=n)(hN:n<=9223372036854775807)(ha:Row w w A n 1 (jZ .u8 ls)):
 Calls prog 317 #[.slice A n c] w fun e w'=>e= .returned (.int .i64 (Ho ls))/\Below w w w':=by
 have C:=hid (Va w A n c ls hn hN ha);clear hn ha;go_enter func317,ntmps317;go_wp2_with fail;refine C.out.mono ?_;rintro e w1 ⟨arr,f,rfl,hc,hf,hg,i⟩;have E:arr.size=16:=hc.1;have Q:=UI ls f hg;have M:Blk (w1.alloc (.cells #[ij,ij,ij,ij,ij,ij,ij,ij,ij,ij,ij,ij,ij,ij,ij,ij] 442)) w1 442 _:=Blk.made _ _ _;have j:=UY (arr:=arr) M (by rw[E];rfl);have Y:(w1.alloc (.cells #[ij,ij,ij,ij,ij,ij,ij,ij,ij,ij,ij,ij,ij,ij,ij,ij] 442)).there w1 0 arr.size:=by rw[E];exact LP M
 have J:(prog.info? 442).map (·.size)=some arr.size:=by rw[E];exact Ki
 have h:Below w w ((w1.alloc (.cells #[ij,ij,ij,ij,ij,ij,ij,ij,ij,ij,ij,ij,ij,ij,ij,ij] 442)).setCells w1 0 arr.toList):=
  Kg i.size _ _ _ (pZ i.size i)
 have N:=hid hc.one;have L:=hid J;have HC:=hid hc;have HF:=hid hf;have z:=hid Q;clear E J hc hf Q hg M;go_upto_region 2 with (refine wpList_store_mid rfl 442 (.tmp 3) (.tmp 10) rfl w1.heap.size 0 arr nm nm Y L.out N.out ?_);have aa:w1.heap.size<(World.heap ((w1.alloc (.cells #[ij,ij,ij,ij,ij,ij,ij,ij,ij,ij,ij,ij,ij,ij,ij,ij] 442)).setCells w1 0 arr.toList)).size:=j.lt;clear Y;generalize (w1.alloc (.cells #[ij,ij,ij,ij,ij,ij,ij,ij,ij,ij,ij,ij,ij,ij,ij,ij] 442)).setCells w1 0 arr.toList=w2 at *;go_wp2_with(refine wpList_load_row rfl 442 (.tmp 3) rfl w1.heap.size nm _ arr (0,0) _ j underlying442 rfl L.out ?_);refine(iM w2 arr f HC.out HF.out).mono ?_;rintro e w3 ⟨rfl,U⟩;have Z:=j.step U;have G:Below w w w3:=xZ U h.size h;have c1:=Z.cell 1;rw[HC.out.2 1 nj]at c1;generalize f 1=y at *;generalize wnF f 16=wn at *;generalize wsF f 16=ws at *;clear C i j h;cases hgood:Eh ls
 ·rw[hgood]at z;go_wp2_with fail;go_ret;refine⟨IR ?_,G⟩;rw[z.out];simp
 ·rw[hgood]at z;go_wp2_with fail
  all_goals
   go_ret;refine⟨IR ?_,G⟩;rw[z.out];go_light;simp only[true_and]
   first|(rw[Ab nj];done)|(rw[Aa nj];done)|skip
  all_goals
   simp only[bne_iff_ne,ne_eq,bne_eq_false_iff_eq]at *
   first|(rw[Ab nj];done)|(rw[Aa nj];done)
structure Rec where
 time:Int
 level:Int
 source:ByteArray
 text:ByteArray
def GX:Rec:=⟨0,0, .empty, .empty⟩
def BW(l:List Rec):Nat->Nat->Value:=fun i j=>match j with
 |0=> .int .u64 (l.getD i GX).time
 |1=> .int .u8 (l.getD i GX).level
 |2=> .string (l.getD i GX).source
 |_=> .string (l.getD i GX).text
def Ja(a b:Rec):Bool:=a.time==b.time&&(a.level==b.level&&(a.source.toList==b.source.toList&&a.text.toList==b.text.toList))
theorem Uw{a b:ByteArray}(h:a.toList=b.toList):a=b:=by
 have h':a.data.toList=b.data.toList:=by rw[<-GF,<-GF];exact h
 cases a;cases b
 simp at h';rw[h']
theorem Ot(a b:Rec):Ja a b=true↔a=b:=by
 constructor
 ·intro h;simp only[Ja,Bool.and_eq_true,beq_iff_eq]at h;obtain⟨h1,h2,h3,h4⟩:=h;cases a;cases b;simp only at h1 h2 h3 h4;rw[h1,h2,Uw h3,Uw h4]
 ·intro h;subst h;simp[Ja]
theorem Xh(a b:Rec):Ja a b=false↔a≠b:=by rw[<-Bool.not_eq_true,Ot]
instance:DecidableEq Rec:=fun a b=>if h:Ja a b=true then .isTrue ((Ot a b).1 h)else .isFalse fun e=>h ((Ot a b).2 e)
def JZ(a b:List Rec):Bool:=decide (a=b)
def Aa7(r:Rec):Int:=16+r.source.size+r.text.size
def BC(l:List Rec):Int:=(l.map Aa7).foldl (·+ ·) 0
theorem LN(l:List Int):∀a:Int,l.foldl (·+ ·) a=a+l.foldl (·+ ·) 0:=by
 induction l with
 |nil=>intro a;simp
 |cons x l ih=>intro a;simp only[List.foldl_cons];rw[ih (a+x),ih (0+x)];omega
theorem TF(l:List Rec)(r:Rec):BC (l++ [r])=BC l+Aa7 r:=by simp[BC]
theorem Kq:BC []=0:=rfl
theorem mR(a b:Rec)(w:World):(binOp .neq 43 (.agg #[.int .u64 a.time, .int .u8 a.level, .string a.source, .string a.text]) (.agg #[.int .u64 b.time, .int .u8 b.level, .string b.source, .string b.text])).run prog w= .ok (.bool (!Ja a b)) w:=by
 go_simp
 simp only[Ja];by_cases h1:a.time=b.time<;>by_cases h2:a.level=b.level<;>by_cases h3:a.source.toList=b.source.toList<;>by_cases h4:a.text.toList=b.text.toList<;>simp[h1,h2,h3,h4]
theorem Row.rec{l:List Rec}(h:Row w B A n 4 (BW l))(hn:l.length=n)(hk:k<n):
 ∃b i r,A=some ⟨b,i,none⟩/\b<B/\l[k]? =some r/\w.cell? ⟨b,i+k*4,none⟩=some (.int .u64 r.time)/\w.cell? ⟨b,i+k*4+1,none⟩=some (.int .u8 r.level)/\
  w.cell? ⟨b,i+k*4+2,none⟩=some (.string r.source)/\w.cell? ⟨b,i+k*4+3,none⟩=some (.string r.text):=by
 obtain⟨b,i,rfl,hb,hc⟩:=h nj;have hl:k<l.length:=nj
 refine⟨b,i,l[k],rfl,hb,Az hl,?_⟩;have c0:=hc k 0 hk nj;have c1:=hc k 1 hk nj;have c2:=hc k 2 hk nj;have c3:=hc k 3 hk nj;simp only[BW,List.getD_eq_getElem?_getD,List.getElem?_eq_getElem hl,Option.getD_some,Nat.add_zero,<-Nat.add_assoc]at c0 c1 c2 c3;exact⟨c0,c1,c2,c3⟩
theorem gQ(w:World)(A B:Option Addr)(n m c d:Nat)(la lb:List Rec)(hn:la.length=n)(hm:lb.length=m)(hN:n<=9223372036854775807)(hM:m<=9223372036854775807)
 (ha:Row w w A n 4 (BW la))(hb:Row w w B m 4 (BW lb)):
 Calls prog 20 #[.slice A n c, .slice B m d] w fun e w'=>e= .returned (.bool (JZ la lb))/\∃q,w'=w.drewN q:=by
 have HN:=hid hn;have HM:=hid hm;clear hn hm;have hq:=mR;by_cases G:n=m
 ·subst G;go_enter func20,ntmps20
  go_wp2
  go_loopw [5] (fun i wr=>∃k q:Nat,k<=n/\i= .int .i64 k/\Hid (la.take k=lb.take k)/\wr=w.drewN q) (fun i _=>n-(intOf i).toNat)
  case atStart=>exact⟨0,0,nj,rfl,by rw[List.take_zero,List.take_zero];rfl,rfl⟩
  case round=>
   obtain⟨k,q,hk,rfl,j,rfl⟩:=hrel;by_cases z:k<n
   ·obtain⟨b,N,r,rfl,M,hr,c0,c1,c2,c3⟩:=Row.rec ha HN.out z;obtain⟨b',J,r',rfl,L,E,d0,d1,d2,d3⟩:=Row.rec hb HM.out z;have HR:=hid hr;have y:=hid E;clear hr E;have i1:(0:Int)<=(k:Int):=nj;have i2:(k:Int)<(n:Int):=nj;cases hrr:Ja r r'
    ·go_wp2_with fail;go_quiet (fail);go_wp2_with fail;go_ret;go_light;refine⟨GV ?_,_,Gy _ _ _⟩;have:la≠lb:=(by intro e;have h1:=HR.out;rw[e,y.out]at h1;injection h1 with h1;exact(Xh _ _).1 hrr h1.symm);simp[JZ,this]
    ·go_wp2_with fail;go_quiet (fail);go_wp2_with fail;go_roundw
     case rel=>go_light;refine⟨k+1,_,nj,jr,?_,rfl⟩;have e:=(Ot _ _).1 hrr;show la.take (k+1)=lb.take (k+1);rw[Cw,Cw,j.out,HR.out,y.out,e]
     case measure=>exact jq
   ·obtain rfl:k=n:=by omega
    go_wp2_with fail;go_ret;go_light;refine⟨GV ?_,_,rfl⟩;have h:=j.out;rw[Cf ly,Cf (by have:=HM.out;omega)]at h;simp[JZ,h]
 ·have Q:((n:Int)==(m:Int))=false:=by simp;omega
  go_enter func20,ntmps20
  go_wp2
  go_ret;refine⟨GV ?_,0,rfl⟩;have:la≠lb:=by intro e;have h1:=HN.out;have h2:=HM.out;rw[e]at h1;omega
  simp[JZ,this]
theorem aH(w:World)(A B:Option Addr)(n m c d:Nat)(la lb:List Rec)(hn:la.length=n)(hm:lb.length=m)(hN:n<=9223372036854775807)(hM:m<=9223372036854775807)
 (ha:Row w w A n 4 (BW la))(hb:Row w w B m 4 (BW lb)):
 Calls prog 20 #[.slice A n c, .slice B m d] w fun e w'=>e= .returned (.bool (JZ la lb))/\Below w w w':=
 (gQ w A B n m c d la lb hn hm hN hM ha hb).mono fun _ _ ⟨he,q,hw⟩=>⟨he,by rw[hw];exact below_drewN (Ae _ _) _⟩
def aW(l:List Rec)(w:World)(e:Ending)(w':World):Prop:=
 ∃x:Int,e= .returned (.int .i64 x)/\0<=x/\x<=4398046511104/\(x<=1099511627776->x=BC l)/\Below w w w'
theorem fM(w:World)(A:Option Addr)(n c:Nat)(la:List Rec)(hn:la.length=n)(hN:n<=9223372036854775807)(ha:Row w w A n 4 (BW la)):
 Calls prog 43 #[.slice A n c] w (aW la w):=by
 have HN:=hid hn;clear hn;go_enter func43,ntmps43
 go_wp2
 go_loopw [3,4] (fun s i wr=>∃ (k:Nat) (x:Int),k<=n/\i= .int .i64 k/\s= .int .i64 x/\0<=x/\x<=4398046511104/\Hid (x=BC (la.take k))/\Below w w wr) (fun _ i _=>n-(intOf i).toNat)
 case atStart=>exact⟨0,0,nj,rfl,rfl,nj,nj,rfl,Ae _ _⟩
 case round=>
  obtain⟨k,x,hk,rfl,rfl,G,z,hx,j⟩:=hrel;by_cases E:k<n
  ·obtain⟨b,L,r,rfl,J,hr,c0,c1,c2,c3⟩:=Row.rec (ha.below j) HN.out E;have HR:=hid hr;clear hr;have i1:(0:Int)<=(k:Int):=nj;have i2:(k:Int)<(n:Int):=nj;by_cases y:1099511627776<x∨1099511627776<(r.source.size:Int)∨1099511627776<(r.text.size:Int)
   ·go_wp2_with fail
    all_goals
     go_ret;go_light;exact⟨2199023255552,rfl,nj,nj,fun h=>nj,j⟩
   ·have h1:x<=1099511627776:=nj;have h2:(r.source.size:Int)<=1099511627776:=nj;have h3:(r.text.size:Int)<=1099511627776:=nj;clear y;go_wp2_with fail;go_quiet (fail);go_wp2_with fail;go_roundw
    case rel=>go_light;refine⟨k+1,x+16+r.source.size+r.text.size,nj,jr,rfl,nj,nj,?_,below_drewN j _⟩;show x+16+r.source.size+r.text.size=BC (la.take (k+1));rw[Cw,HR.out];simp only[Option.toList_some,TF,<-hx.out,Aa7];omega
    case measure=>exact jq
  ·obtain rfl:k=n:=by omega
   go_wp2_with fail;go_ret;go_light;refine⟨x,rfl,G,z,fun _=> ?_,j⟩;have h:=hx.out
   rwa [Cf ly]at h
def Uj(n:Nat)(l:List Rec)(r b:Int)(w:World)(e:Ending)(w':World):Prop:=
 ∃g:Bool,e= .returned (.bool g)/\(g=false->(n:Int)<=r/\BC l<=b)/\Below w w w'
theorem XA(w:World)(A:Option Addr)(n c:Nat)(la:List Rec)(r b:Int)(hb:b<=1099511627776)(hn:la.length=n)(hN:n<=9223372036854775807)(ha:Row w w A n 4 (BW la)):
 Calls prog 11 #[.slice A n c,r,b] w (Uj n la r b w):=by
 have HW:=hid (fM w A n c la hn hN ha);clear hn;by_cases h:r<(n:Int)
 ·go_enter func11,ntmps11;go_wp2_with fail;go_ret;exact⟨true,rfl,(fun h=>by cases h),Ae _ _⟩
 ·go_enter func11,ntmps11;go_wp2_with fail;refine HW.out.mono ?_;rintro e w1 ⟨x,rfl,y,j,hx,i⟩;have HX:=hid hx;clear hx;go_wp2_with fail;go_ret;refine⟨decide (b<x),rfl,fun hd=>⟨nj,?_⟩,i⟩;have hd:=of_decide_eq_false hd;have:=HX.out nj;omega
def lg(v:Int):Int:=((Nat.log2 v.toNat:Nat):Int)
def pw(b:Int):Int:=((2 ^ b.toNat:Nat):Int)
theorem Jw(v:Int):0<=lg v:=by unfold lg;omega
theorem Rc(b:Int):1<=pw b:=by unfold pw;have:0<2 ^ b.toNat:=GA _;omega
theorem LQ(v:Int)(h:1<=v):pw (lg v)<=v:=by unfold pw lg;have:=Nat.log2_self_le (n:=v.toNat) nj;rw[BD];omega
theorem N8(v:Int)(h:1<=v):v<2*pw (lg v):=by unfold pw lg;have:=Nat.lt_log2_self (n:=v.toNat);rw[BD];rw[FX]at this;omega
theorem UA(a b:Int)(h:a<=b):pw a<=pw b:=by unfold pw;have:=Cm (n:=2) nj (show a.toNat<=b.toNat by omega);omega
theorem Jy(v b:Int)(i:0<=b)(h1:1<=v)(h2:v<pw b):lg v<b:=by
 have h3:=LQ v h1;rcases Int.lt_or_le (lg v) b with h|h
 ·exact h
 ·have:=UA b (lg v) h;omega
def Bb(lit len dist:Int):Bool:=
 if len=0 then decide (dist=0)else decide (lit=0/\3<=len/\len<=257/\1<=dist/\dist<=4095)
structure Pc where
 sym:Int
 len:Int
 dist:Int
 far:Int
structure Tk where
 lit:Int
 len:Int
 dist:Int
def Pc.val(p:Pc):Value:= .agg #[p.sym,p.len,p.dist,p.far]
def Tk.val(t:Tk):Value:= .agg #[.int .u8 t.lit,t.len,t.dist]
def rZ(t:Tk):Pc:=
 if Bb t.lit t.len t.dist=true then
  if t.len=0 then⟨t.lit,0,0,0⟩else⟨257+lg (t.len-2),t.len-2-pw (lg (t.len-2)),lg t.dist,t.dist-pw (lg t.dist)⟩
 else⟨0,0,0,0⟩
def Fa(t:Tk):Int:=if Bb t.lit t.len t.dist=true then 0 else 7
def G2(p:Pc):Bool:=decide (0<=p.sym/\p.sym<256/\p.len=0/\p.dist=0/\p.far=0)
def Jh(p:Pc):Bool:=
 decide (257<=p.sym/\p.sym<265/\0<=p.dist/\p.dist<12/\0<=p.len/\p.len<pw (p.sym-257)/\0<=p.far/\p.far<pw p.dist)
def Es(p:Pc):Tk:=
 if G2 p=true then⟨p.sym,0,0⟩else if Jh p=true then⟨0,2+pw (p.sym-257)+p.len,pw p.dist+p.far⟩else⟨0,0,0⟩
def EU(p:Pc):Int:=if G2 p=true then 0 else if Jh p=true then 0 else 7
theorem pw_8:pw 8=256:=ip
theorem PC:pw 12=4096:=ip
theorem bQ(t:Tk)(h0:0<=t.lit)(h1:t.lit<256)(h:Fa t=0):EU (rZ t)=0/\Es (rZ t)=t:=by
 have hm:Bb t.lit t.len t.dist=true:=by
  unfold Fa at h;split at h
  ·assumption
  ·simp at h
 unfold rZ;rw[Ab hm];by_cases hl:t.len=0
 ·rw[Ab hl];unfold Bb at hm;rw[Ab hl]at hm;have hd:t.dist=0:=by simpa using hm
  have i:G2 ⟨t.lit,0,0,0⟩=true:=by simp[G2];omega
  refine⟨by simp[EU,i],?_⟩;unfold Es;rw[Ab i];cases t
  simp_all
 ·rw[Aa hl];unfold Bb at hm;rw[Aa hl]at hm;obtain⟨e1,e2,e3,e4,e5⟩:=of_decide_eq_true hm;have a1:=LQ (t.len-2) nj;have a2:=N8 (t.len-2) nj;have a3:=Jw (t.len-2);have a4:=Jy (t.len-2) 8 nj nj (by rw[pw_8];omega);have b1:=LQ t.dist nj;have b2:=N8 t.dist nj;have b3:=Jw t.dist;have b4:=Jy t.dist 12 nj nj (by rw[PC];omega);have hs:257+lg (t.len-2)-257=lg (t.len-2):=by omega
  have i:G2 ⟨257+lg (t.len-2),t.len-2-pw (lg (t.len-2)),lg t.dist,t.dist-pw (lg t.dist)⟩=false:=by simp[G2];omega
  have j:Jh ⟨257+lg (t.len-2),t.len-2-pw (lg (t.len-2)),lg t.dist,t.dist-pw (lg t.dist)⟩=true:=by simp only[Jh,hs,decide_eq_true_eq];omega
  refine⟨by simp[EU,i,j],?_⟩;unfold Es;rw[Aa sE,Ab j];cases t;simp only[hs]
  simp_all
  omega
def Ak9(l:List Int)(i:Nat):List Int:=l.set i (l.getD i 0+1)
def CV(st:List Int×List Int)(t:Tk):List Int×List Int:=
 (Ak9 st.1 (rZ t).sym.toNat,if t.len=0 then st.2 else Ak9 st.2 (rZ t).dist.toNat)
def Ej(ts:List Tk):List Int×List Int:=ts.foldl CV (List.replicate 265 0,List.replicate 12 0)
def Aa9(ts:List Tk):List Int:=Ak9 (Ej ts).1 256
def Nt(ts:List Tk):List Int:=(Ej ts).2
def Eg(ts:List Tk):Bool:=ts.all fun t=>Bb t.lit t.len t.dist
theorem QV(l:List Int)(i:Nat):(Ak9 l i).length=l.length:=by simp[Ak9]
theorem Un(st:List Int×List Int)(t:Tk):(CV st t).1.length=st.1.length/\(CV st t).2.length=st.2.length:=by
 unfold CV;refine⟨QV _ _,?_⟩;simp only;split
 ·rfl
 ·exact QV _ _
theorem ZA(ts:List Tk):∀st:List Int×List Int,(ts.foldl CV st).1.length=st.1.length/\(ts.foldl CV st).2.length=st.2.length:=by
 induction ts with
 |nil=>intro st;exact⟨rfl,rfl⟩
 |cons t ts ih=>intro st;have h:=ih (CV st t);have h2:=Un st t;exact⟨h.1.trans h2.1,h.2.trans h2.2⟩
theorem La(ts:List Tk):(Ej ts).1.length=265/\(Ej ts).2.length=12:=by have h:=ZA ts (List.replicate 265 0,List.replicate 12 0);exact⟨h.1.trans Dv,h.2.trans Dv⟩
theorem qN(ts:List Tk)(k:Nat)(h:k<ts.length):Ej (ts.take (k+1))=CV (Ej (ts.take k)) ts[k]:=by unfold Ej;rw[List.take_succ_eq_append_getElem h,List.foldl_append];rfl
def Within(b:Int)(l:List Int):Prop:=∀i,0<=l.getD i 0/\l.getD i 0<=b
theorem Within.mono{b c:Int}{l:List Int}(h:Within b l)(j:b<=c):Within c l:=fun i=>by have:=h i;omega
theorem Within.bump{b:Int}{l:List Int}(h:Within b l)(j:Nat):Within (b+1) (Ak9 l j):=by
 intro i;unfold Ak9;simp only[List.getD_eq_getElem?_getD,List.getElem?_set];have hi:=h i;have hj:=h j;simp only[List.getD_eq_getElem?_getD]at hi hj;split
 ·split
  ·simp;omega
  ·simp;omega
 ·omega
theorem Mj(ts:List Tk):Within ts.length (Ej ts).1/\Within ts.length (Ej ts).2:=by
 have j:∀ (ts:List Tk) (st:List Int×List Int) (b:Int),Within b st.1->Within b st.2->Within (b+ts.length) (ts.foldl CV st).1/\Within (b+ts.length) (ts.foldl CV st).2:=by
  intro ts
  induction ts with
  |nil=>intro st b h1 h2;simpa using ⟨h1,h2⟩
  |cons t ts ih=>
   intro st b h1 h2
   have h:=ih (CV st t) (b+1) (h1.bump _) (by
    unfold CV;simp only;split
    ·exact h2.mono nj
    ·exact h2.bump _)
   simp only[List.length_cons,List.foldl_cons];exact⟨h.1.mono nj,h.2.mono nj⟩
 have z:∀n:Nat,Within 0 (List.replicate n 0):=by intro n i;simp only[List.getD_eq_getElem?_getD,List.getElem?_replicate];split<;>simp
 have h:=j ts (List.replicate 265 0,List.replicate 12 0) 0 (z _) (z _);rw[Int.zero_add]at h;exact h
theorem Ni(t:Tk)(h0:0<=t.lit)(h1:t.lit<=255)(hm:Bb t.lit t.len t.dist=true):
 ∃S D:Nat,∃L F:Int,rZ t=⟨S,L,D,F⟩/\S<265/\D<12/\(t.len=0->S<256)/\(t.len≠0->257<=S/\3<=t.len)/\Fa t=0:=by
 by_cases hl:t.len=0
 ·refine⟨t.lit.toNat,0,0,0,?_,nj,nj,fun _=>nj,fun h=>absurd hl h,?_⟩
  ·unfold rZ;rw[Ab hm,Ab hl,Int.toNat_of_nonneg h0];rfl
  ·unfold Fa;rw[Ab hm]
 ·have hb:t.lit=0/\3<=t.len/\t.len<=257/\1<=t.dist/\t.dist<=4095:=by unfold Bb at hm;rw[Aa hl]at hm;exact of_decide_eq_true hm
  have a1:=Jw (t.len-2);have a2:=Jy (t.len-2) 8 nj nj (by rw[pw_8];omega);have b1:=Jw t.dist;have b2:=Jy t.dist 12 nj nj (by rw[PC];omega);refine⟨(257+lg (t.len-2)).toNat,(lg t.dist).toNat,t.len-2-pw (lg (t.len-2)),t.dist-pw (lg t.dist),?_,nj,nj,fun h=>absurd h hl,fun _=>⟨nj,hb.2.1⟩,?_⟩
  ·unfold rZ;rw[Ab hm,Aa hl,Int.toNat_of_nonneg nj,Int.toNat_of_nonneg b1]
  ·unfold Fa;rw[Ab hm]
def Lc(l:List Nat)(p at_:Nat):Nat->Nat->Nat
 |0,n=>n
 |f+1,n=>if n<257/\at_+n<l.length/\l.getD (p+n) 0=l.getD (at_+n) 0 then Lc l p at_ f (n+1)else n
def alike(l:List Nat)(p at_:Nat):Nat:=Lc l p at_ 257 0
structure IsAlike (l:List Nat) (p at_ k:Nat):Prop where
 le:k<=257
 fits:k=0∨at_+k<=l.length
 same:∀j,j<k->l.getD (p+j) 0=l.getD (at_+j) 0
 stop:¬(k<257/\at_+k<l.length/\l.getD (p+k) 0=l.getD (at_+k) 0)
theorem T8(l:List Nat)(p at_:Nat):∀ (f n:Nat),n+f=257->(n=0∨at_+n<=l.length)->(∀j,j<n->l.getD (p+j) 0=l.getD (at_+j) 0)->IsAlike l p at_ (Lc l p at_ f n)
 |0,n,hf,h1,h2=>by rw[Lc];exact⟨nj,h1,h2,nj⟩
 |f+1,n,hf,h1,h2=>by
  rw[Lc];split
  ·rename_i h;refine T8 l p at_ f (n+1) nj (.inr nj) fun j hj=> ?_;by_cases e:j<n
   ·exact h2 j e
   ·obtain rfl:j=n:=by omega
    exact h.2.2
  ·rename_i h;exact⟨nj,h1,h2,h⟩
theorem KE(l:List Nat)(p at_:Nat):IsAlike l p at_ (alike l p at_):=T8 l p at_ 257 0 rfl (.inl rfl) fun j hj=>absurd hj nj
theorem IsAlike.unique{at_ k':Nat}(h:IsAlike l p at_ k)(h':IsAlike l p at_ k'):k=k':=by
 have i:∀ {a b:Nat},IsAlike l p at_ a->IsAlike l p at_ b->¬a<b:=by
  intro a b ha hb j;refine ha.stop ⟨?_,?_,hb.same a j⟩
  ·have:=hb.le;omega
  ·rcases hb.fits with h0|h0<;>omega
 have h1:=i h h';have h2:=i h' h;omega
theorem ZY{at_:Nat}(h:IsAlike l p at_ k):alike l p at_=k:=(KE l p at_).unique h
theorem O9(l:List Nat)(p at_:Nat):alike l p at_<=257:=(KE l p at_).le
def Ko(l:List Nat)(at_:Nat)(nd:Nat×Nat)(d:Nat):Nat×Nat:=if nd.1<alike l (at_-d) at_ then(alike l (at_-d) at_,d)else nd
def Fs(l:List Nat)(at_:Nat):Nat->Nat×Nat
 |0=>(0,0)
 |d+1=>Ko l at_ (Fs l at_ d) (d+1)
def Bw(l:List Nat)(at_:Nat):Nat×Nat:=Fs l at_ (min 4095 at_)
structure Good (l:List Nat) (at_:Nat) (nd:Nat×Nat) (D:Nat):Prop where
 n:nd.1<=257
 d1:nd.1≠0->1<=nd.2
 d2:nd.2<=D
 is:nd.1≠0->nd.1=alike l (at_-nd.2) at_
theorem U0(l:List Nat)(at_:Nat):∀D,Good l at_ (Fs l at_ D) D
 |0=>⟨by simp[Fs],by simp[Fs],by simp[Fs],by simp[Fs]⟩
 |D+1=>by
  have h:=U0 l at_ D;rw[Fs,Ko];split
  ·exact⟨O9 _ _ _,fun _=>rX,rX,fun _=>rfl⟩
  ·exact⟨h.n,h.d1,by have:=h.d2;omega,h.is⟩
theorem Nx(l:List Nat)(at_:Nat):Good l at_ (Bw l at_) (min 4095 at_):=U0 l at_ _
theorem LR{at_:Nat}(h:(Bw l at_).1≠0):at_+(Bw l at_).1<=l.length:=by have hg:=(Nx l at_).is h;rcases(KE l (at_-(Bw l at_).2) at_).fits with h0|h0<;>omega
def Eb(l:List Nat)(at_:Nat):List Tk:=
 if at_<l.length then
  if 3<=(Bw l at_).1 then⟨0,((Bw l at_).1:Nat),((Bw l at_).2:Nat)⟩ :: Eb l (at_+(Bw l at_).1)
  else⟨(l.getD at_ 0:Nat),0,0⟩ :: Eb l (at_+1)
 else []
termination_by l.length-at_
def find(l:List Nat):List Tk:=Eb l 0
theorem NN{at_:Nat}(h:¬at_<l.length):Eb l at_= []:=by rw[Eb,Aa h]
theorem Lg{at_:Nat}(h:at_<l.length)(h3:3<=(Bw l at_).1):Eb l at_=⟨0,((Bw l at_).1:Nat),((Bw l at_).2:Nat)⟩ :: Eb l (at_+(Bw l at_).1):=by rw[Eb,Ab h,Ab h3]
theorem KR{at_:Nat}(h:at_<l.length)(h3:¬3<=(Bw l at_).1):Eb l at_=⟨(l.getD at_ 0:Nat),0,0⟩ :: Eb l (at_+1):=by rw[Eb,Ab h,Aa h3]
theorem Qq{i:Nat->Prop}(h1:∀at_,¬at_<l.length->i at_)(h2:∀at_,at_<l.length->3<=(Bw l at_).1->i (at_+(Bw l at_).1)->i at_)
 (h3:∀at_,at_<l.length->¬3<=(Bw l at_).1->i (at_+1)->i at_):∀at_,i at_:=by
 intro at_;obtain⟨m,hm⟩:=ii (l.length-at_)
 induction m using Nat.strongRecOn generalizing at_ with
 |ind m ih=>
  by_cases h:at_<l.length
  ·by_cases h':3<=(Bw l at_).1
   ·exact h2 at_ h h' (ih _ nj _ rfl)
   ·exact h3 at_ h h' (ih _ nj _ rfl)
  ·exact h1 at_ h
theorem find_ok(h8:∀x∈l,x<=255):∀at_,(∀t∈Eb l at_,(0<=t.lit/\t.lit<=255)/\Bb t.lit t.len t.dist=true)/\(Eb l at_).length<=l.length-at_:=by
 refine Qq (l:=l) ?_ ?_ ?_
 ·intro at_ h;rw[NN h];simp
 ·intro at_ h h3 ih;rw[Lg h h3];have hg:=Nx l at_;have i:=hg.d1 nj;have j:=hg.d2;have hn:=hg.n;refine⟨fun t ht=> ?_,by rw[AD];have:=ih.2;have:=LR (l:=l) (at_:=at_) nj;omega⟩;rcases AO.1 ht with rfl|ht
  ·refine⟨⟨rX,rX⟩,?_⟩;unfold Bb;generalize (Bw l at_).1=n at *;generalize (Bw l at_).2=d at *;rw[Aa (by show ¬(n:Int)=0;omega)];exact Bd ⟨rfl,by show(3:Int)<=(n:Int);omega,by show(n:Int)<=257;omega,by show(1:Int)<=(d:Int);omega,by show(d:Int)<=4095;omega⟩
  ·exact ih.1 t ht
 ·intro at_ h h3 ih;rw[KR h h3];refine⟨fun t ht=> ?_,by rw[AD];have:=ih.2;omega⟩;rcases AO.1 ht with rfl|ht
  ·have hx:=h8 l[at_] (FM h);have e:l.getD at_ 0=l[at_]:=(by rw[Aq,Az h];rfl);refine⟨⟨rX,by simp only[e];omega⟩,?_⟩;unfold Bb;simp
  ·exact ih.1 t ht
def Ee(out:List Nat):Nat->Nat->List Nat
 |0,_=>out
 |n+1,d=>Ee (out++ [out.getD (out.length-d) 0]) n d
theorem NG:∀ (n d:Nat) (out:List Nat),(Ee out n d).length=out.length+n
 |0,_,out=>rfl
 |n+1,d,out=>by rw[Ee,NG n d];simp;omega
def Hx(most:Int)(out:List Nat)(t:Tk):Int:=
 if Bb t.lit t.len t.dist=true then if(out.length:Int)<t.dist then 8 else if most-(out.length:Int)<max 1 t.len then 6 else 0 else 7
def Fo(most:Int):List Nat->List Tk->List Nat×Int
 |out,[]=>(out,0)
 |out,t :: ts=>if Hx most out t=0 then Fo most (if t.len=0 then out++ [t.lit.toNat]else Ee out t.len.toNat t.dist.toNat) ts else([],Hx most out t)
def Gg(ts:List Tk)(most:Int):List Nat×Int:=if most<0 then([],13)else Fo most [] ts
theorem TP{l:List Nat}{d:Nat}(hd:1<=d):∀ (n at_:Nat),d<=at_->at_+n<=l.length->(∀j,j<n->l.getD (at_-d+j) 0=l.getD (at_+j) 0)->Ee (l.take at_) n d=l.take (at_+n)
 |0,at_,_,_,_=>rfl
 |n+1,at_,h1,h2,h3=>by
  have h:(l.take at_).length=at_:=oj
  rw[Ee,h];have e:(l.take at_).getD (at_-d) 0=l.getD at_ 0:=by rw[Aq,List.getElem?_take_of_lt nj,<-Aq];have:=h3 0 nj;simpa using this
  have e2:l.take at_++ [l.getD at_ 0]=l.take (at_+1):=by rw[Cw,Az nj,Aq,Az nj];rfl
  rw[e,e2,TP hd n (at_+1) nj nj (fun j hj=> ?_),show at_+1+n=at_+(n+1) by omega];have:=h3 (j+1) nj;rw[show at_+1-d+j=at_-d+(j+1) by omega,show at_+1+j=at_+(j+1) by omega];exact this
theorem pQ(h8:∀x∈l,x<=255)(hm:(l.length:Int)<=most):∀at_,at_<=l.length->Fo most (l.take at_) (Eb l at_)=(l,0):=by
 refine Qq (l:=l) ?_ ?_ ?_
 ·intro at_ h G;rw[NN h,Fo,Cf nj]
 ·intro at_ h h3 ih _;have y:=((find_ok h8 at_).1 _ (by rw[Lg h h3];exact CP)).2;have hg:=Nx l at_;have E:=hg.d1 nj;have J:=hg.d2;have z:=hg.is nj;have hf:=LR (l:=l) (at_:=at_) nj;have i:=(KE l (at_-(Bw l at_).2) at_).same;rw[<-z]at i;rw[Lg h h3]at ⊢;generalize (Bw l at_).1=n at *;generalize (Bw l at_).2=d at *;have j:(l.take at_).length=at_:=by rw[AY];omega
  have hE:Hx most (l.take at_) ⟨0,(n:Nat),(d:Nat)⟩=0:=by unfold Hx;rw[Ab y,j,Aa (by show ¬(at_:Int)<(d:Int);omega),Aa (by show ¬most-(at_:Int)<max 1 (n:Int);omega)]
  rw[Fo,Ab hE,Aa (by show ¬(n:Int)=0;omega)];show Fo most (Ee (l.take at_) ((n:Nat):Int).toNat ((d:Nat):Int).toNat) _=_;rw[BD,BD,TP E n at_ nj hf i];exact ih nj
 ·intro at_ h h3 ih _;have y:=((find_ok h8 at_).1 _ (by rw[KR h h3];exact CP)).2;rw[KR h h3];have j:(l.take at_).length=at_:=by rw[AY];omega
  have hE:Hx most (l.take at_) ⟨(l.getD at_ 0:Nat),0,0⟩=0:=by unfold Hx;rw[Ab y,j,Aa (by show ¬(at_:Int)<0;omega),Aa (by show ¬most-(at_:Int)<max 1 0;omega)]
  rw[Fo,Ab hE,Ab rfl];show Fo most (l.take at_++ [((l.getD at_ 0:Nat):Int).toNat]) _=_;rw[BD,show l.take at_++ [l.getD at_ 0]=l.take (at_+1) by rw[Cw,Az h,Aq,Az h];rfl];exact ih nj
theorem oS(h8:∀x∈l,x<=255)(hm:(l.length:Int)<=most):Gg (find l) most=(l,0):=by unfold Gg find;rw[Aa nj];exact pQ h8 hm 0 (Bf _)
def Cl(l:List Nat)(p:Nat):Nat×Nat×Nat:=(l.getD p 0,l.getD (p+1) 0,l.getD (p+2) 0)
def norm(nd:Nat×Nat):Nat×Nat:=if 3<=nd.1 then nd else(0,0)
theorem nW{at_:Nat}(h:3<=alike l p at_):Cl l p=Cl l at_:=by have hs:=(KE l p at_).same;unfold Cl;have h0:=hs 0 nj;have h1:=hs 1 nj;have h2:=hs 2 nj;simp only[Nat.add_zero]at h0;rw[h0,h1,h2]
theorem qT{at_:Nat}(h:Cl l p=Cl l at_)(hf:at_+3<=l.length):3<=alike l p at_:=by
 have ha:=KE l p at_;unfold Cl at h;simp only[Prod.mk.injEq]at h;rcases Nat.lt_or_ge (alike l p at_) 3 with hlt|hge
 ·exfalso;refine ha.stop ⟨nj,nj,?_⟩;generalize alike l p at_=k at hlt
  match k,hlt with
  |0,_=>exact h.1
  |1,_=>exact h.2.1
  |2,_=>exact h.2.2
 ·exact hge
def bit(bs:List Bool)(i:Nat):Nat:=if bs.getD i false then 1 else 0
def Dk(bs:List Bool)(k:Nat):Nat:=
 bit bs (8*k)*128+bit bs (8*k+1)*64+bit bs (8*k+2)*32+bit bs (8*k+3)*16+bit bs (8*k+4)*8+bit bs (8*k+5)*4+bit bs (8*k+6)*2+bit bs (8*k+7)
def bytesOf(bs:List Bool):List Nat:=(List.range ((bs.length+7) / 8)).map (Dk bs)
theorem bytesOf_length(bs:List Bool):(bytesOf bs).length=(bs.length+7) / 8:=by simp[bytesOf]
theorem EW(bs:List Bool)(i:Nat):bit bs i<=1:=by unfold bit;split<;>omega
theorem LI(bs:List Bool)(k:Nat):Dk bs k<=255:=by unfold Dk;have h0:=EW bs (8*k);have h1:=EW bs (8*k+1);have h2:=EW bs (8*k+2);have h3:=EW bs (8*k+3);have h4:=EW bs (8*k+4);have h5:=EW bs (8*k+5);have h6:=EW bs (8*k+6);have h7:=EW bs (8*k+7);omega
theorem Gh{bs:List Bool}(h:bs.length<=i):bit bs i=0:=by unfold bit;simp[List.getD_eq_getElem?_getD,List.getElem?_eq_none h]
theorem IT{bs:List Bool}{b:Bool}(h:i≠bs.length):bit (bs++ [b]) i=bit bs i:=by
 unfold bit;by_cases j:i<bs.length
 ·simp[List.getD_eq_getElem?_getD,List.getElem?_append_left j]
 ·simp[List.getD_eq_getElem?_getD,List.getElem?_eq_none (show(bs++ [b]).length<=i by simp;omega),List.getElem?_eq_none (show bs.length<=i by omega)]
theorem pW(bs:List Bool)(b:Bool):bit (bs++ [b]) bs.length=if b then 1 else 0:=by unfold bit;simp[List.getD_eq_getElem?_getD]
theorem Z9{bs:List Bool}{b:Bool}(h:k≠bs.length / 8):Dk (bs++ [b]) k=Dk bs k:=by unfold Dk;rw[IT nj,IT nj,IT nj,IT nj,IT nj,IT nj,IT nj,IT nj]
theorem oY{bs:List Bool}(h:bs.length<=8*k):Dk bs k=0:=by unfold Dk;rw[Gh nj,Gh nj,Gh nj,Gh nj,Gh nj,Gh nj,Gh nj,Gh nj]
theorem aP(bs:List Bool):2 ^ (8-bs.length % 8) ∣ Dk bs (bs.length / 8):=by
 obtain⟨q,r,hr,hl⟩:∃q r,r<8/\bs.length=8*q+r:=⟨bs.length / 8,bs.length % 8,nj,nj⟩;have e1:bs.length / 8=q:=nj
 have e2:bs.length % 8=r:=nj
 rw[e1,e2];have ho:∀i,r<=i->bit bs (8*q+i)=0:=fun i hi=>Gh nj;unfold Dk;have h0:=ho 0;have:r=0∨r=1∨r=2∨r=3∨r=4∨r=5∨r=6∨r=7:=nj
 rcases this with rfl|rfl|rfl|rfl|rfl|rfl|rfl|rfl<;>
  first
  |(simp only[ho 1 nj,ho 2 nj,ho 3 nj,ho 4 nj,ho 5 nj,ho 6 nj,ho 7 nj];have:=h0 nj;simp at this;simp[this];done)
  |(rw[ho 7 nj];(try rw[ho 6 nj]);(try rw[ho 5 nj]);(try rw[ho 4 nj]);(try rw[ho 3 nj]);(try rw[ho 2 nj]);(try rw[ho 1 nj]);omega)
theorem n9(bs:List Bool)(b:Bool):Dk (bs++ [b]) (bs.length / 8)=Dk bs (bs.length / 8)+(if b then 1 else 0)*2 ^ (7-bs.length % 8):=by
 obtain⟨q,r,hr,hl⟩:∃q r,r<8/\bs.length=8*q+r:=⟨bs.length / 8,bs.length % 8,nj,nj⟩;have e1:bs.length / 8=q:=nj
 have e2:bs.length % 8=r:=nj
 rw[e1,e2];have hn:∀i,i≠r->bit (bs++ [b]) (8*q+i)=bit bs (8*q+i):=fun i hi=>IT nj;have he:bit (bs++ [b]) (8*q+r)=if b then 1 else 0:=by rw[<-hl];exact pW bs b
 have hz:bit bs (8*q+r)=0:=Gh nj;have h0:=hn 0;simp only[Nat.add_zero]at h0;unfold Dk;generalize (if b then 1 else 0)=x at he ⊢;have:r=0∨r=1∨r=2∨r=3∨r=4∨r=5∨r=6∨r=7:=nj
 rcases this with rfl|rfl|rfl|rfl|rfl|rfl|rfl|rfl<;>(try simp only[Nat.add_zero]at he hz)<;>simp only[he,hz]<;>
  (try rw[h0 nj])<;>(try rw[hn 1 nj])<;>(try rw[hn 2 nj])<;>(try rw[hn 3 nj])<;>(try rw[hn 4 nj])<;>(try rw[hn 5 nj])<;>(try rw[hn 6 nj])<;>(try rw[hn 7 nj])<;>omega
theorem Z8{y:Nat}(hx:2 ^ (s+1) ∣ x)(hy:y<=1):x |||y*2 ^ s=x+y*2 ^ s:=by
 obtain⟨q,rfl⟩:=hx;have h1:y*2 ^ s<2 ^ (s+1):=by rw[FX];have h2:0<2 ^ s:=GA s;have h3:y*2 ^ s<=1*2 ^ s:=GB _ hy;omega
 exact(Nat.two_pow_add_eq_or_of_lt h1 q).symm
theorem m8(bs:List Bool)(b:Bool):Dk bs (bs.length / 8) |||(if b then 1 else 0)*2 ^ (7-bs.length % 8)=Dk (bs++ [b]) (bs.length / 8):=by rw[n9];refine Z8 ?_ (by split<;>omega);rw[show 7-bs.length % 8+1=8-bs.length % 8 by omega];exact aP bs
def IY(bs:List Bool):List Nat:=if bs.length % 8=0 then bytesOf bs++ [0]else bytesOf bs
theorem TA(bs:List Bool):IY bs=(List.range (bs.length / 8+1)).map (Dk bs):=by
 unfold IY;split
 ·rename_i h;rw[Ib,FA,bytesOf,show(bs.length+7) / 8=bs.length / 8 by omega];simp only[List.map_cons,List.map_nil];rw[oY (k:=bs.length / 8) nj]
 ·rw[bytesOf,show(bs.length+7) / 8=bs.length / 8+1 by omega]
theorem ZP(bs:List Bool)(b:Bool):bytesOf (bs++ [b])=(IY bs).set (bs.length / 8) (Dk (bs++ [b]) (bs.length / 8)):=by
 rw[TA,bytesOf,Ag,J2,show(bs.length+1+7) / 8=bs.length / 8+1 by omega];apply List.ext_getElem
 ·simp
 ·intro i h1 h2;rw[List.getElem_set];simp only[List.getElem_map,List.getElem_range];split
  ·rename_i e;rw[e]
  ·rename_i e;exact Z9 (fun e2=>e e2.symm)
def msb(x n k:Nat):List Bool:=(List.range k).map fun j=>decide (x / 2 ^ (n-1-j) % 2=1)
theorem tZ(x n k:Nat):(msb x n k).length=k:=by simp[msb]
theorem Zy(x n:Nat):msb x n 0= []:=rfl
theorem Zd(x n k:Nat):msb x n (k+1)=msb x n k++ [decide (x / 2 ^ (n-1-k) % 2=1)]:=by simp[msb,List.range_succ]
def word(ls:List Nat)(s:Nat):List Bool:=msb (code ls s) (ls.getD s 0) (ls.getD s 0)
theorem Ff(ls:List Nat)(s:Nat):(word ls s).length=ls.getD s 0:=tZ _ _ _
def AK(bs:List Bool)(i:Nat):Nat->Nat
 |0=>0
 |m+1=>2*AK bs i m+bit bs (i+m)
theorem Hq(bs:List Bool)(i:Nat):∀m,AK bs i m<2 ^ m
 |0=>by simp[AK]
 |m+1=>by have h1:=Hq bs i m;have h2:=EW bs (i+m);rw[AK,FX];omega
theorem NZ(ls:List Nat):∀l,l<=15->(fst ls l+cn ls l)*2 ^ (15-l)=Do ls (l+1)
 |0,_=>by simp[fst,cn,Do]
 |l+1,h=>by
  have h1:=NZ ls l nj;have e:15-l=(15-(l+1))+1:=nj
  rw[Do,<-h1,fst,e,FX,Fk];congr 1;rw[Nat.mul_comm 2,Nat.mul_assoc,Nat.mul_comm 2]
theorem mG(ls:List Nat)(l:Nat)(h:l<=15):fst ls l*2 ^ (15-l)=Do ls l:=by have h1:=NZ ls l h;rw[Do,Fk]at h1;omega
theorem LG(ls:List Nat){a:Nat}:∀ {b:Nat},a<=b->Do ls a<=Do ls b
 |0,h=>by
  obtain rfl:a=0:=nj
  exact Ak _
 |b+1,h=>by
  by_cases e:a=b+1
  ·subst e;exact Ak _
  ·have:=LG ls (a:=a) (b:=b) nj;rw[Do];omega
theorem Ab0(h:okB ls=true):ls.length<=300/\(∀x∈ls,x<=15)/\Do ls 16<=32768:=by
 unfold okB at h;simp only[Bool.and_eq_true,Bool.or_eq_true,decide_eq_true_eq,List.all_eq_true]at h;obtain⟨⟨h1,h2⟩,h3⟩:=h;refine⟨h1,h2,?_⟩;have hk:=NF ls h2;have hu:=Me ls h2;rcases h3 with (h3|⟨h3,h4⟩)|h3
 ·rw[h3]at hu;simp only[FC]at hu;simp only[Do];have e0:cn ls 0=0:=by simp[cn]
  have e:∀l,l<16->cn ls l=0:=by intro l hl;have:l=0∨l=1∨l=2∨l=3∨l=4∨l=5∨l=6∨l=7∨l=8∨l=9∨l=10∨l=11∨l=12∨l=13∨l=14∨l=15:=nj;rcases this with rfl|rfl|rfl|rfl|rfl|rfl|rfl|rfl|rfl|rfl|rfl|rfl|rfl|rfl|rfl|rfl<;>omega
  simp[e]
 ·have e1:cn ls 1=1:=by unfold cn;rw[Aa nj,h4]
  rw[h3]at hu;simp only[FC]at hu;simp only[Do];have e:∀l,l<16->l≠1->cn ls l=0:=by intro l hl i;have:l=0∨l=1∨l=2∨l=3∨l=4∨l=5∨l=6∨l=7∨l=8∨l=9∨l=10∨l=11∨l=12∨l=13∨l=14∨l=15:=nj;rcases this with rfl|rfl|rfl|rfl|rfl|rfl|rfl|rfl|rfl|rfl|rfl|rfl|rfl|rfl|rfl|rfl<;>omega
  simp[e,e1]
 ·omega
theorem QO(hx:ls[s]? =some x):cnt (ls.take s) x+1<=cnt ls x:=by
 have h1:cnt (ls.take (s+1)) x=cnt (ls.take s) x+1:=by rw[I4 hx,Ip,Ab rfl]
 have h2:cnt (ls.take (s+1)) x<=cnt ls x:=by
  unfold cnt
  conv=>rhs;rw[<-ER (s+1) ls,List.countP_append]
  omega
 omega
theorem Jc(hx:ls[s]? =some x)(h0:x≠0):code ls s=fst ls x+cnt (ls.take s) x:=by unfold code;simp[List.getD_eq_getElem?_getD,hx,h0]
theorem OS(hx:ls[s]? =some x)(h0:x≠0)(h:x<=15):
 Do ls x<=code ls s*2 ^ (15-x)/\(code ls s+1)*2 ^ (15-x)<=Do ls (x+1):=by
 have h1:=Jc hx h0;have h2:=QO hx;constructor
 ·rw[<-mG ls x h];exact GB _ nj
 ·rw[<-NZ ls x h];refine GB _ ?_;unfold cn;rw[Aa h0];omega
theorem OL(h:okB ls=true)(hx:ls[s]? =some x)(h0:x≠0):code ls s<2 ^ x:=by
 obtain⟨_,h2,h3⟩:=Ab0 h;have i:=h2 x (Bp hx);have h4:=(OS hx h0 i).2;have h5:=LG ls (show x+1<=16 by omega);have h6:(code ls s+1)*2 ^ (15-x)<=2 ^ x*2 ^ (15-x):=by rw[<-Nat.pow_add,show x+(15-x)=15 by omega];omega
 exact Nat.le_of_mul_le_mul_right h6 (GA _)
theorem lX(y:Nat):((if decide (y % 2=1)=true then 1 else 0:Nat):Int)=((y % 2:Nat):Int):=by rcases L5 y with h|h<;>simp[h]
def Aa8(ls:List Nat)(l:Nat):List Nat:=(List.range ls.length).filter fun s=>decide (ls.getD s 0=l)
theorem Z4(l:Nat):Aa8 [] l= []:=rfl
theorem Mf(ls:List Nat)(x l:Nat):Aa8 (ls++ [x]) l=Aa8 ls l++if x=l then [ls.length]else []:=by
 unfold Aa8;rw[Ag,J2,Ib,List.filter_append];congr 1
 ·apply List.filter_congr
  intro s hs;have hs:=Gl.1 hs;simp[List.getD_eq_getElem?_getD,List.getElem?_append_left hs]
 ·by_cases h:x=l<;>simp[List.getD_eq_getElem?_getD,h]
theorem SE{α:Type}{p:List α->Prop}(h0:p [])(h1:∀l x,p l->p (l++ [x])):∀l,p l:=by
 intro l
 have:∀r:List α,p r.reverse:=by
  intro r
  induction r with
  |nil=>exact h0
  |cons x r ih=>rw[List.reverse_cons];exact h1 _ _ ih
 have h:=this l.reverse
 rwa [List.reverse_reverse]at h
theorem Q8(l:Nat):∀ls:List Nat,(Aa8 ls l).length=cnt ls l:=by
 apply SE
 ·rfl
 ·intro ls x ih;rw[Mf,Ip,Ag,ih];split<;>rfl
theorem UL{l:Nat}:∀ (ls:List Nat) (k s:Nat),(Aa8 ls l)[k]? =some s->ls[s]? =some l/\cnt (ls.take s) l=k:=by
 apply SE (p:=fun ls=>∀ (k s:Nat),(Aa8 ls l)[k]? =some s->ls[s]? =some l/\cnt (ls.take s) l=k)
 ·intro k s h;simp[Z4]at h
 ·intro ls x ih k s h;rw[Mf,List.getElem?_append]at h;split at h
  ·obtain⟨h1,h2⟩:=ih k s h;have hs:=(CQ.1 h1).1;rw[Ic hs,List.take_append_of_le_length nj];exact⟨h1,h2⟩
  ·rename_i hk;by_cases hx:x=l
   ·subst hx;rw[Ab rfl]at h;have h3:=(CQ.1 h).1;simp only[List.length_singleton]at h3;have h4:k=(Aa8 ls x).length:=nj;rw[h4,G0,List.getElem?_cons_zero]at h;injection h with h;subst h;refine⟨rX,?_⟩;rw[List.take_left,h4,Q8]
   ·rw[Aa hx]at h;simp at h
theorem TH(ls:List Nat)(l:Nat){a:Nat}(h:a<=b):cnt (ls.take a) l<=cnt (ls.take b) l:=by
 have:ls.take a=(ls.take b).take a:=by rw[List.take_take,Nat.min_eq_left h]
 rw[this];unfold cnt
 conv=>rhs;rw[<-ER a (ls.take b),List.countP_append]
 omega
theorem lD{l t:Nat}(hs:ls[s]? =some l)(ht:ls[t]? =some l)(h:cnt (ls.take s) l=cnt (ls.take t) l):s=t:=by
 have h1:cnt (ls.take (s+1)) l=cnt (ls.take s) l+1:=by rw[I4 hs,Ip,Ab rfl]
 have h2:cnt (ls.take (t+1)) l=cnt (ls.take t) l+1:=by rw[I4 ht,Ip,Ab rfl]
 by_cases h3:s<t
 ·have:=TH ls l (show s+1<=t by omega);omega
 ·by_cases h4:t<s
  ·have:=TH ls l (show t+1<=s by omega);omega
  ·omega
theorem Tm{l:Nat}(h:k<cnt ls l):∃s,(Aa8 ls l)[k]? =some s/\ls[s]? =some l/\cnt (ls.take s) l=k:=by
 have h1:k<(Aa8 ls l).length:=by rw[Q8];exact h
 exact⟨_,Az h1,UL ls k _ (Az h1)⟩
def hit(ls:List Nat)(X there s:Nat):Bool:=decide (ls.getD s 0≠0/\ls.getD s 0<=there/\X / 2 ^ (15-ls.getD s 0)=code ls s)
def Kk(ls:List Nat)(X there s:Nat):Bool:=decide (there<ls.getD s 0/\X / 2 ^ (15-there)=code ls s / 2 ^ (ls.getD s 0-there))
def EP(ls:List Nat)(X there:Nat):Int×Int×Nat:=
 match (List.range ls.length).find? (hit ls X there)with
 |some s=>(s,0,ls.getD s 0)
 |none=>if(List.range ls.length).any (Kk ls X there)then(-1,1,0)else(-1,7,0)
theorem Ik{there:Nat}:hit ls X there s=true↔∃x,ls[s]? =some x/\x≠0/\x<=there/\X / 2 ^ (15-x)=code ls s:=by
 unfold hit;rw[decide_eq_true_eq];constructor
 ·rintro⟨h1,h2,h3⟩
  have hs:s<ls.length:=by
   rcases Nat.lt_or_ge s ls.length with h|h
   ·exact h
   ·rw[Aq,FN h]at h1;simp at h1
  have e:ls.getD s 0=ls[s]:=by simp[List.getD_eq_getElem?_getD,hs]
  rw[e]at h1 h2 h3;exact⟨_,Az hs,h1,h2,h3⟩
 ·rintro⟨x,h0,h1,h2,h3⟩;have e:ls.getD s 0=x:=by simp[List.getD_eq_getElem?_getD,h0]
  rw[e];exact⟨h1,h2,h3⟩
theorem O6{c d:Nat}(hd:0<d)(h:X / d=c):c*d<=X/\X<(c+1)*d:=by subst h;exact⟨Nat.div_mul_le_self X d,by rw[Fk,Nat.one_mul];exact Nat.lt_div_mul_add hd⟩
theorem kE(L:okB ls=true){a t:Nat}(hs:hit ls X a s=true)(ht:hit ls X b t=true):s=t:=by
 obtain⟨x,hx,J,_,j⟩:=Ik.1 hs;obtain⟨y,hy,z,_,i⟩:=Ik.1 ht;obtain⟨_,G,_⟩:=Ab0 L;have E:=G x (Bp hx);have h:=G y (Bp hy);have h1:=O6 (GA _) j;have h2:=O6 (GA _) i;have h3:=OS hx J E;have h4:=OS hy z h;by_cases N:x<y
 ·have:=LG ls (show x+1<=y by omega);omega
 ·by_cases M:y<x
  ·have:=LG ls (show y+1<=x by omega);omega
  ·obtain rfl:x=y:=by omega
   have e:code ls s=code ls t:=(by rw[<-j,<-i]);rw[Jc hx J,Jc hy z]at e;exact lD hx hy nj
theorem Sh(i:okB ls=true){there:Nat}(hx:ls[s]? =some x)(h:hit ls X there s=true):EP ls X there=((s:Int),0,x):=by
 have hs:s<ls.length:=(CQ.1 hx).1;unfold EP
 have:(List.range ls.length).find? (hit ls X there)=some s:=by
  cases hf:(List.range ls.length).find? (hit ls X there)with
  |none=>have:=List.find?_eq_none.1 hf s (Gl.2 hs);rw[h]at this;exact absurd rfl this
  |some t=>rw[kE i h (List.find?_some hf)]
 rw[this];simp[List.getD_eq_getElem?_getD,hx]
theorem lM{there:Nat}(h:∀s,hit ls X there s=false):EP ls X there=if(List.range ls.length).any (Kk ls X there)then(-1,1,0)else(-1,7,0):=by unfold EP;have:(List.range ls.length).find? (hit ls X there)=none:=List.find?_eq_none.2 (fun s _=>by rw[h s];simp);rw[this]
theorem YQ{l:Nat}(h0:l≠0)(hk:k<cn ls l)(hX:X / 2 ^ (15-l)=fst ls l+k):
 ∃s,(Aa8 ls l)[k]? =some s/\ls[s]? =some l/\hit ls X l s=true:=by
 have h:k<cnt ls l:=by unfold cn at hk;rwa [Aa h0]at hk
 obtain⟨s,h1,h2,h3⟩:=Tm h;exact⟨s,h1,h2,Ik.2 ⟨l,h2,h0,Ak _,by rw[hX,Jc h2 h0,h3]⟩⟩
theorem kR{l:Nat}(h0:l≠0)(hs:ls[s]? =some l)(h:X / 2 ^ (15-l)=code ls s):fst ls l<=X / 2 ^ (15-l)/\X / 2 ^ (15-l)<fst ls l+cn ls l:=by have h1:=Jc hs h0;have h2:=QO hs;unfold cn;rw[Aa h0];omega
theorem Yv{a:Nat}(h:a<=b)(hs:hit ls X a s=true):hit ls X b s=true:=by obtain⟨x,h1,h2,h3,h4⟩:=Ik.1 hs;exact Ik.2 ⟨x,h1,h2,nj,h4⟩
theorem nE{l:Nat}(h:∀s,hit ls X l s=false)(h1:X / 2 ^ (15-(l+1))<fst ls (l+1)∨fst ls (l+1)+cn ls (l+1)<=X / 2 ^ (15-(l+1))):∀s,hit ls X (l+1) s=false:=by
 intro s;cases hh:hit ls X (l+1) s
 ·rfl
 ·obtain⟨x,hx,j,y,i⟩:=Ik.1 hh;by_cases e:x=l+1
  ·subst e;have:=kR nj hx i;omega
  ·have:=h s;rw[Ik.2 ⟨x,hx,j,nj,i⟩]at this;cases this
theorem mM(ls:List Nat)(X:Nat):∀s,hit ls X 0 s=false:=by
 intro s;cases hh:hit ls X 0 s
 ·rfl
 ·obtain⟨x,_,i,h,_⟩:=Ik.1 hh;omega
theorem SU{there:Nat}:Kk ls X there s=true↔∃x,ls[s]? =some x/\there<x/\X / 2 ^ (15-there)=code ls s / 2 ^ (x-there):=by
 unfold Kk;rw[decide_eq_true_eq];constructor
 ·rintro⟨h2,h3⟩
  have hs:s<ls.length:=by
   rcases Nat.lt_or_ge s ls.length with h|h
   ·exact h
   ·rw[Aq,FN h]at h2;simp at h2
  have e:ls.getD s 0=ls[s]:=by simp[List.getD_eq_getElem?_getD,hs]
  rw[e]at h2 h3;exact⟨_,Az hs,h2,h3⟩
 ·rintro⟨x,h0,h2,h3⟩;have e:ls.getD s 0=x:=by simp[List.getD_eq_getElem?_getD,h0]
  rw[e];exact⟨h2,h3⟩
theorem lR{l:Nat}(G:l<k)(h0:0<cn ls k)(h1:x*2 ^ (k-l)<fst ls k+cn ls k)(h2:fst ls k<x*2 ^ (k-l)+2 ^ (k-l)):
 ∃s,ls[s]? =some k/\code ls s / 2 ^ (k-l)=x:=by
 have y:k≠0:=nj
 obtain⟨j,i,z⟩:∃j,j<cn ls k/\(fst ls k+j) / 2 ^ (k-l)=x:=by
  have hp:=GA (k-l);generalize 2 ^ (k-l)=d at *;by_cases h:fst ls k<=x*d
  ·refine⟨x*d-fst ls k,nj,?_⟩;rw[show fst ls k+(x*d-fst ls k)=x*d by omega];exact Nat.mul_div_cancel _ hp
  ·refine⟨0,h0,?_⟩;rw[Bt];apply Nat.div_eq_of_lt_le
   ·omega
   ·rw[Fk,Nat.one_mul];omega
 have E:j<cnt ls k:=by unfold cn at i;rwa [Aa y]at i
 obtain⟨s,_,h3,h4⟩:=Tm E;exact⟨s,h3,by rw[Jc h3 y,h4,z]⟩
theorem k7{l:Nat}(j:l<k)(hs:ls[s]? =some k)(h:code ls s / 2 ^ (k-l)=x):
 0<cn ls k/\x*2 ^ (k-l)<fst ls k+cn ls k/\fst ls k<x*2 ^ (k-l)+2 ^ (k-l):=by
 have i:k≠0:=nj
 have h1:=Jc hs i;have h2:=QO hs;have h3:=O6 (GA (k-l)) h;have e:cn ls k=cnt ls k:=by unfold cn;rw[Aa i]
 rw[Fk,Nat.one_mul]at h3;omega
theorem R6(bs:List Bool)(i m:Nat):∀d,AK bs i (m+d) / 2 ^ d=AK bs i m
 |0=>rX
 |d+1=>by have h1:=EW bs (i+(m+d));rw[<-Nat.add_assoc,AK,FX,Nat.mul_comm (2 ^ d) 2,<-Ov];rw[show(2*AK bs i (m+d)+bit bs (i+(m+d))) / 2=AK bs i (m+d) by omega];exact R6 bs i m d
theorem NS(x n:Nat)(hx:x<2 ^ n)(bs pre post:List Bool)(h:bs=pre++msb x n n++post):∀m,m<=n->AK bs pre.length m=x / 2 ^ (n-m)
 |0,_=>by rw[AK,Nat.sub_zero,Nat.div_eq_of_lt hx]
 |m+1,hm=>by
  rw[AK,NS x n hx bs pre post h m nj]
  have hb:bit bs (pre.length+m)=x / 2 ^ (n-1-m) % 2:=by
   unfold bit;have hl:m<(msb x n n).length:=by rw[tZ];omega
   have e:bs.getD (pre.length+m) false=decide (x / 2 ^ (n-1-m) % 2=1):=(by rw[h,AE,Aq,JC nj,I5,Ic hl,Az hl];simp[msb]);rw[e];by_cases h1:x / 2 ^ (n-1-m) % 2=1
   ·rw[Bd h1,h1];rfl
   ·rw[Be h1];simp;omega
  rw[hb,show n-m=(n-1-m)+1 by omega,show n-(m+1)=n-1-m by omega,FX,<-Ov];omega
end Go.Proofs.YtfgdoknipbpfhaaGreatDoor
