/- The walk of firkinre -/
import Derived.Test.YtbgoibedicbkjaaGreatDoorZBodyLogs40
import Derived.Test.YtbgoibedicbkjaaGreatDoorZBodyLogs35
namespace Go.Proofs.YtbgoibedicbkjaaGreatDoor
open Go.Lib (hid)
set_option maxHeartbeats 2000000
set_option maxRecDepth 100000
namespace Lz
open Go.RowKit Mem Own Canon
open Toks (Tk By Nu)
theorem SP{most q x L D:Nat}{out:List Nat}(hq:out.length=q)(hm:By (x:Int) (L:Int) (D:Int)=true):Gw most out ⟨(x:Int),(L:Int),(D:Int)⟩=if q<D then 8 else if most<q+max 1 L then 6 else 0:=by
 unfold Gw;rw[Ab hm,hq];show(if(q:Int)<(D:Int)then 8 else if(most:Int)-(q:Int)<max 1 (L:Int)then 6 else 0)=_;by_cases h:q<D
 ·rw[Ab (by omega),Ab h]
 ·rw[Aa (by omega),Aa h];by_cases h':most<q+max 1 L
  ·rw[Ab (by omega),Ab h']
  ·rw[Aa (by omega),Aa h']
theorem UO{t:Tk}(hl:0<=t.lit/\t.lit<=255)(h:By t.lit t.len t.dist=true):
 ∃x L D:Nat,t=⟨(x:Int),(L:Int),(D:Int)⟩/\x<=255/\L<=257/\D<=4095/\(0<L->1<=D)/\(L=0->D=0):=by
 rcases Q6 hl h with ⟨x,hx,rfl⟩|⟨L,D,h1,h2,h3,h4,rfl⟩
 ·exact⟨x,0,0,rfl,hx,by omega,by omega,by omega,fun _=>rfl⟩
 ·exact⟨0,L,D,rfl,by omega,h2,h4,fun _=>h3,by omega⟩
theorem Sz(w:World)(A:Option Addr)(n c:Nat)(ts:List Tk)(most:Nat)(aL:most<=1000000)(hn:ts.length=n)(hN:n<=1000000)(ax:∀t∈ts,(0<=t.lit/\t.lit<=255)/\By t.lit t.len t.dist=true)(ha:Row w w.heap.size A n 3 (Toks.Hm ts)):
 Calls Tryz.prog 132 #[.slice A n c, .int .i64 most] w (G8 (El ts most) w):=by
 obtain⟨j0,aG,aE,aB,ay⟩:=info_parts Cr;have hP:El ts most=Dg most [] ts:=Aa (by omega);rw[hP];obtain⟨R,hR⟩:∃R,R=Dg most [] ts:=⟨_,rfl⟩;rw[<-hR];obtain⟨R1,R2⟩:=R;unfold G8;have g0:decide ((most:Int)<0)=false:=by simp
 have HR:=hid hR;have HA:=hid ha;have HN:=hid hn;have aH:=hid ax;clear hP hR ha hn ax;go_enter Tryz.func132,Tryz.ntmps132;go_wp2_with fail;go_loopw [6,7] (fun u i wr=>∃ (k q:Nat) (out:List Nat),k<=n/\q<=most/\i= .int .i64 k/\Hid (out.length=q)/\Hid (wr.ownsRow w.heap.size 5 1 u q (cZ .u8 out))/\Hid (Dg most out (ts.drop k)=(R1,R2))/\Below w.heap.size w wr) (fun _ i _=>n-(intOf i).toNat)
 case atStart=>exact⟨0,0,[],by omega,by omega,rfl,rfl,Am _ _ _ _,HR.out.symm,Ag _ _⟩
 case round=>
  obtain⟨k,q,out,hk,hq,rfl,HQ,HO,HP,hb⟩:=hrel;obtain⟨w0,rfl⟩:∃w0:World,w0=wr:=⟨_,rfl⟩;have hz:=hb.size;have HB:=hid hb;obtain⟨va,vc,rfl⟩:=aZ HO.out;by_cases ar:k<n
  ·obtain⟨ob,aP,rfl,G,Z⟩:=HA.out (by omega);have au:k<ts.length:=(by rw[HN.out];exact ar);have c0:=Z k 0 ar (by omega);have c1:=Z k 1 ar (by omega);have c2:=Z k 2 ar (by omega);simp only[Toks.Hm,List.getD_eq_getElem?_getD,List.getElem?_eq_getElem au,Option.getD_some,Nat.add_zero,<-Nat.add_assoc]at c0 c1 c2;have hp:=HP.out;rw[CC au,Dg]at hp;obtain⟨hl,hm⟩:=aH.out _ (Hr au);have HM:=fun wx=>Nu ts[k] wx;rw[hm]at HM;obtain⟨x,L,D,ht,aS,aQ,aR,aj,aa⟩:=UO hl hm;rw[ht]at HM c0 c1 c2 hp hm;simp only[Toks.Tk.val_mk]at HM c0 c1 c2;rw[SP HQ.out hm]at hp;have HM:=hid HM;have an:=hid aj;have C0:=hid c0;have C1:=hid c1;have C2:=hid c2;clear Z au hl hm ht aj;have c0:=(hb.cell (p:=⟨ob,_,none⟩) G).trans C0.out;have c1:=(hb.cell (p:=⟨ob,_,none⟩) G).trans C1.out;have c2:=(hb.cell (p:=⟨ob,_,none⟩) G).trans C2.out;have x0:(0:Int)<=(k:Int):=(by omega);have x1:(k:Int)<(n:Int):=(by omega);by_cases U:q<D
   ·rw[Ab U,Aa (by simp)]at hp;injection hp with e1 e2;subst e1 e2;have g1:decide ((q:Int)<(D:Int))=true:=(by simp;omega);have aO:decide (q<D)=true:=(by simp;omega);clear aa U;clear HP hb;go_wp2_with fail;refine(HM.out _).mono ?_;rintro e w2 ⟨rfl,J⟩;clear c0 c1 c2;have E:=hid (HB.out.trans (J.mono hz));have c0:=(E.out.cell (p:=⟨ob,_,none⟩) G).trans C0.out;have c1:=(E.out.cell (p:=⟨ob,_,none⟩) G).trans C1.out;have c2:=(E.out.cell (p:=⟨ob,_,none⟩) G).trans C2.out;have ab:=hid (dZ HO.out (fun y hy=>J.block y (Ae HO.out y hy).2));clear J HO HM HB;go_wp2_with fail;go_ret2;exact⟨_,rfl,Am _ _ _ _,E.out⟩
   ·rw[Aa U]at hp;have g1:decide ((q:Int)<(D:Int))=false:=(by simp;omega);have aO:decide (q<D)=false:=(by simp;omega);by_cases ag:L=0
    ·have gz:((L:Int)==0)=true:=(by simp[ag]);have aK:(L==0)=true:=(by simp[ag]);have s1:IntKind.i64.wrap ((q:Int)+1)=((q+1:Nat):Int):=(by rw[Ak _ (by omega)];omega);by_cases ac:most<q+1
     ·rw[Ab (show most<q+max 1 L by omega),Aa (by simp)]at hp;injection hp with e1 e2;subst e1 e2;have g2:decide ((most:Int)<((q+1:Nat):Int))=true:=(by simp;omega);have ae:decide (most<q+1)=true:=(by simp;omega);obtain⟨q1,N⟩:∃q1,q1=q+1:=⟨_,rfl⟩;rw[<-N]at s1 g2 ae;clear aa U ag ac N;clear HP hb;go_wp2_with fail;refine(HM.out _).mono ?_;rintro e w2 ⟨rfl,J⟩;clear c0 c1 c2;have E:=hid (HB.out.trans (J.mono hz));have c0:=(E.out.cell (p:=⟨ob,_,none⟩) G).trans C0.out;have c1:=(E.out.cell (p:=⟨ob,_,none⟩) G).trans C1.out;have c2:=(E.out.cell (p:=⟨ob,_,none⟩) G).trans C2.out;have ab:=hid (dZ HO.out (fun y hy=>J.block y (Ae HO.out y hy).2));clear J HO HM HB;go_wp2_with fail;go_ret2;exact⟨_,rfl,Am _ _ _ _,E.out⟩
     ·rw[Aa (show ¬most<q+max 1 L by omega),Ab rfl,Ab (by show(L:Int)=0;omega)]at hp;have am:Dg most (Bi (out++ [x]) L D) (ts.drop (k+1))=(R1,R2):=(by rw[ag];exact hp);have g2:decide ((most:Int)<((q+1:Nat):Int))=false:=(by simp;omega);have ae:decide (most<q+1)=false:=(by simp;omega);have aq:=hid am;have av:q+1+L<=most:=(by omega);obtain⟨q2,N⟩:∃q2,q2=q+1:=⟨_,rfl⟩;have ai:Hid ((out++ [x]).length=q2):=(by show _=_;rw[Ai,HQ.out,N];rfl);have aJ:=hid N;rw[<-N]at s1 g2 ae av;have an:Hid (0<L->D<=q2/\1<=D):=fun h=>by omega
      obtain⟨z,aF⟩:∃z,z=out++ [x]:=⟨_,rfl⟩;have aM:=hid aF;rw[<-aF]at aq ai;clear aa U ag ac N hp am aF;clear HP hb;go_wp2_with fail;refine(HM.out _).mono ?_;rintro e w2 ⟨rfl,J⟩;clear c0 c1 c2;have E:=hid (HB.out.trans (J.mono hz));have c0:=(E.out.cell (p:=⟨ob,_,none⟩) G).trans C0.out;have c1:=(E.out.cell (p:=⟨ob,_,none⟩) G).trans C1.out;have c2:=(E.out.cell (p:=⟨ob,_,none⟩) G).trans C2.out;have ab:=hid (dZ HO.out (fun y hy=>J.block y (Ae HO.out y hy).2));clear J HO HM HB;have aN:=E.out.size;go_wp2_with(at_builtin;refine gZ rfl (.tmp 52) (.tmp 58) 22 rfl w.heap.size 5 j0 _ 1 1 Tryz.underlying22 aG aE aB ay rfl (by decide) _ _ _ (by rfl) (ab.out.alloc _) _ 1 1 [.int .u8 x] (by rfl) (Src.of_blk (Blk.made _ _ _) 1 1 1 rfl) (by intro u hu;simp at hu;rcases hu with rfl;rfl) (by unfold maxLen;omega) (by omega) (by simp;omega) ?_;intro v4 w4 Q ah ak);have aC:=hid ((kZ aN E.out).grown ah (by simp;omega) (fun y hy=>(Ae ab.out y hy).1));have az:Hid (w4.ownsRow w.heap.size 5 1 v4 (q2+0) (cZ .u8 (Bi z 0 D))):=(by rw[CW,aJ.out];show World.ownsRow _ _ _ _ _ _ (cZ .u8 z);rw[aM.out,show cZ .u8 (out++ [x])=cZ .u8 out++ [.int .u8 x] by simp[cZ]];exact Q);clear Q ah ak ab c0 c1 c2;go_wp2_with fail;go_loopw [6,9] (fun u i wx=>∃j:Nat,j<=L/\i= .int .i64 j/\Hid (wx.ownsRow w.heap.size 5 1 u (q2+j) (cZ .u8 (Bi z j D)))/\Hid (Below w.heap.size w wx)) (fun _ i _=>L-(intOf i).toNat)
      case atStart=>exact⟨0,by omega,rfl,az.out,aC.out⟩
      case round=>
       obtain⟨j,hj,rfl,M,Y⟩:=hrel;have aD:=Y.out.size;have k1:=(Y.out.cell (p:=⟨ob,_,none⟩) G).trans C1.out;have k2:=(Y.out.cell (p:=⟨ob,_,none⟩) G).trans C2.out;by_cases aI:j<L
       ·have aj:=an.out (by omega);obtain⟨g,cg,rfl,_⟩:=M.out.form (by omega);have al:(Bi z j D).length=q2+j:=(by rw[G3,ai.out]);obtain⟨I,hI⟩:∃I,I=q2+j-D:=⟨_,rfl⟩;have af:=LD j D z;rw[al,<-hI]at af;have hy:(cZ .u8 (Bi z j D))[I]? =some (.int .u8 ((Bi z j D).getD I 0:Nat)):=(by simp[cZ,List.getD_eq_getElem?_getD,List.getElem?_eq_getElem (show I<(Bi z j D).length by omega)]);have c9:wr.cell? ⟨g,I,none⟩=some (.int .u8 ((Bi z j D).getD I 0:Nat)):=(by have h:=M.out.cellAt I (by omega);rw[h];exact hy);generalize (Bi z j D).getD I 0=y at *;have s2:IntKind.i64.wrap (((q2+j:Nat):Int)-(D:Int))=(I:Int):=(by rw[Ak _ (by omega)];omega);have s3:IntKind.i64.wrap ((q2:Int)+(j:Int)-(D:Int))=(I:Int):=(by rw[Ak _ (by omega)];omega);have y2:(0:Int)<=(I:Int):=(by omega);have y3:(I:Int)<((q2+j:Nat):Int):=(by omega);have aA:=hid af;clear al hI af hy aj;go_wp2_with(at_builtin;refine gZ rfl (.tmp 80) (.tmp 82) 22 rfl w.heap.size 5 j0 _ 1 1 Tryz.underlying22 aG aE aB ay rfl (by decide) _ _ _ (by rfl) (M.out.alloc _) _ 1 1 [.int .u8 y] (by rfl) (Src.of_blk (Blk.made _ _ _) 1 1 1 rfl) (by intro u hu;simp at hu;rcases hu with rfl;rfl) (by unfold maxLen;omega) (by omega) (by simp;omega) ?_;intro v4 w4 Q ah ak);go_roundw
        case measure=>go_light;simp[intOf];omega
        case rel=>
         go_light;refine⟨j+1,by omega,by go_num,?_,?_⟩
         ·show World.ownsRow _ _ _ _ _ _ _;rw[aA.out,show cZ .u8 (Bi z j D++ [y])=cZ .u8 (Bi z j D)++ [.int .u8 y] by simp[cZ]];exact Q
         ·exact(kZ aD Y.out).grown ah (by simp;omega) (fun y hy=>(Ae M.out y hy).1)
       ·obtain rfl:j=L:=by omega
        obtain⟨A5,c5,rfl⟩:=aZ M.out;go_wp2_with fail;go_roundw
        case measure=>go_light;simp[intOf];omega
        case rel=>go_light;exact⟨k+1,q2+j,Bi z j D,by omega,av,by go_num,by show _=_;rw[G3,ai.out],M.out,aq.out,Y.out⟩
    ·have gz:((L:Int)==0)=false:=(by rw[Dd];omega);have aK:(L==0)=false:=(by rw[Dd];omega);have s1:IntKind.i64.wrap ((q:Int)+(L:Int))=((q+L:Nat):Int):=(by rw[Ak _ (by omega)];omega);by_cases ac:most<q+L
     ·rw[Ab (show most<q+max 1 L by omega),Aa (by simp)]at hp;injection hp with e1 e2;subst e1 e2;have g2:decide ((most:Int)<((q+L:Nat):Int))=true:=(by simp;omega);have ae:decide (most<q+L)=true:=(by simp;omega);obtain⟨q1,N⟩:∃q1,q1=q+L:=⟨_,rfl⟩;rw[<-N]at s1 g2 ae;clear aa U ag ac N;clear HP hb;go_wp2_with fail;refine(HM.out _).mono ?_;rintro e w2 ⟨rfl,J⟩;clear c0 c1 c2;have E:=hid (HB.out.trans (J.mono hz));have c0:=(E.out.cell (p:=⟨ob,_,none⟩) G).trans C0.out;have c1:=(E.out.cell (p:=⟨ob,_,none⟩) G).trans C1.out;have c2:=(E.out.cell (p:=⟨ob,_,none⟩) G).trans C2.out;have ab:=hid (dZ HO.out (fun y hy=>J.block y (Ae HO.out y hy).2));clear J HO HM HB;go_wp2_with fail;go_ret2;exact⟨_,rfl,Am _ _ _ _,E.out⟩
     ·rw[Aa (show ¬most<q+max 1 L by omega),Ab rfl,Aa (by show ¬(L:Int)=0;omega)]at hp;have am:Dg most (Bi out L D) (ts.drop (k+1))=(R1,R2):=hp;have g2:decide ((most:Int)<((q+L:Nat):Int))=false:=(by simp;omega);have ae:decide (most<q+L)=false:=(by simp;omega);have aq:=hid am;obtain⟨q1,N⟩:∃q1,q1=q+L:=⟨_,rfl⟩;rw[<-N]at s1 g2 ae;obtain⟨q2,rfl⟩:∃q2,q2=q:=⟨_,rfl⟩;obtain⟨z,rfl⟩:∃z,z=out:=⟨_,rfl⟩;have av:q2+L<=most:=(by omega);have ai:=HQ;have aw:=an.out;have an:Hid (0<L->D<=q2/\1<=D):=fun h=>⟨by omega,aw h⟩;clear aa U ag ac N hp am aw;clear HP hb;go_wp2_with fail;refine(HM.out _).mono ?_;rintro e w2 ⟨rfl,J⟩;clear c0 c1 c2;have E:=hid (HB.out.trans (J.mono hz));have c0:=(E.out.cell (p:=⟨ob,_,none⟩) G).trans C0.out;have c1:=(E.out.cell (p:=⟨ob,_,none⟩) G).trans C1.out;have c2:=(E.out.cell (p:=⟨ob,_,none⟩) G).trans C2.out;have ab:=hid (dZ HO.out (fun y hy=>J.block y (Ae HO.out y hy).2));clear J HO HM HB;have aC:=E;have az:Hid (w2.ownsRow w.heap.size 5 1 (.slice va q2 vc) (q2+0) (cZ .u8 (Bi z 0 D))):=(by rw[CW];exact ab.out);go_wp2_with fail;go_loopw [6,9] (fun u i wx=>∃j:Nat,j<=L/\i= .int .i64 j/\Hid (wx.ownsRow w.heap.size 5 1 u (q2+j) (cZ .u8 (Bi z j D)))/\Hid (Below w.heap.size w wx)) (fun _ i _=>L-(intOf i).toNat)
      case atStart=>exact⟨0,by omega,rfl,az.out,aC.out⟩
      case round=>
       obtain⟨j,hj,rfl,M,Y⟩:=hrel;have aD:=Y.out.size;have k1:=(Y.out.cell (p:=⟨ob,_,none⟩) G).trans C1.out;have k2:=(Y.out.cell (p:=⟨ob,_,none⟩) G).trans C2.out;by_cases aI:j<L
       ·have aj:=an.out (by omega);obtain⟨g,cg,rfl,_⟩:=M.out.form (by omega);have al:(Bi z j D).length=q2+j:=(by rw[G3,ai.out]);obtain⟨I,hI⟩:∃I,I=q2+j-D:=⟨_,rfl⟩;have af:=LD j D z;rw[al,<-hI]at af;have hy:(cZ .u8 (Bi z j D))[I]? =some (.int .u8 ((Bi z j D).getD I 0:Nat)):=(by simp[cZ,List.getD_eq_getElem?_getD,List.getElem?_eq_getElem (show I<(Bi z j D).length by omega)]);have c9:wr.cell? ⟨g,I,none⟩=some (.int .u8 ((Bi z j D).getD I 0:Nat)):=(by have h:=M.out.cellAt I (by omega);rw[h];exact hy);generalize (Bi z j D).getD I 0=y at *;have s2:IntKind.i64.wrap (((q2+j:Nat):Int)-(D:Int))=(I:Int):=(by rw[Ak _ (by omega)];omega);have s3:IntKind.i64.wrap ((q2:Int)+(j:Int)-(D:Int))=(I:Int):=(by rw[Ak _ (by omega)];omega);have y2:(0:Int)<=(I:Int):=(by omega);have y3:(I:Int)<((q2+j:Nat):Int):=(by omega);have aA:=hid af;clear al hI af hy aj;go_wp2_with(at_builtin;refine gZ rfl (.tmp 80) (.tmp 82) 22 rfl w.heap.size 5 j0 _ 1 1 Tryz.underlying22 aG aE aB ay rfl (by decide) _ _ _ (by rfl) (M.out.alloc _) _ 1 1 [.int .u8 y] (by rfl) (Src.of_blk (Blk.made _ _ _) 1 1 1 rfl) (by intro u hu;simp at hu;rcases hu with rfl;rfl) (by unfold maxLen;omega) (by omega) (by simp;omega) ?_;intro v4 w4 Q ah ak);go_roundw
        case measure=>go_light;simp[intOf];omega
        case rel=>
         go_light;refine⟨j+1,by omega,by go_num,?_,?_⟩
         ·show World.ownsRow _ _ _ _ _ _ _;rw[aA.out,show cZ .u8 (Bi z j D++ [y])=cZ .u8 (Bi z j D)++ [.int .u8 y] by simp[cZ]];exact Q
         ·exact(kZ aD Y.out).grown ah (by simp;omega) (fun y hy=>(Ae M.out y hy).1)
       ·obtain rfl:j=L:=by omega
        obtain⟨A5,c5,rfl⟩:=aZ M.out;go_wp2_with fail;go_roundw
        case measure=>go_light;simp[intOf];omega
        case rel=>go_light;exact⟨k+1,q2+j,Bi z j D,by omega,av,by go_num,by show _=_;rw[G3,ai.out],M.out,aq.out,Y.out⟩
  ·obtain rfl:k=n:=by omega
   have hp:=HP.out;rw[Ce (by rw[HN.out];exact Aj _),Dg]at hp;injection hp with e1 e2;subst e1 e2;clear HP;go_wp2_with fail;go_ret2;refine⟨_,rfl,?_,hb⟩;rw[HQ.out];exact HO.out
end Lz
namespace Block
open Go.RowKit Mem Own Canon
open Nums Crc
open Huff (BD CG Hb Sk)
open Toks (Tk By)
theorem Qv{bs:List Nat}{at_ n:Nat}{er:Int}(h:Be bs at_ er n=0):er=0/\n<=bs.length-at_:=by
 unfold Be at h;split at h
 ·contradiction
 ·rename_i h0;split at h
  ·cases h
  ·exact⟨by simpa using h0,by omega⟩
theorem Uw{bs:List Nat}(hb:∀x∈bs,x<=255)(h:hE8 bs=0):hA3 bs+hP bs+4<=bs.length/\hA5 bs=hA3 bs+hP bs+4/\Bp bs=(bs.drop (hA3 bs)).take (hP bs):=by
 unfold hE8 at h;split at h
 ·contradiction
 ·rename_i h7;have h7:hE7 bs=0:=by simpa using h7
  obtain⟨h6,l6⟩:=Qv h7;obtain⟨h5,l5⟩:=Qv h6;have hA4:hA4 bs=hA3 bs+hP bs:=by unfold Block.hA4;rw[h5,Gx,Aa (by omega)]
  have h3:=OJ hb;have h4:=Oy hb;refine⟨by omega,?_,?_⟩
  ·unfold hA5;rw[h6,Gx,Aa (by omega),hA4]
  ·unfold Bp;rw[h5,Fu,Aa (by omega)]
theorem hdR0(x:Nat):hdR 0 x=x:=rfl
theorem TX{bs:List Nat}(h:hE8 bs=0):opE bs=byE (BR bs) (hN bs) (hP bs) (Bp bs)/\opO bs=byO (BR bs) (hN bs) (hP bs) (Bp bs)/\opA bs=if byE (BR bs) (hN bs) (hP bs) (Bp bs)≠0 then 0 else hA5 bs:=by
 have e:opE bs=byE (BR bs) (hN bs) (hP bs) (Bp bs):=by unfold opE;rw[h,Aa (by simp)]
 refine⟨e,?_,?_⟩
 ·unfold opO;rw[e];split
  ·rename_i h0;unfold byO;rw[Ab h0]
  ·rfl
 ·unfold opA;rw[e]
theorem Qk(w:World)(X:Option Addr)(nX dX:Nat)(bs:List Nat)(hn:bs.length=nX)(aF:nX<=100000)(hd:nX<=dX)(hX:X=none->nX=0/\dX=0)(ax:0<nX->∀a,X=some a->a.add 0=a)(h8:∀x∈bs,x<=255)(ha:Row w w.heap.size X nX 1 (iZ .u8 bs)):
 Calls Tryz.prog 76 #[.slice X nX dX] w (GX bs w):=by
 obtain⟨j0,aq,an,am,ak⟩:=info_parts Cr;have C0:=hid (S7 w X nX dX bs hn aF hd hX ax h8 ha);unfold MN at C0;unfold GX;by_cases ag:hE8 bs=0
 ·rw[ag]at C0;simp only[hdR0]at C0;obtain⟨z1,z2,z3⟩:=Uw h8 ag;obtain⟨o1,o2,o3⟩:=TX ag;rw[o1,o2,o3];have aD:=JY h8;have aG:=JW h8;have av:∀x∈Bp bs,x<=255:=fun x hx=>by unfold Bp at hx;exact h8 x (Md hx)
  have aj:(Bp bs).length=hP bs:=by rw[z3,AO,AQ];omega
  have Y:Hid (∀wx,Below w.heap.size w wx->Src wx (vZ X (hA3 bs) dX 1) (hP bs) (dX-hA3 bs) 1 (cZ .u8 (Bp bs))):=fun wx hb=>by rw[z3];exact R0 ((ha.below hb).mono hb.size) hn (by omega) hd hX
  have ks:=fun wx=>G5 (P:=Tryz.prog) (t:=22) (s:=1) Tryz.underlying22 (fun _=>by kernel_rfl) X nX dX .i64 .i64 ((hA3 bs:Nat):Int) ((hA3 bs+hP bs:Nat):Int) (hA3 bs) (hA3 bs+hP bs) rfl rfl (by omega) (by omega) wx;rw[LH]at ks;clear h8 ha hX ax ag o1 o2 o3 z3;rw[z2];generalize BR bs=way at *;generalize hN bs=n at *;generalize hP bs=p at *;generalize hA3 bs=a3 at *;generalize Bp bs=bO at *;have s1:IntKind.i64.wrap ((a3:Int)+(p:Int))=((a3+p:Nat):Int):=by rw[Ak _ (by omega)];omega
  obtain⟨ap,aB⟩:∃ap,ap=a3+p:=⟨_,rfl⟩;rw[<-aB]at s1 ks z1 ⊢;have s2:IntKind.i64.wrap ((ap:Int)+4)=((ap+4:Nat):Int):=by rw[Ak _ (by omega)];omega
  obtain⟨a5,aA⟩:∃a5,a5=ap+4:=⟨_,rfl⟩;rw[<-aA]at s2 z1 ⊢;have aC:=hid aj;clear z2 aB aA;by_cases hw:way=0
  ·subst hw;by_cases aw:n=p
   ·subst aw;have hE:byE 0 n n bO=0:=(by unfold byE;rw[Ab rfl,Aa (by simp)]);have hO:byO 0 n n bO=bO:=(by unfold byO;rw[hE,Aa (by simp),Ab rfl]);rw[hE,hO,Aa (by simp)];have g1:((n:Int) != (n:Int))=false:=(by simp);obtain⟨p,hp⟩:∃p,p=n:=⟨n,rfl⟩;have aH:=hid hp;rw[<-hp]at C0 ks s1 Y aC g1 aD aG aj;clear hE hO aj hp av;go_enter Tryz.func76,Tryz.ntmps76;go_wp2_with fail;refine C0.out.mono ?_;rintro e w1 ⟨rfl,J⟩;have z:=hid J;have j:Hid (Below w.heap.size w (w1.alloc (.cells #[] 5))):=bZ z.out;have HO:=hid (GA (w:=w1) (base:=w.heap.size) z.out.size);have HS:=hid (Y.out _ j.out);have N:=j.out.size;clear J C0 Y;go_wp2_with(at_builtin;refine gZ rfl (.tmp 24) (.tmp 30) 22 rfl w.heap.size 5 j0 _ 1 1 Tryz.underlying22 aq an am ak rfl (by decide) _ _ _ (by rfl) HO.out _ _ _ _ (by rfl) HS.out (Cm _ _) (by unfold maxLen;omega) (by omega) N ?_;intro v4 w4 i M L;have U:Hid (Below w.heap.size w w4):=j.out.grown M N (fun y hy=>(Ae HO.out y hy).1);have G:Hid (w4.ownsRow w.heap.size 5 1 v4 p (cZ .u8 bO)):=(by have h:=i;rw[Bq]at h;exact h);obtain⟨A4,c4,rfl⟩:=aZ G.out;clear i M L)
    go_ret3
    exact⟨_,rfl,by rw[aC.out];exact G.out,U.out⟩
   ·have hE:byE 0 n p bO=2:=(by unfold byE;rw[Ab rfl,Ab aw]);have hO:byO 0 n p bO= []:=(by unfold byO;rw[hE,Ab (by simp)]);rw[hE,hO,Ab (by simp)];have g1:((n:Int) != (p:Int))=true:=(by simp;omega);clear hE hO aw aj av;go_enter Tryz.func76,Tryz.ntmps76;go_wp2_with fail;refine C0.out.mono ?_;rintro e w1 ⟨rfl,J⟩;have z:=hid J;have j:Hid (Below w.heap.size w (w1.alloc (.cells #[] 5))):=bZ z.out;have HO:=hid (GA (w:=w1) (base:=w.heap.size) z.out.size);have HS:=hid (Y.out _ j.out);have N:=j.out.size;clear J C0 Y;go_wp2_with(at_builtin;refine gZ rfl (.tmp 24) (.tmp 30) 22 rfl w.heap.size 5 j0 _ 1 1 Tryz.underlying22 aq an am ak rfl (by decide) _ _ _ (by rfl) HO.out _ _ _ _ (by rfl) HS.out (Cm _ _) (by unfold maxLen;omega) (by omega) N ?_;intro v4 w4 i M L;have U:Hid (Below w.heap.size w w4):=j.out.grown M N (fun y hy=>(Ae HO.out y hy).1);have G:Hid (w4.ownsRow w.heap.size 5 1 v4 p (cZ .u8 bO)):=(by have h:=i;rw[Bq]at h;exact h);obtain⟨A4,c4,rfl⟩:=aZ G.out;clear i M L)
    go_ret3
    exact⟨_,rfl,Am _ _ _ _,U.out⟩
  ·have g0:((way:Int)==0)=false:=(by rw[Fj];intro h;simp at h;omega);have C1:Hid (∀wx A4 c4,wx.ownsRow w.heap.size 5 1 (.slice A4 p c4) p (cZ .u8 bO)->Calls Tryz.prog 131 #[.slice A4 p c4, .int .i64 n] wx (Hb (BD bO n) wx)):=fun wx A4 c4 ho=>by have hr:=ho;rw[<-aj]at hr;have hr:=own_row hr;rw[aj]at hr;exact Sk wx A4 p c4 bO n (by omega) (by omega) aj (by omega) av hr
   have aa:=MW (body:=bO) (n:=n);have ac:=Rh (body:=bO) (n:=n);have hE:=show byE way n p bO=_ from Aa hw
   have hO:byO way n p bO=if byE way n p bO≠0 then []else(Lz.El (BD bO n).1 n).1:=(by unfold byO;rw[Aa hw]);unfold Hb at C1;generalize BD bO n=R at *;obtain⟨ts,e1⟩:=R;simp only at hE hO C1 aa ac;clear aj av hw;by_cases al:e1=0
   ·subst al;rw[Aa (by simp)]at hE;have ac:=ac rfl;have aa:=aa rfl;have C2:Hid (∀wx A2 c2,Row wx wx.heap.size A2 ts.length 3 (Toks.Hm ts)->Calls Tryz.prog 132 #[.slice A2 ts.length c2, .int .i64 n] wx (Lz.G8 (Lz.El ts n) wx)):=fun wx A2 c2 hr=>Lz.Sz wx A2 ts.length c2 ts n (by omega) rfl (by omega) aa hr;unfold Lz.G8 at C2;generalize Lz.El ts n=P at *;obtain⟨out,e2⟩:=P;simp only at hE hO C2;by_cases ar:e2=0
    ·subst ar;rw[Aa (by simp)]at hE;by_cases hl:out.length<n
     ·rw[Ab hl]at hE;have ae:byO way n p bO= []:=(by rw[hO,hE,Ab (by simp)]);rw[hE,ae,Ab (by simp)];have g5:decide ((out.length:Int)<(n:Int))=true:=(by simp;omega);have g6:decide (out.length<n)=true:=(by simp;omega);clear hl hE hO ae aa ac;go_enter Tryz.func76,Tryz.ntmps76;go_wp2_with fail;refine C0.out.mono ?_;rintro e w1 ⟨rfl,J⟩;have z:=hid J;have j:Hid (Below w.heap.size w (w1.alloc (.cells #[] 5))):=bZ z.out;have HO:=hid (GA (w:=w1) (base:=w.heap.size) z.out.size);have HS:=hid (Y.out _ j.out);have N:=j.out.size;clear J C0 Y;go_wp2_with(at_builtin;refine gZ rfl (.tmp 24) (.tmp 30) 22 rfl w.heap.size 5 j0 _ 1 1 Tryz.underlying22 aq an am ak rfl (by decide) _ _ _ (by rfl) HO.out _ _ _ _ (by rfl) HS.out (Cm _ _) (by unfold maxLen;omega) (by omega) N ?_;intro v4 w4 i M L;have U:Hid (Below w.heap.size w w4):=j.out.grown M N (fun y hy=>(Ae HO.out y hy).1);have G:Hid (w4.ownsRow w.heap.size 5 1 v4 p (cZ .u8 bO)):=(by have h:=i;rw[Bq]at h;exact h);obtain⟨A4,c4,rfl⟩:=aZ G.out;clear i M L);refine(C1.out w4 A4 c4 G.out).mono ?_;rintro e w5 ⟨v5,rfl,Q,ab⟩;obtain⟨A5,c5,rfl⟩:=aZ Q;have Z:Hid (Below w.heap.size w w5):=eZ ab U.out;have E:=Ia Q;clear Q ab C1 G U HO HS z j;have ah:=hid E;clear E;generalize ts.length=tl at *;go_wp2_with fail;refine(C2.out w5 A5 c5 ah.out).mono ?_;rintro e w6 ⟨v6,rfl,af,ai⟩;obtain⟨A6,c6,rfl⟩:=aZ af;have ay:=hid (jZ af Z.out.size);have au:Hid (Below w.heap.size w w6):=eZ ai Z.out;clear af ai C2 ah Z;generalize out.length=ol at *;go_wp2_with fail
      go_ret3
      exact⟨_,rfl,Am _ _ _ _,au.out⟩
     ·rw[Aa hl]at hE;have ae:byO way n p bO=out:=(by rw[hO,hE,Aa (by simp)]);rw[hE,ae,Aa (by simp)];have g5:decide ((out.length:Int)<(n:Int))=false:=(by simp;omega);have g6:decide (out.length<n)=false:=(by simp;omega);clear hl hE hO ae aa ac;go_enter Tryz.func76,Tryz.ntmps76;go_wp2_with fail;refine C0.out.mono ?_;rintro e w1 ⟨rfl,J⟩;have z:=hid J;have j:Hid (Below w.heap.size w (w1.alloc (.cells #[] 5))):=bZ z.out;have HO:=hid (GA (w:=w1) (base:=w.heap.size) z.out.size);have HS:=hid (Y.out _ j.out);have N:=j.out.size;clear J C0 Y;go_wp2_with(at_builtin;refine gZ rfl (.tmp 24) (.tmp 30) 22 rfl w.heap.size 5 j0 _ 1 1 Tryz.underlying22 aq an am ak rfl (by decide) _ _ _ (by rfl) HO.out _ _ _ _ (by rfl) HS.out (Cm _ _) (by unfold maxLen;omega) (by omega) N ?_;intro v4 w4 i M L;have U:Hid (Below w.heap.size w w4):=j.out.grown M N (fun y hy=>(Ae HO.out y hy).1);have G:Hid (w4.ownsRow w.heap.size 5 1 v4 p (cZ .u8 bO)):=(by have h:=i;rw[Bq]at h;exact h);obtain⟨A4,c4,rfl⟩:=aZ G.out;clear i M L);refine(C1.out w4 A4 c4 G.out).mono ?_;rintro e w5 ⟨v5,rfl,Q,ab⟩;obtain⟨A5,c5,rfl⟩:=aZ Q;have Z:Hid (Below w.heap.size w w5):=eZ ab U.out;have E:=Ia Q;clear Q ab C1 G U HO HS z j;have ah:=hid E;clear E;generalize ts.length=tl at *;go_wp2_with fail;refine(C2.out w5 A5 c5 ah.out).mono ?_;rintro e w6 ⟨v6,rfl,af,ai⟩;obtain⟨A6,c6,rfl⟩:=aZ af;have ay:=hid (jZ af Z.out.size);have au:Hid (Below w.heap.size w w6):=eZ ai Z.out;clear af ai C2 ah Z;generalize az:out.length=ol at *;have aE:=hid az;clear az;go_wp2_with fail
      go_ret3
      exact⟨_,rfl,by rw[aE.out];exact ay.out,au.out⟩
    ·rw[Ab ar]at hE;have ae:byO way n p bO= []:=(by rw[hO,hE,Ab ar]);rw[hE,ae,Ab ar];have g5:(e2 != 0)=true:=(by simpa using ar);clear ar hE hO ae aa ac;go_enter Tryz.func76,Tryz.ntmps76;go_wp2_with fail;refine C0.out.mono ?_;rintro e w1 ⟨rfl,J⟩;have z:=hid J;have j:Hid (Below w.heap.size w (w1.alloc (.cells #[] 5))):=bZ z.out;have HO:=hid (GA (w:=w1) (base:=w.heap.size) z.out.size);have HS:=hid (Y.out _ j.out);have N:=j.out.size;clear J C0 Y;go_wp2_with(at_builtin;refine gZ rfl (.tmp 24) (.tmp 30) 22 rfl w.heap.size 5 j0 _ 1 1 Tryz.underlying22 aq an am ak rfl (by decide) _ _ _ (by rfl) HO.out _ _ _ _ (by rfl) HS.out (Cm _ _) (by unfold maxLen;omega) (by omega) N ?_;intro v4 w4 i M L;have U:Hid (Below w.heap.size w w4):=j.out.grown M N (fun y hy=>(Ae HO.out y hy).1);have G:Hid (w4.ownsRow w.heap.size 5 1 v4 p (cZ .u8 bO)):=(by have h:=i;rw[Bq]at h;exact h);obtain⟨A4,c4,rfl⟩:=aZ G.out;clear i M L);refine(C1.out w4 A4 c4 G.out).mono ?_;rintro e w5 ⟨v5,rfl,Q,ab⟩;obtain⟨A5,c5,rfl⟩:=aZ Q;have Z:Hid (Below w.heap.size w w5):=eZ ab U.out;have E:=Ia Q;clear Q ab C1 G U HO HS z j;have ah:=hid E;clear E;generalize ts.length=tl at *;go_wp2_with fail;refine(C2.out w5 A5 c5 ah.out).mono ?_;rintro e w6 ⟨v6,rfl,af,ai⟩;obtain⟨A6,c6,rfl⟩:=aZ af;have ay:=hid (jZ af Z.out.size);have au:Hid (Below w.heap.size w w6):=eZ ai Z.out;clear af ai C2 ah Z;generalize out.length=ol at *;go_wp2_with fail
     go_ret3
     exact⟨_,rfl,Am _ _ _ _,au.out⟩
   ·rw[Ab al]at hE;have ae:byO way n p bO= []:=(by rw[hO,hE,Ab al]);rw[hE,ae,Ab al];have g1:(e1 != 0)=true:=(by simpa using al);clear al ac aa hE hO ae;go_enter Tryz.func76,Tryz.ntmps76;go_wp2_with fail;refine C0.out.mono ?_;rintro e w1 ⟨rfl,J⟩;have z:=hid J;have j:Hid (Below w.heap.size w (w1.alloc (.cells #[] 5))):=bZ z.out;have HO:=hid (GA (w:=w1) (base:=w.heap.size) z.out.size);have HS:=hid (Y.out _ j.out);have N:=j.out.size;clear J C0 Y;go_wp2_with(at_builtin;refine gZ rfl (.tmp 24) (.tmp 30) 22 rfl w.heap.size 5 j0 _ 1 1 Tryz.underlying22 aq an am ak rfl (by decide) _ _ _ (by rfl) HO.out _ _ _ _ (by rfl) HS.out (Cm _ _) (by unfold maxLen;omega) (by omega) N ?_;intro v4 w4 i M L;have U:Hid (Below w.heap.size w w4):=j.out.grown M N (fun y hy=>(Ae HO.out y hy).1);have G:Hid (w4.ownsRow w.heap.size 5 1 v4 p (cZ .u8 bO)):=(by have h:=i;rw[Bq]at h;exact h);obtain⟨A4,c4,rfl⟩:=aZ G.out;clear i M L);refine(C1.out w4 A4 c4 G.out).mono ?_;rintro e w5 ⟨v5,rfl,Q,ab⟩;obtain⟨A5,c5,rfl⟩:=aZ Q;have Z:Hid (Below w.heap.size w w5):=eZ ab U.out;have E:=Ia Q;clear Q ab C1 G U HO HS z j;clear E;go_wp2_with fail
    go_ret3
    exact⟨_,rfl,Am _ _ _ _,Z.out⟩
 ·have hE:opE bs=hE8 bs:=Ab ag;have hO:opO bs= []:=Ab (by rw[hE];exact ag);have hA:opA bs=0:=Ab (by rw[hE];exact ag);rw[hE,hO,hA];have g1:(hE8 bs != 0)=true:=by simpa using ag
  generalize hdR (hE8 bs) (BR bs)=x1 at *;generalize hdR (hE8 bs) (hN bs)=x2 at *;generalize hdR (hE8 bs) (hP bs)=x3 at *;generalize hdR (hE8 bs) (hA3 bs)=x4 at *;generalize hE8 bs=er at *;clear hE hO hA ag h8 ha hX ax hn;go_enter Tryz.func76,Tryz.ntmps76;go_wp2_with fail;refine C0.out.mono ?_;rintro e w1 ⟨rfl,J⟩;go_wp2_with fail
  go_ret3
  exact⟨_,rfl,Am _ _ _ _,J⟩
end Block
namespace Block
open Go.RowKit Mem Own Canon
open Nums Crc NumPut
open Huff (BD)
open Toks (Tk)
theorem Lr{w:World}{A:Option Addr}{n:Nat}{ls:List Nat}(h:Row w w.heap.size A n 1 (iZ .u8 ls))(h0:0<n):∀a,A=some a->a.add 0=a/\a.block<w.heap.size:=by intro a ha;obtain⟨b,i,rfl,hb,_⟩:=h h0;injection ha with ha;subst ha;exact⟨by rw[Mem.add_none,CW],hb⟩
theorem Ug{l:List Nat}(h:∀x∈l,x<=255)(i:Nat):l.getD i 0<=255:=by
 by_cases hi:i<l.length
 ·rw[Ar,AD hi];exact h _ (Hr hi)
 ·rw[Ar,Gr (by omega)];show 0<=255;omega
theorem Q3{l:List Nat}{y:Nat}(h:∀x∈l,x<=255)(hy:y<=255):∀x∈l++ [y],x<=255:=fun x hx=>by
 rcases BH.1 hx with hx|hx
 ·exact h x hx
 ·rw[Df.1 hx];exact hy
theorem QS:∀ (n d:Nat) (out:List Nat),(∀x∈out,x<=255)->∀x∈Lz.Bi out n d,x<=255
 |0,_,_,h=>h
 |n+1,d,_,h=>QS n d _ (Q3 h (Ug h _))
theorem QJ(most:Int):∀ (ts:List Tk) (out:List Nat),(∀t∈ts,0<=t.lit/\t.lit<=255)->(∀x∈out,x<=255)->∀x∈(Lz.Dg most out ts).1,x<=255
 | [],_,_,h=>h
 |t :: ts,_,hl,h=>by
  have h1:=hl t (by simp);rw[Lz.Dg];split
  ·refine QJ most ts _ (fun x hx=>hl x (EW _ hx)) ?_;split
   ·exact Q3 h (by omega)
   ·exact QS _ _ _ h
  ·intro x hx;cases hx
theorem Lb{bs:List Nat}(h8:∀x∈bs,x<=255):∀x∈opO bs,x<=255:=by
 intro x hx;unfold opO at hx;split at hx
 ·cases hx
 ·rename_i h0;unfold byO at hx;split at hx
  ·cases hx
  ·rename_i h1;have h1:byE (BR bs) (hN bs) (hP bs) (Bp bs)=0:=(by simpa using h1);split at hx
   ·unfold Bp at hx;exact h8 x (Md hx)
   ·rename_i hw
    have hr:(BD (Bp bs) (hN bs)).2=0:=by
     unfold byE at h1;rw[Aa hw]at h1;split at h1
     ·contradiction
     ·rename_i h2;simpa using h2
    unfold Lz.El at hx;rw[Aa (by omega)]at hx;exact QJ _ _ _ (fun t ht=>(MW hr t ht).1) (by simp) x hx
end Block
namespace Block
open Go.RowKit Mem Own Canon
open Nums Crc
end Block
namespace Block
open NumPut Crc Nums
end Block
namespace Block
open NumPut Crc Nums
open Toks (Tk By)
open Huff (EE BD word bytesOf bytesOf_length)
end Block
namespace Block
open Go.RowKit Mem Own Canon
open Nums Crc NumPut
end Block
namespace Block
open Go.RowKit Mem Own Canon
open Nums Crc NumPut
theorem KV{w:World}{base n c s:Nat}{e:TypeId}{A:Option Addr}{xs:List Value}(h:w.ownsRow base e s (.slice A n c) n xs):Src w A n c s xs:=by
 refine⟨h.1,?_⟩;rcases h.2 with ⟨hv,h0⟩|⟨g,G,cur,hv,hb,hh,E,y,z,i⟩
 ·injection hv with e1 e2 e3;exact .inl ⟨e1,e2,e3⟩
 ·injection hv with e1 e2 e3;refine .inr ⟨⟨g,0,none⟩,e1,fun j u hu=> ?_⟩;rw[add_none,Bq,Blk.cell hh];rw[<-i,Hs]at hu;split at hu
  ·simpa using hu
  ·cases hu
end Block
end Go.Proofs.YtbgoibedicbkjaaGreatDoor
