/- The walk of firkinre -/
import Derived.Test.YtfgdoknipbpfhaaGreatDoorZTwoUnpacks41
import Derived.Test.YtfgdoknipbpfhaaGreatDoorZTwoUnpacks36
namespace Go.Proofs.YtfgdoknipbpfhaaGreatDoor
open Go.Proofs.Tryz
open Go.Lib (hid)
set_option maxHeartbeats 2000000
set_option maxRecDepth 100000
variable{n:Nat}{w:World}{A:Option Addr}{l:List Nat}
namespace Lz
open Go.RowKit Mem Own Canon
open Toks (Tk BS Po)
theorem Zp{most q x L D:Nat}{out:List Nat}(hq:out.length=q)(hm:BS (x:Int) (L:Int) (D:Int)=true):G5 most out ⟨(x:Int),(L:Int),(D:Int)⟩=if q<D then 8 else if most<q+max 1 L then 6 else 0:=by
 unfold G5;rw[Ab hm,hq];show(if(q:Int)<(D:Int)then 8 else if(most:Int)-(q:Int)<max 1 (L:Int)then 6 else 0)=_;by_cases h:q<D
 ·rw[Ab kR,Ab h]
 ·rw[Aa kR,Aa h];by_cases h':most<q+max 1 L
  ·rw[Ab kR,Ab h']
  ·rw[Aa kR,Aa h']
theorem Uc{t:Tk}(hl:0<=t.lit/\t.lit<=255)(h:BS t.lit t.len t.dist=true):
 ∃x L D:Nat,t=⟨(x:Int),(L:Int),(D:Int)⟩/\x<=255/\L<=257/\D<=4095/\(0<L->1<=D)/\(L=0->D=0):=by
 rcases Oq hl h with ⟨x,hx,rfl⟩|⟨L,D,h1,h2,h3,h4,rfl⟩
 ·exact⟨x,0,0,rfl,hx,kR,kR,kR,fun _=>rfl⟩
 ·exact⟨0,L,D,rfl,kR,h2,h4,fun _=>h3,kR⟩
theorem Y9(w:World)(A:Option Addr)(n c:Nat)(ts:List Tk)(most:Nat)(a4:most<=1000000)(hn:ts.length=n)(hN:n<=1000000)(ax:∀t∈ts,(0<=t.lit/\t.lit<=255)/\BS t.lit t.len t.dist=true)(ha:Row w w A n 3 (Toks.Im ts)):
 Calls prog 216 #[.slice A n c,most] w (Ia (EN ts most) w):=by
 obtain⟨j0,aS,aV,aQ,aU⟩:=info_parts Ct;have hP:EN ts most=Ei most [] ts:=Aa kR;rw[hP];obtain⟨R,hR⟩:=iS (Ei most [] ts);rw[<-hR];obtain⟨R1,R2⟩:=R;unfold Ia;have g0:=iR ((most:Int)<0)
 have HR:=hid hR;have HA:=hid ha;have HN:=hid hn;have aW:=hid ax;clear hP hR ha hn ax;go_enter func216,ntmps216;go_wp2_with fail;go_loopw [6,7] (fun u i wr=>∃ (k q:Nat) (out:List Nat),k<=n/\q<=most/\i= .int .i64 k/\Hid (out.length=q)/\Hid (wr.ownsRow w 5 1 u q (cZ .u8 out))/\Hid (Ei most out (ts.drop k)=(R1,R2))/\aO w wr) (fun _ i _=>n-(intOf i).toNat)
 case atStart=>exact⟨0,0,[],kR,kR,rfl,rfl,Aq _ _ _ _,HR.out.symm,Ag _ _⟩
 case round=>
  obtain⟨k,q,out,hk,hq,rfl,HQ,HO,HP,hb⟩:=hrel;obtain⟨w0,rfl⟩:=iS wr;have hz:=hb.size;have HB:=hid hb;obtain⟨va,vc,rfl⟩:=aZ HO.out;by_cases au:k<n
  ·obtain⟨ob,a6,rfl,G,Z⟩:=HA.out kR;have ar:k<ts.length:=(by rw[HN.out];exact au);have c0:=Z k 0 au kR;have c1:=Z k 1 au kR;have c2:=Z k 2 au kR;simp only[Toks.Im,List.getD_eq_getElem?_getD,List.getElem?_eq_getElem ar,Option.getD_some,Nat.add_zero,<-Nat.add_assoc]at c0 c1 c2;have hp:=HP.out;rw[CU ar,Ei]at hp;obtain⟨hl,hm⟩:=aW.out _ (Hi ar);have HM:=fun wx=>Po ts[k] wx;rw[hm]at HM;obtain⟨x,L,D,ht,a9,a8,a7,aj,ac⟩:=Uc hl hm;rw[ht]at HM c0 c1 c2 hp hm;simp only[Toks.Tk.val_mk]at HM c0 c1 c2;rw[Zp HQ.out hm]at hp;have HM:=hid HM;have am:=hid aj;have C0:=hid c0;have C1:=hid c1;have C2:=hid c2;clear Z ar hl hm ht aj;have c0:=(hb.cell (p:=⟨ob,_,none⟩) G).trans C0.out;have c1:=(hb.cell (p:=⟨ob,_,none⟩) G).trans C1.out;have c2:=(hb.cell (p:=⟨ob,_,none⟩) G).trans C2.out;have x0:(0:Int)<=(k:Int):=kR;have x1:(k:Int)<(n:Int):=kR;by_cases U:q<D
   ·rw[Ab U,Aa mY]at hp;injection hp with e1 e2;subst e1 e2;have g1:=iQ ((q:Int)<D);have a3:=iQ (q<D);clear ac U;clear HP hb;go_wp2_with fail;refine(HM.out _).mono ?_;rintro e w2 ⟨rfl,J⟩;clear c0 c1 c2;have E:=hid (HB.out.trans (J.mono hz));have c0:=(E.out.cell (p:=⟨ob,_,none⟩) G).trans C0.out;have c1:=(E.out.cell (p:=⟨ob,_,none⟩) G).trans C1.out;have c2:=(E.out.cell (p:=⟨ob,_,none⟩) G).trans C2.out;have ab:=hid (dZ HO.out (fun y hy=>J.block y (Ae HO.out y hy).2));clear J HO HM HB;go_wp2_with fail;go_ret2;exact⟨_,rfl,Aq _ _ _ _,E.out⟩
   ·rw[Aa U]at hp;have g1:=iR ((q:Int)<D);have a3:=iR (q<D);by_cases ae:L=0
    ·have gz:((L:Int)==0)=true:=(by simp[ae]);have a5:(L==0)=true:=(by simp[ae]);have s1:IntKind.i64.wrap ((q:Int)+1)=((q+1:Nat):Int):=lD;by_cases aa:most<q+1
     ·rw[Ab (show most<q+max 1 L by omega),Aa mY]at hp;injection hp with e1 e2;subst e1 e2;have g2:=iQ ((most:Int)<((q+1:Nat):Int));have af:=iQ (most<q+1);obtain⟨q1,N⟩:=iS (q+1);rw[<-N]at s1 g2 af;clear ac U ae aa N;clear HP hb;go_wp2_with fail;refine(HM.out _).mono ?_;rintro e w2 ⟨rfl,J⟩;clear c0 c1 c2;have E:=hid (HB.out.trans (J.mono hz));have c0:=(E.out.cell (p:=⟨ob,_,none⟩) G).trans C0.out;have c1:=(E.out.cell (p:=⟨ob,_,none⟩) G).trans C1.out;have c2:=(E.out.cell (p:=⟨ob,_,none⟩) G).trans C2.out;have ab:=hid (dZ HO.out (fun y hy=>J.block y (Ae HO.out y hy).2));clear J HO HM HB;go_wp2_with fail;go_ret2;exact⟨_,rfl,Aq _ _ _ _,E.out⟩
     ·rw[Aa (show ¬most<q+max 1 L by omega),Ab rfl,Ab (by show(L:Int)=0;omega)]at hp;have al:Ei most (Bw (out++ [x]) L D) (ts.drop (k+1))=(R1,R2):=(by rw[ae];exact hp);have g2:=iR ((most:Int)<((q+1:Nat):Int));have af:=iR (most<q+1);have av:=hid al;have aq:q+1+L<=most:=kR;obtain⟨q2,N⟩:=iS (q+1);have ai:Hid ((out++ [x]).length=q2):=(by show _=_;rw[Aj,HQ.out,N];rfl);have aY:=hid N;rw[<-N]at s1 g2 af aq;have am:Hid (0<L->D<=q2/\1<=D):=fun h=>by omega
      obtain⟨z,az⟩:=iS (out++ [x]);have aX:=hid az;rw[<-az]at av ai;clear ac U ae aa N hp al az;clear HP hb;go_wp2_with fail;refine(HM.out _).mono ?_;rintro e w2 ⟨rfl,J⟩;clear c0 c1 c2;have E:=hid (HB.out.trans (J.mono hz));have c0:=(E.out.cell (p:=⟨ob,_,none⟩) G).trans C0.out;have c1:=(E.out.cell (p:=⟨ob,_,none⟩) G).trans C1.out;have c2:=(E.out.cell (p:=⟨ob,_,none⟩) G).trans C2.out;have ab:=hid (dZ HO.out (fun y hy=>J.block y (Ae HO.out y hy).2));clear J HO HM HB;have a0:=E.out.size;go_wp2_with(at_builtin;refine gZ rfl (.tmp 52) (.tmp 58) 28 rfl w 5 j0 _ 1 1 underlying28 aS aV aQ aU rfl iX _ _ _ kU (ab.out.alloc _) _ 1 1 [.int .u8 x] kU (Src.of_blk (Blk.made _ _ _) 1 1 1 rfl) kw nI kR ni ?_;intro v4 w4 M ah an);have aR:=hid ((lZ a0 E.out).grown ah ni (fun y hy=>(Ae ab.out y hy).1));have aP:Hid (w4.ownsRow w 5 1 v4 (q2+0) (cZ .u8 (Bw z 0 D))):=(by rw[CT,aY.out];show World.ownsRow _ _ _ _ _ _ (cZ .u8 z);rw[aX.out,show cZ .u8 (out++ [x])=cZ .u8 out++ [.int .u8 x] by simp[cZ]];exact M);clear M ah an ab c0 c1 c2;go_wp2_with fail;go_loopw [6,9] (fun u i wx=>∃j:Nat,j<=L/\i= .int .i64 j/\Hid (wx.ownsRow w 5 1 u (q2+j) (cZ .u8 (Bw z j D)))/\Hid (aO w wx)) (fun _ i _=>L-(intOf i).toNat)
      case atStart=>exact⟨0,kR,rfl,aP.out,aR.out⟩
      case round=>
       obtain⟨j,hj,rfl,Q,Y⟩:=hrel;have aT:=Y.out.size;have k1:=(Y.out.cell (p:=⟨ob,_,none⟩) G).trans C1.out;have k2:=(Y.out.cell (p:=⟨ob,_,none⟩) G).trans C2.out;by_cases a1:j<L
       ·have aj:=am.out kR;obtain⟨g,cg,rfl,_⟩:=Q.out.form kR;have ak:(Bw z j D).length=q2+j:=(by rw[Ik,ai.out]);obtain⟨I,hI⟩:=iS (q2+j-D);have ag:=Lk j D z;rw[ak,<-hI]at ag;have hy:(cZ .u8 (Bw z j D))[I]? =some (.int .u8 ((Bw z j D).getD I 0:Nat)):=(by simp[cZ,List.getD_eq_getElem?_getD,List.getElem?_eq_getElem (show I<(Bw z j D).length by omega)]);have c9:wr.cell? ⟨g,I,none⟩=some (.int .u8 ((Bw z j D).getD I 0:Nat)):=jK;generalize (Bw z j D).getD I 0=y at *;have s2:IntKind.i64.wrap (((q2+j:Nat):Int)-(D:Int))=(I:Int):=lD;have s3:IntKind.i64.wrap ((q2:Int)+(j:Int)-(D:Int))=(I:Int):=lD;have y2:(0:Int)<=(I:Int):=kR;have y3:(I:Int)<((q2+j:Nat):Int):=kR;have ay:=hid ag;clear ak hI ag hy aj;go_wp2_with(at_builtin;refine gZ rfl (.tmp 80) (.tmp 82) 28 rfl w 5 j0 _ 1 1 underlying28 aS aV aQ aU rfl iX _ _ _ kU (Q.out.alloc _) _ 1 1 [.int .u8 y] kU (Src.of_blk (Blk.made _ _ _) 1 1 1 rfl) kw nI kR ni ?_;intro v4 w4 M ah an);go_roundw
        case measure=>exact jw
        case rel=>
         go_light;refine⟨j+1,kR,jx,?_,?_⟩
         ·show World.ownsRow _ _ _ _ _ _ _;rw[ay.out,show cZ .u8 (Bw z j D++ [y])=cZ .u8 (Bw z j D)++ [.int .u8 y] by simp[cZ]];exact M
         ·exact(lZ aT Y.out).grown ah ni (fun y hy=>(Ae Q.out y hy).1)
       ·obtain rfl:j=L:=by omega
        obtain⟨A5,c5,rfl⟩:=aZ Q.out;go_wp2_with fail;go_roundw
        case measure=>exact jw
        case rel=>exact jn
    ·have gz:((L:Int)==0)=false:=lH;have a5:(L==0)=false:=lH;have s1:IntKind.i64.wrap ((q:Int)+(L:Int))=((q+L:Nat):Int):=lD;by_cases aa:most<q+L
     ·rw[Ab (show most<q+max 1 L by omega),Aa mY]at hp;injection hp with e1 e2;subst e1 e2;have g2:=iQ ((most:Int)<((q+L:Nat):Int));have af:=iQ (most<q+L);obtain⟨q1,N⟩:=iS (q+L);rw[<-N]at s1 g2 af;clear ac U ae aa N;clear HP hb;go_wp2_with fail;refine(HM.out _).mono ?_;rintro e w2 ⟨rfl,J⟩;clear c0 c1 c2;have E:=hid (HB.out.trans (J.mono hz));have c0:=(E.out.cell (p:=⟨ob,_,none⟩) G).trans C0.out;have c1:=(E.out.cell (p:=⟨ob,_,none⟩) G).trans C1.out;have c2:=(E.out.cell (p:=⟨ob,_,none⟩) G).trans C2.out;have ab:=hid (dZ HO.out (fun y hy=>J.block y (Ae HO.out y hy).2));clear J HO HM HB;go_wp2_with fail;go_ret2;exact⟨_,rfl,Aq _ _ _ _,E.out⟩
     ·rw[Aa (show ¬most<q+max 1 L by omega),Ab rfl,Aa (by show ¬(L:Int)=0;omega)]at hp;have al:Ei most (Bw out L D) (ts.drop (k+1))=(R1,R2):=hp;have g2:=iR ((most:Int)<((q+L:Nat):Int));have af:=iR (most<q+L);have av:=hid al;obtain⟨q1,N⟩:=iS (q+L);rw[<-N]at s1 g2 af;obtain⟨q2,rfl⟩:=iS q;obtain⟨z,rfl⟩:=iS out;have aq:q2+L<=most:=kR;have ai:=HQ;have aw:=am.out;have am:Hid (0<L->D<=q2/\1<=D):=fun h=>⟨kR,aw h⟩;clear ac U ae aa N hp al aw;clear HP hb;go_wp2_with fail;refine(HM.out _).mono ?_;rintro e w2 ⟨rfl,J⟩;clear c0 c1 c2;have E:=hid (HB.out.trans (J.mono hz));have c0:=(E.out.cell (p:=⟨ob,_,none⟩) G).trans C0.out;have c1:=(E.out.cell (p:=⟨ob,_,none⟩) G).trans C1.out;have c2:=(E.out.cell (p:=⟨ob,_,none⟩) G).trans C2.out;have ab:=hid (dZ HO.out (fun y hy=>J.block y (Ae HO.out y hy).2));clear J HO HM HB;have aR:=E;have aP:Hid (w2.ownsRow w 5 1 (.slice va q2 vc) (q2+0) (cZ .u8 (Bw z 0 D))):=(by rw[CT];exact ab.out);go_wp2_with fail;go_loopw [6,9] (fun u i wx=>∃j:Nat,j<=L/\i= .int .i64 j/\Hid (wx.ownsRow w 5 1 u (q2+j) (cZ .u8 (Bw z j D)))/\Hid (aO w wx)) (fun _ i _=>L-(intOf i).toNat)
      case atStart=>exact⟨0,kR,rfl,aP.out,aR.out⟩
      case round=>
       obtain⟨j,hj,rfl,Q,Y⟩:=hrel;have aT:=Y.out.size;have k1:=(Y.out.cell (p:=⟨ob,_,none⟩) G).trans C1.out;have k2:=(Y.out.cell (p:=⟨ob,_,none⟩) G).trans C2.out;by_cases a1:j<L
       ·have aj:=am.out kR;obtain⟨g,cg,rfl,_⟩:=Q.out.form kR;have ak:(Bw z j D).length=q2+j:=(by rw[Ik,ai.out]);obtain⟨I,hI⟩:=iS (q2+j-D);have ag:=Lk j D z;rw[ak,<-hI]at ag;have hy:(cZ .u8 (Bw z j D))[I]? =some (.int .u8 ((Bw z j D).getD I 0:Nat)):=(by simp[cZ,List.getD_eq_getElem?_getD,List.getElem?_eq_getElem (show I<(Bw z j D).length by omega)]);have c9:wr.cell? ⟨g,I,none⟩=some (.int .u8 ((Bw z j D).getD I 0:Nat)):=jK;generalize (Bw z j D).getD I 0=y at *;have s2:IntKind.i64.wrap (((q2+j:Nat):Int)-(D:Int))=(I:Int):=lD;have s3:IntKind.i64.wrap ((q2:Int)+(j:Int)-(D:Int))=(I:Int):=lD;have y2:(0:Int)<=(I:Int):=kR;have y3:(I:Int)<((q2+j:Nat):Int):=kR;have ay:=hid ag;clear ak hI ag hy aj;go_wp2_with(at_builtin;refine gZ rfl (.tmp 80) (.tmp 82) 28 rfl w 5 j0 _ 1 1 underlying28 aS aV aQ aU rfl iX _ _ _ kU (Q.out.alloc _) _ 1 1 [.int .u8 y] kU (Src.of_blk (Blk.made _ _ _) 1 1 1 rfl) kw nI kR ni ?_;intro v4 w4 M ah an);go_roundw
        case measure=>exact jw
        case rel=>
         go_light;refine⟨j+1,kR,jx,?_,?_⟩
         ·show World.ownsRow _ _ _ _ _ _ _;rw[ay.out,show cZ .u8 (Bw z j D++ [y])=cZ .u8 (Bw z j D)++ [.int .u8 y] by simp[cZ]];exact M
         ·exact(lZ aT Y.out).grown ah ni (fun y hy=>(Ae Q.out y hy).1)
       ·obtain rfl:j=L:=by omega
        obtain⟨A5,c5,rfl⟩:=aZ Q.out;go_wp2_with fail;go_roundw
        case measure=>exact jw
        case rel=>exact jn
  ·obtain rfl:k=n:=by omega
   have hp:=HP.out;rw[Cw lQ,Ei]at hp;injection hp with e1 e2;subst e1 e2;clear HP;go_wp2_with fail;go_ret2;refine⟨_,rfl,?_,hb⟩;rw[HQ.out];exact HO.out
end Lz
namespace Block
open Go.RowKit Mem Own Canon
open Nums Crc
open Huff (BX CW Il Qi)
open Toks (Tk BS)
theorem Ph{bs:List Nat}{at_:Nat}{er:Int}(h:Bh bs at_ er n=0):er=0/\n<=bs.length-at_:=by
 unfold Bh at h;split at h
 ·contradiction
 ·rename_i h0;split at h
  ·cases h
  ·exact⟨by simpa using h0,kR⟩
theorem TV{bs:List Nat}(hb:∀x∈bs,x<=255)(h:hE8 bs=0):hA3 bs+hP bs+4<=bs.length/\hA5 bs=hA3 bs+hP bs+4/\BM bs=(bs.drop (hA3 bs)).take (hP bs):=by
 unfold hE8 at h;split at h
 ·contradiction
 ·rename_i h7;have h7:hE7 bs=0:=by simpa using h7
  obtain⟨h6,l6⟩:=Ph h7;obtain⟨h5,l5⟩:=Ph h6;have hA4:hA4 bs=hA3 bs+hP bs:=by unfold Block.hA4;rw[h5,G2,Aa kR]
  have h3:=OG hb;have h4:=Ow hb;refine⟨kR,?_,?_⟩
  ·unfold hA5;rw[h6,G2,Aa kR,hA4]
  ·unfold BM;rw[h5,FU,Aa kR]
theorem hdR0(x:Nat):hdR 0 x=x:=rfl
theorem TD{bs:List Nat}(h:hE8 bs=0):opE bs=byE (Cl bs) (hN bs) (hP bs) (BM bs)/\opO bs=byO (Cl bs) (hN bs) (hP bs) (BM bs)/\opA bs=if byE (Cl bs) (hN bs) (hP bs) (BM bs)≠0 then 0 else hA5 bs:=by
 have e:opE bs=byE (Cl bs) (hN bs) (hP bs) (BM bs):=by unfold opE;rw[h,Aa mY]
 refine⟨e,?_,?_⟩
 ·unfold opO;rw[e];split
  ·rename_i h0;unfold byO;rw[Ab h0]
  ·rfl
 ·unfold opA;rw[e]
theorem O2(w:World)(X:Option Addr)(nX dX:Nat)(bs:List Nat)(hn:bs.length=nX)(aT:nX<=100000)(hd:nX<=dX)(hX:X=none->nX=0/\dX=0)(ax:0<nX->∀a,X=some a->a.add 0=a)(h8:∀x∈bs,x<=255)(ha:Row w w X nX 1 (jZ .u8 bs)):
 Calls prog 152 #[.slice X nX dX] w (Ho bs w):=by
 obtain⟨j0,am,ar,al,an⟩:=info_parts Ct;have C0:=hid (rhead_any w X nX dX bs hn aT hd hX ax h8 ha);unfold ML at C0;unfold Ho;by_cases ag:hE8 bs=0
 ·rw[ag]at C0;simp only[hdR0]at C0;obtain⟨z1,z2,z3⟩:=TV h8 ag;obtain⟨o1,o2,o3⟩:=TD ag;rw[o1,o2,o3];have aV:=Ka h8;have aS:=J7 h8;have av:∀x∈BM bs,x<=255:=fun x hx=>by unfold BM at hx;exact h8 x (Mt hx)
  have ah:(BM bs).length=hP bs:=by rw[z3,AN,AK];omega
  have Z:Hid (∀wx,aO w wx->Src wx (xZ X (hA3 bs) dX 1) (hP bs) (dX-hA3 bs) 1 (cZ .u8 (BM bs))):=fun wx hb=>by rw[z3];exact OJ ((ha.below hb).mono hb.size) hn kR hd hX
  have ks:=fun wx=>Hy (P:=prog) (t:=28) (s:=1) underlying28 (fun _=>by kernel_rfl) X nX dX .i64 .i64 ((hA3 bs:Nat):Int) ((hA3 bs+hP bs:Nat):Int) (hA3 bs) (hA3 bs+hP bs) rfl rfl kR kR wx;rw[Mi]at ks;clear h8 ha hX ax ag o1 o2 o3 z3;rw[z2];generalize Cl bs=way at *;generalize hN bs=n at *;generalize hP bs=p at *;generalize hA3 bs=a3 at *;generalize BM bs=bO at *;have s1:IntKind.i64.wrap ((a3:Int)+(p:Int))=((a3+p:Nat):Int):=lD
  obtain⟨ap,aQ⟩:=iS (a3+p);rw[<-aQ]at s1 ks z1 ⊢;have s2:IntKind.i64.wrap ((ap:Int)+4)=((ap+4:Nat):Int):=lD
  obtain⟨a5,aP⟩:=iS (ap+4);rw[<-aP]at s2 z1 ⊢;have az:=hid ah;clear z2 aQ aP;by_cases hw:way=0
  ·subst hw;by_cases ay:n=p
   ·subst ay;have hE:byE 0 n n bO=0:=(by unfold byE;rw[Ab rfl,Aa mY]);have hO:byO 0 n n bO=bO:=(by unfold byO;rw[hE,Aa mY,Ab rfl]);rw[hE,hO,Aa mY];have g1:((n:Int) != (n:Int))=false:=mY;obtain⟨p,hp⟩:∃p,p=n:=⟨n,rfl⟩;have aW:=hid hp;rw[<-hp]at C0 ks s1 Z az g1 aV aS ah;clear hE hO ah hp av;go_enter func152,ntmps152;go_wp2_with fail;refine C0.out.mono ?_;rintro e w1 ⟨rfl,J⟩;have z:=hid J;have j:Hid (aO w (w1.alloc (.cells #[] 5))):=bZ z.out;have HO:=hid (Hb (w:=w1) (base:=w.heap.size) z.out.size);have HS:=hid (Z.out _ j.out);have L:=j.out.size;clear J C0 Z;go_wp2_with(at_builtin;refine gZ rfl (.tmp 24) (.tmp 30) 28 rfl w 5 j0 _ 1 1 underlying28 am ar al an rfl iX _ _ _ kU HO.out _ _ _ _ kU HS.out (Cn _ _) nI kR L ?_;intro v4 w4 i M N;have U:Hid (aO w w4):=j.out.grown M L (fun y hy=>(Ae HO.out y hy).1);have G:Hid (w4.ownsRow w 5 1 v4 p (cZ .u8 bO)):=jP;obtain⟨A4,c4,rfl⟩:=aZ G.out;clear i M N)
    go_ret3
    exact⟨_,rfl,by rw[az.out];exact G.out,U.out⟩
   ·have hE:byE 0 n p bO=2:=(by unfold byE;rw[Ab rfl,Ab ay]);have hO:byO 0 n p bO= []:=(by unfold byO;rw[hE,Ab mY]);rw[hE,hO,Ab mY];have g1:((n:Int) != (p:Int))=true:=ni;clear hE hO ay ah av;go_enter func152,ntmps152;go_wp2_with fail;refine C0.out.mono ?_;rintro e w1 ⟨rfl,J⟩;have z:=hid J;have j:Hid (aO w (w1.alloc (.cells #[] 5))):=bZ z.out;have HO:=hid (Hb (w:=w1) (base:=w.heap.size) z.out.size);have HS:=hid (Z.out _ j.out);have L:=j.out.size;clear J C0 Z;go_wp2_with(at_builtin;refine gZ rfl (.tmp 24) (.tmp 30) 28 rfl w 5 j0 _ 1 1 underlying28 am ar al an rfl iX _ _ _ kU HO.out _ _ _ _ kU HS.out (Cn _ _) nI kR L ?_;intro v4 w4 i M N;have U:Hid (aO w w4):=j.out.grown M L (fun y hy=>(Ae HO.out y hy).1);have G:Hid (w4.ownsRow w 5 1 v4 p (cZ .u8 bO)):=jP;obtain⟨A4,c4,rfl⟩:=aZ G.out;clear i M N)
    go_ret3
    exact⟨_,rfl,Aq _ _ _ _,U.out⟩
  ·have g0:((way:Int)==0)=false:=lI;have C1:Hid (∀wx A4 c4,wx.ownsRow w 5 1 (.slice A4 p c4) p (cZ .u8 bO)->Calls prog 215 #[.slice A4 p c4,n] wx (Il (BX bO n) wx)):=fun wx A4 c4 ho=>by have hr:=ho;rw[<-ah]at hr;have hr:=own_row hr;rw[ah]at hr;exact Qi wx A4 p c4 bO n kR kR ah kR av hr
   have aa:=MR (body:=bO) (n:=n);have ac:=Pf (body:=bO) (n:=n);have hE:=show byE way n p bO=_ from Aa hw
   have hO:byO way n p bO=if byE way n p bO≠0 then []else(Lz.EN (BX bO n).1 n).1:=(by unfold byO;rw[Aa hw]);unfold Il at C1;generalize BX bO n=R at *;obtain⟨ts,e1⟩:=R;simp only at hE hO C1 aa ac;clear ah av hw;by_cases aq:e1=0
   ·subst aq;rw[Aa mY]at hE;have ac:=ac rfl;have aa:=aa rfl;have C2:Hid (∀wx A2 c2,Row wx wx A2 ts.length 3 (Toks.Im ts)->Calls prog 216 #[.slice A2 ts.length c2,n] wx (Lz.Ia (Lz.EN ts n) wx)):=fun wx A2 c2 hr=>Lz.Y9 wx A2 ts.length c2 ts n kR rfl kR aa hr;unfold Lz.Ia at C2;generalize Lz.EN ts n=P at *;obtain⟨out,e2⟩:=P;simp only at hE hO C2;by_cases ak:e2=0
    ·subst ak;rw[Aa mY]at hE;by_cases hl:out.length<n
     ·rw[Ab hl]at hE;have ab:byO way n p bO= []:=(by rw[hO,hE,Ab mY]);rw[hE,ab,Ab mY];have g5:=iQ ((out.length:Int)<n);have g6:=iQ (out.length<n);clear hl hE hO ab aa ac;go_enter func152,ntmps152;go_wp2_with fail;refine C0.out.mono ?_;rintro e w1 ⟨rfl,J⟩;have z:=hid J;have j:Hid (aO w (w1.alloc (.cells #[] 5))):=bZ z.out;have HO:=hid (Hb (w:=w1) (base:=w.heap.size) z.out.size);have HS:=hid (Z.out _ j.out);have L:=j.out.size;clear J C0 Z;go_wp2_with(at_builtin;refine gZ rfl (.tmp 24) (.tmp 30) 28 rfl w 5 j0 _ 1 1 underlying28 am ar al an rfl iX _ _ _ kU HO.out _ _ _ _ kU HS.out (Cn _ _) nI kR L ?_;intro v4 w4 i M N;have U:Hid (aO w w4):=j.out.grown M L (fun y hy=>(Ae HO.out y hy).1);have G:Hid (w4.ownsRow w 5 1 v4 p (cZ .u8 bO)):=jP;obtain⟨A4,c4,rfl⟩:=aZ G.out;clear i M N);refine(C1.out w4 A4 c4 G.out).mono ?_;rintro e w5 ⟨v5,rfl,Q,ae⟩;obtain⟨A5,c5,rfl⟩:=aZ Q;have Y:Hid (aO w w5):=eZ ae U.out;have E:=IF Q;clear Q ae C1 G U HO HS z j;have aj:=hid E;clear E;generalize ts.length=tl at *;go_wp2_with fail;refine(C2.out w5 A5 c5 aj.out).mono ?_;rintro e w6 ⟨v6,rfl,af,ai⟩;obtain⟨A6,c6,rfl⟩:=aZ af;have aw:=hid (iZ af Y.out.size);have au:Hid (aO w w6):=eZ ai Y.out;clear af ai C2 aj Y;generalize out.length=ol at *;go_wp2_with fail
      go_ret3
      exact⟨_,rfl,Aq _ _ _ _,au.out⟩
     ·rw[Aa hl]at hE;have ab:byO way n p bO=out:=(by rw[hO,hE,Aa mY]);rw[hE,ab,Aa mY];have g5:=iR ((out.length:Int)<n);have g6:=iR (out.length<n);clear hl hE hO ab aa ac;go_enter func152,ntmps152;go_wp2_with fail;refine C0.out.mono ?_;rintro e w1 ⟨rfl,J⟩;have z:=hid J;have j:Hid (aO w (w1.alloc (.cells #[] 5))):=bZ z.out;have HO:=hid (Hb (w:=w1) (base:=w.heap.size) z.out.size);have HS:=hid (Z.out _ j.out);have L:=j.out.size;clear J C0 Z;go_wp2_with(at_builtin;refine gZ rfl (.tmp 24) (.tmp 30) 28 rfl w 5 j0 _ 1 1 underlying28 am ar al an rfl iX _ _ _ kU HO.out _ _ _ _ kU HS.out (Cn _ _) nI kR L ?_;intro v4 w4 i M N;have U:Hid (aO w w4):=j.out.grown M L (fun y hy=>(Ae HO.out y hy).1);have G:Hid (w4.ownsRow w 5 1 v4 p (cZ .u8 bO)):=jP;obtain⟨A4,c4,rfl⟩:=aZ G.out;clear i M N);refine(C1.out w4 A4 c4 G.out).mono ?_;rintro e w5 ⟨v5,rfl,Q,ae⟩;obtain⟨A5,c5,rfl⟩:=aZ Q;have Y:Hid (aO w w5):=eZ ae U.out;have E:=IF Q;clear Q ae C1 G U HO HS z j;have aj:=hid E;clear E;generalize ts.length=tl at *;go_wp2_with fail;refine(C2.out w5 A5 c5 aj.out).mono ?_;rintro e w6 ⟨v6,rfl,af,ai⟩;obtain⟨A6,c6,rfl⟩:=aZ af;have aw:=hid (iZ af Y.out.size);have au:Hid (aO w w6):=eZ ai Y.out;clear af ai C2 aj Y;generalize aR:out.length=ol at *;have aU:=hid aR;clear aR;go_wp2_with fail
      go_ret3
      exact⟨_,rfl,by rw[aU.out];exact aw.out,au.out⟩
    ·rw[Ab ak]at hE;have ab:byO way n p bO= []:=(by rw[hO,hE,Ab ak]);rw[hE,ab,Ab ak];have g5:(e2 != 0)=true:=(by simpa using ak);clear ak hE hO ab aa ac;go_enter func152,ntmps152;go_wp2_with fail;refine C0.out.mono ?_;rintro e w1 ⟨rfl,J⟩;have z:=hid J;have j:Hid (aO w (w1.alloc (.cells #[] 5))):=bZ z.out;have HO:=hid (Hb (w:=w1) (base:=w.heap.size) z.out.size);have HS:=hid (Z.out _ j.out);have L:=j.out.size;clear J C0 Z;go_wp2_with(at_builtin;refine gZ rfl (.tmp 24) (.tmp 30) 28 rfl w 5 j0 _ 1 1 underlying28 am ar al an rfl iX _ _ _ kU HO.out _ _ _ _ kU HS.out (Cn _ _) nI kR L ?_;intro v4 w4 i M N;have U:Hid (aO w w4):=j.out.grown M L (fun y hy=>(Ae HO.out y hy).1);have G:Hid (w4.ownsRow w 5 1 v4 p (cZ .u8 bO)):=jP;obtain⟨A4,c4,rfl⟩:=aZ G.out;clear i M N);refine(C1.out w4 A4 c4 G.out).mono ?_;rintro e w5 ⟨v5,rfl,Q,ae⟩;obtain⟨A5,c5,rfl⟩:=aZ Q;have Y:Hid (aO w w5):=eZ ae U.out;have E:=IF Q;clear Q ae C1 G U HO HS z j;have aj:=hid E;clear E;generalize ts.length=tl at *;go_wp2_with fail;refine(C2.out w5 A5 c5 aj.out).mono ?_;rintro e w6 ⟨v6,rfl,af,ai⟩;obtain⟨A6,c6,rfl⟩:=aZ af;have aw:=hid (iZ af Y.out.size);have au:Hid (aO w w6):=eZ ai Y.out;clear af ai C2 aj Y;generalize out.length=ol at *;go_wp2_with fail
     go_ret3
     exact⟨_,rfl,Aq _ _ _ _,au.out⟩
   ·rw[Ab aq]at hE;have ab:byO way n p bO= []:=(by rw[hO,hE,Ab aq]);rw[hE,ab,Ab aq];have g1:(e1 != 0)=true:=(by simpa using aq);clear aq ac aa hE hO ab;go_enter func152,ntmps152;go_wp2_with fail;refine C0.out.mono ?_;rintro e w1 ⟨rfl,J⟩;have z:=hid J;have j:Hid (aO w (w1.alloc (.cells #[] 5))):=bZ z.out;have HO:=hid (Hb (w:=w1) (base:=w.heap.size) z.out.size);have HS:=hid (Z.out _ j.out);have L:=j.out.size;clear J C0 Z;go_wp2_with(at_builtin;refine gZ rfl (.tmp 24) (.tmp 30) 28 rfl w 5 j0 _ 1 1 underlying28 am ar al an rfl iX _ _ _ kU HO.out _ _ _ _ kU HS.out (Cn _ _) nI kR L ?_;intro v4 w4 i M N;have U:Hid (aO w w4):=j.out.grown M L (fun y hy=>(Ae HO.out y hy).1);have G:Hid (w4.ownsRow w 5 1 v4 p (cZ .u8 bO)):=jP;obtain⟨A4,c4,rfl⟩:=aZ G.out;clear i M N);refine(C1.out w4 A4 c4 G.out).mono ?_;rintro e w5 ⟨v5,rfl,Q,ae⟩;obtain⟨A5,c5,rfl⟩:=aZ Q;have Y:Hid (aO w w5):=eZ ae U.out;have E:=IF Q;clear Q ae C1 G U HO HS z j;clear E;go_wp2_with fail
    go_ret3
    exact⟨_,rfl,Aq _ _ _ _,Y.out⟩
 ·have hE:opE bs=hE8 bs:=Ab ag;have hO:opO bs= []:=Ab (by rw[hE];exact ag);have hA:opA bs=0:=Ab (by rw[hE];exact ag);rw[hE,hO,hA];have g1:(hE8 bs != 0)=true:=by simpa using ag
  generalize hdR (hE8 bs) (Cl bs)=x1 at *;generalize hdR (hE8 bs) (hN bs)=x2 at *;generalize hdR (hE8 bs) (hP bs)=x3 at *;generalize hdR (hE8 bs) (hA3 bs)=x4 at *;generalize hE8 bs=er at *;clear hE hO hA ag h8 ha hX ax hn;go_enter func152,ntmps152;go_wp2_with fail;refine C0.out.mono ?_;rintro e w1 ⟨rfl,J⟩;go_wp2_with fail
  go_ret3
  exact⟨_,rfl,Aq _ _ _ _,J⟩
end Block
namespace Block
open Go.RowKit Mem Own Canon
open Nums Crc NumPut
open Huff (BX)
open Toks (Tk)
theorem Mf{ls:List Nat}(h:Row w w A n 1 (jZ .u8 ls))(h0:0<n):∀a,A=some a->a.add 0=a/\a.block<w.heap.size:=by intro a ha;obtain⟨b,i,rfl,hb,_⟩:=h h0;injection ha with ha;subst ha;exact⟨by rw[Mem.add_none,CT],hb⟩
theorem TE(h:∀x∈l,x<=255)(i:Nat):l.getD i 0<=255:=by
 by_cases hi:i<l.length
 ·rw[Ar,AE hi];exact h _ (Hi hi)
 ·rw[Ar,GV kR];show 0<=255;omega
theorem Sj{y:Nat}(h:∀x∈l,x<=255)(hy:y<=255):∀x∈l++ [y],x<=255:=fun x hx=>by
 rcases BN.1 hx with hx|hx
 ·exact h x hx
 ·rw[Dw.1 hx];exact hy
theorem S3:∀ (n d:Nat) (out:List Nat),(∀x∈out,x<=255)->∀x∈Lz.Bw out n d,x<=255
 |0,_,_,h=>h
 |n+1,d,_,h=>S3 n d _ (Sj h (TE h _))
theorem SN(most:Int):∀ (ts:List Tk) (out:List Nat),(∀t∈ts,0<=t.lit/\t.lit<=255)->(∀x∈out,x<=255)->∀x∈(Lz.Ei most out ts).1,x<=255
 | [],_,_,h=>h
 |t :: ts,_,hl,h=>by
  have h1:=hl t mY;rw[Lz.Ei];split
  ·refine SN most ts _ (fun x hx=>hl x (Fv _ hx)) ?_;split
   ·exact Sj h kR
   ·exact S3 _ _ _ h
  ·intro x hx;cases hx
theorem KZ{bs:List Nat}(h8:∀x∈bs,x<=255):∀x∈opO bs,x<=255:=by
 intro x hx;unfold opO at hx;split at hx
 ·cases hx
 ·rename_i h0;unfold byO at hx;split at hx
  ·cases hx
  ·rename_i h1;have h1:byE (Cl bs) (hN bs) (hP bs) (BM bs)=0:=(by simpa using h1);split at hx
   ·unfold BM at hx;exact h8 x (Mt hx)
   ·rename_i hw
    have hr:(BX (BM bs) (hN bs)).2=0:=by
     unfold byE at h1;rw[Aa hw]at h1;split at h1
     ·contradiction
     ·rename_i h2;simpa using h2
    unfold Lz.EN at hx;rw[Aa kR]at hx;exact SN _ _ _ (fun t ht=>(MR hr t ht).1) mY x hx
end Block
namespace Block
open Go.RowKit Mem Own Canon
open Nums Crc
end Block
namespace Block
open NumPut Crc Nums
end Block
namespace Block
open NumPut Crc Nums
open Toks (Tk BS)
open Huff (Fg BX word bytesOf bytesOf_length)
end Block
namespace Block
open Go.RowKit Mem Own Canon
open Nums Crc NumPut
end Block
namespace Block
open Go.RowKit Mem Own Canon
open Nums Crc NumPut
theorem LL{base c s:Nat}{e:TypeId}{xs:List Value}(h:w.ownsRow base e s (.slice A n c) n xs):Src w A n c s xs:=by
 refine⟨h.1,?_⟩;rcases h.2 with ⟨hv,h0⟩|⟨g,E,cur,hv,hb,hh,G,y,z,i⟩
 ·injection hv with e1 e2 e3;exact .inl ⟨e1,e2,e3⟩
 ·injection hv with e1 e2 e3;refine .inr ⟨⟨g,0,none⟩,e1,fun j u hu=> ?_⟩;rw[add_none,BF,Blk.cell hh];rw[<-i,Iv]at hu;split at hu
  ·simpa using hu
  ·cases hu
end Block
end Go.Proofs.YtfgdoknipbpfhaaGreatDoor
