/- The walk of firkinref10.Find. The walk of the reference's frame writer -/
import Derived.Test.YtmlaajebadfkoaaGreatDoorZTwoPacks20
import Derived.Test.YtmlaajebadfkoaaGreatDoorZTwoPacks27
import Derived.Test.YtmlaajebadfkoaaGreatDoorZTwoPacks33
import Derived.Test.YtmlaajebadfkoaaGreatDoorZTwoPacks3
namespace Go.Proofs.YtmlaajebadfkoaaGreatDoor end Go.Proofs.YtmlaajebadfkoaaGreatDoor open Go.Proofs.YtmlaajebadfkoaaGreatDoor
open Go.Lib (hid)
set_option maxHeartbeats 4000000
set_option maxRecDepth 100000
namespace Go.Proofs.YtmlaajebadfkoaaGreatDoor.Lz
open Go.RowKit Go.Maps Mem Own Canon
open Go.Proofs.YtmlaajebadfkoaaGreatDoor.Toks (Tk)
open Go.Proofs.YtmlaajebadfkoaaGreatDoor.Huff (xeZ igZ wmZ)
theorem mlZb(w:World)(A:Option Addr)(n c:Nat)(ls:List Nat)(hn:ls.length=n)(hN:n<=1000000)(ha:Row w w.heap.size A n 1 (rZ .u8 ls)):
 Calls Tryz.prog 205 #[.slice A n c] w fun e w'=>∃v,e= .returned v/\w'.ownsRow w.heap.size 241 3 v (find ls).length (xeZ (find ls))/\Below w.heap.size w w':=by
 obtain⟨j0,hj0,hy0,hy1,hy2⟩:=info_parts wmZ
 obtain⟨R,hR⟩:∃R,R=find ls:=⟨_,rfl⟩
 have HF0:Hid (ebZ ls 0=R):=hR.symm
 rw[<-hR]
 have HEND:Hid (ebZ ls n= []):=xlZ (by omega)
 have HFM:Hid (∀at_,at_<n->3<=(dbZ ls at_).1->at_+(dbZ ls at_).1<=n/\ebZ ls at_=⟨0,((dbZ ls at_).1:Nat),((dbZ ls at_).2:Nat)⟩ :: ebZ ls (at_+(dbZ ls at_).1)):=fun at_ h h3=>⟨by have:=clZ (l:=ls) (at_:=at_) (by omega);omega,zjZ (by omega) h3⟩
 have HFL:Hid (∀at_,at_<n->¬3<=(dbZ ls at_).1->ebZ ls at_=⟨(ls.getD at_ 0:Nat),0,0⟩ :: ebZ ls (at_+1)):=fun at_ h h3=>ylZ (by omega) h3
 have HA:Hid (∀wx i,Below w.heap.size w wx->i<n->∃b off,A=some ⟨b,off,none⟩/\wx.cell? ⟨b,off+i,none⟩=some (.int .u8 (ls.getD i 0:Nat))/\b<w.heap.size):=fun wx i hb hi=>by
  obtain⟨b,off,rfl,hbl,hc⟩:=ha (by omega)
  have:=(hb.cell (p:=⟨b,_,none⟩) hbl).trans (hc i 0 hi (by omega))
  simp only[rZ,Nat.mul_one,Nat.add_zero]at this
  exact⟨b,off,rfl,this,hbl⟩
 have HAL:Hid (∀p at_ k,IsAlike ls p at_ k->k=alike ls p at_):=fun p at_ k h=>(jaZb h).symm
 have HN:=hid hn
 clear hR hn ha
 go_enter Tryz.func205,Tryz.ntmps205
 go_wp2_with fail
 go_loopw [3,4] (fun u v wr=>∃ (at_ k:Nat) (ts:List Tk),v= .int .i64 at_/\at_<=n/\k<=at_/\Hid (ts.length=k)/\Hid (ts++ebZ ls at_=R)/\Hid (wr.ownsRow w.heap.size 241 3 u k (xeZ ts))/\Hid (Below w.heap.size w wr)) (fun _ v _=>n-(intOf v).toNat)
 case atStart=>exact⟨0,0,[],rfl,by omega,by omega,rfl,HF0.out,World.ownsRow_nil _ _ _ _,Below.refl _ _⟩
 case round=>
  obtain⟨w0,rfl⟩:∃w0:World,w0=wr:=⟨_,rfl⟩
  obtain⟨at_,k,ts,rfl,hat,hk,HL,HR,HO,HB⟩:=hrel
  clear HF0
  obtain⟨AT,kT,rfl⟩:=bZ HO.out
  by_cases hlt:at_<n
  ·have g1:decide ((at_:Int)<(n:Int))=true:=by simp;omega
   have g1':decide (at_<n)=true:=by simp;omega
   go_wp2_with fail
   go_loopw [5,6,7] (fun a b d wr=>∃ (n1 n2 D:Nat),a= .int .i64 n1/\b= .int .i64 n2/\d= .int .i64 (D+1:Nat)/\D<=min 4095 at_/\n1<=257/\Hid (ubZ ls at_ D=(n1,n2))/\Hid (wr.ownsRow w.heap.size 241 3 (.slice AT k kT) k (xeZ ts))/\Hid (Below w.heap.size w wr)) (fun _ _ d _=>5000-(intOf d).toNat)
   case atStart=>exact⟨0,0,0,rfl,rfl,rfl,by omega,by omega,rfl,HO.out,HB.out⟩
   case round=>
    obtain⟨w1,rfl⟩:∃w1:World,w1=wr:=⟨_,rfl⟩
    obtain⟨n1,n2,D,rfl,rfl,rfl,hD,hn1,HBN,HO2,HB2⟩:=hrel
    clear HO HB
    by_cases hd:D+1<=4095/\D+1<=at_
    ·obtain⟨hd1,hd2⟩:=hd
     obtain⟨E,hE⟩:∃E,E=D+1:=⟨_,rfl⟩
     rw[<-hE]at hd1 hd2 ⊢
     have u1:decide ((E:Int)<=4095)=true:=by simp;omega
     have u1':decide (E<=4095)=true:=by simp;omega
     have u2:decide ((E:Int)<=(at_:Int))=true:=by simp;omega
     have u2':decide (E<=at_)=true:=by simp;omega
     have HE:=hid hE
     have hE1:1<=E:=by omega
     clear hE
     go_wp2_with fail
     go_loopw [8] (fun i wr=>∃q:Nat,q<=257/\i= .int .i64 q/\Hid (q=0∨at_+q<=n)/\Hid (∀j,j<q->ls.getD (at_-E+j) 0=ls.getD (at_+j) 0)/\Hid (wr.ownsRow w.heap.size 241 3 (.slice AT k kT) k (xeZ ts))/\Hid (Below w.heap.size w wr)) (fun i _=>257-(intOf i).toNat)
     case atStart=>exact⟨0,by omega,rfl, .inl rfl,fun j hj=>absurd hj (by omega),HO2.out,HB2.out⟩
     case round=>
      obtain⟨q,hq,rfl,HF,HS,HO3,HB3⟩:=hrel
      clear HO2 HB2
      have s3:IntKind.i64.wrap ((E:Int)+1)=((E+1:Nat):Int):=by rw[IntWalk.i64_in _ (by omega)];omega
      obtain⟨i1,hi1⟩:∃i1,i1=at_+q:=⟨_,rfl⟩
      obtain⟨i2,hi2⟩:∃i2,i2=at_-E+q:=⟨_,rfl⟩
      have s1:IntKind.i64.wrap ((at_:Int)+(q:Int))=(i1:Int):=by rw[IntWalk.i64_in _ (by omega)];omega
      have s2:IntKind.i64.wrap ((i1:Int)-(E:Int))=(i2:Int):=by rw[IntWalk.i64_in _ (by omega)];omega
      by_cases h257:q<257
      ·have v1:decide ((q:Int)<257)=true:=by simp;omega
       have v1':decide (q<257)=true:=by simp;omega
       by_cases hi:i1<n
       ·obtain⟨b,off,rfl,e1,hbl⟩:=HA.out wr i1 HB3.out hi
        obtain⟨b',off',hA',e2,_⟩:=HA.out wr i2 HB3.out (by omega)
        injection hA' with hA'
        injection hA' with hA1 hA2
        subst hA1 hA2
        have v2:decide ((i1:Int)<(n:Int))=true:=by simp;omega
        have v2':decide (i1<n)=true:=by simp;omega
        have y2:(0:Int)<=(i1:Int):=by omega
        have y3:(i1:Int)<(n:Int):=by omega
        have y4:(0:Int)<=(i2:Int):=by omega
        have y5:(i2:Int)<(n:Int):=by omega
        by_cases he:ls.getD i2 0=ls.getD i1 0
        ·have HS2:Hid (∀j,j<q+1->ls.getD (at_-E+j) 0=ls.getD (at_+j) 0):=fun j hj=>by
          by_cases ej:j<q
          ·exact HS.out j ej
          ·obtain rfl:j=q:=by omega
           rw[<-hi1,<-hi2];exact he
         have HF2:Hid (q+1=0∨at_+(q+1)<=n):= .inr (by omega)
         rw[he]at e2
         generalize ls.getD i1 0=x at *
         have v3:((x:Int)==(x:Int))=true:=by simp
         clear he HS HF hi1 hi2
         go_wp2_with fail
         go_quiet (fail)
         go_wp2_with fail
         go_roundw
         case measure=>go_light;simp[intOf];omega
         case rel=>go_light;exact⟨q+1,by omega,by go_num,HF2.out,HS2.out,fZ HO3.out (fun _ _=>rfl),below_drewN HB3.out _⟩
        ·have HK:Hid (q=alike ls (at_-E) at_):=HAL.out _ _ q ⟨hq,by have h:=HF.out;rw[HN.out];exact h,HS.out,fun h=>he (by rw[hi1,hi2];exact h.2.2)⟩
         have v3:(((ls.getD i2 0:Nat):Int)==((ls.getD i1 0:Nat):Int))=false:=by
          rw[Bool.eq_false_iff];intro h;rw[beq_iff_eq]at h;exact he (by omega)
         generalize ls.getD i1 0=x at *
         generalize ls.getD i2 0=y at *
         clear he
         have HB4:Hid (ubZ ls at_ E=ifZ ls at_ (n1,n2) E):=by
          have h:ubZ ls at_ (D+1)=ifZ ls at_ (ubZ ls at_ D) (D+1):=rfl
          rw[<-show E=D+1 from HE.out,show ubZ ls at_ D=(n1,n2) from HBN.out]at h
          exact h
         by_cases hk2:n1<q
         ·have v5:decide ((n1:Int)<(q:Int))=true:=by simp;omega
          have v5':decide (n1<q)=true:=by simp;omega
          have HB5:Hid (ubZ ls at_ E=(q,E)):=by
           rw[HB4.out]
           unfold ifZ
           rw[<-show q=alike ls (at_-E) at_ from HK.out]
           exact if_pos hk2
          clear HB4 HK HS HF HBN hi1 hi2
          go_wp2_with fail
          go_quiet (fail)
          go_wp2_with fail
          go_roundw
          case measure=>go_light;simp[intOf];omega
          case rel=>go_light;exact⟨q,E,E,rfl,rfl,by go_num,by omega,hq,HB5.out,fZ HO3.out (fun _ _=>rfl),below_drewN HB3.out _⟩
         ·have v5:decide ((n1:Int)<(q:Int))=false:=by simp;omega
          have v5':decide (n1<q)=false:=by simp;omega
          have HB5:Hid (ubZ ls at_ E=(n1,n2)):=by
           rw[HB4.out]
           unfold ifZ
           rw[<-show q=alike ls (at_-E) at_ from HK.out]
           exact if_neg hk2
          clear HB4 HK HS HF HBN hi1 hi2
          go_wp2_with fail
          go_quiet (fail)
          go_wp2_with fail
          go_roundw
          case measure=>go_light;simp[intOf];omega
          case rel=>go_light;exact⟨n1,n2,E,rfl,rfl,by go_num,by omega,hn1,HB5.out,fZ HO3.out (fun _ _=>rfl),below_drewN HB3.out _⟩
       ·have HK:Hid (q=alike ls (at_-E) at_):=HAL.out _ _ q ⟨hq,by have h:=HF.out;rw[HN.out];exact h,HS.out,fun h=>hi (by have:=h.2.1;rw[HN.out]at this;omega)⟩
        have v2:decide ((i1:Int)<(n:Int))=false:=by simp;omega
        have v2':decide (i1<n)=false:=by simp;omega
        clear hi
        have HB4:Hid (ubZ ls at_ E=ifZ ls at_ (n1,n2) E):=by
         have h:ubZ ls at_ (D+1)=ifZ ls at_ (ubZ ls at_ D) (D+1):=rfl
         rw[<-show E=D+1 from HE.out,show ubZ ls at_ D=(n1,n2) from HBN.out]at h
         exact h
        by_cases hk2:n1<q
        ·have v5:decide ((n1:Int)<(q:Int))=true:=by simp;omega
         have v5':decide (n1<q)=true:=by simp;omega
         have HB5:Hid (ubZ ls at_ E=(q,E)):=by
          rw[HB4.out]
          unfold ifZ
          rw[<-show q=alike ls (at_-E) at_ from HK.out]
          exact if_pos hk2
         clear HB4 HK HS HF HBN hi1 hi2
         go_wp2_with fail
         go_quiet (fail)
         go_wp2_with fail
         go_roundw
         case measure=>go_light;simp[intOf];omega
         case rel=>go_light;exact⟨q,E,E,rfl,rfl,by go_num,by omega,hq,HB5.out,fZ HO3.out (fun _ _=>rfl),below_drewN HB3.out _⟩
        ·have v5:decide ((n1:Int)<(q:Int))=false:=by simp;omega
         have v5':decide (n1<q)=false:=by simp;omega
         have HB5:Hid (ubZ ls at_ E=(n1,n2)):=by
          rw[HB4.out]
          unfold ifZ
          rw[<-show q=alike ls (at_-E) at_ from HK.out]
          exact if_neg hk2
         clear HB4 HK HS HF HBN hi1 hi2
         go_wp2_with fail
         go_quiet (fail)
         go_wp2_with fail
         go_roundw
         case measure=>go_light;simp[intOf];omega
         case rel=>go_light;exact⟨n1,n2,E,rfl,rfl,by go_num,by omega,hn1,HB5.out,fZ HO3.out (fun _ _=>rfl),below_drewN HB3.out _⟩
      ·have HK:Hid (q=alike ls (at_-E) at_):=HAL.out _ _ q ⟨hq,by have h:=HF.out;rw[HN.out];exact h,HS.out,fun h=>h257 h.1⟩
       have v1:decide ((q:Int)<257)=false:=by simp;omega
       have v1':decide (q<257)=false:=by simp;omega
       clear h257
       have HB4:Hid (ubZ ls at_ E=ifZ ls at_ (n1,n2) E):=by
        have h:ubZ ls at_ (D+1)=ifZ ls at_ (ubZ ls at_ D) (D+1):=rfl
        rw[<-show E=D+1 from HE.out,show ubZ ls at_ D=(n1,n2) from HBN.out]at h
        exact h
       by_cases hk2:n1<q
       ·have v5:decide ((n1:Int)<(q:Int))=true:=by simp;omega
        have v5':decide (n1<q)=true:=by simp;omega
        have HB5:Hid (ubZ ls at_ E=(q,E)):=by
         rw[HB4.out]
         unfold ifZ
         rw[<-show q=alike ls (at_-E) at_ from HK.out]
         exact if_pos hk2
        clear HB4 HK HS HF HBN hi1 hi2
        go_wp2_with fail
        go_quiet (fail)
        go_wp2_with fail
        go_roundw
        case measure=>go_light;simp[intOf];omega
        case rel=>go_light;exact⟨q,E,E,rfl,rfl,by go_num,by omega,hq,HB5.out,fZ HO3.out (fun _ _=>rfl),below_drewN HB3.out _⟩
       ·have v5:decide ((n1:Int)<(q:Int))=false:=by simp;omega
        have v5':decide (n1<q)=false:=by simp;omega
        have HB5:Hid (ubZ ls at_ E=(n1,n2)):=by
         rw[HB4.out]
         unfold ifZ
         rw[<-show q=alike ls (at_-E) at_ from HK.out]
         exact if_neg hk2
        clear HB4 HK HS HF HBN hi1 hi2
        go_wp2_with fail
        go_quiet (fail)
        go_wp2_with fail
        go_roundw
        case measure=>go_light;simp[intOf];omega
        case rel=>go_light;exact⟨n1,n2,E,rfl,rfl,by go_num,by omega,hn1,HB5.out,fZ HO3.out (fun _ _=>rfl),below_drewN HB3.out _⟩
    ·have HB9:Hid (dbZ ls at_=(n1,n2)):=by
      have h:D=min 4095 at_:=by omega
      unfold dbZ
      rw[<-h]
      exact HBN.out
     have hz1:=HB2.out.size
     clear HBN HAL
     obtain⟨E,hE⟩:∃E,E=D+1:=⟨_,rfl⟩
     rw[<-hE]at hd ⊢
     clear hE hD
     by_cases hd1:E<=4095
     ·have hd3:¬E<=at_:=fun h=>hd ⟨hd1,h⟩
      have u1:decide ((E:Int)<=4095)=true:=by simp;omega
      have u1':decide (E<=4095)=true:=by simp;omega
      have u2:decide ((E:Int)<=(at_:Int))=false:=by simp;omega
      have u2':decide (E<=at_)=false:=by simp;omega
      clear hd hd1 hd3
      by_cases h3:3<=n1
      ·have t1:decide ((3:Int)<=(n1:Int))=true:=by simp;omega
       have t1':decide (3<=n1)=true:=by simp;omega
       obtain⟨f1,f2⟩:=HFM.out at_ hlt (by rw[HB9.out];exact h3)
       rw[HB9.out]at f1 f2
       simp only at f1 f2
       have t2:IntKind.i64.wrap ((at_:Int)+(n1:Int))=((at_+n1:Nat):Int):=by rw[IntWalk.i64_in _ (by omega)];omega
       have HR2:Hid ((ts++ [⟨0,(n1:Nat),(n2:Nat)⟩])++ebZ ls (at_+n1)=R):=by have h:=HR.out;rw[f2]at h;rw[List.append_assoc];exact h
       have HL2:Hid ((ts++ [(⟨0,(n1:Nat),(n2:Nat)⟩:Tk)]).length=k+1):=by rw[List.length_append,HL.out];exact rfl
       obtain⟨at2,ha2⟩:∃at2,at2=at_+n1:=⟨_,rfl⟩
       rw[<-ha2]at t2 HR2
       have hx2:at_<at2/\at2<=n:=by omega
       obtain⟨hx3,hx4⟩:=hx2
       clear f1 f2 ha2 HR
       go_wp2_with(at_builtin;refine hZ rfl (.tmp 58) (.tmp 62) 175 rfl w.heap.size 241 j0 _ 3 24 Tryz.underlying175 hj0 hy0 hy1 hy2 rfl (by decide) _ _ _ (by rfl) (HO2.out.alloc _) _ 1 1 [.int .u8 0, .int .i64 (n1:Nat), .int .i64 (n2:Nat)] (by rfl) (Src.of_blk (g:=w1.heap.size) (Blk.made _ _ _) 1 1 3 rfl) (by intro u hu;simp at hu;rcases hu with rfl|rfl|rfl<;>rfl) (by unfold maxLen;omega) (by omega) (by simp;omega) ?_;intro v4 w4 hown4 hg4 hat4)
       have HO5:Hid (w4.ownsRow w.heap.size 241 3 v4 (k+1) (xeZ (ts++ [⟨0,(n1:Nat),(n2:Nat)⟩]))):=by rw[igZ];exact hown4
       have HB5:Hid (Below w.heap.size w w4):=(aZ HB2.out).grown hg4 (by simp;omega) (fun y hy=>(World.ownsRow.lt HO2.out y hy).1)
       generalize ts++ [(⟨0,(n1:Nat),(n2:Nat)⟩:Tk)]=ts2 at *
       clear hown4 hg4 hat4 HO2 HB2
       go_wp2_with fail
       go_roundw
       case measure=>go_light;simp[intOf];omega
       case rel=>go_light;exact⟨at2,k+1,ts2,rfl,by omega,by omega,HL2.out,HR2.out,HO5.out,HB5.out⟩
      ·have t1:decide ((3:Int)<=(n1:Int))=false:=by simp;omega
       have t1':decide (3<=n1)=false:=by simp;omega
       have f2:=HFL.out at_ hlt (by rw[HB9.out];exact h3)
       obtain⟨b,off,rfl,e1,hbl⟩:=HA.out w1 at_ HB2.out hlt
       have y0:(0:Int)<=(at_:Int):=by omega
       have y1:(at_:Int)<(n:Int):=by omega
       have t2:IntKind.i64.wrap ((at_:Int)+1)=((at_+1:Nat):Int):=by rw[IntWalk.i64_in _ (by omega)];omega
       have HR2:Hid ((ts++ [⟨(ls.getD at_ 0:Nat),0,0⟩])++ebZ ls (at_+1)=R):=by have h:=HR.out;rw[f2]at h;rw[List.append_assoc];exact h
       have HL2:Hid ((ts++ [(⟨(ls.getD at_ 0:Nat),0,0⟩:Tk)]).length=k+1):=by rw[List.length_append,HL.out];exact rfl
       generalize ls.getD at_ 0=x at *
       clear f2 HR
       go_wp2_with(at_builtin;refine hZ rfl (.tmp 67) (.tmp 73) 175 rfl w.heap.size 241 j0 _ 3 24 Tryz.underlying175 hj0 hy0 hy1 hy2 rfl (by decide) _ _ _ (by rfl) (HO2.out.alloc _) _ 1 1 [.int .u8 (x:Nat), .int .i64 0, .int .i64 0] (by rfl) (Src.of_blk (g:=w1.heap.size) (Blk.made _ _ _) 1 1 3 rfl) (by intro u hu;simp at hu;rcases hu with rfl|rfl|rfl<;>rfl) (by unfold maxLen;omega) (by omega) (by simp;omega) ?_;intro v4 w4 hown4 hg4 hat4)
       have HO5:Hid (w4.ownsRow w.heap.size 241 3 v4 (k+1) (xeZ (ts++ [⟨(x:Nat),0,0⟩]))):=by rw[igZ];exact hown4
       have HB5:Hid (Below w.heap.size w w4):=(aZ HB2.out).grown hg4 (by simp;omega) (fun y hy=>(World.ownsRow.lt HO2.out y hy).1)
       generalize ts++ [(⟨(x:Nat),0,0⟩:Tk)]=ts2 at *
       clear hown4 hg4 hat4 HO2 HB2
       go_wp2_with fail
       go_roundw
       case measure=>go_light;simp[intOf];omega
       case rel=>go_light;exact⟨at_+1,k+1,ts2,rfl,by omega,by omega,HL2.out,HR2.out,HO5.out,HB5.out⟩
     ·have u1:decide ((E:Int)<=4095)=false:=by simp;omega
      have u1':decide (E<=4095)=false:=by simp;omega
      clear hd hd1
      by_cases h3:3<=n1
      ·have t1:decide ((3:Int)<=(n1:Int))=true:=by simp;omega
       have t1':decide (3<=n1)=true:=by simp;omega
       obtain⟨f1,f2⟩:=HFM.out at_ hlt (by rw[HB9.out];exact h3)
       rw[HB9.out]at f1 f2
       simp only at f1 f2
       have t2:IntKind.i64.wrap ((at_:Int)+(n1:Int))=((at_+n1:Nat):Int):=by rw[IntWalk.i64_in _ (by omega)];omega
       have HR2:Hid ((ts++ [⟨0,(n1:Nat),(n2:Nat)⟩])++ebZ ls (at_+n1)=R):=by have h:=HR.out;rw[f2]at h;rw[List.append_assoc];exact h
       have HL2:Hid ((ts++ [(⟨0,(n1:Nat),(n2:Nat)⟩:Tk)]).length=k+1):=by rw[List.length_append,HL.out];exact rfl
       obtain⟨at2,ha2⟩:∃at2,at2=at_+n1:=⟨_,rfl⟩
       rw[<-ha2]at t2 HR2
       have hx2:at_<at2/\at2<=n:=by omega
       obtain⟨hx3,hx4⟩:=hx2
       clear f1 f2 ha2 HR
       go_wp2_with(at_builtin;refine hZ rfl (.tmp 58) (.tmp 62) 175 rfl w.heap.size 241 j0 _ 3 24 Tryz.underlying175 hj0 hy0 hy1 hy2 rfl (by decide) _ _ _ (by rfl) (HO2.out.alloc _) _ 1 1 [.int .u8 0, .int .i64 (n1:Nat), .int .i64 (n2:Nat)] (by rfl) (Src.of_blk (g:=w1.heap.size) (Blk.made _ _ _) 1 1 3 rfl) (by intro u hu;simp at hu;rcases hu with rfl|rfl|rfl<;>rfl) (by unfold maxLen;omega) (by omega) (by simp;omega) ?_;intro v4 w4 hown4 hg4 hat4)
       have HO5:Hid (w4.ownsRow w.heap.size 241 3 v4 (k+1) (xeZ (ts++ [⟨0,(n1:Nat),(n2:Nat)⟩]))):=by rw[igZ];exact hown4
       have HB5:Hid (Below w.heap.size w w4):=(aZ HB2.out).grown hg4 (by simp;omega) (fun y hy=>(World.ownsRow.lt HO2.out y hy).1)
       generalize ts++ [(⟨0,(n1:Nat),(n2:Nat)⟩:Tk)]=ts2 at *
       clear hown4 hg4 hat4 HO2 HB2
       go_wp2_with fail
       go_roundw
       case measure=>go_light;simp[intOf];omega
       case rel=>go_light;exact⟨at2,k+1,ts2,rfl,by omega,by omega,HL2.out,HR2.out,HO5.out,HB5.out⟩
      ·have t1:decide ((3:Int)<=(n1:Int))=false:=by simp;omega
       have t1':decide (3<=n1)=false:=by simp;omega
       have f2:=HFL.out at_ hlt (by rw[HB9.out];exact h3)
       obtain⟨b,off,rfl,e1,hbl⟩:=HA.out w1 at_ HB2.out hlt
       have y0:(0:Int)<=(at_:Int):=by omega
       have y1:(at_:Int)<(n:Int):=by omega
       have t2:IntKind.i64.wrap ((at_:Int)+1)=((at_+1:Nat):Int):=by rw[IntWalk.i64_in _ (by omega)];omega
       have HR2:Hid ((ts++ [⟨(ls.getD at_ 0:Nat),0,0⟩])++ebZ ls (at_+1)=R):=by have h:=HR.out;rw[f2]at h;rw[List.append_assoc];exact h
       have HL2:Hid ((ts++ [(⟨(ls.getD at_ 0:Nat),0,0⟩:Tk)]).length=k+1):=by rw[List.length_append,HL.out];exact rfl
       generalize ls.getD at_ 0=x at *
       clear f2 HR
       go_wp2_with(at_builtin;refine hZ rfl (.tmp 67) (.tmp 73) 175 rfl w.heap.size 241 j0 _ 3 24 Tryz.underlying175 hj0 hy0 hy1 hy2 rfl (by decide) _ _ _ (by rfl) (HO2.out.alloc _) _ 1 1 [.int .u8 (x:Nat), .int .i64 0, .int .i64 0] (by rfl) (Src.of_blk (g:=w1.heap.size) (Blk.made _ _ _) 1 1 3 rfl) (by intro u hu;simp at hu;rcases hu with rfl|rfl|rfl<;>rfl) (by unfold maxLen;omega) (by omega) (by simp;omega) ?_;intro v4 w4 hown4 hg4 hat4)
       have HO5:Hid (w4.ownsRow w.heap.size 241 3 v4 (k+1) (xeZ (ts++ [⟨(x:Nat),0,0⟩]))):=by rw[igZ];exact hown4
       have HB5:Hid (Below w.heap.size w w4):=(aZ HB2.out).grown hg4 (by simp;omega) (fun y hy=>(World.ownsRow.lt HO2.out y hy).1)
       generalize ts++ [(⟨(x:Nat),0,0⟩:Tk)]=ts2 at *
       clear hown4 hg4 hat4 HO2 HB2
       go_wp2_with fail
       go_roundw
       case measure=>go_light;simp[intOf];omega
       case rel=>go_light;exact⟨at_+1,k+1,ts2,rfl,by omega,by omega,HL2.out,HR2.out,HO5.out,HB5.out⟩
  ·obtain rfl:at_=n:=by omega
   have hres:Hid (R=ts):=by have h:=HR.out;rw[HEND.out,List.append_nil]at h;exact h.symm
   have g1:decide ((at_:Int)<(at_:Int))=false:=by simp
   have g1':decide (at_<at_)=false:=by simp
   clear HFM HFL HA HAL HEND HR
   go_wp2_with fail
   go_ret
   exact⟨_,rfl,by rw[hres.out,HL.out];exact HO.out,HB.out⟩
end Go.Proofs.YtmlaajebadfkoaaGreatDoor.Lz
namespace Go.Proofs.YtmlaajebadfkoaaGreatDoor.Block
open Go.RowKit Mem Own Canon
open NumPut Crc
open Go.Proofs.YtmlaajebadfkoaaGreatDoor.Huff (weZ dtZ)
theorem own_one{w:World}{base:Nat}{x:Value}(hb:base<=w.heap.size):(w.alloc (.cells #[x] 5)).ownsRow base 5 1 (.slice (some ⟨w.heap.size,0,none⟩) 1 1) 1 [x]:=
 ⟨rfl, .inr ⟨w.heap.size,1,#[x],rfl,hb,heap_alloc_new w _,Nat.le_refl _,by unfold maxLen;omega,rfl,rfl⟩⟩
theorem gkZ{w:World}{base n c:Nat}{A:Option Addr}{xs:List Value}(h:w.ownsRow base 5 1 (.slice A n c) n xs):Src w A n c 1 xs:=by
 obtain⟨h0,h1⟩:=h
 refine⟨h0,?_⟩
 rcases h1 with ⟨hv,_⟩|⟨g,cap,cur,hv,_,hh,_,_,_,htake⟩
 ·injection hv with e1 e2 e3
  exact .inl ⟨e1,e2,e3⟩
 ·injection hv with e1 e2 e3
  refine .inr ⟨⟨g,0,none⟩,e1,fun j u hu=> ?_⟩
  rw[add_none,Nat.zero_add,Blk.cell hh]
  rw[<-htake,List.getElem?_take]at hu
  split at hu
  ·simpa using hu
  ·cases hu
theorem src_part{w:World}{p:Part}{k:Nat}(h:p.Ok w)(hk:p.ls.length=k):Src w p.A k p.c 1 (dZ .u8 p.ls):=by
 subst hk
 exact ekZ h.row rfl h.nil
theorem nlZb{bs:List Nat}(h8:∀x∈bs,x<=255)(hN:bs.length<=32768):sqE bs=0:=by
 have h:=Lz.find_ok h8 0
 unfold sqE TW.rfZ
 have hl:(Lz.find bs).length<=bs.length:=h.2
 rw[if_neg (by omega),if_pos]
 unfold Toks.jcZ
 exact List.all_eq_true.2 fun t ht=>(h.1 t ht).2
theorem prZb{bs:List Nat}(h8:∀x∈bs,x<=255)(hN:bs.length<=32768):sqz bs=decide ((sqO bs).length<bs.length):=by
 unfold sqz
 rw[nlZb h8 hN]
 rfl
theorem olZb(bs:List Nat)(plain:Bool):(teZ bs plain).length=1+(iZ bs.length).length+(iZ (kdZ bs plain).length).length+(kdZ bs plain).length:=by
 unfold teZ ilZ
 simp
 omega
theorem lqZb{bs:List Nat}(plain:Bool)(h8:∀x∈bs,x<=255):∀x∈teZ bs plain,x<=255:=by
 intro x hx
 unfold teZ ilZ at hx
 simp only[List.mem_append,List.mem_singleton]at hx
 rcases hx with ((rfl|hx)|hx)|hx
 ·unfold dkZ;split<;>omega
 ·exact mbZ _ x hx
 ·exact mbZ _ x hx
 ·unfold kdZ at hx
  split at hx
  ·exact spZ _ x hx
  ·exact h8 x hx
theorem fwZ(w:World)(A:Option Addr)(n c:Nat)(bs:List Nat)(plain:Bool)(hn:bs.length=n)(hN:n<=16000)(hnil:A=none->n=0/\c=0)(h8:∀x∈bs,x<=255)(ht:TabAt w)(ha:Row w w.heap.size A n 1 (rZ .u8 bs)):
 Calls Tryz.prog 148 #[.slice A n c, .bool plain] w (mkZ bs plain w):=by
 obtain⟨j0,hj0,hy0,hy1,hy2⟩:=info_parts hbZ
 have D1:=hid (Lz.mlZb w A n c bs hn (by omega) ha)
 have hfo:=Lz.find_ok h8 0
 have hfl:(Lz.find bs).length<=n:=by have:=hfo.2;rw[<-hn];exact this
 have D2:Hid (∀wx A c,wx.ownsRow w.heap.size 241 3 (.slice A (Lz.find bs).length c) (Lz.find bs).length (Huff.xeZ (Lz.find bs))->Calls Tryz.prog 204 #[.slice A (Lz.find bs).length c] wx (weZ (Lz.find bs) wx)):=fun wx A c h=>dtZ wx A _ c _ rfl (by omega) (fun t ht=>(hfo.1 t ht).1) (xaZb h)
 have hE:TW.rfZ (Lz.find bs)=0:=nlZb h8 (by omega)
 have hz0:sqz bs=decide ((sqO bs).length<bs.length):=prZb h8 (by omega)
 have hbl:(kdZ bs plain).length<=bs.length:=by
  unfold kdZ
  split
  ·rename_i h
   rw[Bool.and_eq_true,hz0]at h
   have:=of_decide_eq_true h.2
   omega
  ·omega
 have D3:Hid (∀wx,Calls Tryz.prog 78 #[.int .u64 (n:Nat)] wx fun e w'=>∃v,e= .returned v/\w'.ownsRow wx.heap.size 5 1 v (iZ n).length (dZ .u8 (iZ n))/\Below wx.heap.size wx w'):=fun wx=>ktZ wx n (by omega)
 have D4:Hid (∀wx,Calls Tryz.prog 78 #[.int .u64 ((kdZ bs plain).length:Nat)] wx fun e w'=>∃v,e= .returned v/\w'.ownsRow wx.heap.size 5 1 v (iZ (kdZ bs plain).length).length (dZ .u8 (iZ (kdZ bs plain).length))/\Below wx.heap.size wx w'):=fun wx=>ktZ wx _ (by omega)
 have hx1:(iZ n).length<=2:=ohZ (by omega)
 have hx2:(iZ (kdZ bs plain).length).length<=2:=ohZ (by omega)
 have hF8:=lqZb plain h8
 have hFl:=olZb bs plain
 have hFR:dZ .u8 [dkZ bs plain]++dZ .u8 (iZ n)++dZ .u8 (iZ (kdZ bs plain).length)++dZ .u8 (kdZ bs plain)=dZ .u8 (teZ bs plain):=by
  unfold teZ ilZ
  rw[hn]
  simp[dZ]
 have g0:decide ((32768:Int)<(n:Int))=false:=by simp;omega
 have g0':decide (32768<n)=false:=by simp;omega
 have u1:IntKind.u64.wrap (n:Int)=(n:Int):=by rw[wrap_u64];omega
 have HT0:=hid ht
 have HK0:Hid (Part.Ok (⟨A,c,bs⟩:Part) w):=⟨by rw[hn];exact ha,by rw[hn];exact hnil⟩
 have HW:Hid (tbZ bs plain=teZ bs plain++zeZ (mfZ (teZ bs plain))):=rfl
 have hG:(teZ bs plain++zeZ (mfZ (teZ bs plain))).length=(teZ bs plain).length+4:=by rw[List.length_append];rfl
 unfold mkZ
 rw[HW.out]
 have hOs:sqO bs=TW.gfZ (Lz.find bs):=rfl
 unfold weZ at D2
 rw[hE,<-hOs]at D2
 rw[hn]at hFl hz0 hbl
 obtain⟨F,hF⟩:∃F,F=teZ bs plain:=⟨_,rfl⟩
 rw[<-hF]at hF8 hFl hFR hG ⊢
 obtain⟨L,hL⟩:∃L,L=kdZ bs plain:=⟨_,rfl⟩
 rw[<-hL]at hFl hFR D4 hx2 hbl
 obtain⟨k,hk⟩:∃k,k=L.length:=⟨_,rfl⟩
 rw[<-hk]at hFl hFR D4 hx2 hbl
 generalize iZ n=X1 at *
 generalize iZ k=X2 at *
 obtain⟨f,hf⟩:∃f,f=F.length:=⟨_,rfl⟩
 rw[<-hf]at hFl hG
 obtain⟨x1,hx1e⟩:∃x1,x1=X1.length:=⟨_,rfl⟩
 obtain⟨x2,hx2e⟩:∃x2,x2=X2.length:=⟨_,rfl⟩
 rw[<-hx1e]at hx1 hFl D3
 rw[<-hx2e]at hx2 hFl D4
 have u2:IntKind.u64.wrap (k:Int)=(k:Int):=by rw[wrap_u64];omega
 have HFL:Hid (F.length=f):=hf.symm
 have HF8:=hid hF8
 have HGL:=hid hG
 have hfk:f<=100000:=by omega
 generalize Lz.find bs=ts at *
 cases plain with
 |true=>
  have eL:L=bs:=hL
  have eW:dkZ bs true=0:=rfl
  rw[eW,eL]at hFR
  have HFR:Hid (([.int .u8 (0:Nat)]:List Value)++dZ .u8 X1++dZ .u8 X2++dZ .u8 bs=dZ .u8 F/\1+x1+x2+k=f):=⟨hFR,hFl.symm⟩
  have hkn:k=n:=by rw[hk,eL];exact hn
  have HKN:=hid hn
  subst hkn
  clear D1 D2 hE hz0 hbl hF8 hFR hG hF hL hk hf hx1e hx2e eL eW hFl hfo hfl ha hnil h8 ht hn HW hOs
  go_enter Tryz.func148,Tryz.ntmps148
  have P4:Hid (Part.Ok (⟨A,c,bs⟩:Part) w):=HK0.out
  have HBQ:Hid (Below w.heap.size w w):=Below.refl _ _
  have HTQ:Hid (TabAt w):=HT0.out.step HBQ.out
  clear HT0
  go_wp2_with fail
  refine(D3.out _).mono ?_
  rintro e w2 ⟨v2,rfl,ho2,hb2⟩
  obtain⟨A3,c3,rfl⟩:=bZ ho2
  have HO1:Hid (w2.ownsRow w.heap.size 5 1 (.slice (some ⟨w.heap.size,0,none⟩) 1 1) 1 [.int .u8 (0:Nat)]):=fZ (own_one (w:=w) (x:= .int .u8 (0:Nat)) (Nat.le_refl _)) (fun y hy=>hb2.block y (World.ownsRow.lt (own_one (w:=w) (x:= .int .u8 (0:Nat)) (Nat.le_refl _)) y hy).2)
  have HS2:Hid (Src w2 A3 x1 c3 1 (dZ .u8 X1)):=gkZ ho2
  have HB2:Hid (Below w.heap.size w w2):=cZ hb2 (aZ (Below.refl _ _))
  have hz2:=HB2.out.size
  clear ho2 hb2
  go_wp2_with(at_builtin;refine hZ rfl (.tmp 31) (.tmp 35) 29 rfl w.heap.size 5 j0 _ 1 1 Tryz.underlying29 hj0 hy0 hy1 hy2 rfl (by decide) _ _ _ (by rfl) HO1.out _ _ _ _ (by rfl) HS2.out (qZ _ _) (by unfold maxLen;omega) (by omega) hz2 ?_;intro v4 w4 hown4 hg4 hat4)
  have HB4:Hid (Below w.heap.size w w4):=HB2.out.grown hg4 hz2 (fun y hy=>(World.ownsRow.lt HO1.out y hy).1)
  have HO4:Hid (w4.ownsRow w.heap.size 5 1 v4 (1+x1) ([.int .u8 (0:Nat)]++dZ .u8 X1)):=hown4
  clear hown4 hg4 hat4 HO1 HS2 HB2 hz2
  refine(D4.out _).mono ?_
  rintro e w5 ⟨v5,rfl,ho5,hb5⟩
  obtain⟨A5,c5,rfl⟩:=bZ ho5
  have HO5:Hid (w5.ownsRow w.heap.size 5 1 v4 (1+x1) ([.int .u8 (0:Nat)]++dZ .u8 X1)):=fZ HO4.out (fun y hy=>hb5.block y (World.ownsRow.lt HO4.out y hy).2)
  have HS5:Hid (Src w5 A5 x2 c5 1 (dZ .u8 X2)):=gkZ ho5
  have HB5:Hid (Below w.heap.size w w5):=cZ hb5 HB4.out
  have hz5:=HB5.out.size
  clear ho5 hb5 HO4 HB4
  go_wp2_with(first|(at_builtin;refine hZ rfl (.tmp 37) (.tmp 41) 29 rfl w.heap.size 5 j0 _ 1 1 Tryz.underlying29 hj0 hy0 hy1 hy2 rfl (by decide) _ _ _ (by rfl) HO5.out _ _ _ _ (by rfl) HS5.out (qZ _ _) (by unfold maxLen;omega) (by omega) hz5 ?_;intro v6 w6 hown6 hg6 hat6;have HB6:Hid (Below w.heap.size w w6):=HB5.out.grown hg6 hz5 (fun y hy=>(World.ownsRow.lt HO5.out y hy).1);have HO6:Hid (w6.ownsRow w.heap.size 5 1 v6 (1+x1+x2) ([.int .u8 (0:Nat)]++dZ .u8 X1++dZ .u8 X2)):=hown6;have HS6:Hid (Src w6 A k c 1 (dZ .u8 bs)):=src_part (P4.out.step HB6.out) HKN.out;have hz6:=HB6.out.size;clear hown6 hg6 hat6 HO5 HS5 HB5 hz5)|(at_builtin;refine hZ rfl (.tmp 43) (.tmp 44) 29 rfl w.heap.size 5 j0 _ 1 1 Tryz.underlying29 hj0 hy0 hy1 hy2 rfl (by decide) _ _ _ (by rfl) HO6.out _ _ _ _ (by rfl) HS6.out (qZ _ _) (by unfold maxLen;omega) (by omega) hz6 ?_;intro v7 w7 hown7 hg7 hat7;have HB7:Hid (Below w.heap.size w w7):=HB6.out.grown hg7 hz6 (fun y hy=>(World.ownsRow.lt HO6.out y hy).1);have HO7:Hid (w7.ownsRow w.heap.size 5 1 v7 f (dZ .u8 F)):=by{have h:=hown7;rw[<-HFR.out.1];have e:=HFR.out.2;rw[<-e];exact h};obtain⟨A7,c7,rfl⟩:=bZ HO7.out;clear hown7 hg7 hat7 HO6 HS6 HB6 hz6))
  have P7:Hid (Part.Ok (⟨A7,c7,F⟩:Part) w7):=lZ HO7.out HFL.out
  refine(rput_any w7 A7 f c7 F HFL.out (by omega) (by have h:=P7.out.nil;rw[HFL.out]at h;exact h) HF8.out (by have h:=P7.out.row;rw[HFL.out]at h;exact h)).mono ?_
  rintro e w8 ⟨v8,rfl,ho8,hb8⟩
  have HO8:=hid (nZ ho8 (Nat.le_trans HBQ.out.size HB7.out.size))
  have HB8:=hid (cZ (cZ hb8 HB7.out) HBQ.out)
  clear ho8 hb8 HB7 HO7 P7 P4
  go_wp2_with fail
  go_ret2
  refine⟨_,rfl,?_,HB8.out⟩
  have h:=HO8.out
  rw[HGL.out]
  rw[HFL.out]at h
  exact h
 |false=>
  cases hq:sqz bs with
  |false=>
   have eL:L=bs:=by rw[hL];unfold kdZ;rw[hq];rfl
   have eW:dkZ bs false=0:=by unfold dkZ;rw[hq];rfl
   rw[eW,eL]at hFR
   have HFR:Hid (([.int .u8 (0:Nat)]:List Value)++dZ .u8 X1++dZ .u8 X2++dZ .u8 bs=dZ .u8 F/\1+x1+x2+k=f):=⟨hFR,hFl.symm⟩
   have hkn:k=n:=by rw[hk,eL];exact hn
   have HKN:=hid hn
   subst hkn
   rw[hq]at hz0
   generalize sqO bs=O at *
   have g2':decide (O.length<k)=false:=hz0.symm
   have g2:decide ((O.length:Int)<(k:Int))=false:=by have:=g2';simp at this ⊢;omega
   clear hE hz0 hbl hF8 hFR hG hF hL hk hf hx1e hx2e eL eW hFl hfo hfl ha hnil h8 ht hn hq HW hOs
   go_enter Tryz.func148,Tryz.ntmps148
   go_wp2_with fail
   refine D1.out.mono ?_
   rintro e wa ⟨va,rfl,hoa,hba⟩
   obtain⟨Aa,ca,rfl⟩:=bZ hoa
   have DA:=hid (D2.out wa Aa ca hoa)
   have HBA:=hid hba
   clear D1 D2 hoa hba
   generalize List.length ts=m at *
   go_wp2_with fail
   refine DA.out.mono ?_
   rintro e wb ⟨vb,rfl,hob,hbb⟩
   obtain⟨Ab,cb,rfl⟩:=bZ hob
   have HBB:Hid (Below w.heap.size w wb):=cZ hbb HBA.out
   clear DA HBA hob hbb
   have P4:Hid (Part.Ok (⟨A,c,bs⟩:Part) wb):=HK0.out.step HBB.out
   have HBQ:Hid (Below w.heap.size w wb):=HBB.out
   have HTQ:Hid (TabAt wb):=HT0.out.step HBQ.out
   clear HT0
   go_wp2_with fail
   refine(D3.out _).mono ?_
   rintro e w2 ⟨v2,rfl,ho2,hb2⟩
   obtain⟨A3,c3,rfl⟩:=bZ ho2
   have HO1:Hid (w2.ownsRow wb.heap.size 5 1 (.slice (some ⟨wb.heap.size,0,none⟩) 1 1) 1 [.int .u8 (0:Nat)]):=fZ (own_one (w:=wb) (x:= .int .u8 (0:Nat)) (Nat.le_refl _)) (fun y hy=>hb2.block y (World.ownsRow.lt (own_one (w:=wb) (x:= .int .u8 (0:Nat)) (Nat.le_refl _)) y hy).2)
   have HS2:Hid (Src w2 A3 x1 c3 1 (dZ .u8 X1)):=gkZ ho2
   have HB2:Hid (Below wb.heap.size wb w2):=cZ hb2 (aZ (Below.refl _ _))
   have hz2:=HB2.out.size
   clear ho2 hb2
   go_wp2_with(at_builtin;refine hZ rfl (.tmp 31) (.tmp 35) 29 rfl wb.heap.size 5 j0 _ 1 1 Tryz.underlying29 hj0 hy0 hy1 hy2 rfl (by decide) _ _ _ (by rfl) HO1.out _ _ _ _ (by rfl) HS2.out (qZ _ _) (by unfold maxLen;omega) (by omega) hz2 ?_;intro v4 w4 hown4 hg4 hat4)
   have HB4:Hid (Below wb.heap.size wb w4):=HB2.out.grown hg4 hz2 (fun y hy=>(World.ownsRow.lt HO1.out y hy).1)
   have HO4:Hid (w4.ownsRow wb.heap.size 5 1 v4 (1+x1) ([.int .u8 (0:Nat)]++dZ .u8 X1)):=hown4
   clear hown4 hg4 hat4 HO1 HS2 HB2 hz2
   refine(D4.out _).mono ?_
   rintro e w5 ⟨v5,rfl,ho5,hb5⟩
   obtain⟨A5,c5,rfl⟩:=bZ ho5
   have HO5:Hid (w5.ownsRow wb.heap.size 5 1 v4 (1+x1) ([.int .u8 (0:Nat)]++dZ .u8 X1)):=fZ HO4.out (fun y hy=>hb5.block y (World.ownsRow.lt HO4.out y hy).2)
   have HS5:Hid (Src w5 A5 x2 c5 1 (dZ .u8 X2)):=gkZ ho5
   have HB5:Hid (Below wb.heap.size wb w5):=cZ hb5 HB4.out
   have hz5:=HB5.out.size
   clear ho5 hb5 HO4 HB4
   go_wp2_with(first|(at_builtin;refine hZ rfl (.tmp 37) (.tmp 41) 29 rfl wb.heap.size 5 j0 _ 1 1 Tryz.underlying29 hj0 hy0 hy1 hy2 rfl (by decide) _ _ _ (by rfl) HO5.out _ _ _ _ (by rfl) HS5.out (qZ _ _) (by unfold maxLen;omega) (by omega) hz5 ?_;intro v6 w6 hown6 hg6 hat6;have HB6:Hid (Below wb.heap.size wb w6):=HB5.out.grown hg6 hz5 (fun y hy=>(World.ownsRow.lt HO5.out y hy).1);have HO6:Hid (w6.ownsRow wb.heap.size 5 1 v6 (1+x1+x2) ([.int .u8 (0:Nat)]++dZ .u8 X1++dZ .u8 X2)):=hown6;have HS6:Hid (Src w6 A k c 1 (dZ .u8 bs)):=src_part (P4.out.step HB6.out) HKN.out;have hz6:=HB6.out.size;clear hown6 hg6 hat6 HO5 HS5 HB5 hz5)|(at_builtin;refine hZ rfl (.tmp 43) (.tmp 44) 29 rfl wb.heap.size 5 j0 _ 1 1 Tryz.underlying29 hj0 hy0 hy1 hy2 rfl (by decide) _ _ _ (by rfl) HO6.out _ _ _ _ (by rfl) HS6.out (qZ _ _) (by unfold maxLen;omega) (by omega) hz6 ?_;intro v7 w7 hown7 hg7 hat7;have HB7:Hid (Below wb.heap.size wb w7):=HB6.out.grown hg7 hz6 (fun y hy=>(World.ownsRow.lt HO6.out y hy).1);have HO7:Hid (w7.ownsRow wb.heap.size 5 1 v7 f (dZ .u8 F)):=by{have h:=hown7;rw[<-HFR.out.1];have e:=HFR.out.2;rw[<-e];exact h};obtain⟨A7,c7,rfl⟩:=bZ HO7.out;clear hown7 hg7 hat7 HO6 HS6 HB6 hz6))
   have P7:Hid (Part.Ok (⟨A7,c7,F⟩:Part) w7):=lZ HO7.out HFL.out
   refine(rput_any w7 A7 f c7 F HFL.out (by omega) (by have h:=P7.out.nil;rw[HFL.out]at h;exact h) HF8.out (by have h:=P7.out.row;rw[HFL.out]at h;exact h)).mono ?_
   rintro e w8 ⟨v8,rfl,ho8,hb8⟩
   have HO8:=hid (nZ ho8 (Nat.le_trans HBQ.out.size HB7.out.size))
   have HB8:=hid (cZ (cZ hb8 HB7.out) HBQ.out)
   clear ho8 hb8 HB7 HO7 P7 P4
   go_wp2_with fail
   go_ret2
   refine⟨_,rfl,?_,HB8.out⟩
   have h:=HO8.out
   rw[HGL.out]
   rw[HFL.out]at h
   exact h
  |true=>
   have eL:L=sqO bs:=by rw[hL];unfold kdZ;rw[hq];rfl
   have eW:dkZ bs false=1:=by unfold dkZ;rw[hq];rfl
   rw[eW,eL]at hFR
   rw[eL]at hk
   rw[hq]at hz0
   generalize sqO bs=O at *
   have HFR:Hid (([.int .u8 (1:Nat)]:List Value)++dZ .u8 X1++dZ .u8 X2++dZ .u8 O=dZ .u8 F/\1+x1+x2+k=f):=⟨hFR,hFl.symm⟩
   have g2':decide (O.length<n)=true:=hz0.symm
   have HKN:Hid (O.length=k):=hk.symm
   rw[<-hk]at g2' D2
   have hkb:k<=16000:=by omega
   have g2:decide ((k:Int)<(n:Int))=true:=by have:=g2';simp at this ⊢;omega
   clear hE hz0 hbl hF8 hFR hG hF hL hk hf hx1e hx2e eL eW hFl hfo hfl ha hnil h8 ht hn hq HW hOs
   go_enter Tryz.func148,Tryz.ntmps148
   go_wp2_with fail
   refine D1.out.mono ?_
   rintro e wa ⟨va,rfl,hoa,hba⟩
   obtain⟨Aa,ca,rfl⟩:=bZ hoa
   have DA:=hid (D2.out wa Aa ca hoa)
   have HBA:=hid hba
   clear D1 D2 hoa hba
   generalize List.length ts=m at *
   go_wp2_with fail
   refine DA.out.mono ?_
   rintro e wb ⟨vb,rfl,hob,hbb⟩
   obtain⟨Ab,cb,rfl⟩:=bZ hob
   have HBB:Hid (Below w.heap.size w wb):=cZ hbb HBA.out
   have HPB:Hid (Part.Ok (⟨Ab,cb,O⟩:Part) wb):=lZ hob HKN.out
   clear DA HBA hob hbb
   have P4:Hid (Part.Ok (⟨Ab,cb,O⟩:Part) wb):=HPB.out
   have HBQ:Hid (Below w.heap.size w wb):=HBB.out
   have HTQ:Hid (TabAt wb):=HT0.out.step HBQ.out
   clear HT0
   go_wp2_with fail
   refine(D3.out _).mono ?_
   rintro e w2 ⟨v2,rfl,ho2,hb2⟩
   obtain⟨A3,c3,rfl⟩:=bZ ho2
   have HO1:Hid (w2.ownsRow wb.heap.size 5 1 (.slice (some ⟨wb.heap.size,0,none⟩) 1 1) 1 [.int .u8 (1:Nat)]):=fZ (own_one (w:=wb) (x:= .int .u8 (1:Nat)) (Nat.le_refl _)) (fun y hy=>hb2.block y (World.ownsRow.lt (own_one (w:=wb) (x:= .int .u8 (1:Nat)) (Nat.le_refl _)) y hy).2)
   have HS2:Hid (Src w2 A3 x1 c3 1 (dZ .u8 X1)):=gkZ ho2
   have HB2:Hid (Below wb.heap.size wb w2):=cZ hb2 (aZ (Below.refl _ _))
   have hz2:=HB2.out.size
   clear ho2 hb2
   go_wp2_with(at_builtin;refine hZ rfl (.tmp 31) (.tmp 35) 29 rfl wb.heap.size 5 j0 _ 1 1 Tryz.underlying29 hj0 hy0 hy1 hy2 rfl (by decide) _ _ _ (by rfl) HO1.out _ _ _ _ (by rfl) HS2.out (qZ _ _) (by unfold maxLen;omega) (by omega) hz2 ?_;intro v4 w4 hown4 hg4 hat4)
   have HB4:Hid (Below wb.heap.size wb w4):=HB2.out.grown hg4 hz2 (fun y hy=>(World.ownsRow.lt HO1.out y hy).1)
   have HO4:Hid (w4.ownsRow wb.heap.size 5 1 v4 (1+x1) ([.int .u8 (1:Nat)]++dZ .u8 X1)):=hown4
   clear hown4 hg4 hat4 HO1 HS2 HB2 hz2
   refine(D4.out _).mono ?_
   rintro e w5 ⟨v5,rfl,ho5,hb5⟩
   obtain⟨A5,c5,rfl⟩:=bZ ho5
   have HO5:Hid (w5.ownsRow wb.heap.size 5 1 v4 (1+x1) ([.int .u8 (1:Nat)]++dZ .u8 X1)):=fZ HO4.out (fun y hy=>hb5.block y (World.ownsRow.lt HO4.out y hy).2)
   have HS5:Hid (Src w5 A5 x2 c5 1 (dZ .u8 X2)):=gkZ ho5
   have HB5:Hid (Below wb.heap.size wb w5):=cZ hb5 HB4.out
   have hz5:=HB5.out.size
   clear ho5 hb5 HO4 HB4
   go_wp2_with(first|(at_builtin;refine hZ rfl (.tmp 37) (.tmp 41) 29 rfl wb.heap.size 5 j0 _ 1 1 Tryz.underlying29 hj0 hy0 hy1 hy2 rfl (by decide) _ _ _ (by rfl) HO5.out _ _ _ _ (by rfl) HS5.out (qZ _ _) (by unfold maxLen;omega) (by omega) hz5 ?_;intro v6 w6 hown6 hg6 hat6;have HB6:Hid (Below wb.heap.size wb w6):=HB5.out.grown hg6 hz5 (fun y hy=>(World.ownsRow.lt HO5.out y hy).1);have HO6:Hid (w6.ownsRow wb.heap.size 5 1 v6 (1+x1+x2) ([.int .u8 (1:Nat)]++dZ .u8 X1++dZ .u8 X2)):=hown6;have HS6:Hid (Src w6 Ab k cb 1 (dZ .u8 O)):=src_part (P4.out.step HB6.out) HKN.out;have hz6:=HB6.out.size;clear hown6 hg6 hat6 HO5 HS5 HB5 hz5)|(at_builtin;refine hZ rfl (.tmp 43) (.tmp 44) 29 rfl wb.heap.size 5 j0 _ 1 1 Tryz.underlying29 hj0 hy0 hy1 hy2 rfl (by decide) _ _ _ (by rfl) HO6.out _ _ _ _ (by rfl) HS6.out (qZ _ _) (by unfold maxLen;omega) (by omega) hz6 ?_;intro v7 w7 hown7 hg7 hat7;have HB7:Hid (Below wb.heap.size wb w7):=HB6.out.grown hg7 hz6 (fun y hy=>(World.ownsRow.lt HO6.out y hy).1);have HO7:Hid (w7.ownsRow wb.heap.size 5 1 v7 f (dZ .u8 F)):=by{have h:=hown7;rw[<-HFR.out.1];have e:=HFR.out.2;rw[<-e];exact h};obtain⟨A7,c7,rfl⟩:=bZ HO7.out;clear hown7 hg7 hat7 HO6 HS6 HB6 hz6))
   have P7:Hid (Part.Ok (⟨A7,c7,F⟩:Part) w7):=lZ HO7.out HFL.out
   refine(rput_any w7 A7 f c7 F HFL.out (by omega) (by have h:=P7.out.nil;rw[HFL.out]at h;exact h) HF8.out (by have h:=P7.out.row;rw[HFL.out]at h;exact h)).mono ?_
   rintro e w8 ⟨v8,rfl,ho8,hb8⟩
   have HO8:=hid (nZ ho8 (Nat.le_trans HBQ.out.size HB7.out.size))
   have HB8:=hid (cZ (cZ hb8 HB7.out) HBQ.out)
   clear ho8 hb8 HB7 HO7 P7 P4
   go_wp2_with fail
   go_ret2
   refine⟨_,rfl,?_,HB8.out⟩
   have h:=HO8.out
   rw[HGL.out]
   rw[HFL.out]at h
   exact h
end Go.Proofs.YtmlaajebadfkoaaGreatDoor.Block
