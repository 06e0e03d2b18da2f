/- The columns of a log: the walks of nums.Zig, recs.Columns and the refe -/
import Derived.Test.YtbgoibedicbkjaaGreatDoorZTwoOpens19
import Derived.Lib.Zigzag
namespace Go.Proofs.YtbgoibedicbkjaaGreatDoor end Go.Proofs.YtbgoibedicbkjaaGreatDoor open Go.Proofs.YtbgoibedicbkjaaGreatDoor
open Go.Lib (hid)
set_option maxRecDepth 100000
namespace Go.Proofs.YtbgoibedicbkjaaGreatDoor.Recs
open Go.RowKit Mem Own Canon NumPut
open Go.Proofs.YtbgoibedicbkjaaGreatDoor.Block (oZ)
theorem ckZb(w:World)(d:Nat)(hd:d<18446744073709551616):
 Calls Tryz.prog 101 #[.int .u64 d] w fun e w'=>e= .returned (.int .u64 (wlZ d:Nat))/\w'=w:=by
 obtain⟨z,hz⟩:∃z,z=wlZ d:=⟨_,rfl⟩
 rw[<-hz]
 unfold wlZ at hz
 by_cases h:d<9223372036854775808
 ·rw[if_pos h]at hz
  have e:bits .xor .u64 ((d:Int)*2) (-((d:Int) / 9223372036854775808))=(z:Int):=by
   rw[show(d:Int)*2=((2*d:Nat):Int) by omega,show-((d:Int) / 9223372036854775808)=((0:Nat):Int) by omega,bits_xor_u64_nat _ _ (by omega) (by omega),Nat.xor_zero,hz]
  have HE:=hid e
  clear hz e
  go_enter Tryz.func101,Tryz.ntmps101
  go_wp2_with fail
  go_ret
  exact⟨giZ HE.out,rfl⟩
 ·rw[if_neg h]at hz
  have e:bits .xor .u64 (IntKind.u64.wrap ((d:Int)*2)) (IntKind.u64.wrap (-((d:Int) / 9223372036854775808)))=(z:Int):=by
   have e1:IntKind.u64.wrap ((d:Int)*2)=((2*d-18446744073709551616:Nat):Int):=by rw[IntKind.wrap_u64];omega
   have e2:IntKind.u64.wrap (-((d:Int) / 9223372036854775808))=((2 ^ 64-1:Nat):Int):=by rw[IntKind.wrap_u64];omega
   rw[e1,e2,bits_xor_u64_nat _ _ (by omega) (by decide),Nat.xor_comm,Lib.xor_ones64 _ (by omega)]
   omega
  have HE:=hid e
  clear hz e
  go_enter Tryz.func101,Tryz.ntmps101
  go_wp2_with fail
  go_ret
  exact⟨giZ HE.out,rfl⟩
def vpZ(l:List Rec)(w:World)(e:Ending)(w':World):Prop:=
 ∃v,e= .returned v/\w'.ownsRow w.heap.size 5 1 v (bgZ l).length (cZ .u8 (bgZ l))/\Below w.heap.size w w'
def lenV:Value->Nat
 | .slice _ n _=>n
 |_=>0
theorem deZb{x:Nat}{t:List Nat}{j:Nat}(h:∀i,i<j->t[i]? =some x)(h2:t[j]? =some x):∀i,i<j+1->t[i]? =some x:=fun i hi=>by
 by_cases e:i<j
 ·exact h i e
 ·obtain rfl:i=j:=by omega
  exact h2
theorem qoZ{l:List Rec}{k:Nat}{r:Rec}(h:l[k]? =some r):(zbZ l)[k]? =some r.level.toNat:=by unfold zbZ;rw[List.getElem?_map,h];rfl
theorem alZ(l:List Rec):(zbZ l).length=l.length:=by unfold zbZ;rw[List.length_map]
theorem ebZb{l:List Rec}{k t0:Nat}{r:Rec}(hr:l[k]? =some r)(h:((vbZ l).take k).getLast?.getD 0=t0):
 ybZ stepT 0 ((vbZ l).take (k+1))=ybZ stepT 0 ((vbZ l).take k)++nZ (wlZ (fvZ r.time.toNat t0))/\((vbZ l).take (k+1)).getLast?.getD 0=r.time.toNat:=by
 have e:(vbZ l).take (k+1)=(vbZ l).take k++ [r.time.toNat]:=by
  have hg:(vbZ l)[k]? =some r.time.toNat:=by unfold vbZ;rw[List.getElem?_map,hr];rfl
  rw[List.take_add_one,hg]
  rfl
 rw[e,hoZ,h]
 exact⟨rfl,by simp⟩
theorem fbZb(l:List Rec)(m i j:Nat):veZ l (m+i) j=veZ (l.drop m) i j:=by
 simp only[veZ,List.getD_eq_getElem?_getD,List.getElem?_drop]
theorem lwZ{w:World}{B n m c:Nat}{A:Option Addr}{l:List Rec}(h:Row w B A n 4 (veZ l))(hm:m<=n)(hc:n<=c):Row w B (sZ A m c 4) (n-m) 4 (veZ (l.drop m)):=
 h.cut m (n-m) (by omega) hc (fun i j _ _=>fbZb l m i j)
set_option maxHeartbeats 4000000 in
theorem eyZ(w:World)(A:Option Addr)(n c:Nat)(l:List Rec)(hn:l.length=n)(hN:n<=1000000)(hc:n<=c)(hok:∀r∈l,whZ r)(ha:Row w w.heap.size A n 4 (veZ l)):
 Calls Tryz.prog 54 #[.slice A n c] w (vpZ l w):=by
 obtain⟨j0,hj0,hy0,hy1,hy2⟩:=info_parts acZ
 have HN:=hid hn
 have HOK:=hid hok
 have hcl:=anZ hok (by omega)
 have HCL:Hid ((bgZ l).length<=21000000):=by show _<=_;omega
 have HCB:Hid (bgZ l=ybZ stepT 0 (vbZ l)++lvB (zbZ l)):=rfl
 have DZ:=hid (fun wx d hd=>ckZb wx d hd)
 have DN:=hid (fun wx x hx=>pcZ wx x hx)
 unfold vpZ
 clear hn hok hcl
 generalize bgZ l=CB at *
 go_enter Tryz.func54,Tryz.ntmps54
 go_wp2_with fail
 go_loopw [3,4,10] (fun u tv i wr=>∃ (k q t0:Nat),k<=n/\q<=10*k/\t0<18446744073709551616/\tv= .int .u64 t0/\i= .int .i64 k/\Hid ((ybZ stepT 0 ((vbZ l).take k)).length=q)/\Hid (((vbZ l).take k).getLast?.getD 0=t0)/\Hid (wr.ownsRow w.heap.size 5 1 u q (cZ .u8 (ybZ stepT 0 ((vbZ l).take k))))/\Hid (Below w.heap.size w wr)) (fun _ _ i _=>n-(intOf i).toNat)
 case atStart=>exact⟨0,0,0,by omega,by omega,by omega,rfl,rfl,rfl,rfl,World.ownsRow_nil _ _ _ _,Below.refl _ _⟩
 case round=>
  obtain⟨k,q,t0,hk,hq,ht0,rfl,rfl,HQ,HL,HO,HB⟩:=hrel
  have hz:=HB.out.size
  by_cases hlt:k<n
  ·obtain⟨b,off,r,rfl,hbb,hg,c0,c1,c2,c3⟩:=Row.rec (ha.below HB.out) HN.out hlt
   obtain⟨z0,z1,_,_⟩:=HOK.out r (List.mem_of_getElem? hg)
   obtain⟨T,hT⟩:=Int.eq_ofNat_of_zero_le z0
   obtain⟨HT1,HT2⟩:=ebZb hg HL.out
   have HT1:=hid HT1
   have HT2:=hid HT2
   obtain⟨sb,hsb⟩:∃sb,sb=fvZ r.time.toNat t0:=⟨_,rfl⟩
   have s1:IntKind.u64.wrap (r.time-(t0:Int))=(sb:Int):=by rw[IntKind.wrap_u64,hsb];unfold fvZ;omega
   have hsl:sb<18446744073709551616:=by rw[hsb];exact wyZ _ _
   rw[<-hsb]at HT1
   have D1:=hid (fun wx=>DZ.out wx sb hsl)
   have D2:=hid (fun wx=>DN.out wx (wlZ sb) (jrZ hsl))
   have hnl:=rZ (jrZ hsl)
   generalize wlZ sb=z at *
   generalize nZ z=O at *
   obtain⟨m,hm⟩:∃m,m=O.length:=⟨_,rfl⟩
   rw[<-hm]at D2 hnl
   have HML:=hid hm
   have HRT:Hid (r.time=(r.time.toNat:Int)/\r.time.toNat<18446744073709551616):=⟨by omega,by omega⟩
   have x0:(0:Int)<=(k:Int):=by omega
   have x1:(k:Int)<(n:Int):=by omega
   clear hg hm hsb hT z0 z1
   go_wp2_with fail
   refine(D1.out _).mono ?_
   rintro e w1 ⟨rfl,rfl⟩
   go_wp2_with fail
   refine(D2.out _).mono ?_
   rintro e w2 ⟨v2,rfl,ho2,hb2⟩
   obtain⟨A2,d2,rfl⟩:=bZ ho2
   have HS2:Hid (Src w2 A2 m d2 1 (cZ .u8 O)):=lbZ ho2
   have hbx:Blk (wr.alloc (.cells #[.int .u64 r.time, .int .u8 r.level, .string r.source, .string r.text] 59)) wr.heap.size 59 #[.int .u64 r.time, .int .u8 r.level, .string r.source, .string r.text]:=Blk.made _ _ _
   have HBX:=hid (hbx.step hb2)
   have HB2:Hid (Below w.heap.size w w2):=dZ hb2 (aZ HB.out)
   have HO2:Hid (w2.ownsRow w.heap.size 5 1 u3 q (cZ .u8 (ybZ stepT 0 ((vbZ l).take k)))):=eZ (HO.out.alloc (.cells #[.int .u64 r.time, .int .u8 r.level, .string r.source, .string r.text] 59)) (fun y hy=>hb2.block y (by have:=(World.ownsRow.lt HO.out y hy).2;simp;omega))
   have hz2:=HB2.out.size
   have HRB:Hid (ybZ stepT 0 ((vbZ l).take k)++O=ybZ stepT 0 ((vbZ l).take (k+1))):=HT1.out.symm
   have HQL:=hid (congrArg List.length HRB.out)
   clear ho2 hb2 D1 D2 c0 c1 c2 c3 HO HB hbx HT1
   go_wp2_with(at_builtin;refine kZ rfl (.tmp 14) (.tmp 20) 22 rfl w.heap.size 5 j0 _ 1 1 Tryz.underlying22 hj0 hy0 hy1 hy2 rfl (by decide) _ _ _ (by rfl) HO2.out _ _ _ _ (by rfl) HS2.out (wZ _ _) (by unfold maxLen;omega) (by omega) hz2 ?_;intro v4 w4 hown4 hg4 hat4;have c4:w4.cell? ⟨wr.heap.size,0,none⟩=some (.int .u64 r.time):=(HBX.out.grown hg4 (fun e=>jZ HO2.out HBX.out (by decide) e.symm)).cell 0)
   have HB4:Hid (Below w.heap.size w w4):=HB2.out.grown hg4 hz2 (fun y hy=>(World.ownsRow.lt HO2.out y hy).1)
   have HO4:Hid (w4.ownsRow w.heap.size 5 1 v4 (q+m) (cZ .u8 (ybZ stepT 0 ((vbZ l).take (k+1))))):=by
    rw[<-HRB.out,show cZ .u8 (ybZ stepT 0 ((vbZ l).take k)++O)=cZ .u8 (ybZ stepT 0 ((vbZ l).take k))++cZ .u8 O by simp[cZ]]
    exact hown4
   clear hown4 hg4 hat4
   go_roundw
   case measure=>go_light;simp[intOf];omega
   case rel=>go_light;exact⟨k+1,q+m,r.time.toNat,by omega,by omega,HRT.out.2,by rw[<-HRT.out.1],by first|rfl|go_num,by show _=_;rw[<-HQL.out,List.length_append,HQ.out,HML.out],HT2.out,HO4.out,HB4.out⟩
  ·obtain rfl:k=n:=by omega
   have h1:(vbZ l).take k=vbZ l:=List.take_of_length_le (by unfold vbZ;rw[List.length_map,HN.out];exact Nat.le_refl _)
   rw[h1]at HO HQ
   have HRA:Hid (Row w w.heap.size A k 4 (veZ l)):=ha
   have HCB2:Hid (ybZ stepT 0 (vbZ l)++lvB ((zbZ l).drop 0)=CB):=HCB.out.symm
   clear h1 HL DZ HCB ha ht0
   generalize ybZ stepT 0 (vbZ l)=T0 at *
   go_wp2_with fail
   go_loopw [0,3] (fun lv u wx=>∃ (i q' m c':Nat) (A':Option Addr) (P:List Nat),m<=1000000/\q'<=21000000/\m<=c'/\lv= .slice A' m c'/\Hid (m+i=k)/\Hid (P.length=q')/\Hid (P++lvB ((zbZ l).drop i)=CB)/\Hid (Row w w.heap.size A' m 4 (veZ (l.drop i)))/\Hid (wx.ownsRow w.heap.size 5 1 u q' (cZ .u8 P))/\Hid (Below w.heap.size w wx)) (fun lv _ _=>lenV lv)
   case atStart=>exact⟨0,q,k,c,A,T0,hN,by omega,hc,rfl,rfl,HQ.out,HCB2.out,by show Row _ _ _ _ _ _;rw[List.drop_zero];exact HRA.out,HO.out,HB.out⟩
   case round=>
    obtain⟨i,q',m,c',A',P,hm,hq',hmc,rfl,HI,HP,HF,HR,HOx,HBx⟩:=hrel
    have HLN:Hid ((l.drop i).length=m):=by show _=_;rw[List.length_drop,HN.out];have:=HI.out;omega
    obtain⟨w0,rfl⟩:∃w0:World,w0=wr:=⟨_,rfl⟩
    clear HO HB HQ hz HCB2
    by_cases hlt:0<m
    ·obtain⟨b,off,r,rfl,hbb,hg,d0,d1,d2,d3⟩:=Row.rec (HR.out.below HBx.out) HLN.out hlt
     have HG0:=hid hg
     have hir:l[i]? =some r:=by rw[List.getElem?_drop,Nat.add_zero]at hg;exact hg
     obtain⟨_,_,z2,z3⟩:=HOK.out r (List.mem_of_getElem? hir)
     obtain⟨x,hx⟩:=Int.eq_ofNat_of_zero_le z2
     have hdl:(zbZ l).drop i=x :: (zbZ l).drop (i+1):=by
      have hgl:=qoZ hir
      obtain⟨hil,e⟩:=List.getElem?_eq_some_iff.1 hgl
      rw[List.drop_eq_getElem_cons hil,e]
      congr 1
      omega
     have hf:=HF.out
     rw[hdl,lvB]at hf
     have HF2:=hid hf
     have hx8:x<=255:=by omega
     rw[hx]at d1
     have hlev:∀j' rj,(l.drop i)[j'+1]? =some rj->((zbZ l).drop (i+1))[j']? =some rj.level.toNat:=fun j' rj h=>by
      rw[List.getElem?_drop]at h ⊢
      have:=qoZ h
      rw[show i+1+j'=i+(j'+1) by omega]
      exact this
     have HLEV:=hid hlev
     have HXX:=hid hx
     have ht1:((zbZ l).drop (i+1)).length+1=m:=by
      have:=HLN.out
      rw[List.length_drop]at this
      rw[List.length_drop,alZ]
      omega
     have HT1:=hid ht1
     have x0:(0:Int)<(m:Int):=by omega
     clear hg hir hdl hf hlev hx HF ht1 d0 d2 d3 z2 z3
     obtain⟨t,ht⟩:∃t,t=(zbZ l).drop (i+1):=⟨_,rfl⟩
     have HTD:=hid ht
     rw[<-ht]at HF2 HLEV HT1
     clear ht
     clear d1
     go_wp2_with fail
     go_loopw [7] (fun nv wy=>∃j:Nat,1<=j/\j<=m/\nv= .int .i64 j/\Hid (∀a,a<j-1->t[a]? =some x)/\Hid (∃qd,wy=w0.drewN qd)) (fun nv _=>m-(intOf nv).toNat)
     case atStart=>exact⟨1,by omega,by omega,rfl,fun a h=>absurd h (by omega),0,rfl⟩
     case round=>
      obtain⟨j,h1j,hjm,rfl,HS,HD⟩:=hrel
      have HBy:Hid (Below w.heap.size w wr):=by obtain⟨qd,h⟩:=HD.out;rw[h];exact below_drewN HBx.out qd
      have HD2:∀qe,Hid (∃qd,wr.drewN qe=w0.drewN qd):=fun qe=>by obtain⟨qd,h⟩:=HD.out;exact⟨qd+qe,by rw[h];simp⟩
      by_cases hjl:j<m
      ·have gj:decide ((j:Int)<(m:Int))=true:=by simp;omega
       have gj':decide (j<m)=true:=by simp;omega
       have y0:(0:Int)<=(j:Int):=by omega
       have y1:(j:Int)<(m:Int):=by omega
       obtain⟨b2,off2,r2,hA2,_,hg2,_,d1,_,_⟩:=Row.rec (HR.out.below HBy.out) HLN.out hjl
       injection hA2 with hA2
       injection hA2 with e1 e2
       subst e1 e2
       obtain⟨b3,off3,r3,hA3,_,hg3,_,d2,_,_⟩:=Row.rec (HR.out.below HBy.out) HLN.out hlt
       injection hA3 with hA3
       injection hA3 with e1 e2
       subst e1 e2
       have hr3:r3=r:=by
        have h:=HG0.out
        rw[h]at hg3
        injection hg3 with hg3
        exact hg3.symm
       rw[hr3,HXX.out,Nat.zero_mul,Nat.add_zero]at d2
       obtain⟨_,_,z2,z3⟩:=HOK.out r2 (List.mem_of_mem_drop (List.mem_of_getElem? hg2))
       obtain⟨y,hy⟩:=Int.eq_ofNat_of_zero_le z2
       rw[hy]at d1
       have hty:t[j-1]? =some y:=by
        have h:=HLEV.out (j-1) r2 (by rw[Nat.sub_add_cancel h1j];exact hg2)
        rw[h,hy]
        rfl
       have HTY:=hid hty
       have hy8:y<=255:=by omega
       clear hr3 hg3 hg2 hy hty z2 z3
       by_cases hyx:y=x
       ·subst hyx
        have ge:((y:Int)==(y:Int))=true:=by simp
        have s2:IntKind.i64.wrap ((j:Int)+1)=((j+1:Nat):Int):=by rw[IntWalk.i64_in _ (by omega)];omega
        have HS2:Hid (∀a,a<j+1-1->t[a]? =some y):=fun a ha=>deZb (j:=j-1) HS.out HTY.out a (by omega)
        clear HS HTY
        go_wp2_with fail
        go_quiet (fail)
        go_wp2_with fail
        go_roundw
        case measure=>go_light;simp[intOf];omega
        case rel=>go_light;exact⟨j+1,by omega,by omega,by first|rfl|go_num,HS2.out,(HD2 _).out⟩
       ·have ge:((y:Int)==(x:Int))=false:=by rw[beq_eq_false_iff_ne];omega
        have HLD:Hid (lead x t=j-1):=npZ x t (j-1) HS.out (by rw[HTY.out];intro h;injection h with h;exact hyx h)
        clear HS HTY hyx
        go_wp2_with fail
        go_quiet (fail)
        obtain⟨wz,hwz⟩:∃wz:World,wz=wr.drewN nq:=⟨_,rfl⟩
        obtain⟨qd,hqd⟩:=HD.out
        have HBz:Hid (Below w.heap.size w wz):=by rw[hwz];exact below_drewN HBy.out nq
        have HOz:Hid (wz.ownsRow w.heap.size 5 1 u3 q' (cZ .u8 P)):=by rw[hwz,hqd];exact HOx.out
        rw[<-hwz]
        obtain⟨b3,off3,r3,hA3,_,hg3,_,d2,_,_⟩:=Row.rec (HR.out.below HBz.out) HLN.out hlt
        injection hA3 with hA3
        injection hA3 with e1 e2
        subst e1 e2
        have hr3:r3=r:=by
         have h:=HG0.out
         rw[h]at hg3
         injection hg3 with hg3
         exact hg3.symm
        rw[hr3,HXX.out,Nat.zero_mul,Nat.add_zero]at d2
        have hf:=HF2.out
        rw[HLD.out,Nat.sub_add_cancel h1j]at hf
        have hdr:(zbZ l).drop (i+j)=t.drop (j-1):=by rw[HTD.out,List.drop_drop];congr 1;omega
        have hnl:=rZ (x:=j) (by omega)
        have DN1:=hid (fun wx=>DN.out wx j (by omega))
        have ju:IntKind.u64.wrap (j:Int)=(j:Int):=by rw[IntKind.wrap_u64];omega
        have ks:=fun wx=>vcZ (P:=Tryz.prog) (t:=46) (s:=4) Tryz.underlying46 (fun _=>by kernel_rfl) (some ⟨b,off,none⟩) m c' .i64 (j:Int) j rfl hjm wx
        have HR5:Hid (Row w w.heap.size (sZ (some ⟨b,off,none⟩) j c' 4) (m-j) 4 (veZ ((l.drop i).drop j))):=lwZ HR.out hjm hmc
        rw[List.drop_drop]at HR5
        have hc5:m-j<=c'-j:=by omega
        generalize sZ (some ⟨b,off,none⟩) j c' 4=A5 at *
        generalize c'-j=c5 at *
        obtain⟨m5,hm5⟩:∃m5,m5=m-j:=⟨_,rfl⟩
        rw[<-hm5]at HR5 hc5 ks
        have HM5:Hid (m5+(i+j)=k/\m5<m):=⟨by have:=HI.out;omega,by omega⟩
        have hql:q'+1+(nZ j).length<=21000000:=by
         have h1:=congrArg List.length hf
         have h2:=HCL.out
         have h3:=HP.out
         simp only[List.length_append,List.length_cons]at h1
         omega
        generalize nZ j=O at *
        obtain⟨om,hom⟩:∃om,om=O.length:=⟨_,rfl⟩
        rw[<-hom]at DN1 hnl hql
        have HOM:=hid hom
        have HF5:Hid ((P++ [x]++O)++lvB ((zbZ l).drop (i+j))=CB):=by show _=_;rw[hdr,<-hf];simp
        have hzz:=HBz.out.size
        have HJM:=hid hjm
        clear hwz hqd hr3 hg3 hf hdr hm5 hom HD HOx HBy HLD HG0 HF2 HD2 HTD HT1 HLEV
        go_wp2_with(at_builtin;refine kZ rfl (.tmp 46) (.tmp 51) 22 rfl w.heap.size 5 j0 _ 1 1 Tryz.underlying22 hj0 hy0 hy1 hy2 rfl (by decide) _ _ _ (by rfl) (HOz.out.alloc _) _ 1 1 [.int .u8 (x:Nat)] (by rfl) (Src.of_blk (Blk.made _ _ _) 1 1 1 rfl) (by intro u hu;simp at hu;rcases hu with rfl;rfl) (by unfold maxLen;omega) (by omega) (by simp;omega) ?_;intro v4 w4 hown4 hg4 hat4;obtain⟨A4,k4,rfl⟩:=bZ hown4;have HB4:Hid (Below w.heap.size w w4):=(gZ hzz HBz.out).grown hg4 (by simp;omega) (fun y hy=>(World.ownsRow.lt HOz.out y hy).1);have HO4:=hid hown4;clear hown4 hg4 hat4)
        refine(DN1.out _).mono ?_
        rintro e w5 ⟨v5,rfl,ho5,hb5⟩
        obtain⟨A6,k6,rfl⟩:=bZ ho5
        have HS5:Hid (Src w5 A6 om k6 1 (cZ .u8 O)):=lbZ ho5
        have HB5:Hid (Below w.heap.size w w5):=dZ hb5 HB4.out
        have HO5:Hid (w5.ownsRow w.heap.size 5 1 (.slice A4 (q'+1) k4) (q'+1) (cZ .u8 (P++ [x]))):=by
         rw[show cZ .u8 (P++ [x])=cZ .u8 P++ [.int .u8 (x:Nat)] by simp[cZ]]
         exact eZ HO4.out (fun y hy=>hb5.block y (World.ownsRow.lt HO4.out y hy).2)
        have hz5:=HB5.out.size
        clear ho5 hb5 DN1 HO4 HB4 HBz HOz
        go_wp2_with(at_builtin;refine kZ rfl (.tmp 52) (.tmp 55) 22 rfl w.heap.size 5 j0 _ 1 1 Tryz.underlying22 hj0 hy0 hy1 hy2 rfl (by decide) _ _ _ (by rfl) HO5.out _ _ _ _ (by rfl) HS5.out (wZ _ _) (by unfold maxLen;omega) (by omega) hz5 ?_;intro v7 w7 hown7 hg7 hat7)
        have HB7:Hid (Below w.heap.size w w7):=HB5.out.grown hg7 hz5 (fun y hy=>(World.ownsRow.lt HO5.out y hy).1)
        have HO7:Hid (w7.ownsRow w.heap.size 5 1 v7 (q'+1+om) (cZ .u8 (P++ [x]++O))):=by
         rw[show cZ .u8 (P++ [x]++O)=cZ .u8 (P++ [x])++cZ .u8 O by simp[cZ]]
         exact hown7
        clear hown7 hg7 hat7
        go_roundw
        case measure=>go_light;simp[lenV];exact HM5.out.2
        case rel=>go_light;exact⟨i+j,q'+1+om,m5,c5,A5,P++ [x]++O,by have:=HM5.out.2;omega,hql,hc5,rfl,HM5.out.1,by show _=_;rw[List.length_append,List.length_append,HP.out,HOM.out];rfl,HF5.out,HR5.out,HO7.out,HB7.out⟩
      ·have gj:decide ((j:Int)<(m:Int))=false:=by simp;omega
       have gj':decide (j<m)=false:=by simp;omega
       have HLD:Hid (lead x t=j-1):=npZ x t (j-1) HS.out (by rw[List.getElem?_eq_none (by have:=HT1.out;omega)];simp)
       clear HS
       go_wp2_with fail
       go_quiet (fail)
       obtain⟨wz,hwz⟩:∃wz:World,wz=wr.drewN nq:=⟨_,rfl⟩
       obtain⟨qd,hqd⟩:=HD.out
       have HBz:Hid (Below w.heap.size w wz):=by rw[hwz];exact below_drewN HBy.out nq
       have HOz:Hid (wz.ownsRow w.heap.size 5 1 u3 q' (cZ .u8 P)):=by rw[hwz,hqd];exact HOx.out
       rw[<-hwz]
       obtain⟨b3,off3,r3,hA3,_,hg3,_,d2,_,_⟩:=Row.rec (HR.out.below HBz.out) HLN.out hlt
       injection hA3 with hA3
       injection hA3 with e1 e2
       subst e1 e2
       have hr3:r3=r:=by
        have h:=HG0.out
        rw[h]at hg3
        injection hg3 with hg3
        exact hg3.symm
       rw[hr3,HXX.out,Nat.zero_mul,Nat.add_zero]at d2
       have hf:=HF2.out
       rw[HLD.out,Nat.sub_add_cancel h1j]at hf
       have hdr:(zbZ l).drop (i+j)=t.drop (j-1):=by rw[HTD.out,List.drop_drop];congr 1;omega
       have hnl:=rZ (x:=j) (by omega)
       have DN1:=hid (fun wx=>DN.out wx j (by omega))
       have ju:IntKind.u64.wrap (j:Int)=(j:Int):=by rw[IntKind.wrap_u64];omega
       have ks:=fun wx=>vcZ (P:=Tryz.prog) (t:=46) (s:=4) Tryz.underlying46 (fun _=>by kernel_rfl) (some ⟨b,off,none⟩) m c' .i64 (j:Int) j rfl hjm wx
       have HR5:Hid (Row w w.heap.size (sZ (some ⟨b,off,none⟩) j c' 4) (m-j) 4 (veZ ((l.drop i).drop j))):=lwZ HR.out hjm hmc
       rw[List.drop_drop]at HR5
       have hc5:m-j<=c'-j:=by omega
       generalize sZ (some ⟨b,off,none⟩) j c' 4=A5 at *
       generalize c'-j=c5 at *
       obtain⟨m5,hm5⟩:∃m5,m5=m-j:=⟨_,rfl⟩
       rw[<-hm5]at HR5 hc5 ks
       have HM5:Hid (m5+(i+j)=k/\m5<m):=⟨by have:=HI.out;omega,by omega⟩
       have hql:q'+1+(nZ j).length<=21000000:=by
        have h1:=congrArg List.length hf
        have h2:=HCL.out
        have h3:=HP.out
        simp only[List.length_append,List.length_cons]at h1
        omega
       generalize nZ j=O at *
       obtain⟨om,hom⟩:∃om,om=O.length:=⟨_,rfl⟩
       rw[<-hom]at DN1 hnl hql
       have HOM:=hid hom
       have HF5:Hid ((P++ [x]++O)++lvB ((zbZ l).drop (i+j))=CB):=by show _=_;rw[hdr,<-hf];simp
       have hzz:=HBz.out.size
       have HJM:=hid hjm
       clear hwz hqd hr3 hg3 hf hdr hm5 hom HD HOx HBy HLD HG0 HF2 HD2 HTD HT1 HLEV
       go_wp2_with(at_builtin;refine kZ rfl (.tmp 46) (.tmp 51) 22 rfl w.heap.size 5 j0 _ 1 1 Tryz.underlying22 hj0 hy0 hy1 hy2 rfl (by decide) _ _ _ (by rfl) (HOz.out.alloc _) _ 1 1 [.int .u8 (x:Nat)] (by rfl) (Src.of_blk (Blk.made _ _ _) 1 1 1 rfl) (by intro u hu;simp at hu;rcases hu with rfl;rfl) (by unfold maxLen;omega) (by omega) (by simp;omega) ?_;intro v4 w4 hown4 hg4 hat4;obtain⟨A4,k4,rfl⟩:=bZ hown4;have HB4:Hid (Below w.heap.size w w4):=(gZ hzz HBz.out).grown hg4 (by simp;omega) (fun y hy=>(World.ownsRow.lt HOz.out y hy).1);have HO4:=hid hown4;clear hown4 hg4 hat4)
       refine(DN1.out _).mono ?_
       rintro e w5 ⟨v5,rfl,ho5,hb5⟩
       obtain⟨A6,k6,rfl⟩:=bZ ho5
       have HS5:Hid (Src w5 A6 om k6 1 (cZ .u8 O)):=lbZ ho5
       have HB5:Hid (Below w.heap.size w w5):=dZ hb5 HB4.out
       have HO5:Hid (w5.ownsRow w.heap.size 5 1 (.slice A4 (q'+1) k4) (q'+1) (cZ .u8 (P++ [x]))):=by
        rw[show cZ .u8 (P++ [x])=cZ .u8 P++ [.int .u8 (x:Nat)] by simp[cZ]]
        exact eZ HO4.out (fun y hy=>hb5.block y (World.ownsRow.lt HO4.out y hy).2)
       have hz5:=HB5.out.size
       clear ho5 hb5 DN1 HO4 HB4 HBz HOz
       go_wp2_with(at_builtin;refine kZ rfl (.tmp 52) (.tmp 55) 22 rfl w.heap.size 5 j0 _ 1 1 Tryz.underlying22 hj0 hy0 hy1 hy2 rfl (by decide) _ _ _ (by rfl) HO5.out _ _ _ _ (by rfl) HS5.out (wZ _ _) (by unfold maxLen;omega) (by omega) hz5 ?_;intro v7 w7 hown7 hg7 hat7)
       have HB7:Hid (Below w.heap.size w w7):=HB5.out.grown hg7 hz5 (fun y hy=>(World.ownsRow.lt HO5.out y hy).1)
       have HO7:Hid (w7.ownsRow w.heap.size 5 1 v7 (q'+1+om) (cZ .u8 (P++ [x]++O))):=by
        rw[show cZ .u8 (P++ [x]++O)=cZ .u8 (P++ [x])++cZ .u8 O by simp[cZ]]
        exact hown7
       clear hown7 hg7 hat7
       go_roundw
       case measure=>go_light;simp[lenV];exact HM5.out.2
       case rel=>go_light;exact⟨i+j,q'+1+om,m5,c5,A5,P++ [x]++O,by have:=HM5.out.2;omega,hql,hc5,rfl,HM5.out.1,by show _=_;rw[List.length_append,List.length_append,HP.out,HOM.out];rfl,HF5.out,HR5.out,HO7.out,HB7.out⟩
    ·obtain rfl:m=0:=by omega
     have g0:decide ((0:Int)<((0:Nat):Int))=false:=by simp
     have hf:=HF.out
     rw[List.drop_of_length_le (by rw[alZ,HN.out];have:=HI.out;omega),lvB,List.append_nil]at hf
     have HF3:=hid hf
     clear hf HF HR HLN hlt
     go_wp2_with fail
     go_ret
     exact⟨_,rfl,by rw[<-HF3.out,HP.out];exact HOx.out,HBx.out⟩
end Go.Proofs.YtbgoibedicbkjaaGreatDoor.Recs
