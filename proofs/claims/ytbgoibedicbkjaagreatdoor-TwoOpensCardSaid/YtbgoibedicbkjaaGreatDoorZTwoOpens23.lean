/- An index's bytes: the walk of post.Bytes. -/
import Derived.Test.YtbgoibedicbkjaaGreatDoorZTwoOpens21
import Derived.Test.YtbgoibedicbkjaaGreatDoorZTwoOpens20
import Derived.Test.YtbgoibedicbkjaaGreatDoorZTwoOpens22
import Derived.Test.YtbgoibedicbkjaaGreatDoorZTwoOpens10
import Derived.Test.YtbgoibedicbkjaaGreatDoorZTwoOpens19
namespace Go.Proofs.YtbgoibedicbkjaaGreatDoor end Go.Proofs.YtbgoibedicbkjaaGreatDoor open Go.Proofs.YtbgoibedicbkjaaGreatDoor
open Go.Lib (hid)
namespace Go.Proofs.YtbgoibedicbkjaaGreatDoor.Idx
open Go.RowKit Mem Go.Proofs.YtbgoibedicbkjaaGreatDoor.Own Canon Sift
open NumPut Recs
open Go.Proofs.YtbgoibedicbkjaaGreatDoor.Ef (ycZ efO koZ)
open Go.Proofs.YtbgoibedicbkjaaGreatDoor.Block (oZ)
open Go.Proofs.YtbgoibedicbkjaaGreatDoor.One (FrsAt FrsAt.step FrsAt.grown FrsAt.snoc beZ xkZ)
theorem own_one{w:World}{base:Nat}{t:TypeId}{u:Value}(hb:base<=w.heap.size):(w.alloc (.cells #[u] t)).ownsRow base t 1 (.slice (some ⟨w.heap.size,0,none⟩) 1 1) 1 [u]:=
 ⟨rfl, .inr ⟨w.heap.size,1,#[u],rfl,hb,heap_alloc_new w _,Nat.le_refl _,by unfold maxLen;omega,by simp,rfl⟩⟩
set_option maxHeartbeats 2000000 in
set_option maxRecDepth 100000 in
theorem dyZ(w:World)(size bound base:Nat)(vT vL:Value)(vals:List Value)(ts:List Str)(ls:List (List Nat))(h1:1<=size)(h2:size<=64)(hb:bound<=20000)(hT:ts.length<=20000)(hL:ls.length=ts.length)(hm:nlZ ts=true)(h0:∀l∈ls,l≠ [])(hms:tnZ bound ls=true)(h:IxAt w base vT vL vals ts ls):
 Calls Tryz.prog 55 #[.int .i64 (size:Nat), .int .i64 bound, .agg #[vT,vL]] w fun e w'=>∃v,e= .returned (.tuple #[v, .int .i64 0])/\w'.ownsRow w.heap.size 5 1 v (ixO size bound ts ls).length (cZ .u8 (ixO size bound ts ls))/\Below w.heap.size w w':=by
 obtain⟨j0,hj0,hy0,hy1,hy2⟩:=info_parts xkZ
 have hdl:=zdZb hm h1 h2 hT
 have hll:∀k,(hdZ bound (ls.take k)).length<=900200000:=fun k=>by
  have h3:tnZ bound (ls.take k)=true:=List.all_eq_true.2 fun x hx=>List.all_eq_true.1 hms x (List.mem_of_mem_take hx)
  have h4:=zaZb hb (fun l hl=>h0 l (List.mem_of_mem_take hl)) h3
  rw[List.length_take]at h4
  omega
 have HLL:=hid hll
 obtain⟨n,hn⟩:∃n,n=ts.length:=⟨_,rfl⟩
 have hnl:ls.length=n:=by omega
 have ht:=h.t
 have hl:=h.l
 rw[<-hn]at ht hT
 rw[hnl]at hl
 obtain⟨AT,cT,rfl⟩:=bZ ht
 obtain⟨AL,cL,rfl⟩:=bZ hl
 have hnc:=(agZb ht).1
 have H:=hid h
 have HLN:=hid hnl
 have HL:=hid hl
 have H0:=hid h0
 have HMS:=hid hms
 have hba:Blk (w.alloc (.cells #[.slice AT n cT, .slice AL n cL] 36)) w.heap.size 36 #[.slice AT n cT, .slice AL n cL]:=Blk.made _ _ _
 have hbw:Below w.heap.size w (w.alloc (.cells #[.slice AT n cT, .slice AL n cL] 36)):=aZ (Below.refl _ _)
 have DD:=hid (fun wx (hx:Below w.heap.size w wx)=>cyZ wx size AT n cT ts hn.symm h1 h2 hT hnc hm (((gpZ ht).below hx).mono hx.size))
 have y1:decide ((bound:Int)<0)=false:=by simp
 have y2:decide ((20000:Int)<(bound:Int))=false:=by simp;omega
 have y2':decide (20000<bound)=false:=by simp;omega
 have z1:((n:Int)==(n:Int))=true:=by simp
 have HIX:Hid (ixO size bound ts ls=agZ size ts++hdZ bound ls):=rfl
 have HSN:Hid (∀k x,ls[k]? =some x->hdZ bound (ls.take (k+1))=hdZ bound (ls.take k)++efO bound x):=fun k x hx=>xxZ bound ls k x hx
 obtain⟨DO,hDO⟩:∃DO,DO=agZ size ts:=⟨_,rfl⟩
 rw[<-hDO]at DD HIX hdl
 have HBA:=hid hba
 have HBW:=hid hbw
 clear hn hnl hl ht h hm h0 hba hbw hms hll hDO
 go_enter Tryz.func55,Tryz.ntmps55
 have q0:=HBA.out.cell 0
 have q1:=HBA.out.cell 1
 simp only[List.getElem?_toArray,List.getElem?_cons_zero,List.getElem?_cons_succ]at q0 q1
 go_wp2_with fail
 refine(DD.out _ HBW.out).mono ?_
 rintro e w2 ⟨v2,rfl,ho2,hb2⟩
 obtain⟨A2,c2,rfl⟩:=bZ ho2
 have hzz:w.heap.size+1=(w.alloc (.cells #[.slice AT n cT, .slice AL n cL] 36)).heap.size:=by simp
 have HBA2:Hid (Blk w2 w.heap.size 36 #[.slice AT n cT, .slice AL n cL]):=HBA.out.step hb2
 have HB2:=hid (dZ hb2 HBW.out)
 have HO2:=hid (lZ ho2 HBW.out.size)
 have hw2:w.heap.size<w2.heap.size:=HBA2.out.lt
 have q1':(w2.alloc (.cells #[.slice A2 DO.length c2] 22)).cell? ⟨w.heap.size,1,none⟩=some (.slice AL n cL):=(HBA2.out.alloc _).cell 1
 clear ho2 hb2 DD q0 q1 hzz
 go_wp2_with fail
 have HP0:Hid ((w2.alloc (.cells #[.slice A2 DO.length c2] 22)).ownsRow w2.heap.size 22 1 (.slice (some ⟨w2.heap.size,0,none⟩) 1 1) (0+1) ([(⟨A2,c2,DO⟩:Part)].map Part.v)):=own_one (Nat.le_refl _)
 have HF0:Hid (FrsAt (w2.alloc (.cells #[.slice A2 DO.length c2] 22)) w.heap.size [(⟨A2,c2,DO⟩:Part)]):=fun p hp=>by
  rw[List.mem_singleton.1 hp]
  exact HO2.out.alloc _
 have HBB:Hid (Below w2.heap.size w2 (w2.alloc (.cells #[.slice A2 DO.length c2] 22))):=aZ (Below.refl _ _)
 have HE0:Hid (([(⟨A2,c2,DO⟩:Part)].flatMap Part.ls)=DO++hdZ bound (ls.take 0)):=by show _=_;simp[hdZ]
 clear q1' HO2
 generalize w2.alloc (.cells #[.slice A2 DO.length c2] 22)=w3 at *
 go_loopw [10,45] (fun pv iv wr=>∃ (k:Nat) (ps:List Part),k<=n/\iv= .int .i64 k/\Hid (ps.length=k+1)/\Hid (wr.ownsRow w2.heap.size 22 1 pv (k+1) (ps.map Part.v))/\Hid (FrsAt wr w.heap.size ps)/\Hid (ps.flatMap Part.ls=DO++hdZ bound (ls.take k))/\Hid (Below w2.heap.size w2 wr)) (fun _ iv _=>n-(intOf iv).toNat)
 case atStart=>exact⟨0,[⟨A2,c2,DO⟩],by omega,rfl,rfl,HP0.out,HF0.out,HE0.out,HBB.out⟩
 case round=>
  obtain⟨k,ps,hk,rfl,HPL,HP,HF,HE,HB⟩:=hrel
  clear HP0 HF0 HE0 HBB
  obtain⟨wi,rfl⟩:∃wi:World,wi=wr:=⟨_,rfl⟩
  have HBW1:Hid (Below w.heap.size w wi):=iZ HB.out HB2.out.size HB2.out
  have hz:=HB.out.size
  have hlk:=HLL.out k
  obtain⟨gp,cp,rfl⟩:=hjZ HP.out
  by_cases hlt:k<n
  ·obtain⟨x,hx⟩:∃x,ls[k]? =some x:=⟨_,List.getElem?_eq_getElem (by have:=HLN.out;omega)⟩
   have hxm:=List.mem_of_getElem? hx
   have hsh:=sqZ (gtZ HMS.out hx) (H0.out x hxm)
   have hmx:=gtZ HMS.out hx
   have hst:=HSN.out k x hx
   obtain⟨A,c,hv,hr⟩:=dlZb (H.out.step HBW1.out) hx
   have hlx:wi.ownsRow base 30 1 (.slice AL n cL) n vals:=eZ HL.out fun y hy=>HBW1.out.block y (World.ownsRow.lt HL.out y hy).2
   obtain⟨gl,cl,hgl,_,_⟩:=hlx.form (by omega)
   injection hgl with e1 e2 e3
   subst e1 e3
   have cv:wi.cell? ⟨gl,k,none⟩=some (.slice A x.length c):=(Lz.own_cells hlx hlt).1.trans hv
   have D:=hid (koZ wi bound A x.length c x rfl hsh.1 hsh.2 hb hmx hr)
   have gk:decide ((k:Int)<(n:Int))=true:=by simp;omega
   have gk':decide (k<n)=true:=by simp;omega
   have x0:(0:Int)<=(k:Int):=by omega
   have x1:(k:Int)<(n:Int):=by omega
   obtain⟨xn,hxn⟩:∃xn,xn=x.length:=⟨_,rfl⟩
   rw[<-hxn]at cv D
   have xz:((xn:Int)==0)=false:=by simp;omega
   generalize efO bound x=EO at *
   have HST:=hid hst
   clear hx hxm hsh hmx hst hv hr hlx hxn hlk
   go_wp2_with fail
   refine D.out.mono ?_
   rintro e w4 ⟨v4,rfl,ho4,hb4⟩
   obtain⟨A4,c4,rfl⟩:=bZ ho4
   have HO4:=hid (lZ ho4 HBW1.out.size)
   have HP4:Hid (w4.ownsRow w2.heap.size 22 1 (.slice (some ⟨gp,0,none⟩) (k+1) cp) (k+1) (ps.map Part.v)):=eZ HP.out fun y hy=>hb4.block y (World.ownsRow.lt HP.out y hy).2
   have HF4:Hid (FrsAt w4 w.heap.size ps):=HF.out.step hb4
   have HB4:Hid (Below w2.heap.size w2 w4):=iZ hb4 hz HB.out
   have hz4:=HB4.out.size
   obtain⟨el,hel⟩:∃el,el=EO.length:=⟨_,rfl⟩
   rw[<-hel]at HO4 ⊢
   have HEL:=hid hel
   clear ho4 hb4 D HP HF HB HBW1 cv hel
   go_wp2_with(at_builtin;refine kZ rfl (.tmp 62) (.tmp 64) 31 rfl w2.heap.size 22 j0 _ 1 24 Tryz.underlying31 hj0 hy0 hy1 hy2 rfl (by decide) _ _ _ (by rfl) (HP4.out.alloc _) _ 1 1 [.slice A4 el c4] (by rfl) (Src.of_blk (g:=w4.heap.size) (Blk.made _ _ _) 1 1 1 rfl) (by intro u hu;simp at hu;rcases hu with rfl;rfl) (by unfold maxLen;omega) (by omega) (by simp;omega) ?_;intro v8 w8 hown8 hg8 hat8)
   have HB8:Hid (Below w2.heap.size w2 w8):=Below.grown (HB4.out.alloc hz4 _) hg8 (by simp;omega) (fun y hy=>(World.ownsRow.lt HP4.out y hy).1)
   have HO8:Hid (w8.ownsRow w2.heap.size 22 1 v8 (k+1+1) (ps.map Part.v++ [.slice A4 el c4])):=hown8
   have HP8:Hid (w8.ownsRow w.heap.size 5 1 (.slice A4 el c4) el (cZ .u8 EO)):=beZ (HO4.out.alloc _) (HP4.out.alloc _) (by decide) hg8
   have HF8:Hid (FrsAt w8 w.heap.size ps):=(HF4.out.step (aZ (Below.refl _ _))).grown (HP4.out.alloc _) hg8
   clear hown8 hg8 hat8 HO4 HP4 HF4 HB4
   go_roundw
   case measure=>go_light;simp[intOf];omega
   case rel=>
    go_light
    exact⟨k+1,ps++ [⟨A4,c4,EO⟩],by omega,by first|rfl|go_num,by show _=_;rw[List.length_append,HPL.out];rfl,by show World.ownsRow _ _ _ _ _ _ _;rw[List.map_append];show World.ownsRow _ _ _ _ _ _ (ps.map Part.v++ [.slice A4 EO.length c4]);rw[<-HEL.out];exact HO8.out,HF8.out.snoc (by show World.ownsRow _ _ _ _ (.slice A4 EO.length c4) EO.length (cZ .u8 EO);rw[<-HEL.out];exact HP8.out),by show _=_;rw[List.flatMap_append,HE.out,HST.out,List.append_assoc];simp,HB8.out⟩
  ·obtain rfl:k=n:=by omega
   have gk:decide ((k:Int)<(k:Int))=false:=by simp
   have gk':decide (k<k)=false:=by simp
   have hall:ls.take k=ls:=List.take_of_length_le (by rw[HLN.out];exact Nat.le_refl _)
   have hlk2:=hlk
   rw[hall,<-HIX.out]at HE
   have hsum:xcZ ps<=1000000000:=by
    unfold xcZ
    rw[HE.out,HIX.out,List.length_append]
    rw[hall]at hlk2
    omega
   have hok:∀p∈ps,p.Ok wi:=fun p hp=>oZ (HF.out p hp) rfl
   have hgl:=(World.ownsRow.lt HP.out gp rfl).2
   have D:=hid (qyZ wi gp (k+1) cp ps HPL.out (by omega) hsum hok hgl (fun i hi=>by
    rw[(Lz.own_cells HP.out (by rw[<-HPL.out];exact hi)).1,List.getElem?_map,List.getElem?_eq_getElem hi]
    rfl))
   rw[HE.out]at D
   clear hall hlt hlk hlk2 hsum hok hgl HE
   go_wp2_with fail
   refine D.out.mono ?_
   rintro e w9 ⟨v9,rfl,ho9,hb9⟩
   go_wp2_with fail
   go_ret2
   exact⟨_,rfl,lZ ho9 HBW1.out.size,dZ hb9 HBW1.out⟩
end Go.Proofs.YtbgoibedicbkjaaGreatDoor.Idx
