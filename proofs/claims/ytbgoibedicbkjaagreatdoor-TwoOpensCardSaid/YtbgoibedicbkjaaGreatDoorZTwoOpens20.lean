/- A bucket of texts: the walk of dict.bucket. Plain: buckets by their nu -/
import Derived.Test.YtbgoibedicbkjaaGreatDoorZTwoOpens13
import Derived.Test.YtbgoibedicbkjaaGreatDoorZTwoOpens19
import Derived.Test.YtbgoibedicbkjaaGreatDoorZTwoOpens18
import Derived.Test.YtbgoibedicbkjaaGreatDoorZTwoOpens10
import Derived.Test.YtbgoibedicbkjaaGreatDoorZTwoOpens3
import Derived.Test.YtbgoibedicbkjaaGreatDoorZTwoOpens17
namespace Go.Proofs.YtbgoibedicbkjaaGreatDoor end Go.Proofs.YtbgoibedicbkjaaGreatDoor open Go.Proofs.YtbgoibedicbkjaaGreatDoor
open Go.Lib (hid)
set_option maxHeartbeats 4000000
set_option maxRecDepth 100000
namespace Go.Proofs.YtbgoibedicbkjaaGreatDoor.Idx
open Go.RowKit Mem Own Canon Sift
open NumPut Recs Go.Proofs.YtbgoibedicbkjaaGreatDoor Crc Block
theorem ppZ(s:Str):leZ (bs s)=pgZ s:=by
 unfold leZ pgZ
 rw[xbZ]
 rfl
theorem kkZ{s:Str}(h:s.length<=25):(pgZ s).length<=28:=by
 have h1:=yiZ (s:=bs s) (by rw[xbZ];omega)
 rw[ppZ,xbZ]at h1
 omega
theorem kdZb{l:List Str}{k:Nat}{x:Str}(h:l[k]? =some x):(l.take (k+1)).getLast?=some x:=by
 rw[List.take_add_one,h]
 simp
theorem pvZ{l:List Str}{k:Nat}{x y:Str}(hx:l[k]? =some x)(hy:l[k+1]? =some y):ibZ (l.take (k+1+1))=ibZ (l.take (k+1))++(nZ (zZ x y)++pgZ (y.drop (zZ x y))):=by
 rw[List.take_add_one (i:=k+1),hy]
 refine suZ ?_ y x (kdZb hx)
 rw[List.take_add_one,hx]
 simp
theorem qqZ{x:Nat}(h:x<=127):(nZ x).length=1:=by rw[feZ (by omega)];rfl
theorem fhZb(s:Str)(a:Nat)(ha:a<=s.length)(w:World):(Instr.slice 9 (.string (bs s)) (some (.int .i64 (a:Int))) none none).run Tryz.prog w= .ok (.string (bs (s.drop a))) w:=by
 have hz:=xbZ s
 rw[run_slice_string_l w (t:=9) (s:=bs s) (ht:=Tryz.underlying9) .i64 (a:Int) (by omega) (by omega),Int.toNat_natCast]
 have e:(bs s).extract a (bs s).size=bs (s.drop a):=by
  refine ByteArray.ext (Array.ext' ?_)
  rw[smZ,ogZ,hz,List.take_of_length_le (by rw[List.length_drop];exact Nat.le_refl _)]
  rfl
 rw[e]
def orZ(bs:List Nat)(w:World)(e:Ending)(w':World):Prop:=
 ∃v,e= .returned v/\w'.ownsRow w.heap.size 5 1 v bs.length (cZ .u8 bs)/\Below w.heap.size w w'
theorem saZb(w:World)(A:Option Addr)(n c:Nat)(ls:List Str)(hn:ls.length=n)(h1:1<=n)(hN:n<=64)(hnc:n<=c)(hs:∀s∈ls,s.length<=25)(ha:Row w w.heap.size A n 1 (ehZ ls)):
 Calls Tryz.prog 149 #[.slice A n c] w (orZ (ibZ ls) w):=by
 have HN:=hid hn
 have HSS:Hid (∀ (k:Nat) (x:Str),ls[k]? =some x->x.length<=25):=fun k x h=>hs x (List.mem_of_getElem? h)
 obtain⟨b,off,x0,hA,hbb,hx0,cx0⟩:=Row.str ha hn (k:=0) (by omega)
 have hb0:ibZ (ls.take (0+1))=pgZ x0:=by
  rw[List.take_add_one,hx0]
  simp[ibZ,zfZ]
 have DT:=hid (tlZ w (bs x0) (by rw[xbZ];have:=HSS.out 0 x0 hx0;omega))
 rw[ppZ,<-hb0]at DT
 have hl0:(ibZ (ls.take (0+1))).length<=28:=by rw[hb0];exact kkZ (HSS.out 0 x0 hx0)
 have ks:=fun wx=>vcZ (P:=Tryz.prog) (t:=33) (s:=1) Tryz.underlying33 (fun _=>by kernel_rfl) A n c .i64 (1:Int) 1 rfl h1 wx
 have hrc:Row w w.heap.size (sZ A 1 c 1) (n-1) 1 (fun i j=>ehZ ls (i+1) j):=Row.cut ha 1 (n-1) (by omega) hnc fun i j _ _=>by rw[Nat.add_comm]
 generalize sZ A 1 c 1=A1 at *
 generalize c-1=c1 at *
 obtain⟨m,hm⟩:∃m,m=n-1:=⟨_,rfl⟩
 rw[<-hm]at ks hrc
 have hmn:m+1=n:=by omega
 have HFUL:Hid (ibZ (ls.take (m+1))=ibZ ls):=by show _=_;rw[List.take_of_length_le (by omega)]
 unfold orZ
 obtain⟨R,hR⟩:∃R,R=ibZ ls:=⟨_,rfl⟩
 rw[<-hR]at HFUL ⊢
 obtain⟨B,hB⟩:∃B:Nat->List Nat,B=fun k=>ibZ (ls.take (k+1)):=⟨_,rfl⟩
 have HBS:Hid (∀ (k:Nat) (x y:Str),ls[k]? =some x->ls[k+1]? =some y->B (k+1)=B k++(nZ (zZ x y)++pgZ (y.drop (zZ x y)))):=fun k x y hx hy=>by rw[hB];exact pvZ hx hy
 have HFUL2:Hid (B m=R):=by rw[hB];exact HFUL.out
 rw[show ibZ (ls.take (0+1))=B 0 by rw[hB]]at DT hl0
 subst hA
 rw[Nat.add_zero]at cx0
 clear hn hs hx0 hb0 HFUL hR hB hm
 go_enter Tryz.func149,Tryz.ntmps149
 go_wp2_with fail
 refine DT.out.mono ?_
 rintro e w1 ⟨v1,rfl,ho1,hb1⟩
 obtain⟨A2,c2,rfl⟩:=bZ ho1
 have HO1:=hid ho1
 have HB1:=hid hb1
 clear ho1 hb1 DT
 go_wp2_with fail
 go_loopw [3,14] (fun uv iv wr=>∃ (k p:Nat),k<=m/\p<=28+31*k/\iv= .int .i64 k/\Hid ((B k).length=p)/\Hid (wr.ownsRow w.heap.size 5 1 uv p (cZ .u8 (B k)))/\Hid (Below w.heap.size w wr)) (fun _ iv _=>m-(intOf iv).toNat)
 case atStart=>exact⟨0,(B 0).length,by omega,by omega,rfl,rfl,HO1.out,HB1.out⟩
 case round=>
  obtain⟨k,p,hk,hp,rfl,HP,HO,HB⟩:=hrel
  clear HO1 HB1
  obtain⟨wi,rfl⟩:∃wi:World,wi=wr:=⟨_,rfl⟩
  obtain⟨A3,c3,rfl⟩:=bZ HO.out
  by_cases hlt:k<m
  ·have hpe:(B k).length=p:=HP.out
   subst hpe
   have gk:decide ((k:Int)<(m:Int))=true:=by simp;omega
   have gk':decide (k<m)=true:=by simp;omega
   have x0':(0:Int)<=(k:Int):=by omega
   have x1:(k:Int)<(m:Int):=by omega
   have x2:(k:Int)<(n:Int):=by omega
   obtain⟨b',off',x,hA',_,hx,cx⟩:=Row.str (ha.below HB.out) HN.out (k:=k) (by omega)
   injection hA' with hA'
   injection hA' with e1 e2
   subst e1 e2
   obtain⟨y,hy⟩:∃y,ls[k+1]? =some y:=⟨_,List.getElem?_eq_getElem (by have:=HN.out;omega)⟩
   obtain⟨b1,off1,hA1,_,hc1⟩:=(hrc.below HB.out) (by omega)
   subst hA1
   have cy:wi.cell? ⟨b1,off1+k,none⟩=some (.string (bs y)):=by
    have h:=hc1 k 0 hlt (by omega)
    rw[Nat.mul_one,Nat.add_zero]at h
    rw[h]
    show some (Value.string (bs (ls.getD (k+1) [])))=_
    rw[List.getD_eq_getElem?_getD,hy]
    rfl
   have hxl:=HSS.out k x hx
   have hyl:=HSS.out (k+1) y hy
   have hal:=vmZ x y
   have hst:=HBS.out k x y hx hy
   have DS:=hid (gqZ wi x y (by omega) (by omega))
   obtain⟨a,hae⟩:∃a,a=zZ x y:=⟨_,rfl⟩
   rw[<-hae]at hal hst DS
   have hzy:=xbZ y
   have hdl:(y.drop a).length<=25:=by rw[List.length_drop];omega
   have hzd:=xbZ (y.drop a)
   have kl:=fun wx=>fhZb y a hal.2 wx
   have DN:=hid (fun wx=>pcZ wx a (by omega))
   have DX:=hid (fun wx=>tlZ wx (bs (y.drop a)) (by rw[hzd];omega))
   rw[ppZ]at DX
   have u1:IntKind.u64.wrap (a:Int)=(a:Int):=by rw[IntKind.wrap_u64];omega
   have hln:(nZ a).length<=3:=by rw[qqZ (by omega)];omega
   have hlx:=kkZ hdl
   have PB:Hid (∀wx,Below wi.heap.size wi wx->Part.Ok (⟨A3,c3,B k⟩:Part) wx):=fun wx hb=>by
    have h:=oZ (eZ HO.out (fun z hz=>hb.block z (World.ownsRow.lt HO.out z hz).2)) HP.out
    exact h
   generalize bs (y.drop a)=Y2 at *
   generalize pgZ (y.drop a)=X2 at *
   generalize nZ a=X1 at *
   have HST:=hid hst
   have HBK:(B k).length<=2000:=by have:=HP.out;omega
   have hs3:∀a1 a2 a3 a4 a5 a6,xcZ [(⟨a1,a2,B k⟩:Part),⟨a3,a4,X1⟩,⟨a5,a6,X2⟩]<=1000000:=fun _ _ _ _ _ _=>by simp[xcZ];omega
   clear hst hx hy hae hxl hyl hzy hzd hc1
   go_wp2_with fail
   refine DS.out.mono ?_
   rintro e w2 ⟨rfl,hq⟩
   have HB2:Hid (Below wi.heap.size wi w2):=by
    obtain⟨q,rfl⟩:=hq
    exact below_drewN (Below.refl _ _) q
   clear hq DS
   have hz2:=HB2.out.size
   go_upto_region 6 with fail
   have b2:Below wi.heap.size wi w2.drew:=HB2.out.drew
   go_region_held3 (fun _=>True) (trivial) (first|(go_at_call 98;(with_reducible refine(DN.out _).mono ?_);rintro e wA ⟨vA,rfl,hoA,hbA⟩;obtain⟨AA,cA,rfl⟩:=bZ hoA;have BA:Below wi.heap.size wi wA:=iZ hbA (by first|omega|(simp;done)|(simp;omega)) (by(repeat(first|(with_reducible first|exact Below.refl _ _|assumption|refine Below.drew ?_|refine below_drewN ?_ _|refine aZ ?_|refine dZ (by assumption) ?_)|((with_reducible first|refine fZ ?_ ?_|refine gZ ?_ ?_|refine iZ (by assumption) ?_ ?_);(focus(first|(simp;done)|(simp;omega)|omega|(simp at *;omega)))))));have zA:=BA.size;have PA:Part.Ok (⟨AA,cA,X1⟩:Part) wA:=oZ hoA rfl)|(go_at_call 143;(with_reducible refine(DX.out _).mono ?_);rintro e wB ⟨vB,rfl,hoB,hbB⟩;obtain⟨AB,cB,rfl⟩:=bZ hoB;have BB:Below wi.heap.size wi wB:=iZ hbB (by first|omega|(simp;done)|(simp;omega)) (by(repeat(first|(with_reducible first|exact Below.refl _ _|assumption|refine Below.drew ?_|refine below_drewN ?_ _|refine aZ ?_|refine dZ (by assumption) ?_)|((with_reducible first|refine fZ ?_ ?_|refine gZ ?_ ?_|refine iZ (by assumption) ?_ ?_);(focus(first|(simp;done)|(simp;omega)|omega|(simp at *;omega)))))));have zB:=BB.size;have PX:Part.Ok (⟨AB,cB,X2⟩:Part) wB:=oZ hoB rfl)|(go_at_call 59;(refine(ffZ _ _ 3 [(⟨A3,c3,B k⟩:Part),(⟨AA,cA,X1⟩:Part),(⟨AB,cB,X2⟩:Part)] rfl (by omega) (hs3 _ _ _ _ _ _) (fun p hp=>by{rcases List.mem_cons.1 hp with rfl|hp;exact PB.out _ (by(repeat(first|(with_reducible first|exact Below.refl _ _|assumption|refine Below.drew ?_|refine below_drewN ?_ _|refine aZ ?_|refine dZ (by assumption) ?_)|((with_reducible first|refine fZ ?_ ?_|refine gZ ?_ ?_|refine iZ (by assumption) ?_ ?_);(focus(first|(simp;done)|(simp;omega)|omega|(simp at *;omega)))))));rcases List.mem_cons.1 hp with rfl|hp;exact PA.step (by(repeat(first|(with_reducible first|exact Below.refl _ _|assumption|refine Below.drew ?_|refine below_drewN ?_ _|refine aZ ?_|refine dZ (by assumption) ?_)|((with_reducible first|refine fZ ?_ ?_|refine gZ ?_ ?_|refine iZ (by assumption) ?_ ?_);(focus(first|(simp;done)|(simp;omega)|omega|(simp at *;omega)))))));rcases List.mem_cons.1 hp with rfl|hp;exact PX.step (by(repeat(first|(with_reducible first|exact Below.refl _ _|assumption|refine Below.drew ?_|refine below_drewN ?_ _|refine aZ ?_|refine dZ (by assumption) ?_)|((with_reducible first|refine fZ ?_ ?_|refine gZ ?_ ?_|refine iZ (by assumption) ?_ ?_);(focus(first|(simp;done)|(simp;omega)|omega|(simp at *;omega)))))));cases hp}) (by first|exact Blk.made _ _ _|exact Blk.drew (Blk.made _ _ _))).mono ?_);rintro e w7 ⟨v7,rfl,ho7,hb7⟩;obtain⟨A7,c7,rfl⟩:=bZ ho7;have B7:Below wi.heap.size wi w7:=iZ hb7 (by first|omega|(simp;done)|(simp;omega)) (by(repeat(first|(with_reducible first|exact Below.refl _ _|assumption|refine Below.drew ?_|refine below_drewN ?_ _|refine aZ ?_|refine dZ (by assumption) ?_)|((with_reducible first|refine fZ ?_ ?_|refine gZ ?_ ?_|refine iZ (by assumption) ?_ ?_);(focus(first|(simp;done)|(simp;omega)|omega|(simp at *;omega)))))))))
   all_goals
    have HL9:Hid ((B (k+1)).length=(B k).length+(X1.length+X2.length)):=by
     show _=_
     rw[HST.out,List.length_append,List.length_append]
    have HO9:Hid (w7.ownsRow w.heap.size 5 1 (.slice A7 ((B k).length+(X1.length+X2.length)) c7) ((B k).length+(X1.length+X2.length)) (cZ .u8 (B (k+1)))):=by
     have h:=lZ ho7 (show w.heap.size<=_ by have:=HB.out.size;have:=zA;have:=zB;first|omega|(simp;omega))
     simp only[List.flatMap_cons,List.flatMap_nil,List.append_nil,List.length_append]at h
     show World.ownsRow _ _ _ _ _ _ _
     rw[HST.out]
     exact h
    have HB9:Hid (Below w.heap.size w w7):=dZ B7 HB.out
    clear ho7 hb7 PA PX PB HO HB HP HST B7
    go_wp2_with fail
    go_roundw
    case measure=>go_light;simp[intOf];omega
    case rel=>go_light;exact⟨k+1,_,by omega,by omega,by first|rfl|go_num,HL9.out,HO9.out,HB9.out⟩
  ·obtain rfl:k=m:=by omega
   have gk:decide ((k:Int)<(k:Int))=false:=by simp
   have gk':decide (k<k)=false:=by simp
   have hpe:(B k).length=p:=HP.out
   subst hpe
   go_wp2_with fail
   go_ret
   exact⟨_,rfl,by rw[<-HFUL2.out];exact HO.out,HB.out⟩
end Go.Proofs.YtbgoibedicbkjaaGreatDoor.Idx
namespace Go.Proofs.YtbgoibedicbkjaaGreatDoor.Idx
open Go.RowKit Mem Own Canon
open Go.Proofs.YtbgoibedicbkjaaGreatDoor.NumPut (nZ rZ)
def ecZ(size:Nat)(l:List Str)(k:Nat):List Str:=(l.drop (k*size)).take size
def nCh(size n:Nat):Nat:=(n+size-1) / size
theorem prZ{size n k:Nat}(h:1<=size):k<nCh size n↔k*size<n:=by
 unfold nCh
 rw[Nat.lt_iff_add_one_le,Nat.le_div_iff_mul_le (by omega),Nat.add_mul]
 omega
theorem qvZ{size:Nat}(h:1<=size):nCh size 0=0:=by
 unfold nCh
 exact Nat.div_eq_of_lt (by omega)
theorem ghZb{size n:Nat}(h:1<=size)(hn:1<=n):nCh size n=nCh size (n-size)+1:=by
 unfold nCh
 by_cases hs:size<=n
 ·have e:n+size-1=(n-size+size-1)+size:=by omega
  rw[e,Nat.add_div_right _ (by omega)]
 ·have e:n-size=0:=by omega
  rw[e,Nat.zero_add,Nat.div_eq_of_lt (by omega:size-1<size)]
  have e2:n+size-1=(n-1)+size:=by omega
  rw[e2,Nat.add_div_right _ (by omega),Nat.div_eq_of_lt (by omega)]
theorem rqZ{size n:Nat}(h:1<=size):nCh size n<=n:=by
 refine Decidable.byContradiction fun hn=> ?_
 have h1:=(prZ (n:=n) (k:=n) h).1 (by omega)
 have h2:n*1<=n*size:=Nat.mul_le_mul_left n h
 omega
theorem txZ(size:Nat)(l:List Str):ecZ size l 0=l.take size:=by simp[ecZ]
theorem uxZ(size:Nat)(l:List Str)(k:Nat):ecZ size l (k+1)=ecZ size (l.drop size) k:=by
 unfold ecZ
 rw[List.drop_drop,Nat.add_mul,Nat.one_mul,Nat.add_comm]
theorem ioZ{size:Nat}(h:1<=size):∀ (f:Nat) (l:List Str),l.length<=f->tjZ size f l=(List.range (nCh size l.length)).map (ecZ size l)
 |0,l,hl=>by
  have e:l.length=0:=by omega
  rw[e,qvZ h]
  rfl
 |f+1,l,hl=>by
  rw[tjZ]
  by_cases e:l= []
  ·rw[if_pos e,e]
   show []=(List.range (nCh size 0)).map _
   rw[qvZ h]
   rfl
  ·have hp:1<=l.length:=List.length_pos_iff.2 e
   rw[if_neg e,ghZb h hp,List.range_succ_eq_map,List.map_cons,List.map_map,txZ,ioZ h f (l.drop size) (by rw[List.length_drop];omega),List.length_drop]
   congr 1
   exact List.map_congr_left fun k _=>(uxZ size l k).symm
theorem taZb{size:Nat}(h:1<=size)(l:List Str):njZ size l=(List.range (nCh size l.length)).map (ecZ size l):=ioZ h _ l (Nat.le_refl _)
theorem qpZ{size:Nat}(h:1<=size)(l:List Str):agZ size l=(nZ l.length++(List.range (nCh size l.length)).flatMap (fun k=>nZ (ibZ (ecZ size l k)).length))++(List.range (nCh size l.length)).flatMap (fun k=>ibZ (ecZ size l k)):=by
 unfold agZ
 rw[taZb h,List.flatMap_map,List.flatMap_map]
theorem atZ:∀ (t:List Str) (was:Str),(∀s∈t,s.length<=25)->was.length<=25->(zfZ was t).length<=31*t.length
 | [],_,_,_=>by simp[zfZ]
 |x :: t,was,h,hw=>by
  have hx:=h x List.mem_cons_self
  have ih:=atZ t x (fun s hs=>h s (List.mem_cons_of_mem _ hs)) hx
  have ha:=(vmZ was x).2
  rw[zfZ,List.length_append,List.length_append,List.length_cons,qqZ (by omega)]
  have:=kkZ (s:=x.drop (zZ was x)) (by rw[List.length_drop];omega)
  omega
theorem joZ{l:List Str}(h:∀s∈l,s.length<=25):(ibZ l).length<=31*l.length:=by
 cases l with
 |nil=>simp[ibZ]
 |cons x t=>
  rw[ibZ,List.length_append,List.length_cons]
  have:=kkZ (h x List.mem_cons_self)
  have:=atZ t x (fun s hs=>h s (List.mem_cons_of_mem _ hs)) (h x List.mem_cons_self)
  omega
theorem bmZ{size k:Nat}{l:List Str}{s:Str}(h:s∈ecZ size l k):s∈l:=List.mem_of_mem_drop (List.mem_of_mem_take h)
theorem cmZ(size k:Nat)(l:List Str):(ecZ size l k).length=min size (l.length-k*size):=by
 unfold ecZ
 rw[List.length_take,List.length_drop]
def Apt(v u:Value):Prop:=∀x,v.ownBlock=some x->u.ownBlock=some x->False
theorem Apt.symm{v u:Value}(h:Apt v u):Apt u v:=fun x a b=>h x b a
theorem udZ{w w':World}{base s m:Nat}{e:TypeId}{v v' u:Value}{ys:List Value}(hu:w.ownsRow base e s u m ys)(ha:Apt v u)(hg:w.grownBy w' v.ownBlock)(hat:v'.ownBlock=v.ownBlock∨v'.ownBlock=some w.heap.size):
 w'.ownsRow base e s u m ys/\Apt v' u:=by
 refine⟨eZ hu fun y hy=>hg.block y (World.ownsRow.lt hu y hy).2 fun e=>ha y e.symm hy,fun x hx hy=> ?_⟩
 rcases hat with h|h
 ·exact ha x (h ▸ hx) hy
 ·rw[h]at hx
  have:=(World.ownsRow.lt hu x hy).2
  injection hx
  omega
theorem miZ{w:World}{base s m:Nat}{e:TypeId}{v u:Value}{xs:List Value}{B:Nat}(hv:w.ownsRow base e s v m xs)(hB:B<=base)(hu:∀x,u.ownBlock=some x->x<B):Apt v u:=
 fun x a b=>by have:=(World.ownsRow.lt hv x a).1;have:=hu x b;omega
theorem dnZ:∀ (l:List Str) (was:Str),geZ was l=true->∀s∈l,1<=s.length/\s.length<=25
 | [],_,_,s,hs=>by cases hs
 |x :: t,was,h,s,hs=>by
  rw[geZ,Bool.and_eq_true]at h
  rcases List.mem_cons.1 hs with rfl|hs
  ·have h1:=h.1
   unfold dcZ at h1
   rw[Bool.and_eq_true,Bool.and_eq_true,decide_eq_true_iff,decide_eq_true_iff]at h1
   exact⟨h1.1,h1.2.1⟩
  ·exact dnZ t x h.2 s hs
theorem ijZ{l:List Str}(h:nlZ l=true):∀s∈l,1<=s.length/\s.length<=25:=by
 unfold nlZ at h
 rw[Bool.and_eq_true]at h
 exact dnZ l [] h.1
def hdB(size:Nat)(l:List Str)(q:Nat):List Nat:=nZ l.length++(List.range q).flatMap (fun k=>nZ (ibZ (ecZ size l k)).length)
def bdB(size:Nat)(l:List Str)(q:Nat):List Nat:=(List.range q).flatMap (fun k=>ibZ (ecZ size l k))
theorem hhZb(size:Nat)(l:List Str)(q:Nat):hdB size l (q+1)=hdB size l q++nZ (ibZ (ecZ size l q)).length:=by simp[hdB,List.range_succ]
theorem ihZb(size:Nat)(l:List Str)(q:Nat):bdB size l (q+1)=bdB size l q++ibZ (ecZ size l q):=by simp[bdB,List.range_succ]
theorem lkZ{size:Nat}{l:List Str}(hs:∀s∈l,s.length<=25)(h2:size<=64)(q:Nat):(ibZ (ecZ size l q)).length<=1984:=by
 have h:=joZ (l:=ecZ size l q) (fun s hs'=>hs s (bmZ hs'))
 rw[cmZ]at h
 omega
theorem snZ{size:Nat}{l:List Str}(hs:∀s∈l,s.length<=25)(h2:size<=64)(hl:l.length<=1000000):∀q,(hdB size l q).length<=10+10*q
 |0=>by
  have:=rZ (x:=l.length) (by omega)
  simp[hdB]
  omega
 |q+1=>by
  have ih:=snZ hs h2 hl q
  have hc:=lkZ hs h2 q
  have:=rZ (x:=(ibZ (ecZ size l q)).length) (by omega)
  rw[hhZb,List.length_append]
  omega
theorem dmZ{size:Nat}{l:List Str}(hs:∀s∈l,s.length<=25)(h1:1<=size):∀q,(bdB size l q).length<=31*min (q*size) l.length
 |0=>by simp[bdB]
 |q+1=>by
  have ih:=dmZ hs h1 q
  have hc:=joZ (l:=ecZ size l q) (fun s hs'=>hs s (bmZ hs'))
  rw[cmZ]at hc
  rw[ihZb,List.length_append,Nat.add_mul,Nat.one_mul]
  omega
end Go.Proofs.YtbgoibedicbkjaaGreatDoor.Idx
namespace Go.Proofs.YtbgoibedicbkjaaGreatDoor.Idx
open Go.RowKit Mem Own Canon
open NumPut Recs Go.Proofs.YtbgoibedicbkjaaGreatDoor Crc Block
def xeZ(x:Nat):List Nat:= [x % 256,x / 256 % 256,x / 65536 % 256,x / 16777216 % 256]
def ziZ(x:Nat):Nat->Array Value
 |0=>#[.int .u8 0, .int .u8 0, .int .u8 0, .int .u8 0]
 |1=>#[.int .u8 ((x:Int) % 256), .int .u8 0, .int .u8 0, .int .u8 0]
 |2=>#[.int .u8 ((x:Int) % 256), .int .u8 ((x:Int) / 256 % 256), .int .u8 0, .int .u8 0]
 |3=>#[.int .u8 ((x:Int) % 256), .int .u8 ((x:Int) / 256 % 256), .int .u8 ((x:Int) / 65536 % 256), .int .u8 0]
 |_=>#[.int .u8 ((x:Int) % 256), .int .u8 ((x:Int) / 256 % 256), .int .u8 ((x:Int) / 65536 % 256), .int .u8 ((x:Int) / 16777216 % 256)]
theorem jhZb(x:Nat):(ziZ x 4).toList=cZ .u8 (xeZ x):=by
 simp[ziZ,xeZ,cZ]
theorem rvZ:(Tryz.prog.info? 5).map (fun i=>(i.zero,i.size,i.bytes))=some (some (.int .u8 0),1,1):=by kernel_rfl
theorem ldZb(w:World):(Instr.makeSlice 22 (.int .i64 4) (.int .i64 4)).run Tryz.prog w= .ok (.slice (some ⟨w.heap.size,0,none⟩) 4 4) (w.alloc (.cells #[.int .u8 0, .int .u8 0, .int .u8 0, .int .u8 0] 5)):=by
 obtain⟨i0,hi,hz0,hz1,hz2⟩:=info_parts rvZ
 have h:=run_make (P:=Tryz.prog) w 22 5 i0 (.int .u8 0) Tryz.underlying22 hi hz0 .i64 .i64 (4:Int) (4:Int) (by omega) (Int.le_refl _) (by rw[hz2];omega) (by omega)
 rw[h,hz1]
 have e:madeCells (Value.int IntKind.u8 0).cells (Int.toNat 4*1)=#[.int .u8 0, .int .u8 0, .int .u8 0, .int .u8 0]:=by kernel_rfl
 rw[e]
 rfl
theorem ykZ(x:Int):IntKind.u8.wrap x=x % 256:=IntKind.wrap_u8 x
theorem uaZb(w:World)(x:Nat)(hx:x<4294967296):
 Calls Tryz.prog 58 #[.int .u64 x, .int .i64 4] w fun e w'=>∃v,e= .returned (.tuple #[v, .int .i64 0])/\w'.ownsRow w.heap.size 5 1 v 4 (cZ .u8 (xeZ x))/\Below w.heap.size w w':=by
 have hd:(((x:Int) / 4294967296) != 0)=false:=by simp;omega
 have hm:=ldZb
 have w0:=ykZ (x:Int)
 have w1:=ykZ ((x:Int) / 256)
 have w2:=ykZ ((x:Int) / 65536)
 have w3:=ykZ ((x:Int) / 16777216)
 go_enter Tryz.func58,Tryz.ntmps58
 go_wp2_with fail
 have HX0:Hid (Blk (w.alloc (.cells #[.int .u8 0, .int .u8 0, .int .u8 0, .int .u8 0] 5)) w.heap.size 5 (ziZ x 0)):=Blk.made _ _ _
 have HB0:Hid (Below w.heap.size w (w.alloc (.cells #[.int .u8 0, .int .u8 0, .int .u8 0, .int .u8 0] 5))):=aZ (Below.refl _ _)
 generalize w.alloc (.cells #[.int .u8 0, .int .u8 0, .int .u8 0, .int .u8 0] 5)=wa at *
 go_loopw [29] (fun iv wr=>∃k:Nat,k<=4/\iv= .int .i64 k/\Hid (Blk wr w.heap.size 5 (ziZ x k))/\Hid (Below w.heap.size w wr)) (fun iv _=>4-(intOf iv).toNat)
 case atStart=>exact⟨0,by omega,rfl,HX0.out,HB0.out⟩
 case round=>
  obtain⟨k,hk,rfl,HX,HB⟩:=hrel
  clear HX0 HB0 hm
  have hk5:k=0∨k=1∨k=2∨k=3∨k=4:=by omega
  rcases hk5 with rfl|rfl|rfl|rfl|rfl
  ·have c:=HX.out.cell 0
   have f:=HX.out.frozen 0
   have HX2:Hid (Blk (wr.setCell ⟨w.heap.size,0,none⟩ (.int .u8 ((x:Int) % 256))) w.heap.size 5 (ziZ x 1)):=HX.out.set 0 _
   have HB2:Hid (Below w.heap.size w (wr.setCell ⟨w.heap.size,0,none⟩ (.int .u8 ((x:Int) % 256)))):=fZ (Nat.le_refl _) HB.out
   simp[ziZ]at c
   clear HX HB
   go_wp2_with fail
   exact⟨⟨1,by omega,rfl,HX2,HB2⟩,by simp[intOf]⟩
  ·have c:=HX.out.cell 1
   have f:=HX.out.frozen 1
   have HX2:Hid (Blk (wr.setCell ⟨w.heap.size,1,none⟩ (.int .u8 ((x:Int) / 256 % 256))) w.heap.size 5 (ziZ x 2)):=HX.out.set 1 _
   have HB2:Hid (Below w.heap.size w (wr.setCell ⟨w.heap.size,1,none⟩ (.int .u8 ((x:Int) / 256 % 256)))):=fZ (Nat.le_refl _) HB.out
   simp[ziZ]at c
   clear HX HB
   go_wp2_with fail
   exact⟨⟨2,by omega,rfl,HX2,HB2⟩,by simp[intOf]⟩
  ·have c:=HX.out.cell 2
   have f:=HX.out.frozen 2
   have HX2:Hid (Blk (wr.setCell ⟨w.heap.size,2,none⟩ (.int .u8 ((x:Int) / 65536 % 256))) w.heap.size 5 (ziZ x 3)):=HX.out.set 2 _
   have HB2:Hid (Below w.heap.size w (wr.setCell ⟨w.heap.size,2,none⟩ (.int .u8 ((x:Int) / 65536 % 256)))):=fZ (Nat.le_refl _) HB.out
   simp[ziZ]at c
   clear HX HB
   go_wp2_with fail
   exact⟨⟨3,by omega,rfl,HX2,HB2⟩,by simp[intOf]⟩
  ·have c:=HX.out.cell 3
   have f:=HX.out.frozen 3
   have HX2:Hid (Blk (wr.setCell ⟨w.heap.size,3,none⟩ (.int .u8 ((x:Int) / 16777216 % 256))) w.heap.size 5 (ziZ x 4)):=HX.out.set 3 _
   have HB2:Hid (Below w.heap.size w (wr.setCell ⟨w.heap.size,3,none⟩ (.int .u8 ((x:Int) / 16777216 % 256)))):=fZ (Nat.le_refl _) HB.out
   simp[ziZ]at c
   clear HX HB
   go_wp2_with fail
   exact⟨⟨4,by omega,rfl,HX2,HB2⟩,by simp[intOf]⟩
  ·go_wp2_with fail
   go_ret2
   refine⟨_,rfl,⟨rfl, .inr ⟨w.heap.size,4,_,rfl,Nat.le_refl _,HX.out,by omega,by unfold maxLen;omega,rfl,?_⟩⟩,HB.out⟩
   rw[<-jhZb]
   rfl
def ckZ(x k:Nat):List Nat:=(List.range k).map fun i=>x / 256 ^ i % 256
theorem mdZb(x:Nat):ckZ x 4=xeZ x:=by simp[ckZ,xeZ,List.range_succ]
theorem ndZb(x k:Nat):ckZ x (k+1)=ckZ x k++ [x / 256 ^ k % 256]:=by simp[ckZ,List.range_succ]
theorem vxZ(w:World)(x:Nat)(hx:x<4294967296):
 Calls Tryz.prog 82 #[.int .u64 x, .int .i64 4] w fun e w'=>∃v,e= .returned (.tuple #[v, .int .i64 0])/\w'.ownsRow w.heap.size 5 1 v 4 (cZ .u8 (xeZ x))/\Below w.heap.size w w':=by
 obtain⟨j0,hj0,hy0,hy1,hy2⟩:=info_parts rvZ
 go_enter Tryz.func82,Tryz.ntmps82
 go_wp2_with fail
 go_loopw [0,6,7] (fun xv uv iv wr=>∃k y:Nat,k<=4/\y<4294967296/\iv= .int .i64 k/\xv= .int .u64 y/\Hid (y=x / 256 ^ k)/\Hid (wr.ownsRow w.heap.size 5 1 uv k (cZ .u8 (ckZ x k)))/\Hid (Below w.heap.size w wr)) (fun _ _ iv _=>4-(intOf iv).toNat)
 case atStart=>exact⟨0,x,by omega,hx,rfl,rfl,(by show x=x / 256 ^ 0;simp),World.ownsRow_nil _ _ _ _,Below.refl _ _⟩
 case round=>
  obtain⟨k,y,hk,hy,rfl,rfl,HY,HO,HB⟩:=hrel
  obtain⟨wi,rfl⟩:∃wi:World,wi=wr:=⟨_,rfl⟩
  obtain⟨A1,c1,rfl⟩:=bZ HO.out
  by_cases hlt:k<4
  ·have gk:decide ((k:Int)<4)=true:=by simp;omega
   have gk':decide (k<4)=true:=by simp;omega
   have u1:IntKind.u8.wrap ((y:Int) % 256)=((y % 256:Nat):Int):=by rw[ykZ];omega
   have hzi:=HB.out.size
   have HY2:Hid (y / 256=x / 256 ^ (k+1)):=by show _=_;rw[HY.out,Nat.div_div_eq_div_mul,Nat.pow_succ]
   have HL:Hid (ckZ x (k+1)=ckZ x k++ [y % 256]):=by show _=_;rw[ndZb,HY.out]
   clear HY
   go_wp2_with(at_builtin;refine kZ rfl (.tmp 19) (.tmp 23) 22 rfl w.heap.size 5 j0 _ 1 1 Tryz.underlying22 hj0 hy0 hy1 hy2 rfl (by decide) _ _ _ (by rfl) (HO.out.alloc _) _ 1 1 [.int .u8 (y % 256:Nat)] (by rfl) (Src.of_blk (Blk.made_at _ _ _ (by simp)) 1 1 1 rfl) (by intro u hu;simp at hu;rcases hu with rfl;rfl) (by unfold maxLen;omega) (by omega) (by simp;omega) ?_;intro v6 w6 hown6 hg6 hat6;obtain⟨A6,c6,rfl⟩:=bZ hown6)
   have HO7:Hid (w6.ownsRow w.heap.size 5 1 (.slice A6 (k+1) c6) (k+1) (cZ .u8 (ckZ x (k+1)))):=by
    show World.ownsRow _ _ _ _ _ _ _
    rw[HL.out,show cZ .u8 (ckZ x k++ [y % 256])=cZ .u8 (ckZ x k)++ [.int .u8 (y % 256:Nat)] by simp[cZ]]
    exact hown6
   have HB7:Hid (Below w.heap.size w w6):=(gZ hzi HB.out).grown hg6 (by simp;omega) (fun z hz=>(World.ownsRow.lt HO.out z hz).1)
   clear hown6 hg6 hat6 HO HB HL
   go_roundw
   case measure=>go_light;simp[intOf];omega
   case rel=>go_light;exact⟨k+1,y / 256,by omega,by omega,by first|rfl|go_num,by first|rfl|go_num,HY2.out,HO7.out,HB7.out⟩
  ·obtain rfl:k=4:=by omega
   have hy0':y=0:=by rw[HY.out];exact Nat.div_eq_of_lt (by omega)
   subst hy0'
   clear HY
   go_wp2_with fail
   go_ret2
   exact⟨_,rfl,by rw[<-mdZb];exact HO.out,HB.out⟩
end Go.Proofs.YtbgoibedicbkjaaGreatDoor.Idx
namespace Go.Proofs.YtbgoibedicbkjaaGreatDoor.Ef
open Go.RowKit Mem Own Canon Huff NumPut
structure Prt (t:TypeId) (w:World) (base g W:Nat) (hs ls:List Nat) (vH vL:Value):Prop where
 blk:Blk w g t #[.int .i64 (W:Nat),vH,vL]
 oh:w.ownsRow base 3 1 vH hs.length (cZ .i64 hs)
 ol:w.ownsRow base 47 1 vL ls.length (cZ .u16 ls)
 gb:base<=g
theorem odZb:(Tryz.prog.info? 47).map (fun i=>(i.zero,i.size,i.bytes))=some (some (.int .u16 0),1,2):=by kernel_rfl
theorem btZ:(Tryz.prog.info? 3).map (fun i=>(i.zero,i.size,i.bytes))=some (some (.int .i64 0),1,8):=by kernel_rfl
theorem Prt.highs{t:TypeId}(ht1:3≠t)(ht2:47≠t){w w1 w3:World}{base g W x:Nat}{hs ls:List Nat}{vH vL v3:Value}(h:Prt t w base g W hs ls vH vL)(hb:Below w.heap.size w w1)(hg:w1.grownBy w3 vH.ownBlock)
 (hown:w3.ownsRow base 3 1 v3 (hs.length+1) (cZ .i64 hs++ [.int .i64 (x:Nat)])):Prt t (w3.setCell ⟨g,1,none⟩ v3) base g W (hs++ [x]) ls v3 vL:=by
 have hne:vH.ownBlock≠some g:=jZ h.oh h.blk ht1
 have b1:=h.blk.step hb
 have b3:Blk w3 g t #[.int .i64 (W:Nat),vH,vL]:=b1.grown hg (Ne.symm hne)
 have o1:w1.ownsRow base 47 1 vL ls.length (cZ .u16 ls):=eZ h.ol (fun y hy=>hb.block y (World.ownsRow.lt h.ol y hy).2)
 have o3:w3.ownsRow base 47 1 vL ls.length (cZ .u16 ls):=eZ o1 (fun y hy=>hg.block y (World.ownsRow.lt o1 y hy).2 (fun e=>by
  rcases ddZ h.oh h.ol (by decide)with e2|e2
  ·rw[e2]at e;cases e
  ·exact e2 (by rw[<-e,hy])))
 have hn3:v3.ownBlock≠some g:=jZ hown b3 ht1
 have hnl:vL.ownBlock≠some g:=jZ o3 b3 ht2
 refine⟨by simpa using b3.set 1 v3,?_,eZ o3 (fun y hy=>Below.heap_setCell _ _ _ y (fun e=>hnl (by rw[hy,e]))),h.gb⟩
 have e1:cZ .i64 (hs++ [x])=cZ .i64 hs++ [.int .i64 (x:Nat)]:=by simp[cZ]
 rw[List.length_append,e1]
 exact eZ hown (fun y hy=>Below.heap_setCell _ _ _ y (fun e=>hn3 (by rw[hy,e])))
theorem Prt.lows{t:TypeId}(ht1:3≠t)(ht2:47≠t){w w1 w3:World}{base g W x:Nat}{hs ls:List Nat}{vH vL v3:Value}(h:Prt t w base g W hs ls vH vL)(hb:Below w.heap.size w w1)(hg:w1.grownBy w3 vL.ownBlock)
 (hown:w3.ownsRow base 47 1 v3 (ls.length+1) (cZ .u16 ls++ [.int .u16 (x:Nat)])):Prt t (w3.setCell ⟨g,2,none⟩ v3) base g W hs (ls++ [x]) vH v3:=by
 have hne:vL.ownBlock≠some g:=jZ h.ol h.blk ht2
 have b1:=h.blk.step hb
 have b3:Blk w3 g t #[.int .i64 (W:Nat),vH,vL]:=b1.grown hg (Ne.symm hne)
 have o1:w1.ownsRow base 3 1 vH hs.length (cZ .i64 hs):=eZ h.oh (fun y hy=>hb.block y (World.ownsRow.lt h.oh y hy).2)
 have o3:w3.ownsRow base 3 1 vH hs.length (cZ .i64 hs):=eZ o1 (fun y hy=>hg.block y (World.ownsRow.lt o1 y hy).2 (fun e=>by
  rcases ddZ h.ol h.oh (by decide)with e2|e2
  ·rw[e2]at e;cases e
  ·exact e2 (by rw[<-e,hy])))
 have hn3:v3.ownBlock≠some g:=jZ hown b3 ht2
 have hnl:vH.ownBlock≠some g:=jZ o3 b3 ht1
 refine⟨by simpa using b3.set 2 v3,eZ o3 (fun y hy=>Below.heap_setCell _ _ _ y (fun e=>hnl (by rw[hy,e]))),?_,h.gb⟩
 have e1:cZ .u16 (ls++ [x])=cZ .u16 ls++ [.int .u16 (x:Nat)]:=by simp[cZ]
 rw[List.length_append,e1]
 exact eZ hown (fun y hy=>Below.heap_setCell _ _ _ y (fun e=>hn3 (by rw[hy,e])))
theorem pdZb:∀n:Int,0<=n->n<2 ^ 20->IntKind.i64.wrap n=n:=fun n h0 h1=>IntWalk.i64_in _ (by omega)
theorem khZb(x W:Nat)(hx:x<=100000)(hW:W<=14):IntKind.u16.wrap (bits .and .i64 (x:Int) (IntKind.i64.wrap (IntKind.i64.wrap (2 ^ W)-1)))=((x % 2 ^ W:Nat):Int):=by
 have h1:2 ^ W<=2 ^ 14:=Nat.pow_le_pow_right (by omega) hW
 have h0:1<=2 ^ W:=Nat.one_le_two_pow
 have e0:((2:Int) ^ W)=((2 ^ W:Nat):Int):=by simp
 have hlt:x % 2 ^ W<2 ^ W:=Nat.mod_lt _ (by omega)
 rw[e0,IntWalk.i64_in ((2 ^ W:Nat):Int) (by omega)]
 have e1:(((2 ^ W:Nat):Int)-1)=((2 ^ W-1:Nat):Int):=by omega
 rw[e1,IntWalk.i64_in ((2 ^ W-1:Nat):Int) (by omega),(bits_nat .i64 20 (by decide) pdZb x (2 ^ W-1) (by omega) (by omega)).1,Nat.and_two_pow_sub_one_eq_mod,IntKind.wrap_u16]
 omega
theorem ctZ(t:TypeId)(ht1:3≠t)(ht2:47≠t)(w:World)(base g W:Nat)(hs ls:List Nat)(vH vL:Value)(x:Nat)(hx:x<=100000)(hW:W<=14)(hh:hs.length<=100000)(hl:ls.length<=100000)(hP:Prt t w base g W hs ls vH vL):
 Calls Tryz.prog 152 #[.pointer (some ⟨g,0,none⟩), .int .i64 (x:Nat)] w fun e w'=>e= .returned (.tuple #[])/\∃vH' vL',Prt t w' base g W (hs++ [x / 2 ^ W]) (ls++ [x % 2 ^ W]) vH' vL'/\Below base w w'/\Kept (fun y=>y<w.heap.size/\y≠g/\vH.ownBlock≠some y/\vL.ownBlock≠some y) w w'/\(∀y,y<w.heap.size->vL'.ownBlock=some y->vL.ownBlock=some y):=by
 obtain⟨j0,hj0,hy0,hy1,hy2⟩:=info_parts btZ
 obtain⟨k0,hk0,hz0,hz1,hz2⟩:=info_parts odZb
 have c0:=hP.blk.cell 0
 have c1:=hP.blk.cell 1
 have c2:=hP.blk.cell 2
 have f1:=hP.blk.frozen 1
 have f2:=hP.blk.frozen 2
 simp only[List.getElem?_toArray,List.getElem?_cons_zero,List.getElem?_cons_succ]at c0 c1 c2
 have hgl:=hP.blk.lt
 have hgb:=hP.gb
 have hown:=hP.oh
 have hne:some g≠vH.ownBlock:=Ne.symm (jZ hP.oh hP.blk ht1)
 obtain⟨p,hp⟩:∃p,p=hs.length:=⟨_,rfl⟩
 obtain⟨q,hq⟩:∃q,q=ls.length:=⟨_,rfl⟩
 rw[<-hp]at hown hh
 obtain⟨AH,cH,rfl⟩:=bZ hown
 have HP:=hid hP
 have HPL:=hid hp
 have HQL:=hid hq
 have HLL:=hid hl
 obtain⟨hi,hhi⟩:∃hi,hi=x / 2 ^ W:=⟨_,rfl⟩
 obtain⟨lo,hlo⟩:∃lo,lo=x % 2 ^ W:=⟨_,rfl⟩
 rw[<-hhi,<-hlo]
 have eh:(x:Int) / 2 ^ W=(hi:Int):=by rw[hhi];simp
 have el:IntKind.u16.wrap (bits .and .i64 (x:Int) (IntKind.i64.wrap (IntKind.i64.wrap (2 ^ W)-1)))=(lo:Int):=by rw[hlo];exact khZb x W hx hW
 have HHI:=hid hhi
 have HLO:=hid hlo
 clear hP hp hq hhi hlo hl
 go_enter Tryz.func152,Tryz.ntmps152
 go_upto_region 0 with fail
 go_region_law((refine step_append_lies _ (by rfl) _ _ _ (by rfl) base 3 j0 _ 1 8 Tryz.underlying30 hj0 hy0 hy1 hy2 rfl (by omega) (.slice AH p cH) p (cZ .i64 hs) (by rfl) ((hown.alloc _).drew) ⟨w.heap.size,0,none⟩ 1 1 [.int .i64 (hi:Nat)] (by rfl) (by rfl) (World.news_of_block (cs:=#[.int .i64 (hi:Nat)]) (t:=3) (fr:=(0,0)) (heap_alloc_new w _)) (by intro u hu;simp at hu;subst hu;rfl) (by omega) (by unfold maxLen;omega) (by omega) (by simp;omega) (w.heap.size+1) (by simp) ?_;intro g3 cap3 w3 hown3 hgrow hat hlt3;have gb:w3.heap[g]? =w.heap[g]? :=(hgrow.block g (by simp;omega) hne).trans (Below.heap_alloc w _ g hgl);have p0:=(World.cell?_of_block (a:=⟨g,0,none⟩) gb).trans c0;have p1:=(World.cell?_of_block (a:=⟨g,1,none⟩) gb).trans c1;have p2:=(World.cell?_of_block (a:=⟨g,2,none⟩) gb).trans c2;have q1:=(World.frozen?_of_block (a:=⟨g,1,none⟩) gb).trans f1))
 all_goals
  have hP2:Prt t (w3.setCell ⟨g,1,none⟩ (.slice (some ⟨g3,0,none⟩) (p+1) cap3)) base g W (hs++ [hi]) ls (.slice (some ⟨g3,0,none⟩) (p+1) cap3) vL:=HP.out.highs ht1 ht2 (aZ (Below.refl _ w)).drew hgrow (by rw[<-HPL.out];exact hown3)
  have hB2:Below base w (w3.setCell ⟨g,1,none⟩ (.slice (some ⟨g3,0,none⟩) (p+1) cap3)):=(((Below.refl base w).alloc (by omega) _).drew.grown hgrow (by simp;omega) (fun y hy=>(World.ownsRow.lt hown y hy).1)).setCell (p:=⟨g,1,none⟩) hgb _
  have HK2:Hid (Kept (fun y=>y<w.heap.size/\y≠g/\(Value.slice AH p cH).ownBlock≠some y/\vL.ownBlock≠some y) w (w3.setCell ⟨g,1,none⟩ (.slice (some ⟨g3,0,none⟩) (p+1) cap3))):=((((Kept.refl _ w).alloc (fun y hy=>hy.1) _).drew.grown hgrow (fun y hy=>by have:=hy.1;simp;omega) (fun y hy hk=>hk.2.2.1 hy))).set (fun h=>h.2.1 rfl) _
  generalize w3.setCell ⟨g,1,none⟩ (.slice (some ⟨g3,0,none⟩) (p+1) cap3)=wb at *
  clear hown3 hgrow hat hlt3 gb p0 p1 p2 q1
  have HB2:=hid hB2
  have d0:=hP2.blk.cell 0
  have d2:=hP2.blk.cell 2
  have e2:=hP2.blk.frozen 2
  simp only[List.getElem?_toArray,List.getElem?_cons_zero,List.getElem?_cons_succ]at d0 d2
  have hgl2:=hP2.blk.lt
  have hown2:=hP2.ol
  have hne2:some g≠vL.ownBlock:=Ne.symm (jZ hP2.ol hP2.blk ht2)
  rw[<-HQL.out]at hown2
  obtain⟨AL,cL,rfl⟩:=bZ hown2
  have HP2:=hid hP2
  have hql:q<=100000:=by rw[HQL.out];exact HLL.out
  clear hP2 hB2 c0 c1 c2 f1 f2 hne hown
  go_upto_region 1 with fail
  go_region_law((refine step_append_lies _ (by rfl) _ _ _ (by rfl) base 47 k0 _ 1 2 Tryz.underlying200 hk0 hz0 hz1 hz2 rfl (by omega) (.slice AL q cL) q (cZ .u16 ls) (by rfl) ((hown2.alloc _).drew) ⟨wb.heap.size,0,none⟩ 1 1 [.int .u16 (lo:Nat)] (by rfl) (by rfl) (World.news_of_block (cs:=#[.int .u16 (lo:Nat)]) (t:=47) (fr:=(0,0)) (heap_alloc_new wb _)) (by intro u hu;simp at hu;subst hu;rfl) (by omega) (by unfold maxLen;omega) (by omega) (by simp;omega) (wb.heap.size+1) (by simp) ?_;intro g4 cap4 w4 hown4 hgrow4 hat4 hlt4;have gb:w4.heap[g]? =wb.heap[g]? :=(hgrow4.block g (by simp;omega) hne2).trans (Below.heap_alloc wb _ g hgl2);have p0:=(World.cell?_of_block (a:=⟨g,0,none⟩) gb).trans d0;have p2:=(World.cell?_of_block (a:=⟨g,2,none⟩) gb).trans d2;have q2:=(World.frozen?_of_block (a:=⟨g,2,none⟩) gb).trans e2))
  all_goals
   have hP4:Prt t (w4.setCell ⟨g,2,none⟩ (.slice (some ⟨g4,0,none⟩) (q+1) cap4)) base g W (hs++ [hi]) (ls++ [lo]) (.slice (some ⟨g3,0,none⟩) (p+1) cap3) (.slice (some ⟨g4,0,none⟩) (q+1) cap4):=HP2.out.lows ht1 ht2 (aZ (Below.refl _ wb)).drew hgrow4 (by rw[<-HQL.out];exact hown4)
   have hB4:Below base w (w4.setCell ⟨g,2,none⟩ (.slice (some ⟨g4,0,none⟩) (q+1) cap4)):=((HB2.out.alloc (by omega) _).drew.grown hgrow4 (by simp;omega) (fun y hy=>(World.ownsRow.lt hown2 y hy).1)).setCell (p:=⟨g,2,none⟩) hgb _
   have zz:=HK2.out.size
   have HK4:Hid (Kept (fun y=>y<w.heap.size/\y≠g/\(Value.slice AH p cH).ownBlock≠some y/\(Value.slice AL q cL).ownBlock≠some y) w (w4.setCell ⟨g,2,none⟩ (.slice (some ⟨g4,0,none⟩) (q+1) cap4))):=(((HK2.out.alloc (fun y hy=>by have:=hy.1;omega) _).drew.grown hgrow4 (fun y hy=>by have:=hy.1;simp;omega) (fun y hy hk=>hk.2.2.2 hy))).set (fun h=>h.2.1 rfl) _
   have HL4:Hid (∀y,y<w.heap.size->(Value.slice (some ⟨g4,0,none⟩) (q+1) cap4).ownBlock=some y->(Value.slice AL q cL).ownBlock=some y):=fun y hy he=>by
    rcases hat4 with h|h
    ·rw[h];exact he
    ·have e:g4=y:=by injection he
     omega
   clear hat4
   go_wp2_with fail
   go_end0
   exact⟨rfl,_,_,hP4,hB4,HK4.out,HL4.out⟩
theorem lhZb(t:TypeId)(ht1:3≠t)(ht2:47≠t)(w:World)(base g W:Nat)(hs ls:List Nat)(vH vL:Value)(x:Nat)(hx:x<=100000)(hW:W<=14)(hh:hs.length<=100000)(hl:ls.length<=100000)(hP:Prt t w base g W hs ls vH vL):
 Calls Tryz.prog 152 #[.pointer (some ⟨g,0,none⟩), .int .i64 (x:Nat)] w fun e w'=>e= .returned (.tuple #[])/\∃vH' vL',Prt t w' base g W (hs++ [x / 2 ^ W]) (ls++ [x % 2 ^ W]) vH' vL'/\Below base w w':=
 (ctZ t ht1 ht2 w base g W hs ls vH vL x hx hW hh hl hP).mono fun _ _ ⟨h1,vH',vL',h2,h3,_⟩=>⟨h1,vH',vL',h2,h3⟩
end Go.Proofs.YtbgoibedicbkjaaGreatDoor.Ef
namespace Go.Proofs.YtbgoibedicbkjaaGreatDoor.Ef
open Go.RowKit Mem Own Canon Huff NumPut
open Go.Proofs.YtbgoibedicbkjaaGreatDoor.Block (oZ)
theorem own_row{w:World}{base:Nat}{e:TypeId}{k:IntKind}{A:Option Addr}{n c:Nat}{ls:List Nat}(h:w.ownsRow base e 1 (.slice A n c) n (cZ k ls))(hn:ls.length=n):Row w w.heap.size A n 1 (mZ k ls):=
 Row.of_own h rfl (fun i j hi hj=>by have e0:j=0:=(by omega);subst e0;exact numL_get (by omega))
theorem koZ(w:World)(bound:Nat)(A:Option Addr)(n c:Nat)(ls:List Nat)(hn:ls.length=n)(h1:1<=n)(hnb:n<=bound)(hb:bound<=20000)(hm:ycZ bound none ls=true)(ha:Row w w.heap.size A n 1 (mZ .i64 ls)):
 Calls Tryz.prog 103 #[.int .i64 bound, .slice A n c] w fun e w'=>∃v,e= .returned (.tuple #[v, .int .i64 0])/\w'.ownsRow w.heap.size 5 1 v (efO bound ls).length (cZ .u8 (efO bound ls))/\Below w.heap.size w w':=by
 have HN:=hid hn
 have HA:=hid ha
 have DM:=hid (ixZ w bound A n c ls hn (by omega) ha)
 rw[hm]at DM
 have hq:1<=bound / n:=(Nat.one_le_div_iff (by omega)).2 hnb
 have DN:=hid (fun wx=>pcZ wx n (by omega))
 have DW:=hid (fun wx=>ssZ wx bound n h1 hnb (by omega))
 have hnl:=rZ (x:=n) (by omega)
 have y1:decide ((bound:Int)<0)=false:=by simp
 have y2:decide ((20000:Int)<(bound:Int))=false:=by simp;omega
 have y2':decide (20000<bound)=false:=by simp;omega
 have u1:IntKind.u64.wrap (n:Int)=(n:Int):=by rw[IntKind.wrap_u64];omega
 have z1:((n:Int)==0)=false:=by simp;omega
 have hn0:¬(n:Int)=0:=by omega
 have HLT:Hid (∀x∈ls,x<bound):=kiZ bound ls none hm
 have HRI:Hid (∀ (k x y:Nat),ls[k]? =some x->ls[k+1]? =some y->x<y):=wmZ bound ls none hm
 have HE:Hid (efO bound ls=nZ n++bytesOf (uhZ (efW bound n) ls)):=by
  show _=_
  unfold efO
  rw[if_neg (fun e=>by rw[e]at hn;simp at hn;omega),hn]
 have hW15:efW bound n<=14:=by
  refine Decidable.byContradiction fun h=> ?_
  have h2:2 ^ 15<=2 ^ efW bound n:=Nat.pow_le_pow_right (by omega) (by omega)
  have h3:=wkZ (q:=bound / n) (by omega)
  have h4:bound / n<=bound:=Nat.div_le_self _ _
  unfold efW at h2
  omega
 obtain⟨W,hW⟩:∃W,W=efW bound n:=⟨_,rfl⟩
 rw[<-hW]at DW HE hW15
 clear hn ha hm hW hq
 go_enter Tryz.func103,Tryz.ntmps103
 go_wp2_with fail
 refine DM.out.mono ?_
 rintro e w1 ⟨rfl,rfl⟩
 obtain⟨w,rfl⟩:∃w:World,w=w1:=⟨_,rfl⟩
 clear DM
 go_wp2_with fail
 refine(DN.out _).mono ?_
 rintro e w2 ⟨v2,rfl,ho2,hb2⟩
 obtain⟨A2,c2,rfl⟩:=bZ ho2
 have HB2:=hid hb2
 have HO2:=hid ho2
 clear ho2 hb2 DN
 go_wp2_with fail
 refine(DW.out _).mono ?_
 rintro e w3 ⟨rfl,rfl⟩
 go_wp2_with fail
 have hb4:Below w3.heap.size w3 (w3.alloc (.cells #[.int .i64 W, .slice none 0 0, .slice none 0 0] 202)):=aZ (Below.refl _ _)
 have HP4:Hid (Prt 202 (w3.alloc (.cells #[.int .i64 W, .slice none 0 0, .slice none 0 0] 202)) w3.heap.size w3.heap.size W ((ls.take 0).map (·/ 2 ^ W)) ((ls.take 0).map (·% 2 ^ W)) (.slice none 0 0) (.slice none 0 0)):=⟨Blk.made _ _ _,World.ownsRow_nil _ _ _ _,World.ownsRow_nil _ _ _ _,Nat.le_refl _⟩
 generalize w3.alloc (.cells #[.int .i64 W, .slice none 0 0, .slice none 0 0] 202)=w4 at *
 have HB4:=hid hb4
 clear hb4
 go_loopw [43] (fun iv wr=>∃ (k:Nat) (vH vL:Value),k<=n/\iv= .int .i64 k/\Hid (Prt 202 wr w3.heap.size w3.heap.size W ((ls.take k).map (·/ 2 ^ W)) ((ls.take k).map (·% 2 ^ W)) vH vL)/\Hid (Below w3.heap.size w3 wr)) (fun iv _=>n-(intOf iv).toNat)
 case atStart=>exact⟨0,_,_,by omega,rfl,HP4.out,HB4.out⟩
 case round=>
  obtain⟨k,vH,vL,hk,rfl,HP,HB⟩:=hrel
  clear HP4 HB4
  obtain⟨wi,rfl⟩:∃wi:World,wi=wr:=⟨_,rfl⟩
  have HBT:Hid (Below w.heap.size w wi):=iZ HB.out HB2.out.size HB2.out
  by_cases hlt:k<n
  ·have har:Row wi w.heap.size A n 1 (mZ .i64 ls):=HA.out.below HBT.out
   have gk:decide ((k:Int)<(n:Int))=true:=by simp;omega
   have gk':decide (k<n)=true:=by simp;omega
   have x0:(0:Int)<=(k:Int):=by omega
   have x1:(k:Int)<(n:Int):=by omega
   obtain⟨b,off,x,rfl,_,hx,ck⟩:=kbZ har HN.out hlt
   have hxb:=HLT.out x (List.mem_of_getElem? hx)
   have D0:=lhZb 202 (by decide) (by decide) wi w3.heap.size w3.heap.size W _ _ vH vL x (by omega) hW15 (by rw[List.length_map,List.length_take];omega) (by rw[List.length_map,List.length_take];omega) HP.out
   have e1:(ls.take (k+1)).map (·/ 2 ^ W)=(ls.take k).map (·/ 2 ^ W)++ [x / 2 ^ W]:=by rw[List.take_add_one,hx];simp
   have e2:(ls.take (k+1)).map (·% 2 ^ W)=(ls.take k).map (·% 2 ^ W)++ [x % 2 ^ W]:=by rw[List.take_add_one,hx];simp
   rw[<-e1,<-e2]at D0
   have D:=hid D0
   clear D0 e1 e2 hx hxb HP har
   go_wp2_with fail
   refine D.out.mono ?_
   rintro e w6 ⟨rfl,vH2,vL2,hP6,hb6⟩
   have HP6:=hid hP6
   have HB6:=hid (HB.out.trans hb6)
   clear hP6 hb6 D HB HBT
   go_wp2_with fail
   go_roundw
   case measure=>go_light;simp[intOf];omega
   case rel=>go_light;exact⟨k+1,vH2,vL2,by omega,by first|rfl|go_num,HP6.out,HB6.out⟩
  ·obtain rfl:k=n:=by omega
   have gk:decide ((k:Int)<(k:Int))=false:=by simp
   have gk':decide (k<k)=false:=by simp
   have hall:ls.take k=ls:=List.take_of_length_le (by rw[HN.out];exact Nat.le_refl _)
   rw[hall]at HP
   obtain⟨P,hP⟩:∃P,P=2 ^ W:=⟨_,rfl⟩
   rw[<-hP]at HP
   have HPE:=hid hP
   have hp1:1<=P:=by rw[hP];exact Nat.one_le_two_pow
   obtain⟨HS,hHS⟩:∃HS,HS=ls.map (·/ P):=⟨_,rfl⟩
   obtain⟨LS,hLS⟩:∃LS,LS=ls.map (·% P):=⟨_,rfl⟩
   rw[<-hHS,<-hLS]at HP
   have hHl:HS.length=k:=by rw[hHS,List.length_map];exact HN.out
   have hLl:LS.length=k:=by rw[hLS,List.length_map];exact HN.out
   have oh:=HP.out.oh
   have ol:=HP.out.ol
   rw[hHl]at oh
   rw[hLl]at ol
   obtain⟨AH,cH,rfl⟩:=bZ oh
   obtain⟨AL,cL,rfl⟩:=bZ ol
   have RH:=hid (own_row oh hHl)
   have RL:=hid (own_row ol hLl)
   have b0:=HP.out.blk
   have d0:=(b0.alloc (.cells #[.slice none 0 0, .int .i64 0] 207)).cell 0
   have d1:=(b0.alloc (.cells #[.slice none 0 0, .int .i64 0] 207)).cell 1
   have d2:=(b0.alloc (.cells #[.slice none 0 0, .int .i64 0] 207)).cell 2
   simp only[List.getElem?_toArray,List.getElem?_cons_zero,List.getElem?_cons_succ]at d0 d1 d2
   have HHS:=hid hHS
   have HLS:=hid hLS
   have HHL:=hid hHl
   have HLL:=hid hLl
   have B0:=hid b0
   clear oh ol hHS hLS hHl hLl hP hall HP b0
   go_wp2_with fail
   have HW0:Hid (Wr (fun q=>q<wi.heap.size) (wi.alloc (.cells #[.slice none 0 0, .int .i64 0] 207)) wi.heap.size wi.heap.size 207 [] (seZ W (ls.take 0)) (.slice none 0 0)):=Wr.start4 wi wi.heap.size _ [] (Nat.le_refl _) (fun q h=>h)
   have HK0:Hid (Kept (fun q=>q<wi.heap.size) wi (wi.alloc (.cells #[.slice none 0 0, .int .i64 0] 207))):=Kept.of_below (aZ (Below.refl _ _)) (fun q h=>h)
   clear d0 d1 d2
   generalize wi.alloc (.cells #[.slice none 0 0, .int .i64 0] 207)=wz at *
   go_loopw [53] (fun iv wr=>∃ (j:Nat) (v':Value),j<=k/\iv= .int .i64 j/\Hid (Wr (fun q=>q<wi.heap.size) wr wi.heap.size wi.heap.size 207 [] (seZ W (ls.take j)) v')/\Hid (Kept (fun q=>q<wi.heap.size) wi wr)) (fun iv _=>k-(intOf iv).toNat)
   case atStart=>exact⟨0,_,by omega,rfl,HW0.out,HK0.out⟩
   case round=>
    obtain⟨j,v',hj,rfl,HWr,HK⟩:=hrel
    clear HW0 HK0
    obtain⟨wj,rfl⟩:∃wj:World,wj=wr:=⟨_,rfl⟩
    by_cases hlt:j<k
    ·have gk:decide ((j:Int)<(k:Int))=true:=by simp;omega
     have gk':decide (j<k)=true:=by simp;omega
     have x0:(0:Int)<=(j:Int):=by omega
     have x1:(j:Int)<(k:Int):=by omega
     have hrl:Row wj wi.heap.size AL k 1 (mZ .u16 LS):=RL.out.keep fun p hp=>World.cell?_of_block (HK.out.block p.block hp)
     obtain⟨b,off,x,rfl,_,hx,ck⟩:=kbZ hrl HLL.out hlt
     obtain⟨y,hy⟩:∃y,ls[j]? =some y:=⟨_,List.getElem?_eq_getElem (by have:=HN.out;omega)⟩
     have hxy:x=y % P:=by rw[HLS.out,List.getElem?_map,hy]at hx;exact(Option.some.inj hx).symm
     have hxP:x<P:=by rw[hxy];exact Nat.mod_lt _ (by omega)
     have hP2:P<=2 ^ 14:=by rw[HPE.out];exact Nat.pow_le_pow_right (by omega) hW15
     have d0:wj.cell? ⟨w3.heap.size,0,none⟩=some (.int .i64 (W:Nat)):=(World.cell?_of_block (a:=⟨w3.heap.size,0,none⟩) (HK.out.block _ B0.out.lt)).trans (B0.out.cell 0)
     have u2:IntKind.u64.wrap (x:Int)=(x:Int):=by rw[IntKind.wrap_u64];omega
     have hll:(seZ W (ls.take j)).length<=400000:=by
      rw[fgZ,List.length_take]
      have h2:min j ls.length*W<=20000*14:=Nat.mul_le_mul (by omega) hW15
      omega
     have D0:=put_any (fun q=>q<wi.heap.size) wj wi.heap.size wi.heap.size _ [] v' _ x W (by rw[<-HPE.out];exact hxP) (by omega) (by omega) HWr.out
     have hst:seZ W (ls.take (j+1))=seZ W (ls.take j)++msb x W W:=by rw[List.take_add_one,hy,hxy,HPE.out];exact aaZb W _ y
     rw[<-hst]at D0
     have D:=hid D0
     clear D0 hst hll hx hxy hy hxP hP2 HWr hrl
     go_wp2_with fail
     refine D.out.mono ?_
     rintro e w6 ⟨rfl,v6,hW6,hK6⟩
     have HW6:=hid hW6
     have HK6:Hid (Kept (fun q=>q<wi.heap.size) wi w6):=HK.out.trans hK6
     clear hW6 hK6 D HK d0 ck
     go_wp2_with fail
     go_roundw
     case measure=>go_light;simp[intOf];omega
     case rel=>go_light;exact⟨j+1,v6,by omega,by first|rfl|go_num,HW6.out,HK6.out⟩
    ·obtain rfl:j=k:=by omega
     have gk:decide ((j:Int)<(j:Int))=false:=by simp
     have gk':decide (j<j)=false:=by simp
     have hall:ls.take j=ls:=List.take_of_length_le (by rw[HN.out];exact Nat.le_refl _)
     rw[hall]at HWr
     obtain⟨BT,hBT⟩:∃BT:Nat->List Bool,BT=fun i=>seZ W ls++sdZ 0 ((ls.take i).map (·/ P)):=⟨_,rfl⟩
     have HBT:=hid hBT
     have hb0:BT 0=seZ W ls:=by rw[hBT];show seZ W ls++sdZ 0 ((ls.take 0).map (·/ P))=_;rw[List.take_zero,List.map_nil,sdZ,List.append_nil]
     have HBITS:Hid (BT j=uhZ W ls):=by show _=_;rw[hBT];show seZ W ls++sdZ 0 ((ls.take j).map (·/ P))=_;rw[hall,HPE.out];rfl
     rw[<-hb0]at HWr
     have HLB:Hid ((BT 0).length<=300000):=by
      show _<=_
      rw[hb0,fgZ,HN.out]
      have h2:j*W<=20000*14:=Nat.mul_le_mul (by omega) hW15
      omega
     have HU0:Hid (0=((ls.take 0).map (·/ P)).getLast?.getD 0):=rfl
     have HW0:=hid HWr.out
     have HK0:=hid HK.out
     have d1:wj.cell? ⟨w3.heap.size,1,none⟩=some (.slice AH j cH):=(World.cell?_of_block (a:=⟨w3.heap.size,1,none⟩) (HK.out.block _ B0.out.lt)).trans (B0.out.cell 1)
     clear HWr HK hall hBT hb0
     go_wp2_with fail
     clear d1
     go_loopw [13,66] (fun uv iv wr=>∃ (i u:Nat) (v':Value),i<=j/\u<=20000/\iv= .int .i64 i/\uv= .int .i64 u/\Hid (u=((ls.take i).map (·/ P)).getLast?.getD 0)/\Hid (Wr (fun q=>q<wi.heap.size) wr wi.heap.size wi.heap.size 207 [] (BT i) v')/\Hid ((BT i).length<=300000+i+u)/\Hid (Kept (fun q=>q<wi.heap.size) wi wr)) (fun _ iv _=>j-(intOf iv).toNat)
     case atStart=>exact⟨0,0,_,by omega,by omega,rfl,rfl,HU0.out,HW0.out,HLB.out,HK0.out⟩
     case round=>
      obtain⟨i,u,v2,hi,hu,rfl,rfl,HU,HWr,HLN,HK⟩:=hrel
      clear HW0 HLB HK0 HU0
      obtain⟨wk,rfl⟩:∃wk:World,wk=wr:=⟨_,rfl⟩
      by_cases hlt:i<j
      ·have gk:decide ((i:Int)<(j:Int))=true:=by simp;omega
       have gk':decide (i<j)=true:=by simp;omega
       have x0:(0:Int)<=(i:Int):=by omega
       have x1:(i:Int)<(j:Int):=by omega
       have hrh:Row wk wi.heap.size AH j 1 (mZ .i64 HS):=RH.out.keep fun p hp=>World.cell?_of_block (HK.out.block p.block hp)
       obtain⟨b,off,q,rfl,_,hq,ck⟩:=kbZ hrh HHL.out hlt
       obtain⟨x,hx⟩:∃x,ls[i]? =some x:=⟨_,List.getElem?_eq_getElem (by have:=HN.out;omega)⟩
       have hqx:q=x / P:=by rw[HHS.out,List.getElem?_map,hx]at hq;exact(Option.some.inj hq).symm
       have hxb:=HLT.out x (List.mem_of_getElem? hx)
       have hqb:q<=20000:=by rw[hqx];exact Nat.le_trans (Nat.div_le_self _ _) (by omega)
       have hle:=egZb P hx HRI.out
       rw[<-HU.out,<-hqx]at hle
       have hls:=kcZb P hx
       have hst:=jxZ P hx
       rw[<-HU.out,<-hqx]at hst
       rw[<-hqx]at hls
       obtain⟨d,hd⟩:∃d,d=q-u:=⟨_,rfl⟩
       rw[<-hd]at hst
       have us:IntKind.i64.wrap ((q:Int)-(u:Int))=(d:Int):=by rw[IntWalk.i64_in _ (by omega)];omega
       have hll:(BT i).length<=350000:=by have:=HLN.out;omega
       have hdl:d<=20000:=by omega
       have hst2:BT (i+1)=BT i++unary d:=by rw[HBT.out];show _++_=_++_++_;rw[hst,List.append_assoc]
       have HLN2:Hid ((BT (i+1)).length<=300000+(i+1)+q):=by
        show _<=_
        rw[hst2,List.length_append,rjZ]
        have:=HLN.out
        omega
       have D0:=cdZb (fun q=>q<wi.heap.size) wk wi.heap.size wi.heap.size _ [] v2 _ d (by omega) (by omega) HWr.out
       rw[<-hst2]at D0
       have D:=hid D0
       have HU2:Hid (q=((ls.take (i+1)).map (·/ P)).getLast?.getD 0):=hls.symm
       clear D0 hst hst2 hls hx hqx hq hd HWr HLN HU hrh hxb
       go_wp2_with fail
       refine D.out.mono ?_
       rintro e w6 ⟨rfl,v6,hW6,hK6⟩
       have HW6:=hid hW6
       have HK6:Hid (Kept (fun q=>q<wi.heap.size) wi w6):=HK.out.trans hK6
       clear hW6 hK6 D HK ck
       go_wp2_with fail
       go_roundw
       case measure=>go_light;simp[intOf];omega
       case rel=>go_light;exact⟨i+1,q,v6,by omega,by omega,by first|rfl|go_num,by first|rfl|go_num,HU2.out,HW6.out,HLN2.out,HK6.out⟩
      ·obtain rfl:i=j:=by omega
       have gk:decide ((i:Int)<(i:Int))=false:=by simp
       have gk':decide (i<i)=false:=by simp
       obtain⟨A3,c3,rfl⟩:=bZ HWr.out.own
       obtain⟨hn2,hr2,hnil2⟩:=HWr.out.rowOf
       have hg0:=HWr.out.blk.cell 0
       simp only[List.getElem?_toArray,List.getElem?_cons_zero]at hg0
       have hbl:=bytesOf_length (BT i)
       have D:=hid (faZb wk wi.heap.size A3 _ c3 (bytesOf (BT i)) hn2 (by have:=HLN.out;omega) hnil2 hg0 hr2)
       rw[HBITS.out]at D hbl
       have HBL:Hid ((bytesOf (uhZ W ls)).length<=100000):=by
        show _<=_
        rw[hbl,<-HBITS.out]
        have:=HLN.out
        omega
       have hb9:Below w.heap.size w wk:=(HB2.out.trans (HB.out.mono HB2.out.size)).trans ((HK.out.below (fun q h=>h)).mono (by have:=HB.out.size;have:=HB2.out.size;omega))
       have HO9:Hid (wk.ownsRow w.heap.size 5 1 (.slice A2 (nZ i).length c2) (nZ i).length (cZ .u8 (nZ i))):=eZ HO2.out (fun y hy=>((HB.out.trans ((HK.out.below (fun q h=>h)).mono HB.out.size)).block y (World.ownsRow.lt HO2.out y hy).2))
       have HB9:=hid hb9
       obtain⟨BO,hBO⟩:∃BO,BO=bytesOf (uhZ W ls):=⟨_,rfl⟩
       rw[<-hBO]at D HE HBL
       clear hn2 hr2 hnil2 hg0 hbl HWr HLN HU hBO hb9
       go_wp2_with fail
       refine D.out.mono ?_
       rintro e w8 ⟨v8,rfl,ho8,hb8⟩
       obtain⟨A8,c8,rfl⟩:=bZ ho8
       have P1:Hid (Part.Ok (⟨A2,c2,nZ i⟩:Part) w8):=oZ (eZ HO9.out (fun y hy=>hb8.block y (World.ownsRow.lt HO9.out y hy).2)) rfl
       have P2:Hid (Part.Ok (⟨A8,c8,BO⟩:Part) w8):=oZ ho8 rfl
       have HB8:=hid (iZ hb8 HB9.out.size HB9.out)
       have hs2:xcZ [(⟨A2,c2,nZ i⟩:Part),⟨A8,c8,BO⟩]<=1000000:=by have:=HBL.out;simp[xcZ];omega
       clear ho8 hb8 D HO9 HB9
       go_wp2_with fail
       refine(ffZ _ _ 2 [(⟨A2,c2,nZ i⟩:Part),⟨A8,c8,BO⟩] rfl (by omega) hs2 (fun p hp=>by rcases List.mem_cons.1 hp with rfl|hp;exact P1.out.step (aZ (Below.refl _ _));rcases List.mem_cons.1 hp with rfl|hp;exact P2.out.step (aZ (Below.refl _ _));cases hp) (Blk.made _ _ _)).mono ?_
       rintro e w9 ⟨v9,rfl,ho9,hb9⟩
       go_wp2_with fail
       go_ret2
       refine⟨v9,rfl,?_,?_⟩
       ·rw[HE.out]
        have h:=lZ ho9 (show w.heap.size<=_ by have:=HB8.out.size;simp;omega)
        simp only[List.flatMap_cons,List.flatMap_nil,List.append_nil]at h
        exact h
       ·exact iZ hb9 (by have:=HB8.out.size;simp;omega) (gZ HB8.out.size HB8.out)
end Go.Proofs.YtbgoibedicbkjaaGreatDoor.Ef
namespace Go.Proofs.YtbgoibedicbkjaaGreatDoor.Body
open Go.RowKit Mem Own Canon Nums
theorem own_far{w w':World}{base base':Nat}{e e':TypeId}{s s' n n':Nat}{v v':Value}{xs xs':List Value}(h:w.ownsRow base e s v n xs)(h2:w.ownsRow base' e' s' v' n' xs')(hne:e'≠e)(hg:w.grownBy w' v'.ownBlock):w'.ownsRow base e s v n xs:=
 eZ h fun y hy=>hg.block y (World.ownsRow.lt h y hy).2 fun e2=>by
  rcases ddZ h2 h hne with e3|e3
  ·rw[e3]at e2;cases e2
  ·exact e3 (by rw[<-e2,hy])
theorem mkZ{P:Program}{w:World}{ops:Array Oper}{o:Oper}{a:Act}{K:Act->World->Prop}{Q:Exit->Act->World->Prop}{E:Prop}(hgd:o.guard=none)(s x:Operand)(t:TypeId)
 (ho:o.op= .call {callee:= .builtin .append,args:=#[s,x],argTypes:=#[t,t] })
 (base:Nat)(e:TypeId)(i:TypeInfo)(z:Value)(size bytes:Nat)(ht:P.underlying t=some (.slice e))(hi:P.info? e=some i)(hz:i.zero=some z)
 (hsize:i.size=size)(hby:i.bytes=bytes)(hzs:z.cells.size=size)(hsz:0<size)
 (v:Value)(n:Nat)(xs:List Value)(hs:a.eval s=v)(hown:w.ownsRow base e size v n xs)
 (A:Option Addr)(m c:Nat)(news:List Value)(hx:a.eval x= .slice A m c)(hsrc:Src w A m c size news)(h1:∀u∈news,u.oneCell'=true)
 (h63:n+m<=maxLen)(hbytes:(n+m)*bytes<=140737488355328)(hbase:base<=w.heap.size)
 (h:∀A' c' w',w'.ownsRow base e size (.slice A' (n+m) c') (n+m) (xs++news)->w.grownBy w' v.ownBlock->((Value.slice A' (n+m) c').ownBlock=v.ownBlock∨(Value.slice A' (n+m) c').ownBlock=some w.heap.size)->K (a.put o.dst (.slice A' (n+m) c')) w'):
 if Region.wanted o (yielded ops a.tmps)=true then Oper.wp P o a w K Q else E:=by
 have hw:Region.wanted o (yielded ops a.tmps)=true:=by simp[Region.wanted,hgd]
 rw[if_pos hw]
 obtain⟨v',w',hr,h2,h3,h4⟩:=ojZ (P:=P) w base t o.type e i z size bytes ht hi hz hsize hby hzs hsz v n xs hown A m c news hsrc h1 h63 hbytes hbase
 obtain⟨A',c',rfl⟩:=bZ h2
 unfold Oper.wp execOp
 simp only[ho,resolve,invoke,builtin,Sem.run_bind,Sem.run_pure,Result.andThen_ok,List.map_toArray,List.map_cons,List.map_nil,hs,hx,hr]
 exact h A' c' w' h2 h3 h4
def mfZ(rec:Nat)(ls:List Nat):Nat->Nat->Int->List Nat->List Nat->List Nat×List Nat×Nat×Int
 |0,at_,er,cs,ss=>(cs,ss,at_,er)
 |k+1,at_,er,cs,ss=>if er≠0 then(cs,ss,at_,er)else mfZ rec ls k (pZ 8388608 ls (pZ rec ls at_ 0) (qZ rec ls at_ 0)) (qZ 8388608 ls (pZ rec ls at_ 0) (qZ rec ls at_ 0)) (cs++ [tZ rec ls at_ 0]) (ss++ [tZ 8388608 ls (pZ rec ls at_ 0) (qZ rec ls at_ 0)])
theorem svZ{rec:Nat}{ls:List Nat}{k at_:Nat}{er:Int}{cs ss:List Nat}(h:er≠0):mfZ rec ls k at_ er cs ss=(cs,ss,at_,er):=by
 cases k with
 |zero=>rfl
 |succ k=>exact if_pos h
def gdZ(ls:List Nat):Nat:=tZ 20000 ls 0 0
def xgZ(ls:List Nat):Nat:=tZ (gdZ ls) ls (pZ 20000 ls 0 0) (qZ 20000 ls 0 0)
def yhZ(ls:List Nat):List Nat×List Nat×Nat×Int:=mfZ (gdZ ls) ls (xgZ ls) (pZ (gdZ ls) ls (pZ 20000 ls 0 0) (qZ 20000 ls 0 0)) (qZ (gdZ ls) ls (pZ 20000 ls 0 0) (qZ 20000 ls 0 0)) [] []
def kcZ(ls:List Nat):List Nat:=(yhZ ls).1
def qcZ(ls:List Nat):List Nat:=(yhZ ls).2.1
def dP(ls:List Nat):Nat:=tZ 8388608 ls (yhZ ls).2.2.1 (yhZ ls).2.2.2
def dPA(ls:List Nat):Nat:=pZ 8388608 ls (yhZ ls).2.2.1 (yhZ ls).2.2.2
def dPE(ls:List Nat):Int:=qZ 8388608 ls (yhZ ls).2.2.1 (yhZ ls).2.2.2
def dQ(ls:List Nat):Nat:=tZ 8388608 ls (dPA ls) (dPE ls)
def dE(ls:List Nat):Int:=vgZ ls (pZ 8388608 ls (dPA ls) (dPE ls)) (qZ 8388608 ls (dPA ls) (dPE ls))
def jhZ(room:Nat)(ls:List Nat):Int:=if dE ls≠0 then dE ls else if 0∈kcZ ls∨(kcZ ls).sum≠gdZ ls∨(qcZ ls).sum+dP ls+dQ ls≠room then 2 else 0
theorem emZ{rec:Nat}{ls:List Nat}:∀ (k at_:Nat) (er:Int) (cs ss:List Nat),cs.length=ss.length->(mfZ rec ls k at_ er cs ss).1.length=(mfZ rec ls k at_ er cs ss).2.1.length/\(mfZ rec ls k at_ er cs ss).1.length<=cs.length+k/\((mfZ rec ls k at_ er cs ss).2.2.2=0->(mfZ rec ls k at_ er cs ss).1.length=cs.length+k)
 |0,_,_,_,_,h=>⟨h,Nat.le_refl _,fun _=>rfl⟩
 |k+1,at_,er,cs,ss,h=>by
  unfold mfZ
  split
  ·rename_i he
   exact⟨h,Nat.le_add_right _ _,fun h2=>absurd h2 he⟩
  ·obtain⟨h1,h2,h3⟩:=emZ (rec:=rec) (ls:=ls) k (pZ 8388608 ls (pZ rec ls at_ 0) (qZ rec ls at_ 0)) (qZ 8388608 ls (pZ rec ls at_ 0) (qZ rec ls at_ 0)) (cs++ [tZ rec ls at_ 0]) (ss++ [tZ 8388608 ls (pZ rec ls at_ 0) (qZ rec ls at_ 0)]) (by rw[List.length_append,List.length_append,h];rfl)
   rw[List.length_append]at h2 h3
   exact⟨h1,by simp at h2;omega,fun h4=>by have:=h3 h4;simp at this;omega⟩
theorem qrZ{rec:Nat}{ls:List Nat}(h8:∀x∈ls,x<=255):∀ (k at_:Nat) (er:Int) (cs ss:List Nat),(∀x∈cs,x<=rec)->(∀x∈ss,x<=8388608)->(∀x∈(mfZ rec ls k at_ er cs ss).1,x<=rec)/\(∀x∈(mfZ rec ls k at_ er cs ss).2.1,x<=8388608)
 |0,_,_,_,_,h,h2=>⟨h,h2⟩
 |k+1,at_,er,cs,ss,h,h2=>by
  unfold mfZ
  split
  ·exact⟨h,h2⟩
  ·refine qrZ h8 k _ _ _ _ (fun x hx=> ?_) (fun x hx=> ?_)
   ·rcases List.mem_append.1 hx with h'|h'
    ·exact h x h'
    ·rw[List.mem_singleton]at h';rw[h'];exact qbZ h8 _ _
   ·rcases List.mem_append.1 hx with h|h'
    ·exact h2 x h
    ·rw[List.mem_singleton]at h';rw[h'];exact qbZ h8 _ _
theorem zhZ:∀ (l:List Nat) (m:Nat),(∀x∈l,x<=m)->l.sum<=l.length*m
 | [],_,_=>by simp
 |x :: l,m,h=>by
  rw[List.sum_cons,List.length_cons,Nat.succ_mul]
  have h1:=zhZ l m (fun y hy=>h y (List.mem_cons_of_mem _ hy))
  have h2:=h x (List.mem_cons_self ..)
  omega
structure DrI (w wr:World) (gb:Nat) (t:TypeId) (rest:List Value) (g:Nat) (ls:List Nat) (B:Option Addr) (d at_:Nat) (er:Int) (C S:List Nat) (vc vs:Value):Prop where
 cur:Cur wr g w.heap.size ls B d at_ er
 blk:Blk wr gb t (vc :: vs :: rest).toArray
 oc:wr.ownsRow w.heap.size 3 1 vc C.length (cZ .i64 C)
 os:wr.ownsRow w.heap.size 3 1 vs S.length (cZ .i64 S)
 ap:∀y,vc.ownBlock=some y->vs.ownBlock≠some y
 kept:Kept (fun x=>x<w.heap.size/\x≠gb) w wr
 lt:gb<w.heap.size
 ti:3≠t
 tu:5≠t
section
variable {w wr w1 w2 w3:World} {gb:Nat} {t:TypeId} {rest:List Value} {g:Nat} {ls:List Nat} {B:Option Addr} {d at_ a2:Nat} {er e2:Int} {C S:List Nat} {vc vs v3:Value} {x:Nat}
theorem DrI.call(h:DrI w wr gb t rest g ls B d at_ er C S vc vs)(hc2:Cur w2 g w.heap.size ls B d a2 e2)(hk2:Kept (ebZ g wr) wr w2):DrI w w2 gb t rest g ls B d a2 e2 C S vc vs:=
 have hz:=h.kept.size
 have hlo:=h.cur.lo
 have hlt:=h.lt
 ⟨hc2,(hk2.block gb ⟨h.blk.lt,by omega⟩).trans h.blk,eZ h.oc (fun y hy=>hk2.block y ⟨(World.ownsRow.lt h.oc y hy).2,fun e=>jZ h.oc h.cur.blk (by decide) (e ▸ hy)⟩),eZ h.os (fun y hy=>hk2.block y ⟨(World.ownsRow.lt h.os y hy).2,fun e=>jZ h.os h.cur.blk (by decide) (e ▸ hy)⟩),h.ap,h.kept.trans ⟨hk2.os,hk2.tape,hk2.output,hk2.size,fun y hy=>hk2.block y ⟨by have:=hy.1;omega,by have:=hy.1;omega⟩⟩,h.lt,h.ti,h.tu⟩
theorem DrI.cs(h:DrI w wr gb t rest g ls B d at_ er C S vc vs):wr.cell? ⟨gb,0,none⟩=some vc/\wr.cell? ⟨gb,1,none⟩=some vs:=by
 have h0:=h.blk.cell 0
 have h1:=h.blk.cell 1
 simp only[List.getElem?_toArray,List.getElem?_cons_zero,List.getElem?_cons_succ]at h0 h1
 exact⟨h0,h1⟩
theorem DrI.third{x2:Value}(h:DrI w wr gb t (x2 :: rest) g ls B d at_ er C S vc vs){u:Value}:DrI w (wr.setCell ⟨gb,2,none⟩ u) gb t (u :: rest) g ls B d at_ er C S vc vs:=by
 have hlo:=h.cur.lo
 have hlt:=h.lt
 exact⟨⟨h.cur.blk.far (by show g≠gb;omega) _,vZ h.cur.own (jZ h.cur.own h.blk h.tu) _,h.cur.le,h.cur.lo⟩,by simpa using h.blk.set 2 u,vZ h.oc (jZ h.oc h.blk h.ti) _,vZ h.os (jZ h.os h.blk h.ti) _,h.ap,h.kept.set (fun hk=>hk.2 rfl) _,h.lt,h.ti,h.tu⟩
theorem DrI.fourth{x2 x3:Value}(h:DrI w wr gb t (x2 :: x3 :: rest) g ls B d at_ er C S vc vs){u:Value}:DrI w (wr.setCell ⟨gb,3,none⟩ u) gb t (x2 :: u :: rest) g ls B d at_ er C S vc vs:=by
 have hlo:=h.cur.lo
 have hlt:=h.lt
 exact⟨⟨h.cur.blk.far (by show g≠gb;omega) _,vZ h.cur.own (jZ h.cur.own h.blk h.tu) _,h.cur.le,h.cur.lo⟩,by simpa using h.blk.set 3 u,vZ h.oc (jZ h.oc h.blk h.ti) _,vZ h.os (jZ h.os h.blk h.ti) _,h.ap,h.kept.set (fun hk=>hk.2 rfl) _,h.lt,h.ti,h.tu⟩
theorem own_ints{w:World}{base n c:Nat}{A:Option Addr}{ids:List Nat}(h:w.ownsRow base 3 1 (.slice A n c) n (cZ .i64 ids))(hn:ids.length=n):Row w w.heap.size A n 1 (mZ .i64 ids):=
 Row.of_own h rfl fun i j hi hj=>by
  obtain rfl:j=0:=by omega
  unfold cZ
  rw[Nat.mul_one,Nat.add_zero,List.getElem?_map,List.getElem?_eq_getElem (by omega)]
  unfold mZ
  rw[List.getD_eq_getElem?_getD,List.getElem?_eq_getElem (by omega)]
  rfl
theorem DrI.count(h:DrI w wr gb t rest g ls B d at_ er C S vc vs)(hb:Below wr.heap.size wr w1)(hg:w1.grownBy w3 vc.ownBlock)(hown:w3.ownsRow w.heap.size 3 1 v3 (C.length+1) (cZ .i64 C++ [.int .i64 (x:Nat)]))(hat:v3.ownBlock=vc.ownBlock∨v3.ownBlock=some w1.heap.size):
 DrI w (w3.setCell ⟨gb,0,none⟩ v3) gb t rest g ls B d at_ er (C++ [x]) S v3 vs:=by
 have b3:=(h.blk.step hb).grown hg (Ne.symm (jZ h.oc h.blk h.ti))
 have o1:w1.ownsRow w.heap.size 3 1 vs S.length (cZ .i64 S):=eZ h.os (fun y hy=>hb.block y (World.ownsRow.lt h.os y hy).2)
 have o3:w3.ownsRow w.heap.size 3 1 vs S.length (cZ .i64 S):=eZ o1 (fun y hy=>hg.block y (World.ownsRow.lt o1 y hy).2 (fun e=>h.ap y e.symm hy))
 have c1:=h.cur.step hb
 have oc1:w1.ownsRow w.heap.size 3 1 vc C.length (cZ .i64 C):=eZ h.oc (fun y hy=>hb.block y (World.ownsRow.lt h.oc y hy).2)
 have c3:Cur w3 g w.heap.size ls B d at_ er:=⟨c1.blk.grown hg (Ne.symm (jZ oc1 c1.blk (by decide))),own_far c1.own oc1 (by decide) hg,c1.le,c1.lo⟩
 have hlo:=h.cur.lo
 have hlt:=h.lt
 refine⟨⟨c3.blk.far (by show g≠gb;omega) _,vZ c3.own (jZ c3.own b3 h.tu) _,c3.le,c3.lo⟩,by simpa using b3.set 0 v3,?_,vZ o3 (jZ o3 b3 h.ti) _,?_,?_,h.lt,h.ti,h.tu⟩
 ·rw[List.length_append,show cZ .i64 (C++ [x])=cZ .i64 C++ [.int .i64 (x:Nat)] by simp[cZ]]
  exact vZ hown (jZ hown b3 h.ti) _
 ·intro y hy hh
  rcases hat with e|e
  ·exact h.ap y (by rw[<-e];exact hy) hh
  ·rw[e]at hy
   injection hy with hy
   have:=(World.ownsRow.lt h.os y hh).2
   have:=hb.size
   omega
 ·have hz:=h.kept.size
  exact((h.kept.trans (Kept.of_below hb (fun y hy=>by have:=hy.1;omega))).grown hg (fun y hy=>by have:=hy.1;have:=hb.size;omega) (fun y hy hk=>by have:=(World.ownsRow.lt h.oc y hy).1;have:=hk.1;omega)).set (fun hk=>hk.2 rfl) _
theorem DrI.size(h:DrI w wr gb t rest g ls B d at_ er C S vc vs)(hb:Below wr.heap.size wr w1)(hg:w1.grownBy w3 vs.ownBlock)(hown:w3.ownsRow w.heap.size 3 1 v3 (S.length+1) (cZ .i64 S++ [.int .i64 (x:Nat)]))(hat:v3.ownBlock=vs.ownBlock∨v3.ownBlock=some w1.heap.size):
 DrI w (w3.setCell ⟨gb,1,none⟩ v3) gb t rest g ls B d at_ er C (S++ [x]) vc v3:=by
 have b3:=(h.blk.step hb).grown hg (Ne.symm (jZ h.os h.blk h.ti))
 have o1:w1.ownsRow w.heap.size 3 1 vc C.length (cZ .i64 C):=eZ h.oc (fun y hy=>hb.block y (World.ownsRow.lt h.oc y hy).2)
 have o3:w3.ownsRow w.heap.size 3 1 vc C.length (cZ .i64 C):=eZ o1 (fun y hy=>hg.block y (World.ownsRow.lt o1 y hy).2 (fun e=>h.ap y hy e.symm))
 have c1:=h.cur.step hb
 have oc1:w1.ownsRow w.heap.size 3 1 vs S.length (cZ .i64 S):=eZ h.os (fun y hy=>hb.block y (World.ownsRow.lt h.os y hy).2)
 have c3:Cur w3 g w.heap.size ls B d at_ er:=⟨c1.blk.grown hg (Ne.symm (jZ oc1 c1.blk (by decide))),own_far c1.own oc1 (by decide) hg,c1.le,c1.lo⟩
 have hlo:=h.cur.lo
 have hlt:=h.lt
 refine⟨⟨c3.blk.far (by show g≠gb;omega) _,vZ c3.own (jZ c3.own b3 h.tu) _,c3.le,c3.lo⟩,by simpa using b3.set 1 v3,vZ o3 (jZ o3 b3 h.ti) _,?_,?_,?_,h.lt,h.ti,h.tu⟩
 ·rw[List.length_append,show cZ .i64 (S++ [x])=cZ .i64 S++ [.int .i64 (x:Nat)] by simp[cZ]]
  exact vZ hown (jZ hown b3 h.ti) _
 ·intro y hy hh
  rcases hat with e|e
  ·exact h.ap y hy (by rw[<-e];exact hh)
  ·rw[e]at hh
   injection hh with hh
   have:=(World.ownsRow.lt h.oc y hy).2
   have:=hb.size
   omega
 ·have hz:=h.kept.size
  exact((h.kept.trans (Kept.of_below hb (fun y hy=>by have:=hy.1;omega))).grown hg (fun y hy=>by have:=hy.1;have:=hb.size;omega) (fun y hy hk=>by have:=(World.ownsRow.lt h.os y hy).1;have:=hk.1;omega)).set (fun hk=>hk.2 rfl) _
end
end Go.Proofs.YtbgoibedicbkjaaGreatDoor.Body
namespace Go.Proofs.YtbgoibedicbkjaaGreatDoor.Ef
open Go.RowKit Mem Own Canon Huff NumPut
def rbZ(W:Nat)(bs:List Bool)(n:Nat):List Nat:=(List.range n).map fun i=>wbZ bs (i*W) W
theorem dkZ(W:Nat)(bs:List Bool)(n:Nat):(rbZ W bs n).length=n:=by simp[rbZ]
theorem vaZb(W:Nat)(bs:List Bool)(n:Nat):rbZ W bs (n+1)=rbZ W bs n++ [wbZ bs (n*W) W]:=by simp[rbZ,List.range_succ]
theorem tvZ(W:Nat)(bs:List Bool)(n:Nat):∀x∈rbZ W bs n,x<2 ^ W:=by
 intro x hx
 obtain⟨i,_,rfl⟩:=List.mem_map.1 hx
 exact mjZ _ _ _
def rowN(bound W:Nat)(bs:List Bool):List Nat->Nat->Nat->List Nat->List Nat×Nat×Int
 | [],at_,_,acc=>(acc,at_,0)
 |x :: xs,at_,high,acc=>
  if unE bs at_≠0 then([],at_,unE bs at_)
  else if acc≠ []/\(high+unV bs at_)*2 ^ W+x<=acc.getLast?.getD 0 then([],at_,2)
  else if bound<=(high+unV bs at_)*2 ^ W+x then([],at_,8)
  else rowN bound W bs xs (unA bs at_) (high+unV bs at_) (acc++ [(high+unV bs at_)*2 ^ W+x])
def khZ(at_:Nat):Nat:=(8-at_ % 8) % 8
def ajZ(bound n:Nat)(bs:List Bool):List Nat×Nat×Int:=
 if bs.length<n*efW bound n then([],0,1)
 else if(rowN bound (efW bound n) bs (rbZ (efW bound n) bs n) (n*efW bound n) 0 []).2.2≠0 then([],0,(rowN bound (efW bound n) bs (rbZ (efW bound n) bs n) (n*efW bound n) 0 []).2.2)
 else if wbZ bs (rowN bound (efW bound n) bs (rbZ (efW bound n) bs n) (n*efW bound n) 0 []).2.1 (khZ (rowN bound (efW bound n) bs (rbZ (efW bound n) bs n) (n*efW bound n) 0 []).2.1)≠0 then([],0,2)
 else((rowN bound (efW bound n) bs (rbZ (efW bound n) bs n) (n*efW bound n) 0 []).1,((rowN bound (efW bound n) bs (rbZ (efW bound n) bs n) (n*efW bound n) 0 []).2.1+7) / 8,0)
theorem uvZ{bs:List Bool}{at_:Nat}(h:at_<=bs.length):unA bs at_<=bs.length:=by
 unfold unA
 split<;>omega
theorem qdZb(bs:List Bool)(at_:Nat):unV bs at_<=bs.length:=by
 unfold unV
 split<;>omega
theorem czZ{bound W:Nat}{bs:List Bool}:∀ (xs:List Nat) (at_ high:Nat) (acc:List Nat),at_<=bs.length->(rowN bound W bs xs at_ high acc).2.1<=bs.length
 | [],at_,_,_,h=>h
 |x :: xs,at_,high,acc,h=>by
  unfold rowN
  split
  ·exact h
  ·split
   ·exact h
   ·split
    ·exact h
    ·exact czZ xs _ _ _ (uvZ h)
theorem dzZ(h x W:Nat)(hx:x<2 ^ W):(h*2 ^ W |||x)=h*2 ^ W+x:=by
 rw[Nat.mul_comm,Nat.two_pow_add_eq_or_of_lt hx]
end Go.Proofs.YtbgoibedicbkjaaGreatDoor.Ef
namespace Go.Proofs.YtbgoibedicbkjaaGreatDoor.Ef
open Go.RowKit Mem Own Canon Huff NumPut
def ldZ(W:Nat)(bs:List Bool)(n k:Nat):List Value:=(List.range n).map fun i=>Value.int .u16 ((if i<k then wbZ bs (i*W) W else 0:Nat):Int)
theorem wxZ(W:Nat)(bs:List Bool)(n k:Nat):(ldZ W bs n k).length=n:=by simp[ldZ]
theorem fmZ{W:Nat}{bs:List Bool}{n k i:Nat}(h:i<n):(ldZ W bs n k)[i]? =some (.int .u16 ((if i<k then wbZ bs (i*W) W else 0:Nat):Int)):=by
 simp[ldZ,h]
theorem mhZb{W:Nat}{bs:List Bool}{n k:Nat}:(ldZ W bs n k).toArray.setIfInBounds k (.int .u16 (wbZ bs (k*W) W:Nat))=(ldZ W bs n (k+1)).toArray:=by
 apply Array.ext_getElem?
 intro i
 rw[Array.getElem?_setIfInBounds]
 by_cases e:k=i
 ·subst e
  by_cases hk:k<n
  ·rw[if_pos rfl,if_pos (by simpa[ldZ]using hk)]
   simp only[List.getElem?_toArray]
   rw[fmZ hk,if_pos (by omega)]
  ·rw[if_pos rfl,if_neg (by simpa[ldZ]using hk)]
   simp[ldZ,hk]
 ·rw[if_neg e]
  simp only[List.getElem?_toArray]
  by_cases hi:i<n
  ·rw[fmZ hi,fmZ hi]
   congr 3
   by_cases h2:i<k
   ·rw[if_pos h2,if_pos (by omega)]
   ·rw[if_neg h2,if_neg (by omega)]
  ·simp[ldZ,hi]
theorem dtZ(W:Nat)(bs:List Bool)(n:Nat):ldZ W bs n n=cZ .u16 (rbZ W bs n):=by
 unfold ldZ rbZ cZ
 rw[List.map_map]
 apply List.map_congr_left
 intro i hi
 simp only[Function.comp]
 rw[if_pos (List.mem_range.1 hi)]
theorem rdZb(W:Nat)(bs:List Bool)(n:Nat):madeCells #[.int .u16 0] n=(ldZ W bs n 0).toArray:=by
 apply Array.ext_getElem?
 intro i
 by_cases h:i<n
 ·simp[ldZ,madeCells,h,Nat.mod_one]
 ·simp[ldZ,madeCells,h]
theorem sdZb:(Tryz.prog.info? 47).map (fun i=>(i.zero,i.size,i.bytes))=some (some (.int .u16 0),1,2):=by kernel_rfl
theorem tdZb(n:Nat)(hn:n<=8388608)(w:World):(Instr.makeSlice 200 (.int .i64 (n:Int)) (.int .i64 (n:Int))).run Tryz.prog w=
 .ok (.slice (some ⟨w.heap.size,0,none⟩) n n) (w.alloc (.cells (madeCells #[.int .u16 0] n) 47)):=by
 obtain⟨i0,hi,hz0,hz1,hz2⟩:=info_parts sdZb
 have h:=run_make (P:=Tryz.prog) w 200 47 i0 (.int .u16 0) Tryz.underlying200 hi hz0 .i64 .i64 (n:Int) (n:Int) (by omega) (Int.le_refl _) (by rw[hz2];omega) (by omega)
 simp only[Int.toNat_natCast]at h
 simpa[hz1,Value.cells]using h
def rpZ(w:World)(lo g:Nat)(bs:List Bool)(n W:Nat)(e:Ending)(w':World):Prop:=
 Kept (fun x=>x<w.heap.size/\x≠g) w w'/\if bs.length<n*W then e= .returned (.tuple #[.slice none 0 0, .int .i64 1])
 else ∃v,e= .returned (.tuple #[v, .int .i64 0])/\w'.ownsRow w.heap.size 47 1 v n (cZ .u16 (rbZ W bs n))/\Rd w' lo g bs (n*W)
theorem nhZb(w:World)(lo g:Nat)(bs:List Bool)(n W:Nat)(hn:n<=20000)(hW:W<=14)(hlo:lo<=g)(hR:Rd w lo g bs 0):
 Calls Tryz.prog 242 #[.pointer (some ⟨g,0,none⟩), .int .i64 (n:Nat), .int .i64 (W:Nat)] w (rpZ w lo g bs n W):=by
 have hgl:=hR.lt
 have hz:bs.length<=800000:=by
  obtain⟨A,n,c,ls,h1,h2,h3,h4,h5,h6,h7⟩:=hR
  rw[h5,nbZ,h3];omega
 have D0:=hid (left_any w lo g bs 0 hR)
 have HR:=hid hR
 have hNW:n*W<=280000:=Nat.le_trans (Nat.mul_le_mul hn hW) (by decide)
 obtain⟨N,hN⟩:∃N,N=n*W:=⟨_,rfl⟩
 have hmul:IntKind.i64.wrap ((n:Int)*(W:Int))=(N:Int):=by
  rw[show(n:Int)*(W:Int)=(N:Int) by rw[hN];simp,IntWalk.i64_in _ (by omega)]
 have hmk:=tdZb n (by omega)
 rw[rdZb W bs n]at hmk
 unfold rpZ
 rw[<-hN]at hNW ⊢
 have HN:=hid hN
 rw[Nat.sub_zero]at D0
 clear hR hN
 by_cases hlt:bs.length<N
 ·simp only[if_pos hlt]
  have g1:decide ((bs.length:Int)<(N:Int))=true:=by simp;omega
  have g1':decide (bs.length<N)=true:=by simp;omega
  clear hlt
  generalize bs.length=z at *
  go_enter Tryz.func242,Tryz.ntmps242
  go_wp2_with fail
  refine D0.out.mono ?_
  rintro e w1 ⟨rfl,q,rfl⟩
  go_wp2_with fail
  go_ret2
  exact⟨(Kept.refl _ _).drewN q,rfl⟩
 ·simp only[if_neg hlt]
  have g1:decide ((bs.length:Int)<(N:Int))=false:=by simp;omega
  have g1':decide (bs.length<N)=false:=by simp;omega
  have HLT:Hid (N<=bs.length):=by show _<=_;omega
  obtain⟨z,hzz⟩:∃z,z=bs.length:=⟨_,rfl⟩
  rw[<-hzz]at D0 g1 g1' hz
  clear hlt hzz
  go_enter Tryz.func242,Tryz.ntmps242
  go_wp2_with fail
  refine D0.out.mono ?_
  rintro e w1 ⟨rfl,q,hq⟩
  have hR1:Hid (Rd w1 lo g bs 0):=by rw[hq];exact HR.out.drewN q
  have HK1:Hid (Kept (fun x=>x<w.heap.size/\x≠g) w w1):=by rw[hq];exact(Kept.refl _ _).drewN q
  have hs1:w1.heap.size=w.heap.size:=by rw[hq];rfl
  clear hq
  go_wp2_with fail
  have hB0:Blk (w1.alloc (.cells (ldZ W bs n 0).toArray 47)) w1.heap.size 47 (ldZ W bs n 0).toArray:=Blk.made _ _ _
  have HR2:Hid (Rd (w1.alloc (.cells (ldZ W bs n 0).toArray 47)) lo g bs 0):=hR1.out.keep (fun b hb1 hb2=>Below.heap_alloc w1 _ b (by omega)) hlo
  have HK2:Hid (Kept (fun x=>x<w.heap.size/\x≠g) w (w1.alloc (.cells (ldZ W bs n 0).toArray 47))):=HK1.out.alloc (fun x hx=>by have:=hx.1;omega) _
  generalize w1.alloc (.cells (ldZ W bs n 0).toArray 47)=w2 at *
  have HB0:=hid hB0
  clear hB0 hmk D0
  rw[hs1]at *
  clear hs1
  generalize hbb:w.heap.size=b at *
  have HBB:=hid hbb
  clear hbb
  go_loopw [22] (fun iv wr=>∃k:Nat,k<=n/\iv= .int .i64 k/\Hid (Blk wr b 47 (ldZ W bs n k).toArray)/\Hid (Rd wr lo g bs (k*W))/\Hid (Kept (fun x=>x<b/\x≠g) w wr)) (fun iv _=>n-(intOf iv).toNat)
  case atStart=>exact⟨0,by omega,rfl,HB0.out,by rw[Nat.zero_mul];exact HR2.out,HK2.out⟩
  case round=>
   obtain⟨k,hk,rfl,HB,HRk,HK⟩:=hrel
   clear HB0 HR2 HK2
   by_cases hkn:k<n
   ·have gk:decide ((k:Int)<(n:Int))=true:=by simp;omega
    have gk':decide (k<n)=true:=by simp;omega
    have hfit:k*W+W<=bs.length:=by
     have h1:(k+1)*W<=n*W:=Nat.mul_le_mul_right W hkn
     rw[Nat.succ_mul]at h1
     have:=HN.out
     have:=HLT.out
     omega
    have D:=cvZ wr lo g bs (k*W) W (by omega) HRk.out
    unfold jpZ kpZ lpZ at D
    rw[if_pos hfit,if_pos hfit,if_pos hfit]at D
    have hv:wbZ bs (k*W) W<2 ^ W:=mjZ _ _ _
    have hv2:wbZ bs (k*W) W<16384:=Nat.lt_of_lt_of_le hv (by have:2 ^ W<=2 ^ 14:=Nat.pow_le_pow_right (by omega) hW;omega)
    have HS:Hid ((ldZ W bs n k).toArray.setIfInBounds k (.int .u16 (wbZ bs (k*W) W:Nat))=(ldZ W bs n (k+1)).toArray):=mhZb
    have hkW:k*W+W=(k+1)*W:=by rw[Nat.succ_mul]
    rw[hkW]at D
    generalize wbZ bs (k*W) W=y at *
    have s16:IntKind.u16.wrap (y:Int)=(y:Int):=by rw[IntKind.wrap_u16];omega
    have D:=hid D
    have x0:(0:Int)<=(k:Int):=by omega
    have x1:(k:Int)<(n:Int):=by omega
    have HCK:Hid (∃u,(ldZ W bs n k).toArray[k]? =some u):=⟨_,by simp only[List.getElem?_toArray];exact fmZ hkn⟩
    clear hfit hv hkW
    go_wp2_with fail
    refine D.out.mono ?_
    rintro e w3 ⟨rfl,hR3,hK3⟩
    have HB3:Hid (Blk w3 b 47 (ldZ W bs n k).toArray):=(hK3.block b (by omega)).trans HB.out
    have HK3:Hid (Kept (fun x=>x<b/\x≠g) w w3):=HK.out.trans ⟨hK3.os,hK3.tape,hK3.output,hK3.size,fun x hx=>hK3.block x hx.2⟩
    have HR3:=hid hR3
    obtain⟨u,hu⟩:=HCK.out
    have c3:w3.cell? ⟨b,k,none⟩=some u:=(HB3.out.cell k).trans hu
    have f3:=HB3.out.frozen k
    clear hR3 hK3 HB HRk HK D hu HCK
    go_wp2_with fail
    have HB4:Hid (Blk (w3.setCell ⟨b,k,none⟩ (.int .u16 (y:Nat))) b 47 (ldZ W bs n (k+1)).toArray):=by rw[<-HS.out];exact HB3.out.set k _
    have HR4:Hid (Rd (w3.setCell ⟨b,k,none⟩ (.int .u16 (y:Nat))) lo g bs ((k+1)*W)):=HR3.out.keep (fun x _ hx2=>Below.heap_setCell w3 _ _ x (show x≠b by omega)) hlo
    have HK4:Hid (Kept (fun x=>x<b/\x≠g) w (w3.setCell ⟨b,k,none⟩ (.int .u16 (y:Nat)))):=HK3.out.set (p:=⟨b,k,none⟩) (fun h=>absurd h.1 (by simp)) _
    clear HB3 HR3 HK3 c3 f3
    go_roundw
    case measure=>go_light;simp[intOf];omega
    case rel=>go_light;exact⟨k+1,by omega,by first|rfl|go_num,HB4.out,HR4.out,HK4.out⟩
   ·obtain rfl:k=n:=by omega
    have gk:decide ((k:Int)<(k:Int))=false:=by simp
    go_wp2_with fail
    go_ret2
    rw[HBB.out]
    refine⟨HK.out,_,rfl,⟨by rw[<-dtZ,wxZ];simp, .inr ⟨b,k,_,rfl,Nat.le_refl _,HB.out,Nat.le_refl _,by unfold maxLen;omega,by simp[ldZ],?_⟩⟩,by rw[HN.out];exact HRk.out⟩
    rw[<-dtZ,Nat.mul_one]
    exact List.take_of_length_le (by simp[ldZ])
end Go.Proofs.YtbgoibedicbkjaaGreatDoor.Ef
namespace Go.Proofs.YtbgoibedicbkjaaGreatDoor.Idx
open Go.RowKit Mem Own Canon Sift
open NumPut Recs Go.Proofs.YtbgoibedicbkjaaGreatDoor Crc Block
open Nums
def toS(ls:List Nat):Str:=ls.map UInt8.ofNat
theorem udZb(ls:List Nat):xhZ ls=bs (toS ls):=rfl
def nxN(ls:List Nat)(was:Str)(first:Bool)(at_:Nat):Nat:=if first then 0 else tZ was.length ls at_ 0
def nxA(ls:List Nat)(was:Str)(first:Bool)(at_:Nat):Nat:=if first then at_ else pZ was.length ls at_ 0
def nxE(ls:List Nat)(was:Str)(first:Bool)(at_:Nat):Int:=if first then 0 else qZ was.length ls at_ 0
def nxS(was:Str)(first:Bool)(n:Nat)(t:Str)(a:Nat)(e:Int):Str×Nat×Int:=
 if e≠0 then([],a,e)else if t= []∨dcZ was (was.take n++t)=false∨(first=false/\zZ was (was.take n++t)≠n)then(was.take n++t,a,2)else(was.take n++t,a,0)
def bfZ(ls:List Nat)(was:Str)(first:Bool)(at_:Nat):Str×Nat×Int:=
 nxS was first (nxN ls was first at_) (toS (afZ 25 ls (nxA ls was first at_) (nxE ls was first at_))) (ahZ 25 ls (nxA ls was first at_) (nxE ls was first at_)) (bhZ 25 ls (nxA ls was first at_) (nxE ls was first at_))
theorem spZ(s:Str)(n:Nat)(hn:n<=s.length)(w:World):(Instr.slice 9 (.string (bs s)) none (some (.int .i64 (n:Int))) none).run Tryz.prog w= .ok (.string (bs (s.take n))) w:=by
 have hz:=xbZ s
 rw[run_slice_string_h w (t:=9) (s:=bs s) (ht:=Tryz.underlying9) .i64 (n:Int) (by omega) (by omega),Int.toNat_natCast]
 have e:(bs s).extract 0 n=bs (s.take n):=by
  refine ByteArray.ext (Array.ext' ?_)
  rw[smZ,ogZ,List.drop_zero,Nat.sub_zero]
  rfl
 rw[e]
theorem vvZ(a b:Str):bs a++bs b=bs (a++b):=by
 refine ByteArray.ext (Array.ext' ?_)
 simp[bs]
theorem wvZ{most:Nat}{ls:List Nat}(h8:∀x∈ls,x<=255)(at_:Nat)(er:Int):(afZ most ls at_ er).length<=most:=by
 unfold afZ
 split
 ·exact Nat.zero_le _
 ·exact(ysZ most (ls.drop at_) fun x hx=>h8 x (List.mem_of_mem_drop hx)).1
theorem ohZb(w:World)(g base:Nat)(ls:List Nat)(A:Option Addr)(c at_:Nat)(was:Str)(first:Bool)(hle:ls.length<=100000)(h8:∀x∈ls,x<=255)(hwas:was.length<=25)(h:Cur w g base ls A c at_ 0):
 Calls Tryz.prog 207 #[.pointer (some ⟨g,0,none⟩), .string (bs was), .bool first] w fun e w'=>e= .returned (.string (bs (bfZ ls was first at_).1))/\Cur w' g base ls A c (bfZ ls was first at_).2.1 (bfZ ls was first at_).2.2/\Kept (ebZ g w) w w':=by
 have hz:=xbZ was
 have hgl:=h.blk.lt
 obtain⟨R,hR⟩:∃R,R=bfZ ls was first at_:=⟨_,rfl⟩
 rw[<-hR]
 unfold bfZ at hR
 have D1:=hid (fun wx hx=>mhZ wx g base ls A c at_ 0 was.length hle h8 (by omega) hx)
 have hn:nxN ls was first at_<=was.length:=by
  unfold nxN
  split
  ·exact Nat.zero_le _
  ·exact qbZ h8 _ _
 have D2:=hid (fun wx hx=>ddZb wx g base ls A c (nxA ls was first at_) (nxE ls was first at_) 25 hle h8 (by omega) hx)
 have htl:=wvZ (most:=25) h8 (nxA ls was first at_) (nxE ls was first at_)
 rw[udZb]at D2
 have HN:Hid ((first=true->nxN ls was first at_=0/\nxA ls was first at_=at_/\nxE ls was first at_=0)/\(first=false->nxN ls was first at_=tZ was.length ls at_ 0/\nxA ls was first at_=pZ was.length ls at_ 0/\nxE ls was first at_=qZ was.length ls at_ 0)):=by
  constructor
  ·intro hf;subst hf;exact⟨rfl,rfl,rfl⟩
  ·intro hf;subst hf;exact⟨rfl,rfl,rfl⟩
 generalize nxN ls was first at_=n at *
 generalize nxA ls was first at_=a1 at *
 generalize nxE ls was first at_=e1 at *
 obtain⟨t,ht⟩:∃t,t=toS (afZ 25 ls a1 e1):=⟨_,rfl⟩
 have htz:t.length<=25:=by rw[ht];unfold toS;rw[List.length_map];exact htl
 rw[<-ht]at D2 hR
 generalize ahZ 25 ls a1 e1=a2 at *
 generalize bhZ 25 ls a1 e1=e2 at *
 have H:=hid h
 unfold nxS at hR
 clear h h8 hle ht htl
 have KH:=fun wx=>spZ was n hn wx
 have hth:(was.take n).length<=25:=by rw[List.length_take];omega
 obtain⟨s,hs⟩:∃s,s=was.take n++t:=⟨_,rfl⟩
 have hsl:s.length<=50:=by rw[hs,List.length_append];omega
 have HS:=hid hs
 rw[<-hs]at hR
 have HBB:Hid (bs (was.take n)++bs t=bs s):=by show _=_;rw[vvZ,hs]
 have HH:Hid (n=0->was.take n= []):=fun h=>by rw[h];rfl
 have HR:=hid hR
 clear hR
 have DM:=hid (fun wx=>rsZ wx was s)
 have DA:=hid (fun wx=>gqZ wx was s (by omega) (by omega))
 have HT:Hid ((t= []->((bs t).toList==({data:=#[] }:ByteArray).toList)=true/\((bs t).toList== [])=true/\(bs t).toList.isEmpty=true/\(bs t).toList= [])/\(t≠ []->((bs t).toList==({data:=#[] }:ByteArray).toList)=false/\((bs t).toList== [])=false/\(bs t).toList.isEmpty=false/\¬(bs t).toList= [])):=⟨fun h=>by rw[h];exact tuZ,fun h=>hpZ t h⟩
 generalize was.take n=hd at *
 have HZ1:=hid (xbZ hd)
 have HZ2:=hid (xbZ t)
 obtain⟨hdl,hhd⟩:∃x,x=hd.length:=⟨_,rfl⟩
 obtain⟨tl,htl2⟩:∃x,x=t.length:=⟨_,rfl⟩
 rw[<-hhd]at HZ1 hth
 rw[<-htl2]at HZ2 htz
 clear hs hhd htl2
 have HF:Hid (ygZ 0 2=2):=if_pos rfl
 cases first with
 |true=>
  obtain⟨q1,q2,q3⟩:=HN.out.1 rfl
  have HC1:Hid (Cur w g base ls A c a1 e1):=by rw[q2,q3];exact H.out
  have HK1:Hid (Kept (ebZ g w) w w):=Kept.refl _ _
  have hh0:=HH.out q1
  have hst:s=t:=by rw[HS.out,hh0];rfl
  have hts:bs t=bs s:=by rw[hst]
  rw[hts]at HT HZ2
  have z2:=HZ2.out
  clear hst
  clear q2 q3 HN H D1 HBB HH HZ1 hh0 KH HS
  subst q1
  go_enter Tryz.func207,Tryz.ntmps207
  go_wp2_with fail
  refine(D2.out _ HC1.out).mono ?_
  rintro e w2 ⟨rfl,hc2,hk2⟩
  have HK2:Hid (Kept (ebZ g w) w w2):=HK1.out.trans ⟨hk2.os,hk2.tape,hk2.output,hk2.size,fun x hx=>hk2.block x ⟨Nat.lt_of_lt_of_le hx.1 HK1.out.size,hx.2⟩⟩
  have DE:=hid (lcZ w2 g base ls A c a2 e2 hc2)
  have HC2:=hid hc2
  clear hc2 hk2 HC1 HK1 D2
  go_wp2_with fail
  refine DE.out.mono ?_
  rintro e w2' ⟨rfl,rfl⟩
  by_cases he:e2=0
  ·skip
   subst he
   rw[if_neg (show ¬((0:Int)≠0) from fun h=>h rfl)]at HR
   clear DE
   by_cases ht:t= []
   ·obtain⟨b1,b2,b3,b4⟩:=HT.out.1 ht
    have HR0:Hid (R=(s,a2,2)):=by have h:=HR.out;rw[if_pos (.inl ht)]at h;exact h
    clear ht HT
    have HC3:=HC2
    have HK3:=HK2
    go_wp2_with fail
    refine(pfZ _ g base ls A c a2 0 2 HC3.out).mono ?_
    rintro e w5 ⟨rfl,hc5,hk5⟩
    rw[HF.out]at hc5
    have HC5:=hid hc5
    have HK5:Hid (Kept (ebZ g w) w w5):=HK3.out.trans ⟨hk5.os,hk5.tape,hk5.output,hk5.size,fun x hx=>hk5.block x hx.2⟩
    clear hc5 hk5 HC3 HK3
    go_wp2_with fail
    go_ret
    rw[HR0.out]
    exact⟨rfl,HC5.out,HK5.out⟩
   ·have ht0:=hid ht
    obtain⟨b1,b2,b3,b4⟩:=HT.out.2 ht
    clear ht HT
    obtain⟨M,hM⟩:∃M,M=dcZ was s:=⟨_,rfl⟩
    rw[<-hM]at DM
    have HM:=hid hM
    clear hM
    by_cases hMf:M=false
    ·have HR0:Hid (R=(s,a2,2)):=by have h:=HR.out;rw[if_pos (.inr (.inl (HM.out.symm.trans hMf)))]at h;exact h
     subst hMf
     go_wp2_with fail
     refine(DM.out _).mono ?_
     rintro e w3 ⟨rfl,rfl⟩
     have HC3:=HC2
     have HK3:=HK2
     go_wp2_with fail
     refine(pfZ _ g base ls A c a2 0 2 HC3.out).mono ?_
     rintro e w5 ⟨rfl,hc5,hk5⟩
     rw[HF.out]at hc5
     have HC5:=hid hc5
     have HK5:Hid (Kept (ebZ g w) w w5):=HK3.out.trans ⟨hk5.os,hk5.tape,hk5.output,hk5.size,fun x hx=>hk5.block x hx.2⟩
     clear hc5 hk5 HC3 HK3
     go_wp2_with fail
     go_ret
     rw[HR0.out]
     exact⟨rfl,HC5.out,HK5.out⟩
    ·have hMt:M=true:=by cases M with|true=>rfl|false=>exact absurd rfl hMf
     clear hMf
     subst hMt
     go_wp2_with fail
     refine(DM.out _).mono ?_
     rintro e w3 ⟨rfl,rfl⟩
     have HR0:Hid (R=(s,a2,0)):=by have h:=HR.out;rw[if_neg (fun h=>h.elim ht0.out (fun h=>h.elim (by rw[<-HM.out];decide) (fun h=>by cases h.1)))]at h;exact h
     go_wp2_with fail
     go_ret
     rw[HR0.out]
     exact⟨rfl,HC2.out,HK2.out⟩
  ·have gE:(e2 != 0)=true:=by simpa using he
   have HR0:Hid (R=([],a2,e2)):=by have h:=HR.out;rw[if_pos he]at h;exact h
   clear he HR HT
   go_wp2_with fail
   go_ret
   rw[HR0.out]
   exact⟨rfl,HC2.out,HK2.out⟩
 |false=>
  obtain⟨q1,q2,q3⟩:=HN.out.2 rfl
  rw[<-q1,<-q2,<-q3]at D1
  have z1:=HZ1.out
  have z2:=HZ2.out
  have hbb:=HBB.out
  clear q1 q2 q3 HN HH
  go_enter Tryz.func207,Tryz.ntmps207
  go_wp2_with fail
  refine(D1.out _ H.out).mono ?_
  rintro e w1 ⟨rfl,hc1,hk1⟩
  have HC1:=hid hc1
  have HK1:=hid hk1
  clear hc1 hk1 H D1
  go_wp2_with fail
  refine(D2.out _ HC1.out).mono ?_
  rintro e w2 ⟨rfl,hc2,hk2⟩
  have HK2:Hid (Kept (ebZ g w) w w2):=HK1.out.trans ⟨hk2.os,hk2.tape,hk2.output,hk2.size,fun x hx=>hk2.block x ⟨Nat.lt_of_lt_of_le hx.1 HK1.out.size,hx.2⟩⟩
  have DE:=hid (lcZ w2 g base ls A c a2 e2 hc2)
  have HC2:=hid hc2
  clear hc2 hk2 HC1 HK1 D2
  go_wp2_with fail
  refine DE.out.mono ?_
  rintro e w2' ⟨rfl,rfl⟩
  by_cases he:e2=0
  ·skip
   subst he
   rw[if_neg (show ¬((0:Int)≠0) from fun h=>h rfl)]at HR
   clear DE
   by_cases ht:t= []
   ·obtain⟨b1,b2,b3,b4⟩:=HT.out.1 ht
    have HR0:Hid (R=(s,a2,2)):=by have h:=HR.out;rw[if_pos (.inl ht)]at h;exact h
    clear ht HT
    have HC3:=HC2
    have HK3:=HK2
    go_wp2_with fail
    refine(pfZ _ g base ls A c a2 0 2 HC3.out).mono ?_
    rintro e w5 ⟨rfl,hc5,hk5⟩
    rw[HF.out]at hc5
    have HC5:=hid hc5
    have HK5:Hid (Kept (ebZ g w) w w5):=HK3.out.trans ⟨hk5.os,hk5.tape,hk5.output,hk5.size,fun x hx=>hk5.block x hx.2⟩
    clear hc5 hk5 HC3 HK3
    go_wp2_with fail
    go_ret
    rw[HR0.out]
    exact⟨rfl,HC5.out,HK5.out⟩
   ·have ht0:=hid ht
    obtain⟨b1,b2,b3,b4⟩:=HT.out.2 ht
    clear ht HT
    obtain⟨M,hM⟩:∃M,M=dcZ was s:=⟨_,rfl⟩
    rw[<-hM]at DM
    have HM:=hid hM
    clear hM
    by_cases hMf:M=false
    ·have HR0:Hid (R=(s,a2,2)):=by have h:=HR.out;rw[if_pos (.inr (.inl (HM.out.symm.trans hMf)))]at h;exact h
     subst hMf
     go_wp2_with fail
     refine(DM.out _).mono ?_
     rintro e w3 ⟨rfl,rfl⟩
     have HC3:=HC2
     have HK3:=HK2
     go_wp2_with fail
     refine(pfZ _ g base ls A c a2 0 2 HC3.out).mono ?_
     rintro e w5 ⟨rfl,hc5,hk5⟩
     rw[HF.out]at hc5
     have HC5:=hid hc5
     have HK5:Hid (Kept (ebZ g w) w w5):=HK3.out.trans ⟨hk5.os,hk5.tape,hk5.output,hk5.size,fun x hx=>hk5.block x hx.2⟩
     clear hc5 hk5 HC3 HK3
     go_wp2_with fail
     go_ret
     rw[HR0.out]
     exact⟨rfl,HC5.out,HK5.out⟩
    ·have hMt:M=true:=by cases M with|true=>rfl|false=>exact absurd rfl hMf
     clear hMf
     subst hMt
     go_wp2_with fail
     refine(DM.out _).mono ?_
     rintro e w3 ⟨rfl,rfl⟩
     by_cases hal:zZ was s=n
     ·have gal:((zZ was s:Int) != (n:Int))=false:=by rw[hal];simp
      have HAL:=hid hal
      clear hal
      go_wp2_with fail
      refine(DA.out _).mono ?_
      rintro e w4 ⟨rfl,q,hq⟩
      have hc4:Hid (Cur w4 g base ls A c a2 0):=by rw[hq];exact HC2.out.drewN q
      have hk4:Hid (Kept (ebZ g w) w w4):=by rw[hq];exact HK2.out.drewN q
      have HR0:Hid (R=(s,a2,0)):=by have h:=HR.out;rw[if_neg (fun h=>h.elim ht0.out (fun h=>h.elim (by rw[<-HM.out];decide) (fun h=>h.2 HAL.out)))]at h;exact h
      clear hq DM DA HC2 HK2
      generalize zZ was s=al at *
      go_wp2_with fail
      go_ret
      rw[HR0.out]
      exact⟨rfl,hc4.out,hk4.out⟩
     ·have gal:((zZ was s:Int) != (n:Int))=true:=by rw[bne_iff_ne];omega
      have HR0:Hid (R=(s,a2,2)):=by have h:=HR.out;rw[if_pos (.inr (.inr ⟨trivial,hal⟩))]at h;exact h
      clear hal
      go_wp2_with fail
      refine(DA.out _).mono ?_
      rintro e w3 ⟨rfl,q,hq⟩
      have HC3:Hid (Cur w3 g base ls A c a2 0):=by rw[hq];exact HC2.out.drewN q
      have HK3:Hid (Kept (ebZ g w) w w3):=by rw[hq];exact HK2.out.drewN q
      clear hq DM DA HC2 HK2
      generalize zZ was s=al at *
      go_wp2_with fail
      refine(pfZ _ g base ls A c a2 0 2 HC3.out).mono ?_
      rintro e w5 ⟨rfl,hc5,hk5⟩
      rw[HF.out]at hc5
      have HC5:=hid hc5
      have HK5:Hid (Kept (ebZ g w) w w5):=HK3.out.trans ⟨hk5.os,hk5.tape,hk5.output,hk5.size,fun x hx=>hk5.block x hx.2⟩
      clear hc5 hk5 HC3 HK3
      go_wp2_with fail
      go_ret
      rw[HR0.out]
      exact⟨rfl,HC5.out,HK5.out⟩
  ·have gE:(e2 != 0)=true:=by simpa using he
   have HR0:Hid (R=([],a2,e2)):=by have h:=HR.out;rw[if_pos he]at h;exact h
   clear he HR HT
   go_wp2_with fail
   go_ret
   rw[HR0.out]
   exact⟨rfl,HC2.out,HK2.out⟩
end Go.Proofs.YtbgoibedicbkjaaGreatDoor.Idx
namespace Go.Proofs.YtbgoibedicbkjaaGreatDoor.Idx
open Go.RowKit Mem Own Canon Sift
open NumPut Recs Go.Proofs.YtbgoibedicbkjaaGreatDoor Crc Block
open Nums
def ncZ(ls:List Nat):Nat->Bool->Nat->List Str->List Str×Int
 |0,_,at_,acc=>(acc,vgZ ls at_ 0)
 |k+1,first,at_,acc=>
  if(bfZ ls (acc.getLast?.getD []) first at_).2.2≠0 then([],(bfZ ls (acc.getLast?.getD []) first at_).2.2)
  else ncZ ls k false (bfZ ls (acc.getLast?.getD []) first at_).2.1 (acc++ [(bfZ ls (acc.getLast?.getD []) first at_).1])
theorem zjZb{a s:Str}(h:dcZ a s=true):s.length<=25:=by
 unfold dcZ at h
 simp at h
 exact h.2.1
theorem phZb{ls:List Nat}{was:Str}{first:Bool}{at_:Nat}(h:(bfZ ls was first at_).2.2=0):(bfZ ls was first at_).1.length<=25:=by
 unfold bfZ nxS at *
 split at h
 ·rename_i he;exact absurd h he
 ·rename_i he
  rw[if_neg he]
  split at h
  ·cases h
  ·rename_i hn
   rw[if_neg hn]
   have hm:dcZ was (List.take (nxN ls was first at_) was++toS (afZ 25 ls (nxA ls was first at_) (nxE ls was first at_)))=true:=by
    cases hb:dcZ was (List.take (nxN ls was first at_) was++toS (afZ 25 ls (nxA ls was first at_) (nxE ls was first at_)))with
    |true=>rfl
    |false=>exact absurd (.inr (.inl hb)) hn
   exact zjZb hm
structure DAt (w:World) (base gd size:Nat) (ts hs:List Str) (vT vH:Value):Prop where
 blk:Blk w gd 222 #[vT, .int .i64 (size:Nat),vH]
 ot:w.ownsRow base 9 1 vT ts.length (ccZ ts)
 oh:w.ownsRow base 9 1 vH hs.length (ccZ hs)
 apart:∀y,vT.ownBlock=some y->vH.ownBlock≠some y
 gb:base<=gd
section
variable {w w1 w3 w':World} {base gd size g:Nat} {ts hs:List Str} {vT vH v3:Value} {s:Str}
theorem DAt.keep(h:DAt w base gd size ts hs vT vH)(hk:∀y,base<=y->y<w.heap.size->w'.heap[y]? =w.heap[y]?):DAt w' base gd size ts hs vT vH:=
 ⟨(hk gd h.gb h.blk.lt).trans h.blk,eZ h.ot (fun y hy=>hk y (World.ownsRow.lt h.ot y hy).1 (World.ownsRow.lt h.ot y hy).2),eZ h.oh (fun y hy=>hk y (World.ownsRow.lt h.oh y hy).1 (World.ownsRow.lt h.oh y hy).2),h.apart,h.gb⟩
theorem DAt.oth(h:DAt w base gd size ts hs vT vH){cs:Array Value}(hc:Blk w g 136 cs)(hk:Kept (fun y=>y<w.heap.size/\y≠g) w w'):DAt w' base gd size ts hs vT vH:=
 ⟨(hk.block gd ⟨h.blk.lt,Blk.apart h.blk hc (by decide)⟩).trans h.blk,eZ h.ot (fun y hy=>hk.block y ⟨(World.ownsRow.lt h.ot y hy).2,fun e=>jZ h.ot hc (by decide) (e ▸ hy)⟩),eZ h.oh (fun y hy=>hk.block y ⟨(World.ownsRow.lt h.oh y hy).2,fun e=>jZ h.oh hc (by decide) (e ▸ hy)⟩),h.apart,h.gb⟩
theorem DAt.texts(h:DAt w base gd size ts hs vT vH)(hb:Below w.heap.size w w1)(hg:w1.grownBy w3 vT.ownBlock)(hown:w3.ownsRow base 9 1 v3 (ts.length+1) (ccZ ts++ [.string (bs s)]))(hat:v3.ownBlock=vT.ownBlock∨v3.ownBlock=some w1.heap.size):
 DAt (w3.setCell ⟨gd,0,none⟩ v3) base gd size (ts++ [s]) hs v3 vH:=by
 have hne:vT.ownBlock≠some gd:=jZ h.ot h.blk (by decide)
 have b3:=(h.blk.step hb).grown hg (Ne.symm hne)
 have o1:w1.ownsRow base 9 1 vH hs.length (ccZ hs):=eZ h.oh (fun y hy=>hb.block y (World.ownsRow.lt h.oh y hy).2)
 have o3:w3.ownsRow base 9 1 vH hs.length (ccZ hs):=eZ o1 (fun y hy=>hg.block y (World.ownsRow.lt o1 y hy).2 (fun e=>h.apart y e.symm hy))
 have n3:v3.ownBlock≠some gd:=jZ hown b3 (by decide)
 have nh:vH.ownBlock≠some gd:=jZ o3 b3 (by decide)
 refine⟨by simpa using b3.set 0 v3,?_,eZ o3 (fun y hy=>Below.heap_setCell _ _ _ y (fun e=>nh (by rw[hy,e]))),?_,h.gb⟩
 ·rw[List.length_append,jiZ]
  exact eZ hown (fun y hy=>Below.heap_setCell _ _ _ y (fun e=>n3 (by rw[hy,e])))
 ·intro y hy hh
  rcases hat with e|e
  ·exact h.apart y (by rw[<-e];exact hy) hh
  ·rw[e]at hy
   injection hy with hy
   have:=(World.ownsRow.lt h.oh y hh).2
   have:=hb.size
   omega
theorem DAt.heads(h:DAt w base gd size ts hs vT vH)(hb:Below w.heap.size w w1)(hg:w1.grownBy w3 vH.ownBlock)(hown:w3.ownsRow base 9 1 v3 (hs.length+1) (ccZ hs++ [.string (bs s)]))(hat:v3.ownBlock=vH.ownBlock∨v3.ownBlock=some w1.heap.size):
 DAt (w3.setCell ⟨gd,2,none⟩ v3) base gd size ts (hs++ [s]) vT v3:=by
 have hne:vH.ownBlock≠some gd:=jZ h.oh h.blk (by decide)
 have b3:=(h.blk.step hb).grown hg (Ne.symm hne)
 have o1:w1.ownsRow base 9 1 vT ts.length (ccZ ts):=eZ h.ot (fun y hy=>hb.block y (World.ownsRow.lt h.ot y hy).2)
 have o3:w3.ownsRow base 9 1 vT ts.length (ccZ ts):=eZ o1 (fun y hy=>hg.block y (World.ownsRow.lt o1 y hy).2 (fun e=>h.apart y hy e.symm))
 have n3:v3.ownBlock≠some gd:=jZ hown b3 (by decide)
 have nh:vT.ownBlock≠some gd:=jZ o3 b3 (by decide)
 refine⟨by simpa using b3.set 2 v3,eZ o3 (fun y hy=>Below.heap_setCell _ _ _ y (fun e=>nh (by rw[hy,e]))),?_,?_,h.gb⟩
 ·rw[List.length_append,jiZ]
  exact eZ hown (fun y hy=>Below.heap_setCell _ _ _ y (fun e=>n3 (by rw[hy,e])))
 ·intro y hy hh
  rcases hat with e|e
  ·exact h.apart y hy (by rw[<-e];exact hh)
  ·rw[e]at hh
   injection hh with hh
   have:=(World.ownsRow.lt h.ot y hy).2
   have:=hb.size
   omega
theorem xvZ{bs2:List Nat}{A:Option Addr}{c at_ ob:Nat}{er:Int}{cs:Array Value}(h:Cur w g base bs2 A c at_ er)(hob:Blk w ob 222 cs)(k:Nat)(u:Value):Cur (w.setCell ⟨ob,k,none⟩ u) g base bs2 A c at_ er:=
 ⟨h.blk.far (fun e=>Blk.apart hob h.blk (by decide) e.symm) _,vZ h.own (jZ h.own hob (by decide)) _,h.le,h.lo⟩
theorem ezZ{bs2:List Nat}{A:Option Addr}{c at_ n base2:Nat}{er:Int}{v:Value}{xs:List Value}(h:Cur w g base bs2 A c at_ er)(ho:w.ownsRow base2 9 1 v n xs)(hg:w.grownBy w' v.ownBlock):Cur w' g base bs2 A c at_ er:=
 ⟨h.blk.grown hg (Ne.symm (jZ ho h.blk (by decide))),eZ h.own (fun y hy=>hg.block y (World.ownsRow.lt h.own y hy).2 (fun e2=>by
  rcases ddZ ho h.own (by decide)with e3|e3
  ·rw[e3]at e2;cases e2
  ·exact e3 (by rw[<-e2,hy]))),h.le,h.lo⟩
end
theorem etZ:(Tryz.prog.info? 9).map (fun i=>(i.zero,i.size,i.bytes))=some (some (.string ⟨#[]⟩),1,16):=by kernel_rfl
def jjZ(w:World)(gd:Nat)(vT vH:Value)(y:Nat):Prop:=y<w.heap.size/\y≠gd/\vT.ownBlock≠some y/\vH.ownBlock≠some y
structure FI (w wr:World) (g:Nat) (B:Option Addr) (d:Nat) (ls:List Nat) (base gd size:Nat) (vT vH:Value) (at_:Nat) (t2 h2:List Str) (uT uH:Value):Prop where
 cur:Cur wr g w.heap.size ls B d at_ 0
 dat:DAt wr base gd size t2 h2 uT uH
 kept:Kept (jjZ w gd vT vH) w wr
 lt:∀y,y<w.heap.size->uT.ownBlock=some y->vT.ownBlock=some y
 lh:∀y,y<w.heap.size->uH.ownBlock=some y->vH.ownBlock=some y
section
variable {w wr w5:World} {g d base gd size at_:Nat} {B:Option Addr} {ls:List Nat} {vT vH uT uH v5:Value} {t2 h2:List Str} {s:Str} {o:Obj}
theorem FI.next{w2:World}{a2:Nat}(h:FI w wr g B d ls base gd size vT vH at_ t2 h2 uT uH)(hg:w.heap.size<=g)(hc2:Cur w2 g w.heap.size ls B d a2 0)(hk2:Kept (ebZ g wr) wr w2):FI w w2 g B d ls base gd size vT vH a2 t2 h2 uT uH:=
 have hz:=h.kept.size
 ⟨hc2,h.dat.oth h.cur.blk hk2,h.kept.trans ⟨hk2.os,hk2.tape,hk2.output,hk2.size,fun y hy=>hk2.block y ⟨by have:=hy.1;omega,fun e=>by have:=hy.1;omega⟩⟩,h.lt,h.lh⟩
theorem FI.texts(h:FI w wr g B d ls base gd size vT vH at_ t2 h2 uT uH)(hg:(wr.alloc o).grownBy w5 uT.ownBlock)(hown:w5.ownsRow base 9 1 v5 (t2.length+1) (ccZ t2++ [.string (bs s)]))(hat:v5.ownBlock=uT.ownBlock∨v5.ownBlock=some (wr.alloc o).heap.size):
 FI w (w5.setCell ⟨gd,0,none⟩ v5) g B d ls base gd size vT vH at_ (t2++ [s]) h2 v5 uH:=by
 have hz:=h.kept.size
 have hb:Below wr.heap.size wr (wr.alloc o):=aZ (Below.refl _ _)
 have hD:=h.dat.texts hb hg hown hat
 have b5:Blk w5 gd 222 #[uT, .int .i64 (size:Nat),uH]:=(h.dat.blk.step hb).grown hg (Ne.symm (jZ h.dat.ot h.dat.blk (by decide)))
 refine⟨xvZ (ezZ (h.cur.step hb) (h.dat.ot.alloc o) hg) b5 0 _,hD,?_,?_,h.lh⟩
 ·exact((h.kept.alloc (fun y hy=>by have:=hy.1;omega) o).grown hg (fun y hy=>by have:=hy.1;simp;omega) (fun y hy hk=>hk.2.2.1 (h.lt y hk.1 hy))).set (fun hk=>hk.2.1 rfl) _
 ·intro y hy he
  rcases hat with e|e
  ·exact h.lt y hy (by rw[<-e];exact he)
  ·rw[e]at he
   injection he with he
   simp at he
   omega
theorem FI.heads(h:FI w wr g B d ls base gd size vT vH at_ t2 h2 uT uH)(hg:(wr.alloc o).grownBy w5 uH.ownBlock)(hown:w5.ownsRow base 9 1 v5 (h2.length+1) (ccZ h2++ [.string (bs s)]))(hat:v5.ownBlock=uH.ownBlock∨v5.ownBlock=some (wr.alloc o).heap.size):
 FI w (w5.setCell ⟨gd,2,none⟩ v5) g B d ls base gd size vT vH at_ t2 (h2++ [s]) uT v5:=by
 have hz:=h.kept.size
 have hb:Below wr.heap.size wr (wr.alloc o):=aZ (Below.refl _ _)
 have hD:=h.dat.heads hb hg hown hat
 have b5:Blk w5 gd 222 #[uT, .int .i64 (size:Nat),uH]:=(h.dat.blk.step hb).grown hg (Ne.symm (jZ h.dat.oh h.dat.blk (by decide)))
 refine⟨xvZ (ezZ (h.cur.step hb) (h.dat.oh.alloc o) hg) b5 2 _,hD,?_,h.lt,?_⟩
 ·exact((h.kept.alloc (fun y hy=>by have:=hy.1;omega) o).grown hg (fun y hy=>by have:=hy.1;simp;omega) (fun y hy hk=>hk.2.2.2 (h.lh y hk.1 hy))).set (fun hk=>hk.2.1 rfl) _
 ·intro y hy he
  rcases hat with e|e
  ·exact h.lh y hy (by rw[<-e];exact he)
  ·rw[e]at he
   injection he with he
   simp at he
   omega
end
def qhZb(w:World)(base gd size:Nat)(vT vH:Value)(F:List Str×Int)(e:Ending)(w':World):Prop:=
 e= .returned (.int .i64 F.2)/\Kept (jjZ w gd vT vH) w w'/\(F.2=0->(∀s∈F.1,s.length<=25)/\∃hs' vT' vH',DAt w' base gd size F.1 hs' vT' vH'/\(∀y,y<w.heap.size->vT'.ownBlock=some y->vT.ownBlock=some y)/\(∀y,y<w.heap.size->vH'.ownBlock=some y->vH.ownBlock=some y)/\hs'.length<=F.1.length)
theorem yvZ(w:World)(A:Option Addr)(m c n base gd size:Nat)(ls:List Nat)(ts hs:List Str)(vT vH:Value)(hm:ls.length=m)(hle:m<=100000)(h8:∀x∈ls,x<=255)(hnil:A=none->m=0/\c=0)(ha:Row w w.heap.size A m 1 (mZ .u8 ls))(hn:n<=64)(hD:DAt w base gd size ts hs vT vH)(hts:∀s∈ts,s.length<=25)(htl:ts.length<=1100000)(hhl:hs.length<=ts.length):
 Calls Tryz.prog 168 #[.pointer (some ⟨gd,0,none⟩), .slice A m c, .int .i64 (n:Nat)] w (qhZb w base gd size vT vH (ncZ ls n true 0 ts)):=by
 obtain⟨j0,hj0,hy0,hy1,hy2⟩:=info_parts etZ
 have D0:=hid (new_any w A m c ls hm hle hnil ha)
 have hle':ls.length<=100000:=by omega
 have H8:=hid h8
 have HLE:=hid hle'
 obtain⟨F,hF⟩:∃F,F=ncZ ls n true 0 ts:=⟨_,rfl⟩
 rw[<-hF]
 have HF0:Hid (ncZ ls (n-0) (decide (0=0)) 0 ts=F):=hF.symm
 have HD:=hid hD
 have HTS:=hid hts
 have hgd:=hD.blk.lt
 clear hm hnil ha h8 hle hle' hF hD hts
 go_enter Tryz.func168,Tryz.ntmps168
 go_wp2_with fail
 refine D0.out.mono ?_
 rintro e w1 ⟨g,B,d,rfl,hc1,hb1⟩
 have z1:=hb1.size
 have hglo:=hc1.lo
 have hgl:=hc1.blk.lt
 have HC1:=hid hc1
 have HD1:Hid (DAt w1 base gd size ts hs vT vH):=HD.out.keep (fun y _ hy=>hb1.block y hy)
 have HK1:Hid (Kept (jjZ w gd vT vH) w w1):=Kept.of_below hb1 (fun y hy=>hy.1)
 clear hc1 hb1 D0 HD
 go_wp2_with fail
 go_loopw [15] (fun iv wr=>∃ (i at_:Nat) (t2 h2:List Str) (uT uH:Value),i<=n/\iv= .int .i64 i/\t2.length<=1100000+i/\h2.length<=t2.length/\Hid (FI w wr g B d ls base gd size vT vH at_ t2 h2 uT uH)/\Hid (∀s∈t2,s.length<=25)/\Hid (ncZ ls (n-i) (decide (i=0)) at_ t2=F)) (fun iv _=>n-(intOf iv).toNat)
 case atStart=>exact⟨0,0,ts,hs,vT,vH,by omega,rfl,by omega,hhl,⟨HC1.out,HD1.out,HK1.out,fun _ _ h=>h,fun _ _ h=>h⟩,HTS.out,HF0.out⟩
 case round=>
  obtain⟨i,at_,t2,h2,uT,uH,hi,rfl,ht2,hh2,HI,HS2,HG⟩:=hrel
  have zr:=HI.out.kept.size
  clear HC1 HD1 HK1 HF0
  by_cases hin:i<n
  ·have gi:decide ((i:Int)<(n:Int))=true:=by simp;omega
   have gi':decide (i<n)=true:=by simp;omega
   have hG:=HG.out
   rw[show n-i=(n-(i+1))+1 by omega,ncZ]at hG
   obtain⟨fb,hfb⟩:∃fb,fb=decide (i=0):=⟨_,rfl⟩
   have gz:((i:Int)==0)=fb:=by
    rw[hfb]
    by_cases h:i=0
    ·subst h;rfl
    ·rw[decide_eq_false h,beq_eq_false_iff_ne];omega
   obtain⟨was,hwas⟩:∃was,was=t2.getLast?.getD []:=⟨_,rfl⟩
   have hwl:was.length<=25:=by
    rw[hwas]
    cases hl:t2.getLast? with
    |none=>exact Nat.zero_le _
    |some y=>exact HS2.out y (List.mem_of_getLast? hl)
   rw[<-hfb,<-hwas]at hG
   have DN:=hid (fun wx hx=>ohZb wx g w.heap.size ls B d at_ was fb HLE.out H8.out hwl hx)
   have HSL:Hid ((bfZ ls was fb at_).2.2=0->(bfZ ls was fb at_).1.length<=25):=phZb
   generalize bfZ ls was fb at_=S at *
   obtain⟨s,a2,e2⟩:=S
   simp only at hG DN HSL
   have HGG:=hid hG
   have HFB:=hid hfb
   have HWAS:=hid hwas
   have c0:=HI.out.dat.blk.cell 0
   simp only[List.getElem?_toArray,List.getElem?_cons_zero]at c0
   have hown:=HI.out.dat.ot
   obtain⟨p,hp⟩:∃p,p=t2.length:=⟨_,rfl⟩
   rw[<-hp]at hown ht2 hh2
   obtain⟨Au,cu,rfl⟩:=bZ hown
   have HP:=hid hp
   have HOT:=hid hown
   have hgdr:=HI.out.dat.blk.lt
   have hbr:base<=wr.heap.size:=by have:=HI.out.dat.gb;omega
   clear hG HG hfb hwas hp hown hwl
   by_cases hp0:p=0
   ·have gp:decide ((0:Int)<(p:Int))=false:=by simp;omega
    have gp':decide (0<p)=false:=by simp;omega
    have hw0:was= []:=by rw[HWAS.out,List.eq_nil_of_length_eq_zero (HP.out.symm.trans hp0)];rfl
    subst hw0
    have DN2:Hid (∀wx,Cur wx g w.heap.size ls B d at_ 0->Calls Tryz.prog 207 #[.pointer (some ⟨g,0,none⟩), .string ⟨#[]⟩, .bool fb] wx fun e w'=>e= .returned (.string (bs s))/\Cur w' g w.heap.size ls B d a2 e2/\Kept (ebZ g wx) wx w'):=DN.out
    clear DN hp0
    go_wp2_with fail
    refine(DN2.out _ HI.out.cur).mono ?_
    rintro e w2 ⟨rfl,hc2,hk2⟩
    clear DN2
    have hcb:=HI.out.cur.blk
    have z2:=hk2.size
    have HI2:=hid (fun he:e2=0=>HI.out.next hglo (he ▸ hc2) hk2)
    have HK2:Hid (Kept (jjZ w gd vT vH) w w2):=HI.out.kept.trans ⟨hk2.os,hk2.tape,hk2.output,hk2.size,fun y hy=>hk2.block y ⟨by have:=hy.1;omega,fun e=>by have:=hy.1;omega⟩⟩
    have DE:=hid (lcZ w2 g w.heap.size ls B d a2 e2 hc2)
    clear hc2 hk2 HI c0 hcb HOT
    go_wp2_with fail
    refine DE.out.mono ?_
    rintro e w3 ⟨rfl,rfl⟩
    by_cases he:e2=0
    ·subst he
     have hFI:=HI2.out rfl
     have HFI:=hid hFI
     have hG:=HGG.out
     rw[if_neg (show ¬((0:Int)≠0) from fun h=>h rfl)]at hG
     have HG2:=hid hG
     have HSL2:=hid (HSL.out rfl)
     have k0:=hFI.dat.blk.cell 0
     simp only[List.getElem?_toArray,List.getElem?_cons_zero]at k0
     have hot3:=hFI.dat.ot
     rw[<-HP.out]at hot3
     have HOT3:=hid hot3
     have hbr3:base<=w3.heap.size:=by omega
     have kf:=hFI.dat.blk.frozen 0
     have kb:=hFI.dat.blk
     have hne:=Ne.symm (jZ hFI.dat.ot hFI.dat.blk (by decide):_≠some gd)
     have HKB:=hid kb
     have HNE:=hid hne
     clear hFI hG HGG HSL HI2 DE hot3 kf kb hne
     cases fb with
     |false=>
      go_wp2_with(at_builtin;refine kZ rfl (.tmp 54) (.tmp 56) 33 rfl base 9 j0 _ 1 16 Tryz.underlying33 hj0 hy0 hy1 hy2 rfl (by decide) _ _ _ (by rfl) (HOT3.out.alloc _) _ 1 1 [.string (bs s)] (by rfl) (Src.of_blk (Blk.made_at _ _ _ (by simp)) 1 1 1 rfl) (by intro u hu;simp at hu;rcases hu with rfl;rfl) (by unfold maxLen;omega) (by omega) (by simp;omega) ?_;intro v5 w5 hown5 hg5 hat5;obtain⟨A5,c5,rfl⟩:=bZ hown5;have b5:=(HKB.out.alloc (.cells #[.string (bs s)] 9)).grown hg5 HNE.out;have q0:=b5.cell 0;have q1:=b5.frozen 0;simp only[List.getElem?_toArray,List.getElem?_cons_zero]at q0)
      have HI5:=hid (HFI.out.texts (s:=s) hg5 (by rw[<-HP.out];exact hown5) hat5)
      clear hown5 hg5 hat5 b5 q0 q1 HFI HOT3 HKB HNE k0
      go_roundw
      case measure=>go_light;simp[intOf];omega
      case rel=>go_light;exact⟨i+1,a2,t2++ [s],h2,_,uH,by omega,by first|rfl|go_num,by rw[List.length_append,<-HP.out];simp;omega,by rw[List.length_append,<-HP.out];omega,HI5.out,by intro y hy;rcases List.mem_append.1 hy with h|h;exact HS2.out y h;(rw[List.mem_singleton]at h;rw[h];exact HSL2.out),by rw[decide_eq_false (by omega)];exact HG2.out⟩
     |true=>
      have hoh:=HFI.out.dat.oh
      obtain⟨q,hq⟩:∃q,q=h2.length:=⟨_,rfl⟩
      rw[<-hq]at hoh hh2
      obtain⟨Ah,ch,rfl⟩:=bZ hoh
      have HQ:=hid hq
      clear hoh hq
      go_wp2_with(first|(at_builtin;refine kZ rfl (.tmp 54) (.tmp 56) 33 rfl base 9 j0 _ 1 16 Tryz.underlying33 hj0 hy0 hy1 hy2 rfl (by decide) _ _ _ (by rfl) (HOT3.out.alloc _) _ 1 1 [.string (bs s)] (by rfl) (Src.of_blk (Blk.made_at _ _ _ (by simp)) 1 1 1 rfl) (by intro u hu;simp at hu;rcases hu with rfl;rfl) (by unfold maxLen;omega) (by omega) (by simp;omega) ?_;intro v5 w5 hown5 hg5 hat5;obtain⟨A5,c5,rfl⟩:=bZ hown5;have b5:=(HKB.out.alloc (.cells #[.string (bs s)] 9)).grown hg5 HNE.out;have q0:=b5.cell 0;have q1:=b5.frozen 0;have HI5:=hid (HFI.out.texts (s:=s) hg5 (by rw[<-HP.out];exact hown5) hat5);have r0:=HI5.out.dat.blk.cell 2;have r1:=HI5.out.dat.blk.frozen 2;have hb5:base<=w5.heap.size:=(by have h1:=HI5.out.dat.gb;have h2:=b5.lt;omega);have hoh5:=HI5.out.dat.oh;rw[<-HQ.out]at hoh5;have HOH5:=hid hoh5;clear hoh5 hown5 hg5 hat5;simp only[List.getElem?_toArray,List.getElem?_cons_zero,List.getElem?_cons_succ]at q0 r0)|(at_builtin;refine kZ rfl (.tmp 67) (.tmp 69) 33 rfl base 9 j0 _ 1 16 Tryz.underlying33 hj0 hy0 hy1 hy2 rfl (by decide) _ _ _ (by rfl) (HOH5.out.alloc _) _ 1 1 [.string (bs s)] (by rfl) (Src.of_blk (Blk.made_at _ _ _ (by simp)) 1 1 1 rfl) (by intro u hu;simp at hu;rcases hu with rfl;rfl) (by unfold maxLen;omega) (by omega) (by simp;omega) ?_;intro v7 w7 hown7 hg7 hat7;obtain⟨A7,c7,rfl⟩:=bZ hown7;have b7:=(HI5.out.dat.blk.alloc (.cells #[.string (bs s)] 9)).grown hg7 (Ne.symm (jZ HI5.out.dat.oh HI5.out.dat.blk (by decide)));have s0:=b7.cell 2;have s1:=b7.frozen 2;have HI7:=hid (HI5.out.heads (s:=s) hg7 (by rw[<-HQ.out];exact hown7) hat7);clear hown7 hg7 hat7;simp only[List.getElem?_toArray,List.getElem?_cons_zero,List.getElem?_cons_succ]at s0))
      go_roundw
      case measure=>go_light;simp[intOf];omega
      case rel=>go_light;exact⟨i+1,a2,t2++ [s],h2++ [s],_,_,by omega,by first|rfl|go_num,by rw[List.length_append,<-HP.out];simp;omega,by rw[List.length_append,List.length_append,<-HP.out,<-HQ.out];simp;omega,HI7.out,by intro y hy;rcases List.mem_append.1 hy with h|h;exact HS2.out y h;(rw[List.mem_singleton]at h;rw[h];exact HSL2.out),by rw[decide_eq_false (by omega)];exact HG2.out⟩
    ·have gE:(e2 != 0)=true:=by simpa using he
     have HR0:Hid (F=([],e2)):=by have h:=HGG.out;rw[if_pos he]at h;exact h.symm
     have HNE:=hid he
     clear he HGG HSL HI2 DE
     go_wp2_with fail
     go_ret
     rw[HR0.out]
     exact⟨rfl,HK2.out,fun h=>absurd h HNE.out⟩
   ·obtain⟨gq,cq,hAq,hgq,_⟩:=HOT.out.form (by omega)
    injection hAq with q1 q2 q3
    subst q1 q3
    clear q2
    have hyl:t2[p-1]? =some was:=by
     have h:=HWAS.out
     rw[List.getLast?_eq_getElem?,<-HP.out,List.getElem?_eq_getElem (by have:=HP.out;omega)]at h
     rw[List.getElem?_eq_getElem (by have:=HP.out;omega),h]
     rfl
    have cy:wr.cell? ⟨gq,p-1,none⟩=some (.string (bs was)):=by rw[HOT.out.cellAt (p-1) (by omega)];exact llZ hyl
    obtain⟨p1,hp1⟩:∃p1,p1=p-1:=⟨_,rfl⟩
    rw[<-hp1]at cy
    have sp:IntKind.i64.wrap ((p:Int)-1)=(p1:Int):=by rw[IntWalk.i64_in _ (by omega)];omega
    have gp:decide ((0:Int)<(p:Int))=true:=by simp;omega
    have gp':decide (0<p)=true:=by simp;omega
    have x10:(0:Int)<=(p1:Int):=by omega
    have x11:(p1:Int)<(p:Int):=by omega
    clear hyl hp1 hp0
    go_wp2_with fail
    go_quiet (fail)
    go_wp2_with fail
    refine(DN.out _ (HI.out.cur.drewN _)).mono ?_
    rintro e w2 ⟨rfl,hc2,hk2⟩
    clear DN
    have hk2:Kept (ebZ g wr) wr w2:=⟨hk2.os,hk2.tape,hk2.output,hk2.size,hk2.block⟩
    have hcb:=HI.out.cur.blk
    clear cy sp gp gp' x10 x11
    have z2:=hk2.size
    have HI2:=hid (fun he:e2=0=>HI.out.next hglo (he ▸ hc2) hk2)
    have HK2:Hid (Kept (jjZ w gd vT vH) w w2):=HI.out.kept.trans ⟨hk2.os,hk2.tape,hk2.output,hk2.size,fun y hy=>hk2.block y ⟨by have:=hy.1;omega,fun e=>by have:=hy.1;omega⟩⟩
    have DE:=hid (lcZ w2 g w.heap.size ls B d a2 e2 hc2)
    clear hc2 hk2 HI c0 hcb HOT
    go_wp2_with fail
    refine DE.out.mono ?_
    rintro e w3 ⟨rfl,rfl⟩
    by_cases he:e2=0
    ·subst he
     have hFI:=HI2.out rfl
     have HFI:=hid hFI
     have hG:=HGG.out
     rw[if_neg (show ¬((0:Int)≠0) from fun h=>h rfl)]at hG
     have HG2:=hid hG
     have HSL2:=hid (HSL.out rfl)
     have k0:=hFI.dat.blk.cell 0
     simp only[List.getElem?_toArray,List.getElem?_cons_zero]at k0
     have hot3:=hFI.dat.ot
     rw[<-HP.out]at hot3
     have HOT3:=hid hot3
     have hbr3:base<=w3.heap.size:=by omega
     have kf:=hFI.dat.blk.frozen 0
     have kb:=hFI.dat.blk
     have hne:=Ne.symm (jZ hFI.dat.ot hFI.dat.blk (by decide):_≠some gd)
     have HKB:=hid kb
     have HNE:=hid hne
     clear hFI hG HGG HSL HI2 DE hot3 kf kb hne
     cases fb with
     |false=>
      go_wp2_with(at_builtin;refine kZ rfl (.tmp 54) (.tmp 56) 33 rfl base 9 j0 _ 1 16 Tryz.underlying33 hj0 hy0 hy1 hy2 rfl (by decide) _ _ _ (by rfl) (HOT3.out.alloc _) _ 1 1 [.string (bs s)] (by rfl) (Src.of_blk (Blk.made_at _ _ _ (by simp)) 1 1 1 rfl) (by intro u hu;simp at hu;rcases hu with rfl;rfl) (by unfold maxLen;omega) (by omega) (by simp;omega) ?_;intro v5 w5 hown5 hg5 hat5;obtain⟨A5,c5,rfl⟩:=bZ hown5;have b5:=(HKB.out.alloc (.cells #[.string (bs s)] 9)).grown hg5 HNE.out;have q0:=b5.cell 0;have q1:=b5.frozen 0;simp only[List.getElem?_toArray,List.getElem?_cons_zero]at q0)
      have HI5:=hid (HFI.out.texts (s:=s) hg5 (by rw[<-HP.out];exact hown5) hat5)
      clear hown5 hg5 hat5 b5 q0 q1 HFI HOT3 HKB HNE k0
      go_roundw
      case measure=>go_light;simp[intOf];omega
      case rel=>go_light;exact⟨i+1,a2,t2++ [s],h2,_,uH,by omega,by first|rfl|go_num,by rw[List.length_append,<-HP.out];simp;omega,by rw[List.length_append,<-HP.out];omega,HI5.out,by intro y hy;rcases List.mem_append.1 hy with h|h;exact HS2.out y h;(rw[List.mem_singleton]at h;rw[h];exact HSL2.out),by rw[decide_eq_false (by omega)];exact HG2.out⟩
     |true=>
      have hoh:=HFI.out.dat.oh
      obtain⟨q,hq⟩:∃q,q=h2.length:=⟨_,rfl⟩
      rw[<-hq]at hoh hh2
      obtain⟨Ah,ch,rfl⟩:=bZ hoh
      have HQ:=hid hq
      clear hoh hq
      go_wp2_with(first|(at_builtin;refine kZ rfl (.tmp 54) (.tmp 56) 33 rfl base 9 j0 _ 1 16 Tryz.underlying33 hj0 hy0 hy1 hy2 rfl (by decide) _ _ _ (by rfl) (HOT3.out.alloc _) _ 1 1 [.string (bs s)] (by rfl) (Src.of_blk (Blk.made_at _ _ _ (by simp)) 1 1 1 rfl) (by intro u hu;simp at hu;rcases hu with rfl;rfl) (by unfold maxLen;omega) (by omega) (by simp;omega) ?_;intro v5 w5 hown5 hg5 hat5;obtain⟨A5,c5,rfl⟩:=bZ hown5;have b5:=(HKB.out.alloc (.cells #[.string (bs s)] 9)).grown hg5 HNE.out;have q0:=b5.cell 0;have q1:=b5.frozen 0;have HI5:=hid (HFI.out.texts (s:=s) hg5 (by rw[<-HP.out];exact hown5) hat5);have r0:=HI5.out.dat.blk.cell 2;have r1:=HI5.out.dat.blk.frozen 2;have hb5:base<=w5.heap.size:=(by have h1:=HI5.out.dat.gb;have h2:=b5.lt;omega);have hoh5:=HI5.out.dat.oh;rw[<-HQ.out]at hoh5;have HOH5:=hid hoh5;clear hoh5 hown5 hg5 hat5;simp only[List.getElem?_toArray,List.getElem?_cons_zero,List.getElem?_cons_succ]at q0 r0)|(at_builtin;refine kZ rfl (.tmp 67) (.tmp 69) 33 rfl base 9 j0 _ 1 16 Tryz.underlying33 hj0 hy0 hy1 hy2 rfl (by decide) _ _ _ (by rfl) (HOH5.out.alloc _) _ 1 1 [.string (bs s)] (by rfl) (Src.of_blk (Blk.made_at _ _ _ (by simp)) 1 1 1 rfl) (by intro u hu;simp at hu;rcases hu with rfl;rfl) (by unfold maxLen;omega) (by omega) (by simp;omega) ?_;intro v7 w7 hown7 hg7 hat7;obtain⟨A7,c7,rfl⟩:=bZ hown7;have b7:=(HI5.out.dat.blk.alloc (.cells #[.string (bs s)] 9)).grown hg7 (Ne.symm (jZ HI5.out.dat.oh HI5.out.dat.blk (by decide)));have s0:=b7.cell 2;have s1:=b7.frozen 2;have HI7:=hid (HI5.out.heads (s:=s) hg7 (by rw[<-HQ.out];exact hown7) hat7);clear hown7 hg7 hat7;simp only[List.getElem?_toArray,List.getElem?_cons_zero,List.getElem?_cons_succ]at s0))
      go_roundw
      case measure=>go_light;simp[intOf];omega
      case rel=>go_light;exact⟨i+1,a2,t2++ [s],h2++ [s],_,_,by omega,by first|rfl|go_num,by rw[List.length_append,<-HP.out];simp;omega,by rw[List.length_append,List.length_append,<-HP.out,<-HQ.out];simp;omega,HI7.out,by intro y hy;rcases List.mem_append.1 hy with h|h;exact HS2.out y h;(rw[List.mem_singleton]at h;rw[h];exact HSL2.out),by rw[decide_eq_false (by omega)];exact HG2.out⟩
    ·have gE:(e2 != 0)=true:=by simpa using he
     have HR0:Hid (F=([],e2)):=by have h:=HGG.out;rw[if_pos he]at h;exact h.symm
     have HNE:=hid he
     clear he HGG HSL HI2 DE
     go_wp2_with fail
     go_ret
     rw[HR0.out]
     exact⟨rfl,HK2.out,fun h=>absurd h HNE.out⟩
  ·obtain rfl:i=n:=by omega
   have hG:=HG.out
   rw[Nat.sub_self,ncZ]at hG
   have gi:decide ((i:Int)<(i:Int))=false:=by simp
   have DE:=hid (azZ wr g w.heap.size ls B d at_ 0 HI.out.cur)
   have HGG:=hid hG
   clear hG HG
   generalize vgZ ls at_ 0=ee at *
   go_wp2_with fail
   refine DE.out.mono ?_
   rintro e w5 ⟨rfl,hc5,hk5⟩
   have HK5:Hid (Kept (jjZ w gd vT vH) w w5):=HI.out.kept.trans ⟨hk5.os,hk5.tape,hk5.output,hk5.size,fun y hy=>hk5.block y (fun e=>by have:=hy.1;omega)⟩
   have HD5:Hid (DAt w5 base gd size t2 h2 uT uH):=HI.out.dat.oth HI.out.cur.blk ⟨hk5.os,hk5.tape,hk5.output,hk5.size,fun y hy=>hk5.block y hy.2⟩
   clear hc5 hk5
   go_wp2_with fail
   go_ret
   rw[<-HGG.out]
   exact⟨rfl,HK5.out,fun _=>⟨HS2.out,h2,uT,uH,HD5.out,HI.out.lt,HI.out.lh,hh2⟩⟩
end Go.Proofs.YtbgoibedicbkjaaGreatDoor.Idx
namespace Go.Proofs.YtbgoibedicbkjaaGreatDoor.Idx
open Go.RowKit Mem Own Canon Sift
open NumPut Recs Go.Proofs.YtbgoibedicbkjaaGreatDoor Crc Block
open Nums
def szR(n size:Nat)(ls:List Nat):Nat->Nat->Nat->List Nat->List Nat×Nat×Int
 |0,at_,_,acc=>(acc,at_,0)
 |f+1,at_,x,acc=>if n<=x then(acc,at_,0)else if qZ 2000 ls at_ 0≠0 then([],pZ 2000 ls at_ 0,qZ 2000 ls at_ 0)else szR n size ls f (pZ 2000 ls at_ 0) (x+size) (acc++ [tZ 2000 ls at_ 0])
theorem fzZ{n size:Nat}{ls:List Nat}{f at_ x:Nat}{acc:List Nat}(h:n<=x):szR n size ls f at_ x acc=(acc,at_,0):=by
 cases f with
 |zero=>rfl
 |succ f=>exact if_pos h
def bkR(size:Nat)(ls:List Nat):List Nat->Nat->Nat->List Str->List Str×Nat×Int
 | [],_,at_,acc=>(acc,at_,0)
 |k :: ks,r,at_,acc=>if gbZ ls at_ 0 k≠0 then([],0,gbZ ls at_ 0 k)
  else if(ncZ (fbZ ls at_ 0 k) (min size r) true 0 acc).2≠0 then([],0,(ncZ (fbZ ls at_ 0 k) (min size r) true 0 acc).2)
  else bkR size ls ks (r-size) (takeA ls at_ 0 k) (ncZ (fbZ ls at_ 0 k) (min size r) true 0 acc).1
def chZ(size:Nat)(ls:List Nat):List Nat×Nat×Int:=
 if qZ 1048576 ls 0 0≠0 then([],pZ 1048576 ls 0 0,qZ 1048576 ls 0 0)else szR (tZ 1048576 ls 0 0) size ls (tZ 1048576 ls 0 0) (pZ 1048576 ls 0 0) 0 []
def zdZ(size:Nat)(ls:List Nat):List Str×Nat×Int:=
 if(chZ size ls).2.2≠0 then([],0,(chZ size ls).2.2)else bkR size ls (chZ size ls).1 (tZ 1048576 ls 0 0) (chZ size ls).2.1 []
def zvZ(w:World)(R:List Str×Nat×Int)(e:Ending)(w':World):Prop:=
 Below w.heap.size w w'/\(R.2.2≠0->e= .returned (.tuple #[.pointer none, .int .i64 0, .int .i64 R.2.2]))/\(R.2.2=0->∃gd size hs vT vH,e= .returned (.tuple #[.pointer (some ⟨gd,0,none⟩), .int .i64 (R.2.1:Nat), .int .i64 0])/\DAt w' w.heap.size gd size R.1 hs vT vH)
theorem niZ{w w':World}{R:List Str×Nat×Int}{er:Int}(hR:R=([],0,er))(he:er≠0)(hb:Below w.heap.size w w'):zvZ w R (.returned (.tuple #[.pointer none, .int .i64 0, .int .i64 er])) w':=by
 subst hR
 exact⟨hb,fun _=>rfl,fun h=>absurd h he⟩
theorem waZb{w w':World}{row:Option Nat}{g base c at_:Nat}{bs2:List Nat}{A:Option Addr}{er:Int}(h:Cur w g base bs2 A c at_ er)(hg:w.grownBy w' row)(B:Nat)(hgB:g<B)(hob:∀x,(Value.slice A bs2.length c).ownBlock=some x->x<B)(hr:∀x,row=some x->B<=x):Cur w' g base bs2 A c at_ er:=
 ⟨h.blk.grown hg (fun e=>by have:=hr g e.symm;omega),eZ h.own (fun x hx=>hg.block x (World.ownsRow.lt h.own x hx).2 (fun e=>by have:=hob x hx;have:=hr x e.symm;omega)),h.le,h.lo⟩
theorem gzZ{w:World}{base gd size y:Nat}{ts hs:List Str}{uT uH:Value}(hD:DAt w base gd size ts hs uT uH)(hy:y<w.heap.size)(hb:y<base):jjZ w gd uT uH y:=
 ⟨hy,by have:=hD.gb;omega,fun e=>by have:=(World.ownsRow.lt hD.ot y e).1;omega,fun e=>by have:=(World.ownsRow.lt hD.oh y e).1;omega⟩
theorem tpZ{w:World}{base gd size b2 n y:Nat}{ts hs:List Str}{uT uH v:Value}{e:TypeId}{xs:List Value}(hD:DAt w base gd size ts hs uT uH)(h:w.ownsRow b2 e 1 v n xs)(he:9≠e)(hd:e≠222)(hy:v.ownBlock=some y):jjZ w gd uT uH y:=
 ⟨(World.ownsRow.lt h y hy).2,fun e2=>jZ h hD.blk hd (e2 ▸ hy),fun e2=>by
   rcases ddZ hD.ot h he with e3|e3
   ·rw[e3]at e2;cases e2
   ·exact e3 (by rw[e2,hy]),fun e2=>by
   rcases ddZ hD.oh h he with e3|e3
   ·rw[e3]at e2;cases e2
   ·exact e3 (by rw[e2,hy])⟩
theorem awZ{w w':World}{base gd size g b2 c at_:Nat}{ts hs:List Str}{uT uH:Value}{ls:List Nat}{A:Option Addr}{er:Int}(h:Cur w g b2 ls A c at_ er)(hD:DAt w base gd size ts hs uT uH)(hk:Kept (jjZ w gd uT uH) w w'):Cur w' g b2 ls A c at_ er:=
 ⟨(hk.block g ⟨h.blk.lt,fun e=>Blk.apart hD.blk h.blk (by decide) e.symm,jZ hD.ot h.blk (by decide),jZ hD.oh h.blk (by decide)⟩).trans h.blk,eZ h.own (fun y hy=>hk.block y (tpZ hD h.own (by decide) (by decide) hy)),h.le,h.lo⟩
theorem nkZ(ls:List Nat):∀ (k:Nat) (first:Bool) (at_:Nat) (acc:List Str),(ncZ ls k first at_ acc).2=0->(ncZ ls k first at_ acc).1.length=acc.length+k
 |0,_,_,_,_=>rfl
 |k+1,first,at_,acc,h=>by
  unfold ncZ at h ⊢
  split at h
  ·rename_i he;exact absurd h he
  ·rename_i he
   rw[if_neg he]
   rw[nkZ ls k false _ _ h,List.length_append]
   simp;omega
theorem ftZ:(Tryz.prog.info? 3).map (fun i=>(i.zero,i.size,i.bytes))=some (some (.int .i64 0),1,8):=by kernel_rfl
theorem vdZb(w:World)(A:Option Addr)(m c size:Nat)(ls:List Nat)(hm:ls.length=m)(hle:m<=100000)(h8:∀x∈ls,x<=255)(hnil:A=none->m=0/\c=0)(ha:Row w w.heap.size A m 1 (mZ .u8 ls))(hs1:1<=size)(hs2:size<=64):
 Calls Tryz.prog 114 #[.int .i64 (size:Nat), .slice A m c] w (zvZ w (zdZ size ls)):=by
 obtain⟨j0,hj0,hy0,hy1,hy2⟩:=info_parts ftZ
 have D0:=hid (new_any w A m c ls hm hle hnil ha)
 have hle':ls.length<=100000:=by omega
 have HLE:=hid hle'
 have H8:=hid h8
 have D1:=hid (fun wx g B d h=>mhZ wx g w.heap.size ls B d 0 0 1048576 hle' h8 (by omega) h)
 have gs1:decide ((size:Int)<1)=false:=by simp;omega
 have gs1':decide (size<1)=false:=by simp;omega
 have gs2:decide ((64:Int)<(size:Int))=false:=by simp;omega
 have gs2':decide (64<size)=false:=by simp;omega
 obtain⟨R,hR⟩:∃R,R=zdZ size ls:=⟨_,rfl⟩
 rw[<-hR]
 unfold zdZ at hR
 obtain⟨Z,hZ⟩:∃Z,Z=chZ size ls:=⟨_,rfl⟩
 rw[<-hZ]at hR
 unfold chZ at hZ
 have hvb:tZ 1048576 ls 0 0<=1048576:=qbZ h8 0 0
 have hv0:qZ 1048576 ls 0 0≠0->tZ 1048576 ls 0 0=0:=by
  intro h
  unfold qZ at h
  rw[if_neg (by simp)]at h
  unfold tZ
  rw[if_neg (by simp)]
  exact((tdZ 1048576 (ls.drop 0) fun x hx=>h8 x (List.mem_of_mem_drop hx)).2.2.2.1 h).1
 generalize tZ 1048576 ls 0 0=n at *
 generalize pZ 1048576 ls 0 0=a0 at *
 generalize qZ 1048576 ls 0 0=e0 at *
 have HZ0:Hid ((e0=0->∃f,n<=f+0/\szR n size ls f a0 0 []=Z)/\(e0≠0->Z=([],a0,e0))):=⟨fun h=>⟨n,by omega,by rw[hZ,if_neg (by simp[h])]⟩,fun h=>by rw[hZ,if_pos h]⟩
 have HR:=hid hR
 have HV0:=hid hv0
 clear hm h8 hnil ha hR hZ hv0 hle hle'
 go_enter Tryz.func114,Tryz.ntmps114
 go_wp2_with fail
 refine D0.out.mono ?_
 rintro e w1 ⟨g,B,d,rfl,hc1,hb1⟩
 have DI:=hid (D1.out w1 g B d hc1)
 have HB1:=hid hb1
 have hglo:=hc1.lo
 have hgl:=hc1.blk.lt
 have zw1:=hb1.size
 have HCB:Hid (∀y,(Value.slice B ls.length d).ownBlock=some y->y<w1.heap.size):=fun y hy=>(World.ownsRow.lt hc1.own y hy).2
 clear hc1 hb1 D0 D1
 go_wp2_with fail
 refine DI.out.mono ?_
 rintro e w2 ⟨rfl,hc2,hk2⟩
 have HB2:Hid (Below w.heap.size w w2):=HB1.out.trans (hk2.below fun b h=>⟨by omega,by omega⟩)
 have z2:=hk2.size
 have HC2:=hid hc2
 clear hc2 hk2 HB1 DI
 go_wp2_with fail
 go_loopw [9,10] (fun v xv wr=>∃ (x at_ q:Nat) (er:Int) (acc:List Nat),x<=n+64/\q<=x/\xv= .int .i64 x/\Hid (acc.length=q)/\Hid (q*size=x)/\Hid (0<q->x<n+size)/\Hid (∀y∈acc,y<=2000)/\Hid (Cur wr g w.heap.size ls B d at_ er)/\Hid (wr.ownsRow w2.heap.size 3 1 v q (cZ .i64 acc))/\Hid (Kept (fun y=>y<w2.heap.size/\y≠g) w2 wr)/\Hid (er=0->∃f,n<=f+x/\szR n size ls f at_ x acc=Z)/\Hid (er≠0->Z.2.2=er/\(n=0∨0<q))) (fun _ xv _=>n+64-(intOf xv).toNat)
 case atStart=>exact⟨0,a0,0,e0,[],by omega,by omega,rfl,rfl,by show _=_;omega,fun h=>by omega,fun y hy=>by simp at hy,HC2.out,World.ownsRow_nil _ _ _ _,Kept.refl _ _,HZ0.out.1,fun h=>⟨by rw[HZ0.out.2 h], .inl (HV0.out h)⟩⟩
 case round=>
  obtain⟨x,at_,q,er,acc,hx,hqx,rfl,HQ,HQX,HXN,HA,HC,HO,HK,HT,HE⟩:=hrel
  have zk:=HK.out.size
  obtain⟨va,vc,rfl⟩:=bZ HO.out
  clear HZ0 HC2
  by_cases hlt:x<n
  ·have g1:decide ((x:Int)<(n:Int))=true:=by simp;omega
   have g1':decide (x<n)=true:=by simp;omega
   have DE:=hid (lcZ wr g w.heap.size ls B d at_ er HC.out)
   by_cases he:er=0
   ·subst he
    obtain⟨f,hf,hT⟩:=HT.out rfl
    obtain⟨f,rfl⟩:∃f',f=f'+1:=⟨f-1,by omega⟩
    rw[szR,if_neg (by omega)]at hT
    have D:=hid (fun wx hx=>mhZ wx g w.heap.size ls B d at_ 0 2000 HLE.out H8.out (by omega) hx)
    have hk2:tZ 2000 ls at_ 0<=2000:=qbZ H8.out _ _
    generalize tZ 2000 ls at_ 0=k at *
    generalize pZ 2000 ls at_ 0=a2 at *
    generalize qZ 2000 ls at_ 0=e2 at *
    have sx:IntKind.i64.wrap ((x:Int)+(size:Int))=((x+size:Nat):Int):=by rw[IntWalk.i64_in _ (by omega)];omega
    have HTT:Hid ((e2=0->∃f',n<=f'+(x+size)/\szR n size ls f' a2 (x+size) (acc++ [k])=Z)/\(e2≠0->Z.2.2=e2/\(n=0∨0<q+1))):=⟨fun h=>⟨f,by omega,by rw[if_neg (by simp[h])]at hT;exact hT⟩,fun h=>by rw[if_pos h]at hT;rw[<-hT];exact⟨rfl, .inr (by omega)⟩⟩
    have HA2:Hid (∀y∈acc++ [k],y<=2000):=fun y hy=>by
     rcases List.mem_append.1 hy with h|h
     ·exact HA.out y h
     ·rw[List.mem_singleton]at h;omega
    have HQX2:Hid ((q+1)*size=x+size):=by show _=_;rw[Nat.succ_mul,HQX.out]
    clear hT HT HE hf HA HQX HXN
    go_wp2_with fail
    refine DE.out.mono ?_
    rintro e w3 ⟨rfl,rfl⟩
    go_wp2_with fail
    refine(D.out _ HC.out).mono ?_
    rintro e w4 ⟨rfl,hc4,hk4⟩
    have z4:=hk4.size
    have HC4:=hid hc4
    have HO4:Hid (w4.ownsRow w2.heap.size 3 1 (.slice va q vc) q (cZ .i64 acc)):=eZ HO.out (fun y hy=>hk4.block y ⟨(World.ownsRow.lt HO.out y hy).2,by have:=(World.ownsRow.lt HO.out y hy).1;omega⟩)
    have HK4:Hid (Kept (fun y=>y<w2.heap.size/\y≠g) w2 w4):=HK.out.trans ⟨hk4.os,hk4.tape,hk4.output,hk4.size,fun y hy=>hk4.block y ⟨by have:=hy.1;omega,hy.2⟩⟩
    clear hc4 hk4 HC HO HK DE D
    go_wp2_with(at_builtin;refine kZ rfl (.tmp 39) (.tmp 42) 30 rfl w2.heap.size 3 j0 _ 1 8 Tryz.underlying30 hj0 hy0 hy1 hy2 rfl (by decide) _ _ _ (by rfl) (HO4.out.alloc _) _ 1 1 [.int .i64 (k:Nat)] (by rfl) (Src.of_blk (Blk.made_at _ _ _ (by simp)) 1 1 1 rfl) (by intro u hu;simp at hu;rcases hu with rfl;rfl) (by unfold maxLen;omega) (by omega) (by simp;omega) ?_;intro v5 w5 hown5 hg5 hat5;obtain⟨A5,c5,rfl⟩:=bZ hown5)
    have hgr:=fun(y:Nat) hy=>(World.ownsRow.lt HO4.out y hy).1
    have zk4:=HK4.out.size
    have hc5:=waZb (HC4.out.step (aZ (o:= .cells #[.int .i64 (k:Nat)] 3) (Below.refl w4.heap.size w4))) hg5 w2.heap.size (by omega) (fun y hy=>by have:=HCB.out y hy;omega) hgr
    have HC5:=hid hc5
    have HK5:Hid (Kept (fun y=>y<w2.heap.size/\y≠g) w2 w5):=(HK4.out.alloc (fun y hy=>by have:=hy.1;omega) _).grown hg5 (fun y hy=>by have:=hy.1;simp;omega) (fun y hy hh=>by have:=hgr y hy;have:=hh.1;omega)
    have HO5:Hid (w5.ownsRow w2.heap.size 3 1 (.slice A5 (q+1) c5) (q+1) (cZ .i64 (acc++ [k]))):=by
     show World.ownsRow _ _ _ _ _ _ _
     rw[show cZ .i64 (acc++ [k])=cZ .i64 acc++ [.int .i64 (k:Nat)] by simp[cZ]]
     exact hown5
    clear hown5 hg5 hat5 hgr hc5 HC4 HO4 HK4
    go_roundw
    case measure=>go_light;simp[intOf];omega
    case rel=>go_light;exact⟨x+size,a2,q+1,e2,acc++ [k],by omega,by omega,by first|rfl|go_num,by show _=_;rw[List.length_append,HQ.out];rfl,HQX2.out,fun _=>by omega,HA2.out,HC5.out,HO5.out,HK5.out,HTT.out.1,HTT.out.2⟩
   ·have gE:(er==0)=false:=by simpa using he
    have HZF:Hid ((er=0->Z=(acc,at_,0))/\(er≠0->Z.2.2=er)):=⟨fun h=>absurd h he,fun h=>(HE.out h).1⟩
    clear he HT HE
    go_wp2_with fail
    refine DE.out.mono ?_
    rintro e w3 ⟨rfl,rfl⟩
    clear DE
    go_wp2_with fail
    have HRF:Hid ((er=0->R=bkR size ls (acc.drop 0) (n-0) at_ [])/\(er≠0->R=([],0,er))):=⟨fun h=>by have hr:=HR.out;rw[HZF.out.1 h]at hr;rw[if_neg (fun h=>h rfl)]at hr;exact hr,fun h=>by have hr:=HR.out;rw[HZF.out.2 h,if_pos h]at hr;exact hr⟩
    have HD0:Hid (DAt (w3.alloc (.cells #[.slice none 0 0, .int .i64 (size:Nat), .slice none 0 0] 222)) w.heap.size w3.heap.size size [] [] (.slice none 0 0) (.slice none 0 0)):=⟨Blk.made _ _ _,World.ownsRow_nil _ _ _ _,World.ownsRow_nil _ _ _ _,(fun y h=>by cases h),by omega⟩
    have HC0:Hid (Cur (w3.alloc (.cells #[.slice none 0 0, .int .i64 (size:Nat), .slice none 0 0] 222)) g w.heap.size ls B d at_ er):=HC.out.step (aZ (Below.refl _ _))
    have HO0:Hid ((w3.alloc (.cells #[.slice none 0 0, .int .i64 (size:Nat), .slice none 0 0] 222)).ownsRow w2.heap.size 3 1 (.slice va q vc) q (cZ .i64 acc)):=HO.out.alloc _
    have HB3:Hid (Below w.heap.size w w3):=HB2.out.trans (HK.out.below fun b h=>⟨by omega,by omega⟩)
    have HB0:Hid (Below w.heap.size w (w3.alloc (.cells #[.slice none 0 0, .int .i64 (size:Nat), .slice none 0 0] 222))):=gZ HB3.out.size HB3.out
    generalize hgd:w3.heap.size=gd at *
    clear hgd HZF HR HC HO HK HB3
    go_loopw [49] (fun iv wr=>∃ (i y at2:Nat) (er2:Int) (ts hs:List Str) (uT uH:Value),i<=q/\iv= .int .i64 i/\Hid (y=i*size)/\ts.length<=y/\hs.length<=ts.length/\Hid (∀s∈ts,s.length<=25)/\Hid (Cur wr g w.heap.size ls B d at2 er2)/\Hid (DAt wr w.heap.size gd size ts hs uT uH)/\Hid (wr.ownsRow w2.heap.size 3 1 (.slice va q vc) q (cZ .i64 acc))/\Hid (Below w.heap.size w wr)/\Hid (er2=0->R=bkR size ls (acc.drop i) (n-y) at2 ts)/\Hid (er2≠0->R=([],0,er2))) (fun iv _=>q-(intOf iv).toNat)
    case atStart=>exact⟨0,0,at_,er,[],[], .slice none 0 0, .slice none 0 0,by omega,rfl,by show _=_;omega,by simp,by simp,(fun s hs=>by simp at hs),HC0.out,HD0.out,HO0.out,HB0.out,HRF.out.1,HRF.out.2⟩
    case round=>
     obtain⟨i,y,at2,er2,ts,hs,uT,uH,hi,rfl,HY,hts,hhs,HTS,HC,HD,HO,HB,HT,HE⟩:=hrel
     clear HC0 HD0 HO0 HB0 HRF
     have zr:=HB.out.size
     by_cases hiq:i<q
     ·have gi:decide ((i:Int)<(q:Int))=true:=by simp;omega
      have gi':decide (i<q)=true:=by simp;omega
      have hyn:y+size<=x:=by
       have h1:(i+1)*size<=q*size:=Nat.mul_le_mul_right size hiq
       rw[Nat.succ_mul,HQX.out,<-HY.out]at h1
       exact h1
      have hxn:=HXN.out (by omega)
      obtain⟨k,hk⟩:∃k,acc[i]? =some k:=⟨_,List.getElem?_eq_getElem (by have:=HQ.out;omega)⟩
      have hk2:=HA.out k (List.mem_of_getElem? hk)
      have hdrop:acc.drop i=k :: acc.drop (i+1):=by
       obtain⟨hl,e⟩:=List.getElem?_eq_some_iff.1 hk
       rw[List.drop_eq_getElem_cons hl,e]
      obtain⟨gv,cv,hAv,hgv,_⟩:=HO.out.form (by omega)
      injection hAv with q1 q2 q3
      subst q1 q3
      clear q2
      have ck:wr.cell? ⟨gv,i,none⟩=some (.int .i64 (k:Nat)):=by
       rw[HO.out.cellAt i (by omega)]
       unfold cZ
       rw[List.getElem?_map,hk]
       rfl
      have x10:(0:Int)<=(i:Int):=by omega
      have x11:(i:Int)<(q:Int):=by omega
      have DT:=liZ wr g w.heap.size ls B d at2 er2 k HLE.out (by omega) HC.out
      unfold ghZ at DT
      have hT:er2=0->R=bkR size ls (k :: acc.drop (i+1)) (n-y) at2 ts:=fun h=>by rw[<-hdrop];exact HT.out h
      unfold bkR at hT
      have hte:er2≠0->gbZ ls at2 er2 k=er2:=fun h=>if_pos h
      have hto8:∀z∈fbZ ls at2 er2 k,z<=255:=fun z hz=>by
       unfold fbZ at hz
       split at hz
       ·simp at hz
       ·split at hz
        ·simp at hz
        ·exact H8.out z (List.mem_of_mem_drop (List.mem_of_mem_take hz))
      have htl:=yuZ ls at2 er2 k
      have hT2:er2=0->gbZ ls at2 0 k=gbZ ls at2 er2 k/\fbZ ls at2 0 k=fbZ ls at2 er2 k/\takeA ls at2 0 k=takeA ls at2 er2 k:=fun h=>by subst h;exact⟨rfl,rfl,rfl⟩
      have HTT:Hid (er2=0->R=if gbZ ls at2 er2 k≠0 then([],0,gbZ ls at2 er2 k)else if(ncZ (fbZ ls at2 er2 k) (min size (n-y)) true 0 ts).2≠0 then([],0,(ncZ (fbZ ls at2 er2 k) (min size (n-y)) true 0 ts).2)else bkR size ls (acc.drop (i+1)) (n-y-size) (takeA ls at2 er2 k) (ncZ (fbZ ls at2 er2 k) (min size (n-y)) true 0 ts).1):=fun h=>by
       obtain⟨p1,p2,p3⟩:=hT2 h
       have h2:=hT h
       rw[p1,p2,p3]at h2
       exact h2
      have HTE:=hid hte
      have HK:=hid hk
      generalize gbZ ls at2 er2 k=e3 at *
      generalize fbZ ls at2 er2 k=pt at *
      generalize takeA ls at2 er2 k=a3 at *
      have HT8:=hid hto8
      have DT:=hid DT
      clear hdrop hk hT hte hto8 hT2 HT
      go_wp2_with fail
      refine DT.out.mono ?_
      rintro e w4 ⟨v4,rfl,hown4,hc4,hk4⟩
      obtain⟨Ap,cp,rfl⟩:=bZ hown4
      have z4:=hk4.size
      have HC4:=hid hc4
      have HD4:Hid (DAt w4 w.heap.size gd size ts hs uT uH):=HD.out.oth HC.out.blk hk4
      have HO4:Hid (w4.ownsRow w2.heap.size 3 1 (.slice (some ⟨gv,0,none⟩) q vc) q (cZ .i64 acc)):=eZ HO.out (fun z hz=>hk4.block z ⟨(World.ownsRow.lt HO.out z hz).2,by have:=(World.ownsRow.lt HO.out z hz).1;omega⟩)
      have HB4:Hid (Below w.heap.size w w4):=HB.out.trans (hk4.below fun b h=>⟨by omega,by omega⟩)
      have HW4:=hid hown4
      have DE:=hid (lcZ w4 g w.heap.size ls B d a3 e3 hc4)
      clear hown4 hc4 hk4 DT HC HD HO HB ck
      go_wp2_with fail
      refine DE.out.mono ?_
      rintro e w5 ⟨rfl,rfl⟩
      by_cases he3:e3=0
      ·subst he3
       have her2:er2=0:=Classical.byContradiction fun h=>h (HTE.out h).symm
       have hr:=HTT.out her2
       rw[if_neg (show ¬((0:Int)≠0) from fun h=>h rfl)]at hr
       obtain⟨r,hr0⟩:∃r,r=n-y:=⟨_,rfl⟩
       obtain⟨mn,hmn⟩:∃mn,mn=min size r:=⟨_,rfl⟩
       have sy:IntKind.i64.wrap ((i:Int)*(size:Int))=(y:Int):=by rw[show(i:Int)*(size:Int)=(y:Int) by rw[HY.out];simp,IntWalk.i64_in _ (by omega)]
       have sr:IntKind.i64.wrap ((n:Int)-(y:Int))=(r:Int):=by rw[IntWalk.i64_in _ (by omega)];omega
       have smn:min (size:Int) (r:Int)=(mn:Int):=by omega
       rw[<-hr0,<-hmn]at hr
       have DF:=yvZ w5 Ap pt.length cp mn w.heap.size gd size pt ts hs uT uH rfl (by omega) HT8.out (fhZ HW4.out) (own_row HW4.out) (by omega) HD4.out HTS.out (by omega) hhs
       have hfl:=nkZ pt mn true 0 ts
       generalize ncZ pt mn true 0 ts=F at *
       obtain⟨f1,f2⟩:=F
       simp only at hr hfl
       have hmn2:mn<=size:=by rw[hmn];exact Nat.min_le_left _ _
       have HRR:Hid (r-size=n-(y+size)):=by show _=_;omega
       have DF:=hid DF
       have HRX:=hid hr
       clear hr HW4 HTT HTE HT8 hmn DE hr0 her2
       go_wp2_with fail
       refine DF.out.mono ?_
       rintro e w6 ⟨rfl,hk6,hok⟩
       have HB6:Hid (Below w.heap.size w w6):=HB4.out.trans (hk6.below fun b hb=>gzZ HD4.out (by omega) hb)
       by_cases hf:f2=0
       ·subst hf
        obtain⟨hs6,h6,vT6,vH6,hD6,_,_,hh6⟩:=hok rfl
        have HC6:=hid (awZ HC4.out HD4.out hk6)
        have HO6:Hid (w6.ownsRow w2.heap.size 3 1 (.slice (some ⟨gv,0,none⟩) q vc) q (cZ .i64 acc)):=eZ HO4.out (fun z hz=>hk6.block z (tpZ HD4.out HO4.out (by decide) (by decide) hz))
        have HD6:=hid hD6
        have HS6:=hid hs6
        have hf1:=hfl rfl
        have HR6:Hid (R=bkR size ls (acc.drop (i+1)) (n-(y+size)) a3 f1):=by have h:=HRX.out;rw[if_neg (fun h=>h rfl),HRR.out]at h;exact h
        have HY6:Hid (y+size=(i+1)*size):=by show _=_;rw[Nat.succ_mul,HY.out]
        have hl6:f1.length<=y+size:=by omega
        simp only at hh6
        clear hk6 hok hs6 hD6 HRX DF HC4 HD4 HO4 HB4 hf1 hfl HRR
        go_wp2_with fail
        go_roundw
        case measure=>go_light;simp[intOf];omega
        case rel=>go_light;exact⟨i+1,y+size,a3,0,f1,h6,vT6,vH6,by omega,by first|rfl|go_num,HY6.out,hl6,hh6,HS6.out,HC6.out,HD6.out,HO6.out,HB6.out,fun _=>HR6.out,fun h=>absurd rfl h⟩
       ·have gE:(f2 != 0)=true:=by simpa using hf
        have HR0:Hid (R=([],0,f2)):=by have h:=HRX.out;rw[if_pos hf]at h;exact h
        have HNE:=hid hf
        clear hf HRX hok hk6 DF HE
        go_wp2_with fail
        go_ret3
        exact niZ HR0.out HNE.out HB6.out
      ·have gE:(e3 != 0)=true:=by simpa using he3
       have HR0:Hid (R=([],0,e3)):=by
        by_cases h:er2=0
        ·have h2:=HTT.out h;rw[if_pos he3]at h2;exact h2
        ·rw[HTE.out h];exact HE.out h
       have HNE:=hid he3
       clear he3 HTT HE HTE DE
       go_wp2_with fail
       go_ret3
       exact niZ HR0.out HNE.out HB4.out
     ·obtain rfl:i=q:=by omega
      have gi:decide ((i:Int)<(i:Int))=false:=by simp
      have DE:=hid (lcZ wr g w.heap.size ls B d at2 er2 HC.out)
      have DA:=hid (xiZ wr g w.heap.size ls B d at2 er2 HC.out)
      by_cases he2:er2=0
      ·subst he2
       have HR0:Hid (R=(ts,at2,0)):=by
        have h:=HT.out rfl
        rw[List.drop_of_length_le (by rw[HQ.out];exact Nat.le_refl _)]at h
        exact h
       clear HT HE
       go_wp2_with fail
       refine DE.out.mono ?_
       rintro e w5 ⟨rfl,rfl⟩
       go_wp2_with fail
       refine DA.out.mono ?_
       rintro e w6 ⟨rfl,rfl⟩
       go_wp2_with fail
       go_ret3
       rw[HR0.out]
       exact⟨HB.out,fun h=>absurd rfl h,fun _=>⟨gd,size,hs,uT,uH,rfl,HD.out⟩⟩
      ·have gE:(er2 != 0)=true:=by simpa using he2
       have HR0:Hid (R=([],0,er2)):=HE.out he2
       have HNE:=hid he2
       clear he2 HT HE DA
       go_wp2_with fail
       refine DE.out.mono ?_
       rintro e w5 ⟨rfl,rfl⟩
       go_wp2_with fail
       go_ret3
       exact niZ HR0.out HNE.out HB.out
  ·have g1:decide ((x:Int)<(n:Int))=false:=by simp;omega
   have g1':decide (x<n)=false:=by simp;omega
   have HZF:Hid ((er=0->Z=(acc,at_,0))/\(er≠0->Z.2.2=er)):=⟨fun h=>by obtain⟨f,_,h2⟩:=HT.out h;rw[fzZ (by omega)]at h2;exact h2.symm,fun h=>(HE.out h).1⟩
   clear HT HE
   obtain⟨w3,rfl⟩:∃w3:World,w3=wr:=⟨_,rfl⟩
   go_wp2_with fail
   have HRF:Hid ((er=0->R=bkR size ls (acc.drop 0) (n-0) at_ [])/\(er≠0->R=([],0,er))):=⟨fun h=>by have hr:=HR.out;rw[HZF.out.1 h]at hr;rw[if_neg (fun h=>h rfl)]at hr;exact hr,fun h=>by have hr:=HR.out;rw[HZF.out.2 h,if_pos h]at hr;exact hr⟩
   have HD0:Hid (DAt (w3.alloc (.cells #[.slice none 0 0, .int .i64 (size:Nat), .slice none 0 0] 222)) w.heap.size w3.heap.size size [] [] (.slice none 0 0) (.slice none 0 0)):=⟨Blk.made _ _ _,World.ownsRow_nil _ _ _ _,World.ownsRow_nil _ _ _ _,(fun y h=>by cases h),by omega⟩
   have HC0:Hid (Cur (w3.alloc (.cells #[.slice none 0 0, .int .i64 (size:Nat), .slice none 0 0] 222)) g w.heap.size ls B d at_ er):=HC.out.step (aZ (Below.refl _ _))
   have HO0:Hid ((w3.alloc (.cells #[.slice none 0 0, .int .i64 (size:Nat), .slice none 0 0] 222)).ownsRow w2.heap.size 3 1 (.slice va q vc) q (cZ .i64 acc)):=HO.out.alloc _
   have HB3:Hid (Below w.heap.size w w3):=HB2.out.trans (HK.out.below fun b h=>⟨by omega,by omega⟩)
   have HB0:Hid (Below w.heap.size w (w3.alloc (.cells #[.slice none 0 0, .int .i64 (size:Nat), .slice none 0 0] 222))):=gZ HB3.out.size HB3.out
   generalize hgd:w3.heap.size=gd at *
   clear hgd HZF HR HC HO HK HB3
   go_loopw [49] (fun iv wr=>∃ (i y at2:Nat) (er2:Int) (ts hs:List Str) (uT uH:Value),i<=q/\iv= .int .i64 i/\Hid (y=i*size)/\ts.length<=y/\hs.length<=ts.length/\Hid (∀s∈ts,s.length<=25)/\Hid (Cur wr g w.heap.size ls B d at2 er2)/\Hid (DAt wr w.heap.size gd size ts hs uT uH)/\Hid (wr.ownsRow w2.heap.size 3 1 (.slice va q vc) q (cZ .i64 acc))/\Hid (Below w.heap.size w wr)/\Hid (er2=0->R=bkR size ls (acc.drop i) (n-y) at2 ts)/\Hid (er2≠0->R=([],0,er2))) (fun iv _=>q-(intOf iv).toNat)
   case atStart=>exact⟨0,0,at_,er,[],[], .slice none 0 0, .slice none 0 0,by omega,rfl,by show _=_;omega,by simp,by simp,(fun s hs=>by simp at hs),HC0.out,HD0.out,HO0.out,HB0.out,HRF.out.1,HRF.out.2⟩
   case round=>
    obtain⟨i,y,at2,er2,ts,hs,uT,uH,hi,rfl,HY,hts,hhs,HTS,HC,HD,HO,HB,HT,HE⟩:=hrel
    clear HC0 HD0 HO0 HB0 HRF
    have zr:=HB.out.size
    by_cases hiq:i<q
    ·have gi:decide ((i:Int)<(q:Int))=true:=by simp;omega
     have gi':decide (i<q)=true:=by simp;omega
     have hyn:y+size<=x:=by
      have h1:(i+1)*size<=q*size:=Nat.mul_le_mul_right size hiq
      rw[Nat.succ_mul,HQX.out,<-HY.out]at h1
      exact h1
     have hxn:=HXN.out (by omega)
     obtain⟨k,hk⟩:∃k,acc[i]? =some k:=⟨_,List.getElem?_eq_getElem (by have:=HQ.out;omega)⟩
     have hk2:=HA.out k (List.mem_of_getElem? hk)
     have hdrop:acc.drop i=k :: acc.drop (i+1):=by
      obtain⟨hl,e⟩:=List.getElem?_eq_some_iff.1 hk
      rw[List.drop_eq_getElem_cons hl,e]
     obtain⟨gv,cv,hAv,hgv,_⟩:=HO.out.form (by omega)
     injection hAv with q1 q2 q3
     subst q1 q3
     clear q2
     have ck:wr.cell? ⟨gv,i,none⟩=some (.int .i64 (k:Nat)):=by
      rw[HO.out.cellAt i (by omega)]
      unfold cZ
      rw[List.getElem?_map,hk]
      rfl
     have x10:(0:Int)<=(i:Int):=by omega
     have x11:(i:Int)<(q:Int):=by omega
     have DT:=liZ wr g w.heap.size ls B d at2 er2 k HLE.out (by omega) HC.out
     unfold ghZ at DT
     have hT:er2=0->R=bkR size ls (k :: acc.drop (i+1)) (n-y) at2 ts:=fun h=>by rw[<-hdrop];exact HT.out h
     unfold bkR at hT
     have hte:er2≠0->gbZ ls at2 er2 k=er2:=fun h=>if_pos h
     have hto8:∀z∈fbZ ls at2 er2 k,z<=255:=fun z hz=>by
      unfold fbZ at hz
      split at hz
      ·simp at hz
      ·split at hz
       ·simp at hz
       ·exact H8.out z (List.mem_of_mem_drop (List.mem_of_mem_take hz))
     have htl:=yuZ ls at2 er2 k
     have hT2:er2=0->gbZ ls at2 0 k=gbZ ls at2 er2 k/\fbZ ls at2 0 k=fbZ ls at2 er2 k/\takeA ls at2 0 k=takeA ls at2 er2 k:=fun h=>by subst h;exact⟨rfl,rfl,rfl⟩
     have HTT:Hid (er2=0->R=if gbZ ls at2 er2 k≠0 then([],0,gbZ ls at2 er2 k)else if(ncZ (fbZ ls at2 er2 k) (min size (n-y)) true 0 ts).2≠0 then([],0,(ncZ (fbZ ls at2 er2 k) (min size (n-y)) true 0 ts).2)else bkR size ls (acc.drop (i+1)) (n-y-size) (takeA ls at2 er2 k) (ncZ (fbZ ls at2 er2 k) (min size (n-y)) true 0 ts).1):=fun h=>by
      obtain⟨p1,p2,p3⟩:=hT2 h
      have h2:=hT h
      rw[p1,p2,p3]at h2
      exact h2
     have HTE:=hid hte
     have HK:=hid hk
     generalize gbZ ls at2 er2 k=e3 at *
     generalize fbZ ls at2 er2 k=pt at *
     generalize takeA ls at2 er2 k=a3 at *
     have HT8:=hid hto8
     have DT:=hid DT
     clear hdrop hk hT hte hto8 hT2 HT
     go_wp2_with fail
     refine DT.out.mono ?_
     rintro e w4 ⟨v4,rfl,hown4,hc4,hk4⟩
     obtain⟨Ap,cp,rfl⟩:=bZ hown4
     have z4:=hk4.size
     have HC4:=hid hc4
     have HD4:Hid (DAt w4 w.heap.size gd size ts hs uT uH):=HD.out.oth HC.out.blk hk4
     have HO4:Hid (w4.ownsRow w2.heap.size 3 1 (.slice (some ⟨gv,0,none⟩) q vc) q (cZ .i64 acc)):=eZ HO.out (fun z hz=>hk4.block z ⟨(World.ownsRow.lt HO.out z hz).2,by have:=(World.ownsRow.lt HO.out z hz).1;omega⟩)
     have HB4:Hid (Below w.heap.size w w4):=HB.out.trans (hk4.below fun b h=>⟨by omega,by omega⟩)
     have HW4:=hid hown4
     have DE:=hid (lcZ w4 g w.heap.size ls B d a3 e3 hc4)
     clear hown4 hc4 hk4 DT HC HD HO HB ck
     go_wp2_with fail
     refine DE.out.mono ?_
     rintro e w5 ⟨rfl,rfl⟩
     by_cases he3:e3=0
     ·subst he3
      have her2:er2=0:=Classical.byContradiction fun h=>h (HTE.out h).symm
      have hr:=HTT.out her2
      rw[if_neg (show ¬((0:Int)≠0) from fun h=>h rfl)]at hr
      obtain⟨r,hr0⟩:∃r,r=n-y:=⟨_,rfl⟩
      obtain⟨mn,hmn⟩:∃mn,mn=min size r:=⟨_,rfl⟩
      have sy:IntKind.i64.wrap ((i:Int)*(size:Int))=(y:Int):=by rw[show(i:Int)*(size:Int)=(y:Int) by rw[HY.out];simp,IntWalk.i64_in _ (by omega)]
      have sr:IntKind.i64.wrap ((n:Int)-(y:Int))=(r:Int):=by rw[IntWalk.i64_in _ (by omega)];omega
      have smn:min (size:Int) (r:Int)=(mn:Int):=by omega
      rw[<-hr0,<-hmn]at hr
      have DF:=yvZ w5 Ap pt.length cp mn w.heap.size gd size pt ts hs uT uH rfl (by omega) HT8.out (fhZ HW4.out) (own_row HW4.out) (by omega) HD4.out HTS.out (by omega) hhs
      have hfl:=nkZ pt mn true 0 ts
      generalize ncZ pt mn true 0 ts=F at *
      obtain⟨f1,f2⟩:=F
      simp only at hr hfl
      have hmn2:mn<=size:=by rw[hmn];exact Nat.min_le_left _ _
      have HRR:Hid (r-size=n-(y+size)):=by show _=_;omega
      have DF:=hid DF
      have HRX:=hid hr
      clear hr HW4 HTT HTE HT8 hmn DE hr0 her2
      go_wp2_with fail
      refine DF.out.mono ?_
      rintro e w6 ⟨rfl,hk6,hok⟩
      have HB6:Hid (Below w.heap.size w w6):=HB4.out.trans (hk6.below fun b hb=>gzZ HD4.out (by omega) hb)
      by_cases hf:f2=0
      ·subst hf
       obtain⟨hs6,h6,vT6,vH6,hD6,_,_,hh6⟩:=hok rfl
       have HC6:=hid (awZ HC4.out HD4.out hk6)
       have HO6:Hid (w6.ownsRow w2.heap.size 3 1 (.slice (some ⟨gv,0,none⟩) q vc) q (cZ .i64 acc)):=eZ HO4.out (fun z hz=>hk6.block z (tpZ HD4.out HO4.out (by decide) (by decide) hz))
       have HD6:=hid hD6
       have HS6:=hid hs6
       have hf1:=hfl rfl
       have HR6:Hid (R=bkR size ls (acc.drop (i+1)) (n-(y+size)) a3 f1):=by have h:=HRX.out;rw[if_neg (fun h=>h rfl),HRR.out]at h;exact h
       have HY6:Hid (y+size=(i+1)*size):=by show _=_;rw[Nat.succ_mul,HY.out]
       have hl6:f1.length<=y+size:=by omega
       simp only at hh6
       clear hk6 hok hs6 hD6 HRX DF HC4 HD4 HO4 HB4 hf1 hfl HRR
       go_wp2_with fail
       go_roundw
       case measure=>go_light;simp[intOf];omega
       case rel=>go_light;exact⟨i+1,y+size,a3,0,f1,h6,vT6,vH6,by omega,by first|rfl|go_num,HY6.out,hl6,hh6,HS6.out,HC6.out,HD6.out,HO6.out,HB6.out,fun _=>HR6.out,fun h=>absurd rfl h⟩
      ·have gE:(f2 != 0)=true:=by simpa using hf
       have HR0:Hid (R=([],0,f2)):=by have h:=HRX.out;rw[if_pos hf]at h;exact h
       have HNE:=hid hf
       clear hf HRX hok hk6 DF HE
       go_wp2_with fail
       go_ret3
       exact niZ HR0.out HNE.out HB6.out
     ·have gE:(e3 != 0)=true:=by simpa using he3
      have HR0:Hid (R=([],0,e3)):=by
       by_cases h:er2=0
       ·have h2:=HTT.out h;rw[if_pos he3]at h2;exact h2
       ·rw[HTE.out h];exact HE.out h
      have HNE:=hid he3
      clear he3 HTT HE HTE DE
      go_wp2_with fail
      go_ret3
      exact niZ HR0.out HNE.out HB4.out
    ·obtain rfl:i=q:=by omega
     have gi:decide ((i:Int)<(i:Int))=false:=by simp
     have DE:=hid (lcZ wr g w.heap.size ls B d at2 er2 HC.out)
     have DA:=hid (xiZ wr g w.heap.size ls B d at2 er2 HC.out)
     by_cases he2:er2=0
     ·subst he2
      have HR0:Hid (R=(ts,at2,0)):=by
       have h:=HT.out rfl
       rw[List.drop_of_length_le (by rw[HQ.out];exact Nat.le_refl _)]at h
       exact h
      clear HT HE
      go_wp2_with fail
      refine DE.out.mono ?_
      rintro e w5 ⟨rfl,rfl⟩
      go_wp2_with fail
      refine DA.out.mono ?_
      rintro e w6 ⟨rfl,rfl⟩
      go_wp2_with fail
      go_ret3
      rw[HR0.out]
      exact⟨HB.out,fun h=>absurd rfl h,fun _=>⟨gd,size,hs,uT,uH,rfl,HD.out⟩⟩
     ·have gE:(er2 != 0)=true:=by simpa using he2
      have HR0:Hid (R=([],0,er2)):=HE.out he2
      have HNE:=hid he2
      clear he2 HT HE DA
      go_wp2_with fail
      refine DE.out.mono ?_
      rintro e w5 ⟨rfl,rfl⟩
      go_wp2_with fail
      go_ret3
      exact niZ HR0.out HNE.out HB.out
end Go.Proofs.YtbgoibedicbkjaaGreatDoor.Idx
