/- A bucket of texts: the walk of dict.bucket. Plain: buckets by their nu -/
import Derived.Test.YtmlaajebadfkoaaGreatDoorZTwoPacks16
import Derived.Test.YtmlaajebadfkoaaGreatDoorZTwoPacks28
import Derived.Test.YtmlaajebadfkoaaGreatDoorZTwoPacks27
import Derived.Test.YtmlaajebadfkoaaGreatDoorZTwoPacks18
import Derived.Test.YtmlaajebadfkoaaGreatDoorZTwoPacks26
import Derived.Test.YtmlaajebadfkoaaGreatDoorZTwoPacks10
import Derived.Test.YtmlaajebadfkoaaGreatDoorZTwoPacks22
import Derived.Test.YtmlaajebadfkoaaGreatDoorZTwoPacks3
namespace Go.Proofs.YtmlaajebadfkoaaGreatDoor end Go.Proofs.YtmlaajebadfkoaaGreatDoor open Go.Proofs.YtmlaajebadfkoaaGreatDoor
open Go.Lib (hid)
set_option maxHeartbeats 4000000
set_option maxRecDepth 100000
namespace Go.Proofs.YtmlaajebadfkoaaGreatDoor.Idx
open Go.RowKit Mem Own Canon Sift
open NumPut Recs Go.Proofs.YtmlaajebadfkoaaGreatDoor Crc Block
theorem lmZ(s:Str):wcZ (bs s)=ofZ s:=by
 unfold wcZ ofZ
 rw[ybZ]
 rfl
theorem ziZ{s:Str}(h:s.length<=25):(ofZ s).length<=28:=by
 have h1:=phZ (s:=bs s) (by rw[ybZ];omega)
 rw[lmZ,ybZ]at h1
 omega
theorem ykZb{l:List Str}{k:Nat}{x:Str}(h:l[k]? =some x):(l.take (k+1)).getLast?=some x:=by
 rw[List.take_add_one,h]
 simp
theorem crZ{l:List Str}{k:Nat}{x y:Str}(hx:l[k]? =some x)(hy:l[k+1]? =some y):xZ (l.take (k+1+1))=xZ (l.take (k+1))++(iZ (kbZ x y)++ofZ (y.drop (kbZ x y))):=by
 rw[List.take_add_one (i:=k+1),hy]
 refine uaZb ?_ y x (ykZb hx)
 rw[List.take_add_one,hx]
 simp
theorem ypZ{x:Nat}(h:x<=127):(iZ x).length=1:=by rw[qdZ (by omega)];rfl
theorem acZb(s:Str)(a:Nat)(ha:a<=s.length)(w:World):(Instr.slice 9 (.string (bs s)) (some (.int .i64 (a:Int))) none none).run Tryz.prog w= .ok (.string (bs (s.drop a))) w:=by
 have hz:=ybZ s
 rw[run_slice_string_l w (t:=9) (s:=bs s) (ht:=Tryz.underlying9) .i64 (a:Int) (by omega) (by omega),Int.toNat_natCast]
 have e:(bs s).extract a (bs s).size=bs (s.drop a):=by
  refine ByteArray.ext (Array.ext' ?_)
  rw[maZb,miZ,hz,List.take_of_length_le (by rw[List.length_drop];exact Nat.le_refl _)]
  rfl
 rw[e]
def zwZ(bs:List Nat)(w:World)(e:Ending)(w':World):Prop:=
 ∃v,e= .returned v/\w'.ownsRow w.heap.size 5 1 v bs.length (dZ .u8 bs)/\Below w.heap.size w w'
theorem ciZb(w:World)(A:Option Addr)(n c:Nat)(ls:List Str)(hn:ls.length=n)(h1:1<=n)(hN:n<=64)(hnc:n<=c)(hs:∀s∈ls,s.length<=25)(ha:Row w w.heap.size A n 1 (pgZ ls)):
 Calls Tryz.prog 196 #[.slice A n c] w (zwZ (xZ ls) w):=by
 have HN:=hid hn
 have HSS:Hid (∀ (k:Nat) (x:Str),ls[k]? =some x->x.length<=25):=fun k x h=>hs x (List.mem_of_getElem? h)
 obtain⟨b,off,x0,hA,hbb,hx0,cx0⟩:=Row.str ha hn (k:=0) (by omega)
 have hb0:xZ (ls.take (0+1))=ofZ x0:=by
  rw[List.take_add_one,hx0]
  simp[xZ,qgZ]
 have DT:=hid (upZ w (bs x0) (by rw[ybZ];have:=HSS.out 0 x0 hx0;omega))
 rw[lmZ,<-hb0]at DT
 have hl0:(xZ (ls.take (0+1))).length<=28:=by rw[hb0];exact ziZ (HSS.out 0 x0 hx0)
 have ks:=fun wx=>qiZ (P:=Tryz.prog) (t:=41) (s:=1) Tryz.underlying41 (fun _=>by kernel_rfl) A n c .i64 (1:Int) 1 rfl h1 wx
 have hrc:Row w w.heap.size (ycZ A 1 c 1) (n-1) 1 (fun i j=>pgZ ls (i+1) j):=Row.cut ha 1 (n-1) (by omega) hnc fun i j _ _=>by rw[Nat.add_comm]
 generalize ycZ A 1 c 1=A1 at *
 generalize c-1=c1 at *
 obtain⟨m,hm⟩:∃m,m=n-1:=⟨_,rfl⟩
 rw[<-hm]at ks hrc
 have hmn:m+1=n:=by omega
 have HFUL:Hid (xZ (ls.take (m+1))=xZ ls):=by show _=_;rw[List.take_of_length_le (by omega)]
 unfold zwZ
 obtain⟨R,hR⟩:∃R,R=xZ ls:=⟨_,rfl⟩
 rw[<-hR]at HFUL ⊢
 obtain⟨B,hB⟩:∃B:Nat->List Nat,B=fun k=>xZ (ls.take (k+1)):=⟨_,rfl⟩
 have HBS:Hid (∀ (k:Nat) (x y:Str),ls[k]? =some x->ls[k+1]? =some y->B (k+1)=B k++(iZ (kbZ x y)++ofZ (y.drop (kbZ x y)))):=fun k x y hx hy=>by rw[hB];exact crZ hx hy
 have HFUL2:Hid (B m=R):=by rw[hB];exact HFUL.out
 rw[show xZ (ls.take (0+1))=B 0 by rw[hB]]at DT hl0
 subst hA
 rw[Nat.add_zero]at cx0
 clear hn hs hx0 hb0 HFUL hR hB hm
 go_enter Tryz.func196,Tryz.ntmps196
 go_wp2_with fail
 refine DT.out.mono ?_
 rintro e w1 ⟨v1,rfl,ho1,hb1⟩
 obtain⟨A2,c2,rfl⟩:=bZ ho1
 have HO1:=hid ho1
 have HB1:=hid hb1
 clear ho1 hb1 DT
 go_wp2_with fail
 go_loopw [3,14] (fun uv iv wr=>∃ (k p:Nat),k<=m/\p<=28+31*k/\iv= .int .i64 k/\Hid ((B k).length=p)/\Hid (wr.ownsRow w.heap.size 5 1 uv p (dZ .u8 (B k)))/\Hid (Below w.heap.size w wr)) (fun _ iv _=>m-(intOf iv).toNat)
 case atStart=>exact⟨0,(B 0).length,by omega,by omega,rfl,rfl,HO1.out,HB1.out⟩
 case round=>
  obtain⟨k,p,hk,hp,rfl,HP,HO,HB⟩:=hrel
  clear HO1 HB1
  obtain⟨wi,rfl⟩:∃wi:World,wi=wr:=⟨_,rfl⟩
  obtain⟨A3,c3,rfl⟩:=bZ HO.out
  by_cases hlt:k<m
  ·have hpe:(B k).length=p:=HP.out
   subst hpe
   have gk:decide ((k:Int)<(m:Int))=true:=by simp;omega
   have gk':decide (k<m)=true:=by simp;omega
   have x0':(0:Int)<=(k:Int):=by omega
   have x1:(k:Int)<(m:Int):=by omega
   have x2:(k:Int)<(n:Int):=by omega
   obtain⟨b',off',x,hA',_,hx,cx⟩:=Row.str (ha.below HB.out) HN.out (k:=k) (by omega)
   injection hA' with hA'
   injection hA' with e1 e2
   subst e1 e2
   obtain⟨y,hy⟩:∃y,ls[k+1]? =some y:=⟨_,List.getElem?_eq_getElem (by have:=HN.out;omega)⟩
   obtain⟨b1,off1,hA1,_,hc1⟩:=(hrc.below HB.out) (by omega)
   subst hA1
   have cy:wi.cell? ⟨b1,off1+k,none⟩=some (.string (bs y)):=by
    have h:=hc1 k 0 hlt (by omega)
    rw[Nat.mul_one,Nat.add_zero]at h
    rw[h]
    show some (Value.string (bs (ls.getD (k+1) [])))=_
    rw[List.getD_eq_getElem?_getD,hy]
    rfl
   have hxl:=HSS.out k x hx
   have hyl:=HSS.out (k+1) y hy
   have hal:=tmZ x y
   have hst:=HBS.out k x y hx hy
   have DS:=hid (zgZb wi x y (by omega) (by omega))
   obtain⟨a,hae⟩:∃a,a=kbZ x y:=⟨_,rfl⟩
   rw[<-hae]at hal hst DS
   have hzy:=ybZ y
   have hdl:(y.drop a).length<=25:=by rw[List.length_drop];omega
   have hzd:=ybZ (y.drop a)
   have kl:=fun wx=>acZb y a hal.2 wx
   have DN:=hid (fun wx=>zcZ wx a (by omega))
   have DX:=hid (fun wx=>upZ wx (bs (y.drop a)) (by rw[hzd];omega))
   rw[lmZ]at DX
   have u1:IntKind.u64.wrap (a:Int)=(a:Int):=by rw[IntKind.wrap_u64];omega
   have hln:(iZ a).length<=3:=by rw[ypZ (by omega)];omega
   have hlx:=ziZ hdl
   have PB:Hid (∀wx,Below wi.heap.size wi wx->Part.Ok (⟨A3,c3,B k⟩:Part) wx):=fun wx hb=>by
    have h:=lZ (fZ HO.out (fun z hz=>hb.block z (World.ownsRow.lt HO.out z hz).2)) HP.out
    exact h
   generalize bs (y.drop a)=Y2 at *
   generalize ofZ (y.drop a)=X2 at *
   generalize iZ a=X1 at *
   have HST:=hid hst
   have HBK:(B k).length<=2000:=by have:=HP.out;omega
   have hs3:∀a1 a2 a3 a4 a5 a6,acZ [(⟨a1,a2,B k⟩:Part),⟨a3,a4,X1⟩,⟨a5,a6,X2⟩]<=1000000:=fun _ _ _ _ _ _=>by simp[acZ];omega
   clear hst hx hy hae hxl hyl hzy hzd hc1
   go_wp2_with fail
   refine DS.out.mono ?_
   rintro e w2 ⟨rfl,hq⟩
   have HB2:Hid (Below wi.heap.size wi w2):=by
    obtain⟨q,rfl⟩:=hq
    exact below_drewN (Below.refl _ _) q
   clear hq DS
   have hz2:=HB2.out.size
   go_upto_region 6 with fail
   have b2:Below wi.heap.size wi w2.drew:=HB2.out.drew
   go_region_held3 (fun _=>True) (trivial) (first|(go_at_call 93;(with_reducible refine(DN.out _).mono ?_);rintro e wA ⟨vA,rfl,hoA,hbA⟩;obtain⟨AA,cA,rfl⟩:=bZ hoA;have BA:Below wi.heap.size wi wA:=gZ hbA (by first|omega|(simp;done)|(simp;omega)) (by(repeat(first|(with_reducible first|exact Below.refl _ _|assumption|refine Below.drew ?_|refine below_drewN ?_ _|refine aZ ?_|refine cZ (by assumption) ?_)|((with_reducible first|refine jZ ?_ ?_|refine eZ ?_ ?_|refine gZ (by assumption) ?_ ?_);(focus(first|(simp;done)|(simp;omega)|omega|(simp at *;omega)))))));have zA:=BA.size;have PA:Part.Ok (⟨AA,cA,X1⟩:Part) wA:=lZ hoA rfl)|(go_at_call 191;(with_reducible refine(DX.out _).mono ?_);rintro e wB ⟨vB,rfl,hoB,hbB⟩;obtain⟨AB,cB,rfl⟩:=bZ hoB;have BB:Below wi.heap.size wi wB:=gZ hbB (by first|omega|(simp;done)|(simp;omega)) (by(repeat(first|(with_reducible first|exact Below.refl _ _|assumption|refine Below.drew ?_|refine below_drewN ?_ _|refine aZ ?_|refine cZ (by assumption) ?_)|((with_reducible first|refine jZ ?_ ?_|refine eZ ?_ ?_|refine gZ (by assumption) ?_ ?_);(focus(first|(simp;done)|(simp;omega)|omega|(simp at *;omega)))))));have zB:=BB.size;have PX:Part.Ok (⟨AB,cB,X2⟩:Part) wB:=lZ hoB rfl)|(go_at_call 38;(refine(mdZ _ _ 3 [(⟨A3,c3,B k⟩:Part),(⟨AA,cA,X1⟩:Part),(⟨AB,cB,X2⟩:Part)] rfl (by omega) (hs3 _ _ _ _ _ _) (fun p hp=>by{rcases List.mem_cons.1 hp with rfl|hp;exact PB.out _ (by(repeat(first|(with_reducible first|exact Below.refl _ _|assumption|refine Below.drew ?_|refine below_drewN ?_ _|refine aZ ?_|refine cZ (by assumption) ?_)|((with_reducible first|refine jZ ?_ ?_|refine eZ ?_ ?_|refine gZ (by assumption) ?_ ?_);(focus(first|(simp;done)|(simp;omega)|omega|(simp at *;omega)))))));rcases List.mem_cons.1 hp with rfl|hp;exact PA.step (by(repeat(first|(with_reducible first|exact Below.refl _ _|assumption|refine Below.drew ?_|refine below_drewN ?_ _|refine aZ ?_|refine cZ (by assumption) ?_)|((with_reducible first|refine jZ ?_ ?_|refine eZ ?_ ?_|refine gZ (by assumption) ?_ ?_);(focus(first|(simp;done)|(simp;omega)|omega|(simp at *;omega)))))));rcases List.mem_cons.1 hp with rfl|hp;exact PX.step (by(repeat(first|(with_reducible first|exact Below.refl _ _|assumption|refine Below.drew ?_|refine below_drewN ?_ _|refine aZ ?_|refine cZ (by assumption) ?_)|((with_reducible first|refine jZ ?_ ?_|refine eZ ?_ ?_|refine gZ (by assumption) ?_ ?_);(focus(first|(simp;done)|(simp;omega)|omega|(simp at *;omega)))))));cases hp}) (by first|exact Blk.made _ _ _|exact Blk.drew (Blk.made _ _ _))).mono ?_);rintro e w7 ⟨v7,rfl,ho7,hb7⟩;obtain⟨A7,c7,rfl⟩:=bZ ho7;have B7:Below wi.heap.size wi w7:=gZ hb7 (by first|omega|(simp;done)|(simp;omega)) (by(repeat(first|(with_reducible first|exact Below.refl _ _|assumption|refine Below.drew ?_|refine below_drewN ?_ _|refine aZ ?_|refine cZ (by assumption) ?_)|((with_reducible first|refine jZ ?_ ?_|refine eZ ?_ ?_|refine gZ (by assumption) ?_ ?_);(focus(first|(simp;done)|(simp;omega)|omega|(simp at *;omega)))))))))
   all_goals
    have HL9:Hid ((B (k+1)).length=(B k).length+(X1.length+X2.length)):=by
     show _=_
     rw[HST.out,List.length_append,List.length_append]
    have HO9:Hid (w7.ownsRow w.heap.size 5 1 (.slice A7 ((B k).length+(X1.length+X2.length)) c7) ((B k).length+(X1.length+X2.length)) (dZ .u8 (B (k+1)))):=by
     have h:=nZ ho7 (show w.heap.size<=_ by have:=HB.out.size;have:=zA;have:=zB;first|omega|(simp;omega))
     simp only[List.flatMap_cons,List.flatMap_nil,List.append_nil,List.length_append]at h
     show World.ownsRow _ _ _ _ _ _ _
     rw[HST.out]
     exact h
    have HB9:Hid (Below w.heap.size w w7):=cZ B7 HB.out
    clear ho7 hb7 PA PX PB HO HB HP HST B7
    go_wp2_with fail
    go_roundw
    case measure=>go_light;simp[intOf];omega
    case rel=>go_light;exact⟨k+1,_,by omega,by omega,by first|rfl|go_num,HL9.out,HO9.out,HB9.out⟩
  ·obtain rfl:k=m:=by omega
   have gk:decide ((k:Int)<(k:Int))=false:=by simp
   have gk':decide (k<k)=false:=by simp
   have hpe:(B k).length=p:=HP.out
   subst hpe
   go_wp2_with fail
   go_ret
   exact⟨_,rfl,by rw[<-HFUL2.out];exact HO.out,HB.out⟩
end Go.Proofs.YtmlaajebadfkoaaGreatDoor.Idx
namespace Go.Proofs.YtmlaajebadfkoaaGreatDoor.Idx
open Go.RowKit Mem Own Canon
open Go.Proofs.YtmlaajebadfkoaaGreatDoor.NumPut (iZ mZ)
def rbZ(size:Nat)(l:List Str)(k:Nat):List Str:=(l.drop (k*size)).take size
def nCh(size n:Nat):Nat:=(n+size-1) / size
theorem csZ{size n k:Nat}(h:1<=size):k<nCh size n↔k*size<n:=by
 unfold nCh
 rw[Nat.lt_iff_add_one_le,Nat.le_div_iff_mul_le (by omega),Nat.add_mul]
 omega
theorem bcZb{size:Nat}(h:1<=size):nCh size 0=0:=by
 unfold nCh
 exact Nat.div_eq_of_lt (by omega)
theorem znZb{size n:Nat}(h:1<=size)(hn:1<=n):nCh size n=nCh size (n-size)+1:=by
 unfold nCh
 by_cases hs:size<=n
 ·have e:n+size-1=(n-size+size-1)+size:=by omega
  rw[e,Nat.add_div_right _ (by omega)]
 ·have e:n-size=0:=by omega
  rw[e,Nat.zero_add,Nat.div_eq_of_lt (by omega:size-1<size)]
  have e2:n+size-1=(n-1)+size:=by omega
  rw[e2,Nat.add_div_right _ (by omega),Nat.div_eq_of_lt (by omega)]
theorem drZ{size n:Nat}(h:1<=size):nCh size n<=n:=by
 refine Decidable.byContradiction fun hn=> ?_
 have h1:=(csZ (n:=n) (k:=n) h).1 (by omega)
 have h2:n*1<=n*size:=Nat.mul_le_mul_left n h
 omega
theorem eeZb(size:Nat)(l:List Str):rbZ size l 0=l.take size:=by simp[rbZ]
theorem feZb(size:Nat)(l:List Str)(k:Nat):rbZ size l (k+1)=rbZ size (l.drop size) k:=by
 unfold rbZ
 rw[List.drop_drop,Nat.add_mul,Nat.one_mul,Nat.add_comm]
theorem ysZ{size:Nat}(h:1<=size):∀ (f:Nat) (l:List Str),l.length<=f->cmZ size f l=(List.range (nCh size l.length)).map (rbZ size l)
 |0,l,hl=>by
  have e:l.length=0:=by omega
  rw[e,bcZb h]
  rfl
 |f+1,l,hl=>by
  rw[cmZ]
  by_cases e:l= []
  ·rw[if_pos e,e]
   show []=(List.range (nCh size 0)).map _
   rw[bcZb h]
   rfl
  ·have hp:1<=l.length:=List.length_pos_iff.2 e
   rw[if_neg e,znZb h hp,List.range_succ_eq_map,List.map_cons,List.map_map,eeZb,ysZ h f (l.drop size) (by rw[List.length_drop];omega),List.length_drop]
   congr 1
   exact List.map_congr_left fun k _=>(feZb size l k).symm
theorem diZb{size:Nat}(h:1<=size)(l:List Str):rlZ size l=(List.range (nCh size l.length)).map (rbZ size l):=ysZ h _ l (Nat.le_refl _)
theorem zpZ{size:Nat}(h:1<=size)(l:List Str):ceZ size l=(iZ l.length++(List.range (nCh size l.length)).flatMap (fun k=>iZ (xZ (rbZ size l k)).length))++(List.range (nCh size l.length)).flatMap (fun k=>xZ (rbZ size l k)):=by
 unfold ceZ
 rw[diZb h,List.flatMap_map,List.flatMap_map]
theorem yyZ:∀ (t:List Str) (was:Str),(∀s∈t,s.length<=25)->was.length<=25->(qgZ was t).length<=31*t.length
 | [],_,_,_=>by simp[qgZ]
 |x :: t,was,h,hw=>by
  have hx:=h x List.mem_cons_self
  have ih:=yyZ t x (fun s hs=>h s (List.mem_cons_of_mem _ hs)) hx
  have ha:=(tmZ was x).2
  rw[qgZ,List.length_append,List.length_append,List.length_cons,ypZ (by omega)]
  have:=ziZ (s:=x.drop (kbZ was x)) (by rw[List.length_drop];omega)
  omega
theorem zsZ{l:List Str}(h:∀s∈l,s.length<=25):(xZ l).length<=31*l.length:=by
 cases l with
 |nil=>simp[xZ]
 |cons x t=>
  rw[xZ,List.length_append,List.length_cons]
  have:=ziZ (h x List.mem_cons_self)
  have:=yyZ t x (fun s hs=>h s (List.mem_cons_of_mem _ hs)) (h x List.mem_cons_self)
  omega
theorem aqZ{size k:Nat}{l:List Str}{s:Str}(h:s∈rbZ size l k):s∈l:=List.mem_of_mem_drop (List.mem_of_mem_take h)
theorem bqZ(size k:Nat)(l:List Str):(rbZ size l k).length=min size (l.length-k*size):=by
 unfold rbZ
 rw[List.length_take,List.length_drop]
def Apt(v u:Value):Prop:=∀x,v.ownBlock=some x->u.ownBlock=some x->False
theorem Apt.symm{v u:Value}(h:Apt v u):Apt u v:=fun x a b=>h x b a
theorem hcZ{w w':World}{base s m:Nat}{e:TypeId}{v v' u:Value}{ys:List Value}(hu:w.ownsRow base e s u m ys)(ha:Apt v u)(hg:w.grownBy w' v.ownBlock)(hat:v'.ownBlock=v.ownBlock∨v'.ownBlock=some w.heap.size):
 w'.ownsRow base e s u m ys/\Apt v' u:=by
 refine⟨fZ hu fun y hy=>hg.block y (World.ownsRow.lt hu y hy).2 fun e=>ha y e.symm hy,fun x hx hy=> ?_⟩
 rcases hat with h|h
 ·exact ha x (h ▸ hx) hy
 ·rw[h]at hx
  have:=(World.ownsRow.lt hu x hy).2
  injection hx
  omega
theorem xhZ{w:World}{base s m:Nat}{e:TypeId}{v u:Value}{xs:List Value}{B:Nat}(hv:w.ownsRow base e s v m xs)(hB:B<=base)(hu:∀x,u.ownBlock=some x->x<B):Apt v u:=
 fun x a b=>by have:=(World.ownsRow.lt hv x a).1;have:=hu x b;omega
theorem zkZb{l:List Str}{i r:Nat}{x y:Str}(hx:l[i+r]? =some x)(hy:l[i+r+1]? =some y):xZ ((l.drop i).take (r+1+1))=xZ ((l.drop i).take (r+1))++(iZ (kbZ x y)++ofZ (y.drop (kbZ x y))):=
 crZ (by rw[List.getElem?_drop];exact hx) (by rw[List.getElem?_drop,<-Nat.add_assoc];exact hy)
theorem awZ{l:List Str}{i:Nat}{x:Str}(hx:l[i]? =some x):xZ ((l.drop i).take (0+1))=ofZ x:=by
 have h:(l.drop i)[0]? =some x:=by rw[List.getElem?_drop,Nat.add_zero];exact hx
 rw[List.take_add_one,h]
 simp[xZ,qgZ]
theorem erZ:∀ (l:List Str) (was:Str),tcZ was l=true->∀s∈l,1<=s.length/\s.length<=25
 | [],_,_,s,hs=>by cases hs
 |x :: t,was,h,s,hs=>by
  rw[tcZ,Bool.and_eq_true]at h
  rcases List.mem_cons.1 hs with rfl|hs
  ·have h1:=h.1
   unfold biZ at h1
   rw[Bool.and_eq_true,Bool.and_eq_true,decide_eq_true_iff,decide_eq_true_iff]at h1
   exact⟨h1.1,h1.2.1⟩
  ·exact erZ t x h.2 s hs
theorem sjZ{l:List Str}(h:kjZ l=true):∀s∈l,1<=s.length/\s.length<=25:=by
 unfold kjZ at h
 rw[Bool.and_eq_true]at h
 exact erZ l [] h.1
def hdB(size:Nat)(l:List Str)(q:Nat):List Nat:=iZ l.length++(List.range q).flatMap (fun k=>iZ (xZ (rbZ size l k)).length)
def bdB(size:Nat)(l:List Str)(q:Nat):List Nat:=(List.range q).flatMap (fun k=>xZ (rbZ size l k))
theorem ccZb(size:Nat)(l:List Str)(q:Nat):hdB size l (q+1)=hdB size l q++iZ (xZ (rbZ size l q)).length:=by simp[hdB,List.range_succ]
theorem luZ(size:Nat)(l:List Str)(q:Nat):bdB size l (q+1)=bdB size l q++xZ (rbZ size l q):=by simp[bdB,List.range_succ]
theorem ajZ{size:Nat}{l:List Str}(hs:∀s∈l,s.length<=25)(h2:size<=64)(q:Nat):(xZ (rbZ size l q)).length<=1984:=by
 have h:=zsZ (l:=rbZ size l q) (fun s hs'=>hs s (aqZ hs'))
 rw[bqZ]at h
 omega
theorem doZ{size:Nat}{l:List Str}(hs:∀s∈l,s.length<=25)(h2:size<=64)(hl:l.length<=1000000):∀q,(hdB size l q).length<=10+10*q
 |0=>by
  have:=mZ (x:=l.length) (by omega)
  simp[hdB]
  omega
 |q+1=>by
  have ih:=doZ hs h2 hl q
  have hc:=ajZ hs h2 q
  have:=mZ (x:=(xZ (rbZ size l q)).length) (by omega)
  rw[ccZb,List.length_append]
  omega
theorem zfZb{size:Nat}{l:List Str}(hs:∀s∈l,s.length<=25)(h2:size<=64):∀q,(bdB size l q).length<=1984*q
 |0=>by simp[bdB]
 |q+1=>by
  have ih:=zfZb hs h2 q
  have hc:=ajZ hs h2 q
  rw[luZ,List.length_append]
  omega
theorem cqZ{size:Nat}{l:List Str}(hs:∀s∈l,s.length<=25)(h1:1<=size):∀q,(bdB size l q).length<=31*min (q*size) l.length
 |0=>by simp[bdB]
 |q+1=>by
  have ih:=cqZ hs h1 q
  have hc:=zsZ (l:=rbZ size l q) (fun s hs'=>hs s (aqZ hs'))
  rw[bqZ]at hc
  rw[luZ,List.length_append,Nat.add_mul,Nat.one_mul]
  omega
end Go.Proofs.YtmlaajebadfkoaaGreatDoor.Idx
namespace Go.Proofs.YtmlaajebadfkoaaGreatDoor.Idx
open Go.RowKit Mem Own Canon
open NumPut Recs Go.Proofs.YtmlaajebadfkoaaGreatDoor Crc Block
def wfZ(x:Nat):List Nat:= [x % 256,x / 256 % 256,x / 65536 % 256,x / 16777216 % 256]
def xkZ(x:Nat):Nat->Array Value
 |0=>#[.int .u8 0, .int .u8 0, .int .u8 0, .int .u8 0]
 |1=>#[.int .u8 ((x:Int) % 256), .int .u8 0, .int .u8 0, .int .u8 0]
 |2=>#[.int .u8 ((x:Int) % 256), .int .u8 ((x:Int) / 256 % 256), .int .u8 0, .int .u8 0]
 |3=>#[.int .u8 ((x:Int) % 256), .int .u8 ((x:Int) / 256 % 256), .int .u8 ((x:Int) / 65536 % 256), .int .u8 0]
 |_=>#[.int .u8 ((x:Int) % 256), .int .u8 ((x:Int) / 256 % 256), .int .u8 ((x:Int) / 65536 % 256), .int .u8 ((x:Int) / 16777216 % 256)]
theorem aoZb(x:Nat):(xkZ x 4).toList=dZ .u8 (wfZ x):=by
 simp[xkZ,wfZ,dZ]
theorem dcZb:(Tryz.prog.info? 5).map (fun i=>(i.zero,i.size,i.bytes))=some (some (.int .u8 0),1,1):=by kernel_rfl
theorem alZb(w:World):(Instr.makeSlice 29 (.int .i64 4) (.int .i64 4)).run Tryz.prog w= .ok (.slice (some ⟨w.heap.size,0,none⟩) 4 4) (w.alloc (.cells #[.int .u8 0, .int .u8 0, .int .u8 0, .int .u8 0] 5)):=by
 obtain⟨i0,hi,hz0,hz1,hz2⟩:=info_parts dcZb
 have h:=run_make (P:=Tryz.prog) w 29 5 i0 (.int .u8 0) Tryz.underlying29 hi hz0 .i64 .i64 (4:Int) (4:Int) (by omega) (Int.le_refl _) (by rw[hz2];omega) (by omega)
 rw[h,hz1]
 have e:madeCells (Value.int IntKind.u8 0).cells (Int.toNat 4*1)=#[.int .u8 0, .int .u8 0, .int .u8 0, .int .u8 0]:=by kernel_rfl
 rw[e]
 rfl
theorem eoZ(x:Int):IntKind.u8.wrap x=x % 256:=IntKind.wrap_u8 x
theorem eiZb(w:World)(x:Nat)(hx:x<4294967296):
 Calls Tryz.prog 90 #[.int .u64 x, .int .i64 4] w fun e w'=>∃v,e= .returned (.tuple #[v, .int .i64 0])/\w'.ownsRow w.heap.size 5 1 v 4 (dZ .u8 (wfZ x))/\Below w.heap.size w w':=by
 have hd:(((x:Int) / 4294967296) != 0)=false:=by simp;omega
 have hm:=alZb
 have w0:=eoZ (x:Int)
 have w1:=eoZ ((x:Int) / 256)
 have w2:=eoZ ((x:Int) / 65536)
 have w3:=eoZ ((x:Int) / 16777216)
 go_enter Tryz.func90,Tryz.ntmps90
 go_wp2_with fail
 have HX0:Hid (Blk (w.alloc (.cells #[.int .u8 0, .int .u8 0, .int .u8 0, .int .u8 0] 5)) w.heap.size 5 (xkZ x 0)):=Blk.made _ _ _
 have HB0:Hid (Below w.heap.size w (w.alloc (.cells #[.int .u8 0, .int .u8 0, .int .u8 0, .int .u8 0] 5))):=aZ (Below.refl _ _)
 generalize w.alloc (.cells #[.int .u8 0, .int .u8 0, .int .u8 0, .int .u8 0] 5)=wa at *
 go_loopw [29] (fun iv wr=>∃k:Nat,k<=4/\iv= .int .i64 k/\Hid (Blk wr w.heap.size 5 (xkZ x k))/\Hid (Below w.heap.size w wr)) (fun iv _=>4-(intOf iv).toNat)
 case atStart=>exact⟨0,by omega,rfl,HX0.out,HB0.out⟩
 case round=>
  obtain⟨k,hk,rfl,HX,HB⟩:=hrel
  clear HX0 HB0 hm
  have hk5:k=0∨k=1∨k=2∨k=3∨k=4:=by omega
  rcases hk5 with rfl|rfl|rfl|rfl|rfl
  ·have c:=HX.out.cell 0
   have f:=HX.out.frozen 0
   have HX2:Hid (Blk (wr.setCell ⟨w.heap.size,0,none⟩ (.int .u8 ((x:Int) % 256))) w.heap.size 5 (xkZ x 1)):=HX.out.set 0 _
   have HB2:Hid (Below w.heap.size w (wr.setCell ⟨w.heap.size,0,none⟩ (.int .u8 ((x:Int) % 256)))):=jZ (Nat.le_refl _) HB.out
   simp[xkZ]at c
   clear HX HB
   go_wp2_with fail
   exact⟨⟨1,by omega,rfl,HX2,HB2⟩,by simp[intOf]⟩
  ·have c:=HX.out.cell 1
   have f:=HX.out.frozen 1
   have HX2:Hid (Blk (wr.setCell ⟨w.heap.size,1,none⟩ (.int .u8 ((x:Int) / 256 % 256))) w.heap.size 5 (xkZ x 2)):=HX.out.set 1 _
   have HB2:Hid (Below w.heap.size w (wr.setCell ⟨w.heap.size,1,none⟩ (.int .u8 ((x:Int) / 256 % 256)))):=jZ (Nat.le_refl _) HB.out
   simp[xkZ]at c
   clear HX HB
   go_wp2_with fail
   exact⟨⟨2,by omega,rfl,HX2,HB2⟩,by simp[intOf]⟩
  ·have c:=HX.out.cell 2
   have f:=HX.out.frozen 2
   have HX2:Hid (Blk (wr.setCell ⟨w.heap.size,2,none⟩ (.int .u8 ((x:Int) / 65536 % 256))) w.heap.size 5 (xkZ x 3)):=HX.out.set 2 _
   have HB2:Hid (Below w.heap.size w (wr.setCell ⟨w.heap.size,2,none⟩ (.int .u8 ((x:Int) / 65536 % 256)))):=jZ (Nat.le_refl _) HB.out
   simp[xkZ]at c
   clear HX HB
   go_wp2_with fail
   exact⟨⟨3,by omega,rfl,HX2,HB2⟩,by simp[intOf]⟩
  ·have c:=HX.out.cell 3
   have f:=HX.out.frozen 3
   have HX2:Hid (Blk (wr.setCell ⟨w.heap.size,3,none⟩ (.int .u8 ((x:Int) / 16777216 % 256))) w.heap.size 5 (xkZ x 4)):=HX.out.set 3 _
   have HB2:Hid (Below w.heap.size w (wr.setCell ⟨w.heap.size,3,none⟩ (.int .u8 ((x:Int) / 16777216 % 256)))):=jZ (Nat.le_refl _) HB.out
   simp[xkZ]at c
   clear HX HB
   go_wp2_with fail
   exact⟨⟨4,by omega,rfl,HX2,HB2⟩,by simp[intOf]⟩
  ·go_wp2_with fail
   go_ret2
   refine⟨_,rfl,⟨rfl, .inr ⟨w.heap.size,4,_,rfl,Nat.le_refl _,HX.out,by omega,by unfold maxLen;omega,rfl,?_⟩⟩,HB.out⟩
   rw[<-aoZb]
   rfl
def mmZ(x k:Nat):List Nat:=(List.range k).map fun i=>x / 256 ^ i % 256
theorem blZb(x:Nat):mmZ x 4=wfZ x:=by simp[mmZ,wfZ,List.range_succ]
theorem clZb(x k:Nat):mmZ x (k+1)=mmZ x k++ [x / 256 ^ k % 256]:=by simp[mmZ,List.range_succ]
theorem geZb(w:World)(x:Nat)(hx:x<4294967296):
 Calls Tryz.prog 80 #[.int .u64 x, .int .i64 4] w fun e w'=>∃v,e= .returned (.tuple #[v, .int .i64 0])/\w'.ownsRow w.heap.size 5 1 v 4 (dZ .u8 (wfZ x))/\Below w.heap.size w w':=by
 obtain⟨j0,hj0,hy0,hy1,hy2⟩:=info_parts dcZb
 go_enter Tryz.func80,Tryz.ntmps80
 go_wp2_with fail
 go_loopw [0,6,7] (fun xv uv iv wr=>∃k y:Nat,k<=4/\y<4294967296/\iv= .int .i64 k/\xv= .int .u64 y/\Hid (y=x / 256 ^ k)/\Hid (wr.ownsRow w.heap.size 5 1 uv k (dZ .u8 (mmZ x k)))/\Hid (Below w.heap.size w wr)) (fun _ _ iv _=>4-(intOf iv).toNat)
 case atStart=>exact⟨0,x,by omega,hx,rfl,rfl,(by show x=x / 256 ^ 0;simp),World.ownsRow_nil _ _ _ _,Below.refl _ _⟩
 case round=>
  obtain⟨k,y,hk,hy,rfl,rfl,HY,HO,HB⟩:=hrel
  obtain⟨wi,rfl⟩:∃wi:World,wi=wr:=⟨_,rfl⟩
  obtain⟨A1,c1,rfl⟩:=bZ HO.out
  by_cases hlt:k<4
  ·have gk:decide ((k:Int)<4)=true:=by simp;omega
   have gk':decide (k<4)=true:=by simp;omega
   have u1:IntKind.u8.wrap ((y:Int) % 256)=((y % 256:Nat):Int):=by rw[eoZ];omega
   have hzi:=HB.out.size
   have HY2:Hid (y / 256=x / 256 ^ (k+1)):=by show _=_;rw[HY.out,Nat.div_div_eq_div_mul,Nat.pow_succ]
   have HL:Hid (mmZ x (k+1)=mmZ x k++ [y % 256]):=by show _=_;rw[clZb,HY.out]
   clear HY
   go_wp2_with(at_builtin;refine hZ rfl (.tmp 19) (.tmp 23) 29 rfl w.heap.size 5 j0 _ 1 1 Tryz.underlying29 hj0 hy0 hy1 hy2 rfl (by decide) _ _ _ (by rfl) (HO.out.alloc _) _ 1 1 [.int .u8 (y % 256:Nat)] (by rfl) (Src.of_blk (Blk.made_at _ _ _ (by simp)) 1 1 1 rfl) (by intro u hu;simp at hu;rcases hu with rfl;rfl) (by unfold maxLen;omega) (by omega) (by simp;omega) ?_;intro v6 w6 hown6 hg6 hat6;obtain⟨A6,c6,rfl⟩:=bZ hown6)
   have HO7:Hid (w6.ownsRow w.heap.size 5 1 (.slice A6 (k+1) c6) (k+1) (dZ .u8 (mmZ x (k+1)))):=by
    show World.ownsRow _ _ _ _ _ _ _
    rw[HL.out,show dZ .u8 (mmZ x k++ [y % 256])=dZ .u8 (mmZ x k)++ [.int .u8 (y % 256:Nat)] by simp[dZ]]
    exact hown6
   have HB7:Hid (Below w.heap.size w w6):=(eZ hzi HB.out).grown hg6 (by simp;omega) (fun z hz=>(World.ownsRow.lt HO.out z hz).1)
   clear hown6 hg6 hat6 HO HB HL
   go_roundw
   case measure=>go_light;simp[intOf];omega
   case rel=>go_light;exact⟨k+1,y / 256,by omega,by omega,by first|rfl|go_num,by first|rfl|go_num,HY2.out,HO7.out,HB7.out⟩
  ·obtain rfl:k=4:=by omega
   have hy0':y=0:=by rw[HY.out];exact Nat.div_eq_of_lt (by omega)
   subst hy0'
   clear HY
   go_wp2_with fail
   go_ret2
   exact⟨_,rfl,by rw[<-blZb];exact HO.out,HB.out⟩
end Go.Proofs.YtmlaajebadfkoaaGreatDoor.Idx
namespace Go.Proofs.YtmlaajebadfkoaaGreatDoor.Ef
open Go.RowKit Mem Own Canon Huff NumPut
structure Prt (w:World) (base g W:Nat) (hs ls:List Nat) (vH vL:Value):Prop where
 blk:Blk w g 257 #[.int .i64 (W:Nat),vH,vL]
 oh:w.ownsRow base 3 1 vH hs.length (dZ .i64 hs)
 ol:w.ownsRow base 263 1 vL ls.length (dZ .u16 ls)
 gb:base<=g
theorem dlZb:(Tryz.prog.info? 263).map (fun i=>(i.zero,i.size,i.bytes))=some (some (.int .u16 0),1,2):=by kernel_rfl
theorem zyZ:(Tryz.prog.info? 3).map (fun i=>(i.zero,i.size,i.bytes))=some (some (.int .i64 0),1,8):=by kernel_rfl
theorem Prt.highs{w w1 w3:World}{base g W x:Nat}{hs ls:List Nat}{vH vL v3:Value}(h:Prt w base g W hs ls vH vL)(hb:Below w.heap.size w w1)(hg:w1.grownBy w3 vH.ownBlock)
 (hown:w3.ownsRow base 3 1 v3 (hs.length+1) (dZ .i64 hs++ [.int .i64 (x:Nat)])):Prt (w3.setCell ⟨g,1,none⟩ v3) base g W (hs++ [x]) ls v3 vL:=by
 have hne:vH.ownBlock≠some g:=kZ h.oh h.blk (by decide)
 have b1:=h.blk.step hb
 have b3:Blk w3 g 257 #[.int .i64 (W:Nat),vH,vL]:=b1.grown hg (Ne.symm hne)
 have o1:w1.ownsRow base 263 1 vL ls.length (dZ .u16 ls):=fZ h.ol (fun y hy=>hb.block y (World.ownsRow.lt h.ol y hy).2)
 have o3:w3.ownsRow base 263 1 vL ls.length (dZ .u16 ls):=fZ o1 (fun y hy=>hg.block y (World.ownsRow.lt o1 y hy).2 (fun e=>by
  rcases qcZ h.oh h.ol (by decide)with e2|e2
  ·rw[e2]at e;cases e
  ·exact e2 (by rw[<-e,hy])))
 have hn3:v3.ownBlock≠some g:=kZ hown b3 (by decide)
 have hnl:vL.ownBlock≠some g:=kZ o3 b3 (by decide)
 refine⟨by simpa using b3.set 1 v3,?_,fZ o3 (fun y hy=>Below.heap_setCell _ _ _ y (fun e=>hnl (by rw[hy,e]))),h.gb⟩
 have e1:dZ .i64 (hs++ [x])=dZ .i64 hs++ [.int .i64 (x:Nat)]:=by simp[dZ]
 rw[List.length_append,e1]
 exact fZ hown (fun y hy=>Below.heap_setCell _ _ _ y (fun e=>hn3 (by rw[hy,e])))
theorem Prt.lows{w w1 w3:World}{base g W x:Nat}{hs ls:List Nat}{vH vL v3:Value}(h:Prt w base g W hs ls vH vL)(hb:Below w.heap.size w w1)(hg:w1.grownBy w3 vL.ownBlock)
 (hown:w3.ownsRow base 263 1 v3 (ls.length+1) (dZ .u16 ls++ [.int .u16 (x:Nat)])):Prt (w3.setCell ⟨g,2,none⟩ v3) base g W hs (ls++ [x]) vH v3:=by
 have hne:vL.ownBlock≠some g:=kZ h.ol h.blk (by decide)
 have b1:=h.blk.step hb
 have b3:Blk w3 g 257 #[.int .i64 (W:Nat),vH,vL]:=b1.grown hg (Ne.symm hne)
 have o1:w1.ownsRow base 3 1 vH hs.length (dZ .i64 hs):=fZ h.oh (fun y hy=>hb.block y (World.ownsRow.lt h.oh y hy).2)
 have o3:w3.ownsRow base 3 1 vH hs.length (dZ .i64 hs):=fZ o1 (fun y hy=>hg.block y (World.ownsRow.lt o1 y hy).2 (fun e=>by
  rcases qcZ h.ol h.oh (by decide)with e2|e2
  ·rw[e2]at e;cases e
  ·exact e2 (by rw[<-e,hy])))
 have hn3:v3.ownBlock≠some g:=kZ hown b3 (by decide)
 have hnl:vH.ownBlock≠some g:=kZ o3 b3 (by decide)
 refine⟨by simpa using b3.set 2 v3,fZ o3 (fun y hy=>Below.heap_setCell _ _ _ y (fun e=>hnl (by rw[hy,e]))),?_,h.gb⟩
 have e1:dZ .u16 (ls++ [x])=dZ .u16 ls++ [.int .u16 (x:Nat)]:=by simp[dZ]
 rw[List.length_append,e1]
 exact fZ hown (fun y hy=>Below.heap_setCell _ _ _ y (fun e=>hn3 (by rw[hy,e])))
theorem elZb:∀n:Int,0<=n->n<2 ^ 20->IntKind.i64.wrap n=n:=fun n h0 h1=>IntWalk.i64_in _ (by omega)
theorem boZb(x W:Nat)(hx:x<=100000)(hW:W<=14):IntKind.u16.wrap (bits .and .i64 (x:Int) (IntKind.i64.wrap (IntKind.i64.wrap (2 ^ W)-1)))=((x % 2 ^ W:Nat):Int):=by
 have h1:2 ^ W<=2 ^ 14:=Nat.pow_le_pow_right (by omega) hW
 have h0:1<=2 ^ W:=Nat.one_le_two_pow
 have e0:((2:Int) ^ W)=((2 ^ W:Nat):Int):=by simp
 have hlt:x % 2 ^ W<2 ^ W:=Nat.mod_lt _ (by omega)
 rw[e0,IntWalk.i64_in ((2 ^ W:Nat):Int) (by omega)]
 have e1:(((2 ^ W:Nat):Int)-1)=((2 ^ W-1:Nat):Int):=by omega
 rw[e1,IntWalk.i64_in ((2 ^ W-1:Nat):Int) (by omega),(bits_nat .i64 20 (by decide) elZb x (2 ^ W-1) (by omega) (by omega)).1,Nat.and_two_pow_sub_one_eq_mod,IntKind.wrap_u16]
 omega
theorem coZb(w:World)(base g W:Nat)(hs ls:List Nat)(vH vL:Value)(x:Nat)(hx:x<=100000)(hW:W<=14)(hh:hs.length<=100000)(hl:ls.length<=100000)(hP:Prt w base g W hs ls vH vL):
 Calls Tryz.prog 199 #[.pointer (some ⟨g,0,none⟩), .int .i64 (x:Nat)] w fun e w'=>e= .returned (.tuple #[])/\∃vH' vL',Prt w' base g W (hs++ [x / 2 ^ W]) (ls++ [x % 2 ^ W]) vH' vL'/\Below base w w':=by
 obtain⟨j0,hj0,hy0,hy1,hy2⟩:=info_parts zyZ
 obtain⟨k0,hk0,hz0,hz1,hz2⟩:=info_parts dlZb
 have c0:=hP.blk.cell 0
 have c1:=hP.blk.cell 1
 have c2:=hP.blk.cell 2
 have f1:=hP.blk.frozen 1
 have f2:=hP.blk.frozen 2
 simp only[List.getElem?_toArray,List.getElem?_cons_zero,List.getElem?_cons_succ]at c0 c1 c2
 have hgl:=hP.blk.lt
 have hgb:=hP.gb
 have hown:=hP.oh
 have hne:some g≠vH.ownBlock:=Ne.symm (kZ hP.oh hP.blk (by decide))
 obtain⟨p,hp⟩:∃p,p=hs.length:=⟨_,rfl⟩
 obtain⟨q,hq⟩:∃q,q=ls.length:=⟨_,rfl⟩
 rw[<-hp]at hown hh
 obtain⟨AH,cH,rfl⟩:=bZ hown
 have HP:=hid hP
 have HPL:=hid hp
 have HQL:=hid hq
 have HLL:=hid hl
 obtain⟨hi,hhi⟩:∃hi,hi=x / 2 ^ W:=⟨_,rfl⟩
 obtain⟨lo,hlo⟩:∃lo,lo=x % 2 ^ W:=⟨_,rfl⟩
 rw[<-hhi,<-hlo]
 have eh:(x:Int) / 2 ^ W=(hi:Int):=by rw[hhi];simp
 have el:IntKind.u16.wrap (bits .and .i64 (x:Int) (IntKind.i64.wrap (IntKind.i64.wrap (2 ^ W)-1)))=(lo:Int):=by rw[hlo];exact boZb x W hx hW
 have HHI:=hid hhi
 have HLO:=hid hlo
 clear hP hp hq hhi hlo hl
 go_enter Tryz.func199,Tryz.ntmps199
 go_upto_region 0 with fail
 go_region_law((refine step_append_lies _ (by rfl) _ _ _ (by rfl) base 3 j0 _ 1 8 Tryz.underlying38 hj0 hy0 hy1 hy2 rfl (by omega) (.slice AH p cH) p (dZ .i64 hs) (by rfl) ((hown.alloc _).drew) ⟨w.heap.size,0,none⟩ 1 1 [.int .i64 (hi:Nat)] (by rfl) (by rfl) (World.news_of_block (cs:=#[.int .i64 (hi:Nat)]) (t:=3) (fr:=(0,0)) (heap_alloc_new w _)) (by intro u hu;simp at hu;subst hu;rfl) (by omega) (by unfold maxLen;omega) (by omega) (by simp;omega) (w.heap.size+1) (by simp) ?_;intro g3 cap3 w3 hown3 hgrow hat hlt3;have gb:w3.heap[g]? =w.heap[g]? :=(hgrow.block g (by simp;omega) hne).trans (Below.heap_alloc w _ g hgl);have p0:=(World.cell?_of_block (a:=⟨g,0,none⟩) gb).trans c0;have p1:=(World.cell?_of_block (a:=⟨g,1,none⟩) gb).trans c1;have p2:=(World.cell?_of_block (a:=⟨g,2,none⟩) gb).trans c2;have q1:=(World.frozen?_of_block (a:=⟨g,1,none⟩) gb).trans f1))
 all_goals
  have hP2:Prt (w3.setCell ⟨g,1,none⟩ (.slice (some ⟨g3,0,none⟩) (p+1) cap3)) base g W (hs++ [hi]) ls (.slice (some ⟨g3,0,none⟩) (p+1) cap3) vL:=HP.out.highs (aZ (Below.refl _ w)).drew hgrow (by rw[<-HPL.out];exact hown3)
  have hB2:Below base w (w3.setCell ⟨g,1,none⟩ (.slice (some ⟨g3,0,none⟩) (p+1) cap3)):=(((Below.refl base w).alloc (by omega) _).drew.grown hgrow (by simp;omega) (fun y hy=>(World.ownsRow.lt hown y hy).1)).setCell (p:=⟨g,1,none⟩) hgb _
  generalize w3.setCell ⟨g,1,none⟩ (.slice (some ⟨g3,0,none⟩) (p+1) cap3)=wb at *
  clear hown3 hgrow hat hlt3 gb p0 p1 p2 q1
  have HB2:=hid hB2
  have d0:=hP2.blk.cell 0
  have d2:=hP2.blk.cell 2
  have e2:=hP2.blk.frozen 2
  simp only[List.getElem?_toArray,List.getElem?_cons_zero,List.getElem?_cons_succ]at d0 d2
  have hgl2:=hP2.blk.lt
  have hown2:=hP2.ol
  have hne2:some g≠vL.ownBlock:=Ne.symm (kZ hP2.ol hP2.blk (by decide))
  rw[<-HQL.out]at hown2
  obtain⟨AL,cL,rfl⟩:=bZ hown2
  have HP2:=hid hP2
  have hql:q<=100000:=by rw[HQL.out];exact HLL.out
  clear hP2 hB2 c0 c1 c2 f1 f2 hne hown
  go_upto_region 1 with fail
  go_region_law((refine step_append_lies _ (by rfl) _ _ _ (by rfl) base 263 k0 _ 1 2 Tryz.underlying232 hk0 hz0 hz1 hz2 rfl (by omega) (.slice AL q cL) q (dZ .u16 ls) (by rfl) ((hown2.alloc _).drew) ⟨wb.heap.size,0,none⟩ 1 1 [.int .u16 (lo:Nat)] (by rfl) (by rfl) (World.news_of_block (cs:=#[.int .u16 (lo:Nat)]) (t:=263) (fr:=(0,0)) (heap_alloc_new wb _)) (by intro u hu;simp at hu;subst hu;rfl) (by omega) (by unfold maxLen;omega) (by omega) (by simp;omega) (wb.heap.size+1) (by simp) ?_;intro g4 cap4 w4 hown4 hgrow4 hat4 hlt4;have gb:w4.heap[g]? =wb.heap[g]? :=(hgrow4.block g (by simp;omega) hne2).trans (Below.heap_alloc wb _ g hgl2);have p0:=(World.cell?_of_block (a:=⟨g,0,none⟩) gb).trans d0;have p2:=(World.cell?_of_block (a:=⟨g,2,none⟩) gb).trans d2;have q2:=(World.frozen?_of_block (a:=⟨g,2,none⟩) gb).trans e2))
  all_goals
   have hP4:Prt (w4.setCell ⟨g,2,none⟩ (.slice (some ⟨g4,0,none⟩) (q+1) cap4)) base g W (hs++ [hi]) (ls++ [lo]) (.slice (some ⟨g3,0,none⟩) (p+1) cap3) (.slice (some ⟨g4,0,none⟩) (q+1) cap4):=HP2.out.lows (aZ (Below.refl _ wb)).drew hgrow4 (by rw[<-HQL.out];exact hown4)
   have hB4:Below base w (w4.setCell ⟨g,2,none⟩ (.slice (some ⟨g4,0,none⟩) (q+1) cap4)):=((HB2.out.alloc (by omega) _).drew.grown hgrow4 (by simp;omega) (fun y hy=>(World.ownsRow.lt hown2 y hy).1)).setCell (p:=⟨g,2,none⟩) hgb _
   go_wp2_with fail
   go_end0
   exact⟨rfl,_,_,hP4,hB4⟩
end Go.Proofs.YtmlaajebadfkoaaGreatDoor.Ef
namespace Go.Proofs.YtmlaajebadfkoaaGreatDoor.Ef
open Go.RowKit Mem Own Canon Toks
theorem iqZb{q w:Nat}(h1:2 ^ w<=q)(h2:q<2*2 ^ w):Nat.log2 q=w:=by
 have hq:q≠0:=by have:=Nat.two_pow_pos w;omega
 have h3:=unZ hq
 have h4:=lpZb q
 rw[Nat.pow_succ]at h4
 rcases Nat.lt_trichotomy (Nat.log2 q) w with h|h|h
 ·exfalso
  have:2 ^ (Nat.log2 q+1)<=2 ^ w:=Nat.pow_le_pow_right (by omega) h
  rw[Nat.pow_succ]at this
  omega
 ·exact h
 ·exfalso
  have:2 ^ (w+1)<=2 ^ Nat.log2 q:=Nat.pow_le_pow_right (by omega) h
  rw[Nat.pow_succ]at this
  omega
theorem fiZb(w:World)(q:Nat)(h1:1<=q)(hq:q<=1000000):
 Calls Tryz.prog 168 #[.int .i64 q] w fun e w'=>e= .returned (.tuple #[.int .i64 (Nat.log2 q:Nat), .int .i64 (2 ^ Nat.log2 q:Nat)])/\w'=w:=by
 have HE:Hid (∀k p:Nat,p=2 ^ k->p<=q->q<2*p->Nat.log2 q=k/\2 ^ Nat.log2 q=p):=fun k p hp ha hb=>by
  subst hp
  have:=iqZb ha hb
  rw[this]
  exact⟨rfl,rfl⟩
 generalize Nat.log2 q=L at *
 generalize 2 ^ L=PL at *
 go_enter Tryz.func168,Tryz.ntmps168
 go_wp2_with fail
 go_loopw [4,5] (fun kv pv wr=>∃k p:Nat,k<p/\p<=q/\kv= .int .i64 k/\pv= .int .i64 p/\Hid (p=2 ^ k)/\wr=w) (fun _ pv _=>q-(intOf pv).toNat)
 case atStart=>exact⟨0,1,by omega,by omega,rfl,rfl,rfl,rfl⟩
 case round=>
  obtain⟨k,p,hk,hp,rfl,rfl,HP,rfl⟩:=hrel
  have s1:IntKind.i64.wrap (2*(p:Int))=((2*p:Nat):Int):=by rw[IntWalk.i64_in _ (by omega)];omega
  have s2:IntKind.i64.wrap ((k:Int)+1)=((k+1:Nat):Int):=by rw[IntWalk.i64_in _ (by omega)];omega
  by_cases hlt:2*p<=q
  ·have g:decide (((2*p:Nat):Int)<=(q:Int))=true:=decide_eq_true (by omega)
   have g':decide (2*(p:Int)<=(q:Int))=true:=decide_eq_true (by omega)
   have HP2:Hid (2*p=2 ^ (k+1)):=by show _=_;rw[HP.out,Nat.pow_succ];omega
   have f1:k+1<2*p:=by omega
   have f2:p<2*p:=by omega
   generalize 2*p=p2 at *
   clear HP
   go_wp2_with fail
   go_roundw
   case measure=>go_light;simp[intOf];omega
   case rel=>go_light;exact⟨k+1,p2,by omega,by omega,by first|rfl|go_num,by first|rfl|go_num,HP2.out,by first|rfl|trivial⟩
  ·have g:decide (((2*p:Nat):Int)<=(q:Int))=false:=decide_eq_false (by omega)
   have g':decide (2*(p:Int)<=(q:Int))=false:=decide_eq_false (by omega)
   obtain⟨e1,e2⟩:=HE.out k p HP.out hp (by omega)
   generalize 2*p=p2 at *
   subst e1 e2
   clear HE HP
   go_wp2_with fail
   go_ret2
   exact⟨rfl,rfl⟩
theorem flZb(w:World)(bound n:Nat)(h1:1<=n)(h2:n<=bound)(hb:bound<=1000000):
 Calls Tryz.prog 198 #[.int .i64 bound, .int .i64 n] w fun e w'=>e= .returned (.int .i64 (efW bound n:Nat))/\w'=w:=by
 have hq:1<=bound / n:=(Nat.one_le_div_iff (by omega)).2 h2
 have hql:bound / n<=bound:=Nat.div_le_self _ _
 have D:=waZb ((bound / n:Nat):Int) w (by omega) (by omega)
 have hl:lg ((bound / n:Nat):Int)=(efW bound n:Nat):=rfl
 rw[hl]at D
 have hll:efW bound n<=bound:=by
  unfold efW
  have:=Nat.log2_le_self (bound / n)
  omega
 have hn0:¬(n:Int)=0:=by omega
 have hn1:((n:Int)==0)=false:=by simpa using (by omega:¬n=0)
 have u1:IntKind.u64.wrap ((bound / n:Nat):Int)=((bound / n:Nat):Int):=by rw[IntKind.wrap_u64];omega
 have u2:IntKind.i64.wrap ((bound / n:Nat):Int)=((bound / n:Nat):Int):=IntWalk.i64_in _ (by omega)
 have u3:IntKind.i64.wrap ((efW bound n:Int)+1-1)=((efW bound n:Nat):Int):=by rw[IntWalk.i64_in _ (by omega)];omega
 have ud:Int.tdiv (bound:Int) (n:Int)=((bound / n:Nat):Int):=by rw[Int.tdiv_eq_ediv_of_nonneg (by omega)];rfl
 have DD:=hid D
 clear D hl
 go_enter Tryz.func198,Tryz.ntmps198
 go_wp2_with fail
 refine DD.out.mono ?_
 rintro e w' ⟨rfl,rfl⟩
 go_wp2_with fail
 go_ret
 exact⟨rfl,rfl⟩
end Go.Proofs.YtmlaajebadfkoaaGreatDoor.Ef
namespace Go.Proofs.YtmlaajebadfkoaaGreatDoor.Ef
open Go.RowKit Mem Own Canon Huff NumPut
open Go.Proofs.YtmlaajebadfkoaaGreatDoor.Block (lZ)
theorem foZ{w:World}{base:Nat}{e:TypeId}{k:IntKind}{A:Option Addr}{n c:Nat}{ls:List Nat}(h:w.ownsRow base e 1 (.slice A n c) n (dZ k ls))(hn:ls.length=n):Row w w.heap.size A n 1 (rZ k ls):=
 Row.of_own h rfl (fun i j hi hj=>by have e0:j=0:=(by omega);subst e0;exact rgZ (by omega))
theorem atZ(w:World)(bound:Nat)(A:Option Addr)(n c:Nat)(ls:List Nat)(hn:ls.length=n)(h1:1<=n)(hnb:n<=bound)(hb:bound<=20000)(hm:fcZ bound none ls=true)(ha:Row w w.heap.size A n 1 (rZ .i64 ls)):
 Calls Tryz.prog 145 #[.int .i64 bound, .slice A n c] w fun e w'=>∃v,e= .returned (.tuple #[v, .int .i64 0])/\w'.ownsRow w.heap.size 5 1 v (efO bound ls).length (dZ .u8 (efO bound ls))/\Below w.heap.size w w':=by
 have HN:=hid hn
 have HA:=hid ha
 have DM:=hid (wdZb w bound A n c ls hn (by omega) ha)
 rw[hm]at DM
 have hq:1<=bound / n:=(Nat.one_le_div_iff (by omega)).2 hnb
 have DN:=hid (fun wx=>zcZ wx n (by omega))
 have DW:=hid (fun wx=>flZb wx bound n h1 hnb (by omega))
 have hnl:=mZ (x:=n) (by omega)
 have y1:decide ((bound:Int)<0)=false:=by simp
 have y2:decide ((20000:Int)<(bound:Int))=false:=by simp;omega
 have y2':decide (20000<bound)=false:=by simp;omega
 have u1:IntKind.u64.wrap (n:Int)=(n:Int):=by rw[IntKind.wrap_u64];omega
 have z1:((n:Int)==0)=false:=by simp;omega
 have hn0:¬(n:Int)=0:=by omega
 have HLT:Hid (∀x∈ls,x<bound):=oiZ bound ls none hm
 have HRI:Hid (∀ (k x y:Nat),ls[k]? =some x->ls[k+1]? =some y->x<y):=umZ bound ls none hm
 have HE:Hid (efO bound ls=iZ n++bytesOf (bgZ (efW bound n) ls)):=by
  show _=_
  unfold efO
  rw[if_neg (fun e=>by rw[e]at hn;simp at hn;omega),hn]
 have hW15:efW bound n<=14:=by
  refine Decidable.byContradiction fun h=> ?_
  have h2:2 ^ 15<=2 ^ efW bound n:=Nat.pow_le_pow_right (by omega) (by omega)
  have h3:=unZ (q:=bound / n) (by omega)
  have h4:bound / n<=bound:=Nat.div_le_self _ _
  unfold efW at h2
  omega
 obtain⟨W,hW⟩:∃W,W=efW bound n:=⟨_,rfl⟩
 rw[<-hW]at DW HE hW15
 clear hn ha hm hW hq
 go_enter Tryz.func145,Tryz.ntmps145
 go_wp2_with fail
 refine DM.out.mono ?_
 rintro e w1 ⟨rfl,rfl⟩
 obtain⟨w,rfl⟩:∃w:World,w=w1:=⟨_,rfl⟩
 clear DM
 go_wp2_with fail
 refine(DN.out _).mono ?_
 rintro e w2 ⟨v2,rfl,ho2,hb2⟩
 obtain⟨A2,c2,rfl⟩:=bZ ho2
 have HB2:=hid hb2
 have HO2:=hid ho2
 clear ho2 hb2 DN
 go_wp2_with fail
 refine(DW.out _).mono ?_
 rintro e w3 ⟨rfl,rfl⟩
 go_wp2_with fail
 have hb4:Below w3.heap.size w3 (w3.alloc (.cells #[.int .i64 W, .slice none 0 0, .slice none 0 0] 257)):=aZ (Below.refl _ _)
 have HP4:Hid (Prt (w3.alloc (.cells #[.int .i64 W, .slice none 0 0, .slice none 0 0] 257)) w3.heap.size w3.heap.size W ((ls.take 0).map (·/ 2 ^ W)) ((ls.take 0).map (·% 2 ^ W)) (.slice none 0 0) (.slice none 0 0)):=⟨Blk.made _ _ _,World.ownsRow_nil _ _ _ _,World.ownsRow_nil _ _ _ _,Nat.le_refl _⟩
 generalize w3.alloc (.cells #[.int .i64 W, .slice none 0 0, .slice none 0 0] 257)=w4 at *
 have HB4:=hid hb4
 clear hb4
 go_loopw [43] (fun iv wr=>∃ (k:Nat) (vH vL:Value),k<=n/\iv= .int .i64 k/\Hid (Prt wr w3.heap.size w3.heap.size W ((ls.take k).map (·/ 2 ^ W)) ((ls.take k).map (·% 2 ^ W)) vH vL)/\Hid (Below w3.heap.size w3 wr)) (fun iv _=>n-(intOf iv).toNat)
 case atStart=>exact⟨0,_,_,by omega,rfl,HP4.out,HB4.out⟩
 case round=>
  obtain⟨k,vH,vL,hk,rfl,HP,HB⟩:=hrel
  clear HP4 HB4
  obtain⟨wi,rfl⟩:∃wi:World,wi=wr:=⟨_,rfl⟩
  have HBT:Hid (Below w.heap.size w wi):=gZ HB.out HB2.out.size HB2.out
  by_cases hlt:k<n
  ·have har:Row wi w.heap.size A n 1 (rZ .i64 ls):=HA.out.below HBT.out
   have gk:decide ((k:Int)<(n:Int))=true:=by simp;omega
   have gk':decide (k<n)=true:=by simp;omega
   have x0:(0:Int)<=(k:Int):=by omega
   have x1:(k:Int)<(n:Int):=by omega
   obtain⟨b,off,x,rfl,_,hx,ck⟩:=bbZ har HN.out hlt
   have hxb:=HLT.out x (List.mem_of_getElem? hx)
   have D0:=coZb wi w3.heap.size w3.heap.size W _ _ vH vL x (by omega) hW15 (by rw[List.length_map,List.length_take];omega) (by rw[List.length_map,List.length_take];omega) HP.out
   have e1:(ls.take (k+1)).map (·/ 2 ^ W)=(ls.take k).map (·/ 2 ^ W)++ [x / 2 ^ W]:=by rw[List.take_add_one,hx];simp
   have e2:(ls.take (k+1)).map (·% 2 ^ W)=(ls.take k).map (·% 2 ^ W)++ [x % 2 ^ W]:=by rw[List.take_add_one,hx];simp
   rw[<-e1,<-e2]at D0
   have D:=hid D0
   clear D0 e1 e2 hx hxb HP har
   go_wp2_with fail
   refine D.out.mono ?_
   rintro e w6 ⟨rfl,vH2,vL2,hP6,hb6⟩
   have HP6:=hid hP6
   have HB6:=hid (HB.out.trans hb6)
   clear hP6 hb6 D HB HBT
   go_wp2_with fail
   go_roundw
   case measure=>go_light;simp[intOf];omega
   case rel=>go_light;exact⟨k+1,vH2,vL2,by omega,by first|rfl|go_num,HP6.out,HB6.out⟩
  ·obtain rfl:k=n:=by omega
   have gk:decide ((k:Int)<(k:Int))=false:=by simp
   have gk':decide (k<k)=false:=by simp
   have hall:ls.take k=ls:=List.take_of_length_le (by rw[HN.out];exact Nat.le_refl _)
   rw[hall]at HP
   obtain⟨P,hP⟩:∃P,P=2 ^ W:=⟨_,rfl⟩
   rw[<-hP]at HP
   have HPE:=hid hP
   have hp1:1<=P:=by rw[hP];exact Nat.one_le_two_pow
   obtain⟨HS,hHS⟩:∃HS,HS=ls.map (·/ P):=⟨_,rfl⟩
   obtain⟨LS,hLS⟩:∃LS,LS=ls.map (·% P):=⟨_,rfl⟩
   rw[<-hHS,<-hLS]at HP
   have hHl:HS.length=k:=by rw[hHS,List.length_map];exact HN.out
   have hLl:LS.length=k:=by rw[hLS,List.length_map];exact HN.out
   have oh:=HP.out.oh
   have ol:=HP.out.ol
   rw[hHl]at oh
   rw[hLl]at ol
   obtain⟨AH,cH,rfl⟩:=bZ oh
   obtain⟨AL,cL,rfl⟩:=bZ ol
   have RH:=hid (foZ oh hHl)
   have RL:=hid (foZ ol hLl)
   have b0:=HP.out.blk
   have d0:=(b0.alloc (.cells #[.slice none 0 0, .int .i64 0] 262)).cell 0
   have d1:=(b0.alloc (.cells #[.slice none 0 0, .int .i64 0] 262)).cell 1
   have d2:=(b0.alloc (.cells #[.slice none 0 0, .int .i64 0] 262)).cell 2
   simp only[List.getElem?_toArray,List.getElem?_cons_zero,List.getElem?_cons_succ]at d0 d1 d2
   have HHS:=hid hHS
   have HLS:=hid hLS
   have HHL:=hid hHl
   have HLL:=hid hLl
   have B0:=hid b0
   clear oh ol hHS hLS hHl hLl hP hall HP b0
   go_wp2_with fail
   have HW0:Hid (Wr (fun q=>q<wi.heap.size) (wi.alloc (.cells #[.slice none 0 0, .int .i64 0] 262)) wi.heap.size wi.heap.size 262 [] (scZ W (ls.take 0)) (.slice none 0 0)):=Wr.start4 wi wi.heap.size _ [] (Nat.le_refl _) (fun q h=>h)
   have HK0:Hid (Kept (fun q=>q<wi.heap.size) wi (wi.alloc (.cells #[.slice none 0 0, .int .i64 0] 262))):=Kept.of_below (aZ (Below.refl _ _)) (fun q h=>h)
   clear d0 d1 d2
   generalize wi.alloc (.cells #[.slice none 0 0, .int .i64 0] 262)=wz at *
   go_loopw [53] (fun iv wr=>∃ (j:Nat) (v':Value),j<=k/\iv= .int .i64 j/\Hid (Wr (fun q=>q<wi.heap.size) wr wi.heap.size wi.heap.size 262 [] (scZ W (ls.take j)) v')/\Hid (Kept (fun q=>q<wi.heap.size) wi wr)) (fun iv _=>k-(intOf iv).toNat)
   case atStart=>exact⟨0,_,by omega,rfl,HW0.out,HK0.out⟩
   case round=>
    obtain⟨j,v',hj,rfl,HWr,HK⟩:=hrel
    clear HW0 HK0
    obtain⟨wj,rfl⟩:∃wj:World,wj=wr:=⟨_,rfl⟩
    by_cases hlt:j<k
    ·have gk:decide ((j:Int)<(k:Int))=true:=by simp;omega
     have gk':decide (j<k)=true:=by simp;omega
     have x0:(0:Int)<=(j:Int):=by omega
     have x1:(j:Int)<(k:Int):=by omega
     have hrl:Row wj wi.heap.size AL k 1 (rZ .u16 LS):=RL.out.keep fun p hp=>World.cell?_of_block (HK.out.block p.block hp)
     obtain⟨b,off,x,rfl,_,hx,ck⟩:=bbZ hrl HLL.out hlt
     obtain⟨y,hy⟩:∃y,ls[j]? =some y:=⟨_,List.getElem?_eq_getElem (by have:=HN.out;omega)⟩
     have hxy:x=y % P:=by rw[HLS.out,List.getElem?_map,hy]at hx;exact(Option.some.inj hx).symm
     have hxP:x<P:=by rw[hxy];exact Nat.mod_lt _ (by omega)
     have hP2:P<=2 ^ 14:=by rw[HPE.out];exact Nat.pow_le_pow_right (by omega) hW15
     have d0:wj.cell? ⟨w3.heap.size,0,none⟩=some (.int .i64 (W:Nat)):=(World.cell?_of_block (a:=⟨w3.heap.size,0,none⟩) (HK.out.block _ B0.out.lt)).trans (B0.out.cell 0)
     have u2:IntKind.u64.wrap (x:Int)=(x:Int):=by rw[IntKind.wrap_u64];omega
     have hll:(scZ W (ls.take j)).length<=400000:=by
      rw[pfZ,List.length_take]
      have h2:min j ls.length*W<=20000*14:=Nat.mul_le_mul (by omega) hW15
      omega
     have D0:=put_any (fun q=>q<wi.heap.size) wj wi.heap.size wi.heap.size _ [] v' _ x W (by rw[<-HPE.out];exact hxP) (by omega) (by omega) HWr.out
     have hst:scZ W (ls.take (j+1))=scZ W (ls.take j)++msb x W W:=by rw[List.take_add_one,hy,hxy,HPE.out];exact tuZ W _ y
     rw[<-hst]at D0
     have D:=hid D0
     clear D0 hst hll hx hxy hy hxP hP2 HWr hrl
     go_wp2_with fail
     refine D.out.mono ?_
     rintro e w6 ⟨rfl,v6,hW6,hK6⟩
     have HW6:=hid hW6
     have HK6:Hid (Kept (fun q=>q<wi.heap.size) wi w6):=HK.out.trans hK6
     clear hW6 hK6 D HK d0 ck
     go_wp2_with fail
     go_roundw
     case measure=>go_light;simp[intOf];omega
     case rel=>go_light;exact⟨j+1,v6,by omega,by first|rfl|go_num,HW6.out,HK6.out⟩
    ·obtain rfl:j=k:=by omega
     have gk:decide ((j:Int)<(j:Int))=false:=by simp
     have gk':decide (j<j)=false:=by simp
     have hall:ls.take j=ls:=List.take_of_length_le (by rw[HN.out];exact Nat.le_refl _)
     rw[hall]at HWr
     obtain⟨BT,hBT⟩:∃BT:Nat->List Bool,BT=fun i=>scZ W ls++ncZ 0 ((ls.take i).map (·/ P)):=⟨_,rfl⟩
     have HBT:=hid hBT
     have hb0:BT 0=scZ W ls:=by rw[hBT];show scZ W ls++ncZ 0 ((ls.take 0).map (·/ P))=_;rw[List.take_zero,List.map_nil,ncZ,List.append_nil]
     have HBITS:Hid (BT j=bgZ W ls):=by show _=_;rw[hBT];show scZ W ls++ncZ 0 ((ls.take j).map (·/ P))=_;rw[hall,HPE.out];rfl
     rw[<-hb0]at HWr
     have HLB:Hid ((BT 0).length<=300000):=by
      show _<=_
      rw[hb0,pfZ,HN.out]
      have h2:j*W<=20000*14:=Nat.mul_le_mul (by omega) hW15
      omega
     have HU0:Hid (0=((ls.take 0).map (·/ P)).getLast?.getD 0):=rfl
     have HW0:=hid HWr.out
     have HK0:=hid HK.out
     have d1:wj.cell? ⟨w3.heap.size,1,none⟩=some (.slice AH j cH):=(World.cell?_of_block (a:=⟨w3.heap.size,1,none⟩) (HK.out.block _ B0.out.lt)).trans (B0.out.cell 1)
     clear HWr HK hall hBT hb0
     go_wp2_with fail
     clear d1
     go_loopw [13,66] (fun uv iv wr=>∃ (i u:Nat) (v':Value),i<=j/\u<=20000/\iv= .int .i64 i/\uv= .int .i64 u/\Hid (u=((ls.take i).map (·/ P)).getLast?.getD 0)/\Hid (Wr (fun q=>q<wi.heap.size) wr wi.heap.size wi.heap.size 262 [] (BT i) v')/\Hid ((BT i).length<=300000+i+u)/\Hid (Kept (fun q=>q<wi.heap.size) wi wr)) (fun _ iv _=>j-(intOf iv).toNat)
     case atStart=>exact⟨0,0,_,by omega,by omega,rfl,rfl,HU0.out,HW0.out,HLB.out,HK0.out⟩
     case round=>
      obtain⟨i,u,v2,hi,hu,rfl,rfl,HU,HWr,HLN,HK⟩:=hrel
      clear HW0 HLB HK0 HU0
      obtain⟨wk,rfl⟩:∃wk:World,wk=wr:=⟨_,rfl⟩
      by_cases hlt:i<j
      ·have gk:decide ((i:Int)<(j:Int))=true:=by simp;omega
       have gk':decide (i<j)=true:=by simp;omega
       have x0:(0:Int)<=(i:Int):=by omega
       have x1:(i:Int)<(j:Int):=by omega
       have hrh:Row wk wi.heap.size AH j 1 (rZ .i64 HS):=RH.out.keep fun p hp=>World.cell?_of_block (HK.out.block p.block hp)
       obtain⟨b,off,q,rfl,_,hq,ck⟩:=bbZ hrh HHL.out hlt
       obtain⟨x,hx⟩:∃x,ls[i]? =some x:=⟨_,List.getElem?_eq_getElem (by have:=HN.out;omega)⟩
       have hqx:q=x / P:=by rw[HHS.out,List.getElem?_map,hx]at hq;exact(Option.some.inj hq).symm
       have hxb:=HLT.out x (List.mem_of_getElem? hx)
       have hqb:q<=20000:=by rw[hqx];exact Nat.le_trans (Nat.div_le_self _ _) (by omega)
       have hle:=vaZb P hx HRI.out
       rw[<-HU.out,<-hqx]at hle
       have hls:=dyZ P hx
       have hst:=msZ P hx
       rw[<-HU.out,<-hqx]at hst
       rw[<-hqx]at hls
       obtain⟨d,hd⟩:∃d,d=q-u:=⟨_,rfl⟩
       rw[<-hd]at hst
       have us:IntKind.i64.wrap ((q:Int)-(u:Int))=(d:Int):=by rw[IntWalk.i64_in _ (by omega)];omega
       have hll:(BT i).length<=350000:=by have:=HLN.out;omega
       have hdl:d<=20000:=by omega
       have hst2:BT (i+1)=BT i++unary d:=by rw[HBT.out];show _++_=_++_++_;rw[hst,List.append_assoc]
       have HLN2:Hid ((BT (i+1)).length<=300000+(i+1)+q):=by
        show _<=_
        rw[hst2,List.length_append,gjZ]
        have:=HLN.out
        omega
       have D0:=tkZb (fun q=>q<wi.heap.size) wk wi.heap.size wi.heap.size _ [] v2 _ d (by omega) (by omega) HWr.out
       rw[<-hst2]at D0
       have D:=hid D0
       have HU2:Hid (q=((ls.take (i+1)).map (·/ P)).getLast?.getD 0):=hls.symm
       clear D0 hst hst2 hls hx hqx hq hd HWr HLN HU hrh hxb
       go_wp2_with fail
       refine D.out.mono ?_
       rintro e w6 ⟨rfl,v6,hW6,hK6⟩
       have HW6:=hid hW6
       have HK6:Hid (Kept (fun q=>q<wi.heap.size) wi w6):=HK.out.trans hK6
       clear hW6 hK6 D HK ck
       go_wp2_with fail
       go_roundw
       case measure=>go_light;simp[intOf];omega
       case rel=>go_light;exact⟨i+1,q,v6,by omega,by omega,by first|rfl|go_num,by first|rfl|go_num,HU2.out,HW6.out,HLN2.out,HK6.out⟩
      ·obtain rfl:i=j:=by omega
       have gk:decide ((i:Int)<(i:Int))=false:=by simp
       have gk':decide (i<i)=false:=by simp
       obtain⟨A3,c3,rfl⟩:=bZ HWr.out.own
       obtain⟨hn2,hr2,hnil2⟩:=HWr.out.rowOf
       have hg0:=HWr.out.blk.cell 0
       simp only[List.getElem?_toArray,List.getElem?_cons_zero]at hg0
       have hbl:=bytesOf_length (BT i)
       have D:=hid (uvZ wk wi.heap.size A3 _ c3 (bytesOf (BT i)) hn2 (by have:=HLN.out;omega) hnil2 hg0 hr2)
       rw[HBITS.out]at D hbl
       have HBL:Hid ((bytesOf (bgZ W ls)).length<=100000):=by
        show _<=_
        rw[hbl,<-HBITS.out]
        have:=HLN.out
        omega
       have hb9:Below w.heap.size w wk:=(HB2.out.trans (HB.out.mono HB2.out.size)).trans ((HK.out.below (fun q h=>h)).mono (by have:=HB.out.size;have:=HB2.out.size;omega))
       have HO9:Hid (wk.ownsRow w.heap.size 5 1 (.slice A2 (iZ i).length c2) (iZ i).length (dZ .u8 (iZ i))):=fZ HO2.out (fun y hy=>((HB.out.trans ((HK.out.below (fun q h=>h)).mono HB.out.size)).block y (World.ownsRow.lt HO2.out y hy).2))
       have HB9:=hid hb9
       obtain⟨BO,hBO⟩:∃BO,BO=bytesOf (bgZ W ls):=⟨_,rfl⟩
       rw[<-hBO]at D HE HBL
       clear hn2 hr2 hnil2 hg0 hbl HWr HLN HU hBO hb9
       go_wp2_with fail
       refine D.out.mono ?_
       rintro e w8 ⟨v8,rfl,ho8,hb8⟩
       obtain⟨A8,c8,rfl⟩:=bZ ho8
       have P1:Hid (Part.Ok (⟨A2,c2,iZ i⟩:Part) w8):=lZ (fZ HO9.out (fun y hy=>hb8.block y (World.ownsRow.lt HO9.out y hy).2)) rfl
       have P2:Hid (Part.Ok (⟨A8,c8,BO⟩:Part) w8):=lZ ho8 rfl
       have HB8:=hid (gZ hb8 HB9.out.size HB9.out)
       have hs2:acZ [(⟨A2,c2,iZ i⟩:Part),⟨A8,c8,BO⟩]<=1000000:=by have:=HBL.out;simp[acZ];omega
       clear ho8 hb8 D HO9 HB9
       go_wp2_with fail
       refine(mdZ _ _ 2 [(⟨A2,c2,iZ i⟩:Part),⟨A8,c8,BO⟩] rfl (by omega) hs2 (fun p hp=>by rcases List.mem_cons.1 hp with rfl|hp;exact P1.out.step (aZ (Below.refl _ _));rcases List.mem_cons.1 hp with rfl|hp;exact P2.out.step (aZ (Below.refl _ _));cases hp) (Blk.made _ _ _)).mono ?_
       rintro e w9 ⟨v9,rfl,ho9,hb9⟩
       go_wp2_with fail
       go_ret2
       refine⟨v9,rfl,?_,?_⟩
       ·rw[HE.out]
        have h:=nZ ho9 (show w.heap.size<=_ by have:=HB8.out.size;simp;omega)
        simp only[List.flatMap_cons,List.flatMap_nil,List.append_nil]at h
        exact h
       ·exact gZ hb9 (by have:=HB8.out.size;simp;omega) (eZ HB8.out.size HB8.out)
end Go.Proofs.YtmlaajebadfkoaaGreatDoor.Ef
namespace Go.Proofs.YtmlaajebadfkoaaGreatDoor.Ef
open Go.RowKit Mem Own Canon Huff NumPut
open Go.Proofs.YtmlaajebadfkoaaGreatDoor.Recs (tZ)
theorem frZ(w:World)(bound:Nat)(A:Option Addr)(n c:Nat)(ls:List Nat)(hn:ls.length=n)(h1:1<=n)(hnb:n<=bound)(hb:bound<=20000)(hm:fcZ bound none ls=true)(ha:Row w w.heap.size A n 1 (rZ .i64 ls)):
 Calls Tryz.prog 152 #[.int .i64 bound, .slice A n c] w fun e w'=>∃v,e= .returned (.tuple #[v, .int .i64 0])/\w'.ownsRow w.heap.size 5 1 v (efO bound ls).length (dZ .u8 (efO bound ls))/\Below w.heap.size w w':=by
 have HN:=hid hn
 have HA:=hid ha
 have DM:=hid (xoZ w bound A n c ls hn (by omega) ha)
 rw[hm]at DM
 have hq:1<=bound / n:=(Nat.one_le_div_iff (by omega)).2 hnb
 have hql:bound / n<=bound:=Nat.div_le_self _ _
 have DN:=hid (fun wx=>ktZ wx n (by omega))
 have DW:=hid (fun wx=>fiZb wx (bound / n) hq (by omega))
 have hnl:=mZ (x:=n) (by omega)
 have y1:decide ((bound:Int)<0)=false:=by simp
 have y2:decide ((20000:Int)<(bound:Int))=false:=by simp;omega
 have y2':decide (20000<bound)=false:=by simp;omega
 have u1:IntKind.u64.wrap (n:Int)=(n:Int):=by rw[IntKind.wrap_u64];omega
 have z1:((n:Int)==0)=false:=by simp;omega
 have hn0:¬(n:Int)=0:=by omega
 have HLT:Hid (∀x∈ls,x<bound):=oiZ bound ls none hm
 have HRI:Hid (∀ (k x y:Nat),ls[k]? =some x->ls[k+1]? =some y->x<y):=umZ bound ls none hm
 have hWle:=unZ (q:=bound / n) (by omega)
 have HE:Hid (efO bound ls=iZ n++bytesOf (bgZ (Nat.log2 (bound / n)) ls)):=by
  show _=_
  unfold efO
  rw[if_neg (fun e=>by rw[e]at hn;simp at hn;omega),hn]
  rfl
 obtain⟨j0,hj0,hy0,hy1,hy2⟩:=info_parts hbZ
 obtain⟨W,hW⟩:∃W,W=Nat.log2 (bound / n):=⟨_,rfl⟩
 rw[<-hW]at DW HE hWle
 obtain⟨P,hP⟩:∃P,P=2 ^ W:=⟨_,rfl⟩
 rw[<-hP]at DW hWle
 have hP1:1<=P:=by rw[hP];exact Nat.one_le_two_pow
 have hW15:W<=14:=by
  refine Decidable.byContradiction fun h=> ?_
  have h2:2 ^ 15<=2 ^ W:=Nat.pow_le_pow_right (by omega) (by omega)
  rw[<-hP]at h2
  omega
 have HPE:=hid hP
 clear hn ha hm hW hP
 go_enter Tryz.func152,Tryz.ntmps152
 go_wp2_with fail
 refine DM.out.mono ?_
 rintro e w1 ⟨rfl,hq1⟩
 have HB1:Hid (Below w.heap.size w w1):=by
  obtain⟨q,rfl⟩:=hq1
  exact below_drewN (Below.refl _ _) q
 clear hq1 DM
 go_wp2_with fail
 refine(DN.out _).mono ?_
 rintro e w2 ⟨v2,rfl,ho2,hb2⟩
 obtain⟨A2,c2,rfl⟩:=bZ ho2
 have HB2:Hid (Below w.heap.size w w2):=cZ hb2 HB1.out
 have HO2:Hid (w2.ownsRow w.heap.size 5 1 (.slice A2 (iZ n).length c2) (iZ n).length (dZ .u8 (iZ n))):=nZ ho2 HB1.out.size
 clear ho2 hb2 DN HB1
 go_wp2_with fail
 refine(DW.out _).mono ?_
 rintro e w3 ⟨rfl,rfl⟩
 go_wp2_with fail
 have hb4:Below w3.heap.size w3 (w3.alloc (.cells #[.slice none 0 0] 267)):=aZ (Below.refl _ _)
 have HW4:Hid (RW (fun k=>k<w3.heap.size) (w3.alloc (.cells #[.slice none 0 0] 267)) w3.heap.size w3.heap.size (scZ W (ls.take 0)) (.slice none 0 0)):=RW.start (w:=w3) (Blk.made _ _ _) (Nat.le_refl _) (fun k hk=>hk) hb4.size
 generalize w3.alloc (.cells #[.slice none 0 0] 267)=w4 at *
 have HK4:Hid (Kept (fun k=>k<w3.heap.size) w3 w4):=Kept.of_below hb4 (fun k hk=>hk)
 clear hb4
 go_loopw [10] (fun iv wr=>∃ (k:Nat) (v':Value),k<=n/\iv= .int .i64 k/\Hid (RW (fun k=>k<w3.heap.size) wr w3.heap.size w3.heap.size (scZ W (ls.take k)) v')/\Hid (Kept (fun k=>k<w3.heap.size) w3 wr)) (fun iv _=>n-(intOf iv).toNat)
 case atStart=>exact⟨0,_,by omega,rfl,HW4.out,HK4.out⟩
 case round=>
  obtain⟨k,v',hk,rfl,HWr,HK⟩:=hrel
  clear HW4 HK4
  obtain⟨wi,rfl⟩:∃wi:World,wi=wr:=⟨_,rfl⟩
  have har:Row wi w.heap.size A n 1 (rZ .i64 ls):=fun h=>by
   obtain⟨b,off,hA,hbb,hc⟩:=(HA.out.below HB2.out) h
   exact⟨b,off,hA,hbb,fun i j hi hj=>(World.cell?_of_block (a:=⟨b,_,none⟩) (HK.out.block b (Nat.lt_of_lt_of_le hbb HB2.out.size))).trans (hc i j hi hj)⟩
  by_cases hlt:k<n
  ·have gk:decide ((k:Int)<(n:Int))=true:=by simp;omega
   have gk':decide (k<n)=true:=by simp;omega
   have x0:(0:Int)<=(k:Int):=by omega
   have x1:(k:Int)<(n:Int):=by omega
   obtain⟨b,off,x,rfl,_,hx,ck⟩:=bbZ har HN.out hlt
   have hxb:=HLT.out x (List.mem_of_getElem? hx)
   have hp0:¬(P:Int)=0:=by omega
   have hll:(scZ W (ls.take k)).length<=400000:=by
    rw[pfZ,List.length_take]
    have:min k ls.length<=20000:=by omega
    have h2:min k ls.length*W<=20000*14:=Nat.mul_le_mul this hW15
    omega
   have hst:scZ W (ls.take (k+1))=scZ W (ls.take k)++msb (x % P) W W:=by rw[List.take_add_one,hx,HPE.out];exact tuZ W _ x
   have D0:=(rput_any (fun k=>k<w3.heap.size) wi w3.heap.size w3.heap.size v' _ (x % P) W (by rw[<-HPE.out];exact Nat.mod_lt _ (by omega)) (by omega) (by omega) HWr.out)
   have um:IntKind.u64.wrap ((x:Int) % (P:Int))=(x:Int) % (P:Int):=by
    have e1:=Int.emod_nonneg (x:Int) hp0
    have e2:=Int.emod_lt_of_pos (x:Int) (show(0:Int)<(P:Int) by omega)
    generalize (x:Int) % (P:Int)=r at *
    rw[IntKind.wrap_u64]
    omega
   have ex:((x % P:Nat):Int)=(x:Int) % (P:Int):=by simp
   rw[<-hst,ex]at D0
   have D:=hid D0
   clear D0
   clear hst hx hll HWr hxb ex
   go_wp2_with fail
   with_reducible refine D.out.mono ?_
   rintro e w6 ⟨rfl,v6,hW6,hK6⟩
   have HW6:=hid hW6
   have HK6:Hid (Kept (fun k=>k<w3.heap.size) w3 w6):=HK.out.trans hK6
   clear hW6 hK6 D HK
   go_wp2_with fail
   go_roundw
   case measure=>go_light;simp[intOf];omega
   case rel=>go_light;exact⟨k+1,v6,by omega,by first|rfl|go_num,HW6.out,HK6.out⟩
  ·obtain rfl:k=n:=by omega
   have gk:decide ((k:Int)<(k:Int))=false:=by simp
   have gk':decide (k<k)=false:=by simp
   have hall:ls.take k=ls:=List.take_of_length_le (by rw[HN.out];exact Nat.le_refl _)
   rw[hall]at HWr
   have HW0:Hid (RW (fun k=>k<w3.heap.size) wi w3.heap.size w3.heap.size (scZ W ls++ncZ 0 ((ls.take 0).map (·/ P))) v'):=by
    show RW _ _ _ _ _ _
    rw[List.take_zero,List.map_nil,ncZ,List.append_nil]
    exact HWr.out
   have HL0:Hid ((scZ W ls).length<=300000):=by
    show _<=_
    rw[pfZ,HN.out]
    have h2:k*W<=20000*14:=Nat.mul_le_mul (by omega) hW15
    omega
   have HLB:Hid ((scZ W ls++ncZ 0 ((ls.take 0).map (·/ P))).length<=300000):=by
    show _<=_
    rw[List.take_zero,List.map_nil,ncZ,List.append_nil]
    exact HL0.out
   have HU0:Hid (0=((ls.take 0).map (·/ P)).getLast?.getD 0):=rfl
   have HBITS:Hid (scZ W ls++ncZ 0 ((ls.take k).map (·/ P))=bgZ W ls):=by
    show _=_
    rw[hall,HPE.out]
    rfl
   have HK0:=hid HK.out
   clear HWr HK hall har
   obtain⟨BT,hBT⟩:∃BT:Nat->List Bool,BT=fun j=>scZ W ls++ncZ 0 ((ls.take j).map (·/ P)):=⟨_,rfl⟩
   have HBT:=hid hBT
   rw[show scZ W ls++ncZ 0 ((ls.take 0).map (·/ P))=BT 0 by rw[hBT]]at HW0 HLB
   rw[show scZ W ls++ncZ 0 ((ls.take k).map (·/ P))=BT k by rw[hBT]]at HBITS
   clear hBT
   go_wp2_with fail
   go_loopw [11,12] (fun uv iv wr=>∃ (j u:Nat) (v':Value),j<=k/\u<=20000/\iv= .int .i64 j/\uv= .int .i64 u/\Hid (u=((ls.take j).map (·/ P)).getLast?.getD 0)/\Hid (RW (fun k=>k<w3.heap.size) wr w3.heap.size w3.heap.size (BT j) v')/\Hid ((BT j).length<=300000+j+u)/\Hid (Kept (fun k=>k<w3.heap.size) w3 wr)) (fun _ iv _=>k-(intOf iv).toNat)
   case atStart=>exact⟨0,0,_,by omega,by omega,rfl,rfl,HU0.out,HW0.out,HLB.out,HK0.out⟩
   case round=>
    obtain⟨j,u,v2,hj,hu,rfl,rfl,HU,HWr,HLN,HK⟩:=hrel
    clear HW0 HLB HK0 HU0
    obtain⟨wj,rfl⟩:∃wj:World,wj=wr:=⟨_,rfl⟩
    by_cases hlt:j<k
    ·have har:Row wj w.heap.size A k 1 (rZ .i64 ls):=fun h=>by
      obtain⟨b,off,hA,hbb,hc⟩:=(HA.out.below HB2.out) h
      exact⟨b,off,hA,hbb,fun i j hi hj=>(World.cell?_of_block (a:=⟨b,_,none⟩) (HK.out.block b (Nat.lt_of_lt_of_le hbb HB2.out.size))).trans (hc i j hi hj)⟩
     have gk:decide ((j:Int)<(k:Int))=true:=by simp;omega
     have gk':decide (j<k)=true:=by simp;omega
     have x0:(0:Int)<=(j:Int):=by omega
     have x1:(j:Int)<(k:Int):=by omega
     obtain⟨b,off,x,rfl,hbb,hx,ck⟩:=bbZ har HN.out hlt
     have hxb:=HLT.out x (List.mem_of_getElem? hx)
     have hp0:¬(P:Int)=0:=by omega
     have hle:=vaZb P hx HRI.out
     rw[<-HU.out]at hle
     have hls:=dyZ P hx
     have hst:=msZ P hx
     rw[<-HU.out]at hst
     obtain⟨q,hq⟩:∃q,q=x / P:=⟨_,rfl⟩
     rw[<-hq]at hle hls hst
     have hqx:q<=x:=by rw[hq];exact Nat.div_le_self _ _
     have ud:(x:Int) / (P:Int)=(q:Int):=by rw[hq];simp
     have ud2:IntKind.i64.wrap (Int.tdiv (x:Int) (P:Int))=(q:Int):=by rw[Int.tdiv_eq_ediv_of_nonneg (by omega),ud,IntWalk.i64_in _ (by omega)]
     obtain⟨d,hd⟩:∃d,d=q-u:=⟨_,rfl⟩
     rw[<-hd]at hst
     have us:IntKind.i64.wrap ((q:Int)-(u:Int))=(d:Int):=by rw[IntWalk.i64_in _ (by omega)];omega
     have hll:(BT j).length<=350000:=by have:=HLN.out;omega
     have hdl:d<=20000:=by omega
     have hst2:BT (j+1)=BT j++unary d:=by rw[HBT.out];show _++_=_++_++_;rw[hst,List.append_assoc]
     have HLN2:Hid ((BT (j+1)).length<=300000+(j+1)+q):=by
      show _<=_
      rw[hst2,List.length_append,gjZ]
      have:=HLN.out
      omega
     have D0:=yhZb (fun k=>k<w3.heap.size) wj w3.heap.size w3.heap.size v2 _ d (by omega) (by omega) HWr.out
     rw[<-hst2]at D0
     have D:=hid D0
     have HU2:Hid (q=((ls.take (j+1)).map (·/ P)).getLast?.getD 0):=hls.symm
     have CK:Hid (∀w6,Kept (fun k=>k<w3.heap.size) wj w6->w6.cell? ⟨b,off+j,none⟩=some (.int .i64 (x:Nat))):=fun w6 h=>(World.cell?_of_block (a:=⟨b,_,none⟩) (h.block b (Nat.lt_of_lt_of_le hbb HB2.out.size))).trans ck
     clear D0 hst hst2 hls hx hq hd HWr HLN HU har
     go_wp2_with fail
     refine D.out.mono ?_
     rintro e w6 ⟨rfl,v6,hW6,hK6⟩
     have HW6:=hid hW6
     have HK6:Hid (Kept (fun k=>k<w3.heap.size) w3 w6):=HK.out.trans hK6
     have ck6:=CK.out w6 hK6
     clear hW6 hK6 D HK CK ck
     go_wp2_with fail
     go_roundw
     case measure=>go_light;simp[intOf];omega
     case rel=>go_light;exact⟨j+1,q,v6,by omega,by omega,by first|rfl|go_num,by first|rfl|go_num,HU2.out,HW6.out,HLN2.out,HK6.out⟩
    ·obtain rfl:j=k:=by omega
     have gk:decide ((j:Int)<(j:Int))=false:=by simp
     have gk':decide (j<j)=false:=by simp
     obtain⟨A3,c3,rfl⟩:=bZ HWr.out.own
     obtain⟨hn2,hr2⟩:=HWr.out.rowOf
     have hg0:=HWr.out.blk.cell 0
     simp only[List.getElem?_toArray,List.getElem?_cons_zero]at hg0
     have D:=hid (rbytes_any wj w3.heap.size A3 _ c3 (BT j) hn2 (by have:=HLN.out;omega) hg0 HWr.out.blk.lt hr2)
     rw[HBITS.out]at D
     have HBL:Hid ((bytesOf (bgZ W ls)).length<=1000000):=by
      show _<=_
      rw[<-HBITS.out,bytesOf_length]
      have:=HLN.out
      omega
     clear hn2 hr2 hg0 HWr HU HLN
     obtain⟨BO,hBO⟩:∃BO,BO=bytesOf (bgZ W ls):=⟨_,rfl⟩
     rw[<-hBO]at D HE HBL
     obtain⟨bo,hbo⟩:∃bo,bo=BO.length:=⟨_,rfl⟩
     rw[<-hbo]at D HBL
     have HBO:=hid hbo
     clear hbo hBO
     go_wp2_with fail
     refine D.out.mono ?_
     rintro e w8 ⟨v8,rfl,ho8,hb8⟩
     obtain⟨A8,c8,rfl⟩:=bZ ho8
     have HS8:Hid (Src w8 A8 bo c8 1 (dZ .u8 BO)):=tZ ho8
     have hbol:bo<=1000000:=HBL.out
     have HB8:Hid (Below w.heap.size w w8):=cZ (gZ hb8 HK.out.size (HK.out.below (fun k h=>h))) HB2.out
     have HO8:Hid (w8.ownsRow w.heap.size 5 1 (.slice A2 (iZ j).length c2) (iZ j).length (dZ .u8 (iZ j))):=fZ HO2.out (fun y hy=>((HK.out.below (fun k h=>h)).trans (hb8.mono HK.out.size)).block y (World.ownsRow.lt HO2.out y hy).2)
     have hz8:=HB8.out.size
     clear ho8 hb8 HK D HO2 HB2
     go_wp2_with(at_builtin;refine hZ rfl (.tmp 78) (.tmp 79) 29 rfl w.heap.size 5 j0 _ 1 1 Tryz.underlying29 hj0 hy0 hy1 hy2 rfl (by decide) _ _ _ (by rfl) HO8.out _ _ _ _ (by rfl) HS8.out (qZ _ _) (by unfold maxLen;omega) (by omega) hz8 ?_;intro v9 w9 hown9 hg9 hat9)
     have HB9:Hid (Below w.heap.size w w9):=HB8.out.grown hg9 hz8 (fun y hy=>(World.ownsRow.lt HO8.out y hy).1)
     go_ret2
     refine⟨v9,by first|rfl|simp,?_,HB9.out⟩
     rw[HE.out]
     have e2:dZ .u8 (iZ j++BO)=dZ .u8 (iZ j)++dZ .u8 BO:=by simp[dZ]
     rw[List.length_append,<-HBO.out,e2]
     exact hown9
end Go.Proofs.YtmlaajebadfkoaaGreatDoor.Ef
namespace Go.Proofs.YtmlaajebadfkoaaGreatDoor.Idx
open Go.RowKit Mem Own Canon Sift
open NumPut Recs Crc Block
theorem ecZb(w:World)(size:Nat)(A:Option Addr)(n c:Nat)(ls:List Str)(hn:ls.length=n)(h1:1<=size)(h2:size<=64)(hN:n<=20000)(hm:kjZ ls=true)(ha:Row w w.heap.size A n 1 (pgZ ls)):
 Calls Tryz.prog 151 #[.int .i64 (size:Nat), .slice A n c] w fun e w'=>∃v,e= .returned (.tuple #[v, .int .i64 0])/\w'.ownsRow w.heap.size 5 1 v (ceZ size ls).length (dZ .u8 (ceZ size ls))/\Below w.heap.size w w':=by
 obtain⟨j0,hj0,hy0,hy1,hy2⟩:=info_parts hbZ
 have HN:=hid hn
 have HA:=hid ha
 have DM:=hid (avZ w A n c ls hn (by omega) ha)
 rw[hm]at DM
 have DN:=hid (fun wx=>lcZ wx n (by omega))
 have hsm:∀s∈ls,s.length<=25:=fun s hs=>(sjZ hm s hs).2
 have HSM:Hid (∀ (k:Nat) (x:Str),ls[k]? =some x->x.length<=25):=fun k x h=>hsm x (List.mem_of_getElem? h)
 have y1:decide ((size:Int)<1)=false:=by simp;omega
 have y1':decide (size<1)=false:=by simp;omega
 have y2:decide ((64:Int)<(size:Int))=false:=by simp;omega
 have y2':decide (64<size)=false:=by simp;omega
 have u1:IntKind.u64.wrap (n:Int)=(n:Int):=by rw[IntKind.wrap_u64];omega
 have HDO:Hid (ceZ size ls=hdB size ls (nCh size n)++bdB size ls (nCh size n)):=by show _=_;rw[zpZ h1,hn];unfold hdB bdB;rw[hn]
 have HH0:Hid (iZ n=hdB size ls 0):=by show _=_;unfold hdB;rw[hn];simp
 have HB0:Hid ([]=bdB size ls 0):=by show _=_;simp[bdB]
 have HHS:Hid (∀q,hdB size ls (q+1)=hdB size ls q++iZ (xZ (rbZ size ls q)).length):=ccZb size ls
 have HBS:Hid (∀q,bdB size ls (q+1)=bdB size ls q++xZ (rbZ size ls q)):=luZ size ls
 have HHL:Hid (∀q,(hdB size ls q).length<=10+10*q):=doZ hsm h2 (by omega)
 have HBL:Hid (∀q,(bdB size ls q).length<=1984*q):=zfZb hsm h2
 have HCL:Hid (∀q,(xZ (rbZ size ls q)).length<=1984):=ajZ hsm h2
 have HIF:Hid (∀q,q<nCh size n↔q*size<n):=fun q=>csZ h1
 have hmn:nCh size n<=n:=drZ h1
 have HCE:Hid (∀q r i,i=q*size->r+1=min size (n-i)->xZ ((ls.drop i).take (r+1))=xZ (rbZ size ls q)):=fun q r i hi hr=>by
  unfold rbZ
  rw[<-hi,hr]
  congr 1
  rw[List.take_eq_take_iff,List.length_drop,hn]
  omega
 obtain⟨HD,hHD⟩:∃HD,HD=hdB size ls:=⟨_,rfl⟩
 obtain⟨BD,hBD⟩:∃BD,BD=bdB size ls:=⟨_,rfl⟩
 obtain⟨C,hC⟩:∃C:Nat->List Nat,C=fun q=>xZ (rbZ size ls q):=⟨_,rfl⟩
 have eC:∀q,xZ (rbZ size ls q)=C q:=fun q=>by rw[hC]
 obtain⟨m,hmm⟩:∃m,m=nCh size n:=⟨_,rfl⟩
 simp only[<-hHD,<-hBD,<-hmm,eC]at HDO HH0 HB0 HHS HBS HHL HBL HCL HIF hmn HCE
 clear hn ha hm hsm hHD hBD hC eC hmm
 go_enter Tryz.func151,Tryz.ntmps151
 go_wp2_with fail
 refine DM.out.mono ?_
 rintro e w1 ⟨rfl,hq1⟩
 have HB1:Hid (Below w.heap.size w w1):=by
  obtain⟨q,rfl⟩:=hq1
  exact below_drewN (Below.refl _ _) q
 clear hq1 DM
 go_wp2_with fail
 refine(DN.out _).mono ?_
 rintro e w2 ⟨v2,rfl,ho2,hb2⟩
 have HB2:Hid (Below w.heap.size w w2):=cZ hb2 HB1.out
 have HO2:Hid (w2.ownsRow w.heap.size 5 1 v2 (HD 0).length (dZ .u8 (HD 0))):=by rw[<-HH0.out];exact nZ ho2 HB1.out.size
 have HOB:Hid (w2.ownsRow w.heap.size 5 1 (.slice none 0 0) (BD 0).length (dZ .u8 (BD 0))):=by rw[<-HB0.out];exact World.ownsRow_nil _ _ _ _
 have HAP:Hid (Apt v2 (.slice none 0 0)):=fun x _ h=>by cases h
 clear ho2 hb2 DN HB1 HH0 HB0
 go_wp2_with fail
 go_loopw [6,7,8] (fun hv bv iv wr=>∃ (q i:Nat),q<=m/\i<=20064/\iv= .int .i64 i/\Hid (i=q*size)/\Hid (wr.ownsRow w.heap.size 5 1 hv (HD q).length (dZ .u8 (HD q)))/\Hid (wr.ownsRow w.heap.size 5 1 bv (BD q).length (dZ .u8 (BD q)))/\Hid (Apt hv bv)/\Hid (Below w.heap.size w wr)) (fun _ _ iv _=>n+size-(intOf iv).toNat)
 case atStart=>exact⟨0,0,by omega,by omega,rfl,by show 0=_;omega,HO2.out,HOB.out,HAP.out,HB2.out⟩
 case round=>
  obtain⟨q,i,hq,hi,rfl,HI,HOH,HOB1,HAP1,HB⟩:=hrel
  clear HO2 HOB HAP HB2
  obtain⟨wi,rfl⟩:∃wi:World,wi=wr:=⟨_,rfl⟩
  obtain⟨AH,cH,rfl⟩:=bZ HOH.out
  obtain⟨AB,cB,rfl⟩:=bZ HOB1.out
  by_cases hlt:i<n
  ·have hqm:q<m:=(HIF.out q).2 (by rw[<-HI.out];exact hlt)
   have gk:decide ((i:Int)<(n:Int))=true:=by simp;omega
   have gk':decide (i<n)=true:=by simp;omega
   have x0:(0:Int)<=(i:Int):=by omega
   have x1:(i:Int)<(n:Int):=by omega
   have har:Row wi w.heap.size A n 1 (pgZ ls):=HA.out.below HB.out
   obtain⟨b,off,x,rfl,_,hx,ck⟩:=Row.str har HN.out hlt
   have hxl:=HSM.out i x hx
   have hzx:=ybZ x
   have DT:=hid (fnZ wi (bs x) (by omega))
   rw[lmZ,<-awZ hx]at DT
   obtain⟨PB,hPB⟩:∃PB:Nat->List Nat,PB=fun r=>xZ ((ls.drop i).take (r+1)):=⟨_,rfl⟩
   have HPS:Hid (∀ (r:Nat) (x y:Str),ls[i+r]? =some x->ls[i+r+1]? =some y->PB (r+1)=PB r++(iZ (kbZ x y)++ofZ (y.drop (kbZ x y)))):=fun r x y hx hy=>by rw[hPB];exact zkZb hx hy
   have HPE:Hid (∀r,r+1=min size (n-i)->PB r=C q):=fun r hr=>by rw[hPB];exact HCE.out q r i HI.out hr
   rw[show xZ ((ls.drop i).take (0+1))=PB 0 by rw[hPB]]at DT
   have hl0:(PB 0).length<=31:=by rw[hPB];show(xZ ((ls.drop i).take (0+1))).length<=31;rw[awZ hx];have:=ziZ hxl;omega
   have s1:IntKind.i64.wrap ((i:Int)+1)=((i+1:Nat):Int):=by rw[IntWalk.i64_in _ (by omega)];omega
   have s2:IntKind.i64.wrap ((i:Int)+(size:Int))=((i+size:Nat):Int):=by rw[IntWalk.i64_in _ (by omega)];omega
   clear hx hxl hzx hPB har
   go_wp2_with fail
   refine DT.out.mono ?_
   rintro e w3 ⟨v3,rfl,ho3,hb3⟩
   have HO3:=hid ho3
   have HB3:=hid hb3
   clear ho3 hb3 DT ck
   go_wp2_with fail
   have hu2:=ybZ x
   go_loopw [9,10] (fun pv kv wx=>∃k:Nat,i+1<=k/\k<=i+size/\k<=n/\kv= .int .i64 k/\Hid (wx.ownsRow wi.heap.size 5 1 pv (PB (k-i-1)).length (dZ .u8 (PB (k-i-1))))/\Hid ((PB (k-i-1)).length<=31*(k-i))/\Hid (Below wi.heap.size wi wx)) (fun _ kv _=>n-(intOf kv).toNat)
   case atStart=>exact⟨i+1,by omega,by omega,by omega,by first|rfl|go_num,by rw[show i+1-i-1=0 by omega];exact HO3.out,by rw[show i+1-i-1=0 by omega];show _<=_;omega,HB3.out⟩
   case round=>
    obtain⟨k,hk1,hk2,hk3,rfl,HOP,HPL,HBI⟩:=hrel
    clear HO3 HB3 hu2
    obtain⟨wl,rfl⟩:∃wl:World,wl=wr:=⟨_,rfl⟩
    by_cases hc1:k<i+size
    ·have g1:decide ((k:Int)<((i+size:Nat):Int))=true:=by simp;omega
     have g1':decide ((k:Int)<(i:Int)+(size:Int))=true:=by simp;omega
     have g1'':decide (k<i+size)=true:=by simp;omega
     by_cases hc2:k<n
     ·obtain⟨k0,rfl⟩:∃k0,k=k0+1:=⟨k-1,by omega⟩
      have g1a:decide ((k0:Int)+1<(i:Int)+(size:Int))=true:=by simp;omega
      have g2:decide ((k0:Int)+1<(n:Int))=true:=by simp;omega
      have g2':decide (k0+1<n)=true:=by simp;omega
      have har2:Row wl w.heap.size (some ⟨b,off,none⟩) n 1 (pgZ ls):=HA.out.below (gZ HBI.out HB.out.size HB.out)
      obtain⟨b',off',y,hA',hbb,hy,cy⟩:=Row.str har2 HN.out hc2
      injection hA' with hA'
      injection hA' with e1 e2
      subst e1 e2
      obtain⟨b',off',x,hA',_,hx,cx⟩:=Row.str har2 HN.out (k:=k0) (by omega)
      injection hA' with hA'
      injection hA' with e1 e2
      subst e1 e2
      have HCY:Hid (∀wx,Below wl.heap.size wl wx->wx.cell? ⟨b,off+(k0+1),none⟩=some (.string (bs y))):=fun wx h=>(h.cell (p:=⟨b,off+(k0+1),none⟩) (by show b<_;have:=HB.out.size;have:=HBI.out.size;omega)).trans cy
      have hxl:=HSM.out k0 x hx
      have hyl:=HSM.out (k0+1) y hy
      have hal:=tmZ x y
      have hst:=HPS.out (k0-i) x y (by rw[show i+(k0-i)=k0 by omega];exact hx) (by rw[show i+(k0-i)+1=k0+1 by omega];exact hy)
      rw[show k0-i+1=k0+1-i by omega]at hst
      have DS:=hid (fun wx=>ahZb wx x y (by omega) (by omega))
      obtain⟨a,hae⟩:∃a,a=kbZ x y:=⟨_,rfl⟩
      rw[<-hae]at hal hst DS
      have hzy:=ybZ y
      have hdl:(y.drop a).length<=25:=by rw[List.length_drop];omega
      have hzd:=ybZ (y.drop a)
      have kl:=fun wx=>acZb y a hal.2 wx
      have DNA:=hid (fun wx=>lcZ wx a (by omega))
      have DX:=hid (fun wx=>fnZ wx (bs (y.drop a)) (by rw[hzd];omega))
      rw[lmZ]at DX
      have u2:IntKind.u64.wrap (a:Int)=(a:Int):=by rw[IntKind.wrap_u64];omega
      have z0:(0:Int)<=(k0:Int):=by omega
      have z1:(k0:Int)<(n:Int):=by omega
      have z2:(0:Int)<=(k0:Int)+1:=by omega
      have z3:(k0:Int)+1<(n:Int):=by omega
      have z4:((k0:Int)+1).toNat=k0+1:=by omega
      have hln:(iZ a).length<=1:=by rw[ypZ (by omega)];omega
      have hlx:=ziZ hdl
      generalize bs (y.drop a)=Y2 at *
      generalize ofZ (y.drop a)=X2 at *
      generalize iZ a=X1 at *
      obtain⟨x1',hx1'⟩:∃x1',x1'=X1.length:=⟨_,rfl⟩
      obtain⟨x2',hx2'⟩:∃x2',x2'=X2.length:=⟨_,rfl⟩
      rw[show k0+1-i-1=k0-i by omega]at HOP HPL
      obtain⟨p,hp⟩:∃p,p=(PB (k0-i)).length:=⟨_,rfl⟩
      rw[<-hp]at HOP HPL
      rw[<-hx1']at DNA hln
      rw[<-hx2']at DX hlx
      have hpl:p<=2000:=by have:=HPL.out;omega
      have HST:Hid (dZ .u8 (PB (k0+1-i))=dZ .u8 (PB (k0-i))++dZ .u8 X1++dZ .u8 X2):=by show _=_;rw[hst];simp[dZ]
      have HLE:Hid ((PB (k0+1-i)).length=p+x1'+x2'):=by show _=_;rw[hst,List.length_append,List.length_append];omega
      obtain⟨Y9,hY9⟩:∃Y9,Y9=PB (k0+1-i):=⟨_,rfl⟩
      rw[<-hY9]at HST HLE
      have HYE:Hid (PB (k0+1-i)=Y9):=hY9.symm
      clear hY9
      generalize PB (k0-i)=Y8 at *
      obtain⟨A4,c4,rfl⟩:=bZ HOP.out
      clear hst hx hy hae hxl hyl hzy hzd hx1' hx2' hp har2
      go_wp2_with fail
      go_quiet ((go_at_call 167;exact Calls.quiet_of (DS.out _)))
      go_wp2_with fail
      refine(DNA.out _).mono ?_
      rintro e w5 ⟨v5,rfl,ho5,hb5⟩
      obtain⟨A5,c5,rfl⟩:=bZ ho5
      have HS5:Hid (Src w5 A5 x1' c5 1 (dZ .u8 X1)):=tZ ho5
      have HB5:Hid (Below wl.heap.size wl w5):=gZ hb5 (Nat.le_refl _) (below_drewN (Below.refl _ _) nq)
      have HO5:Hid (w5.ownsRow wi.heap.size 5 1 (.slice A4 p c4) p (dZ .u8 Y8)):=fZ HOP.out (fun y hy=>HB5.out.block y (World.ownsRow.lt HOP.out y hy).2)
      have hz5:wi.heap.size<=w5.heap.size:=Nat.le_trans HBI.out.size HB5.out.size
      have HCY2:Hid (∀wx,Below wi.heap.size wi wx->wx.cell? ⟨b,off+(k0+1),none⟩=some (.string (bs y))):=fun wx h=>(h.cell (p:=⟨b,off+(k0+1),none⟩) (by show b<_;have:=HB.out.size;omega)).trans ((HBI.out.cell (p:=⟨b,off+(k0+1),none⟩) (by show b<_;have:=HB.out.size;omega)).symm.trans cy)
      have HBI5:Hid (Below wi.heap.size wi w5):=gZ HB5.out HBI.out.size HBI.out
      clear ho5 hb5 DNA DS cx cy HCY HOP HB5
      go_wp2_with(at_builtin;refine hZ rfl (.tmp 64) (.tmp 67) 29 rfl wi.heap.size 5 j0 _ 1 1 Tryz.underlying29 hj0 hy0 hy1 hy2 rfl (by decide) _ _ _ (by rfl) HO5.out _ _ _ _ (by rfl) HS5.out (qZ _ _) (by unfold maxLen;omega) (by omega) hz5 ?_;intro v6 w6 hown6 hg6 hat6;obtain⟨A6,c6,rfl⟩:=bZ hown6;have HBI6:Hid (Below wi.heap.size wi w6):=HBI5.out.grown hg6 hz5 (fun y hy=>(World.ownsRow.lt HO5.out y hy).1);have HO6:=hid hown6;have cy6:=HCY2.out w6 HBI6.out;clear hown6 hg6 hat6 HO5 HS5 HBI5 hz5)
      refine(DX.out _).mono ?_
      rintro e w7 ⟨v7,rfl,ho7,hb7⟩
      obtain⟨A7,c7,rfl⟩:=bZ ho7
      have HS7:Hid (Src w7 A7 x2' c7 1 (dZ .u8 X2)):=tZ ho7
      have HO7:Hid (w7.ownsRow wi.heap.size 5 1 (.slice A6 (p+x1') c6) (p+x1') (dZ .u8 Y8++dZ .u8 X1)):=fZ HO6.out (fun y hy=>hb7.block y (World.ownsRow.lt HO6.out y hy).2)
      have HBI7:Hid (Below wi.heap.size wi w7):=gZ hb7 HBI6.out.size HBI6.out
      have hz7:=HBI7.out.size
      clear ho7 hb7 DX cy6 HCY2 HO6 HBI6
      go_wp2_with(at_builtin;refine hZ rfl (.tmp 69) (.tmp 76) 29 rfl wi.heap.size 5 j0 _ 1 1 Tryz.underlying29 hj0 hy0 hy1 hy2 rfl (by decide) _ _ _ (by rfl) HO7.out _ _ _ _ (by rfl) HS7.out (qZ _ _) (by unfold maxLen;omega) (by omega) hz7 ?_;intro v8 w8 hown8 hg8 hat8)
      have HBI8:Hid (Below wi.heap.size wi w8):=HBI7.out.grown hg8 hz7 (fun y hy=>(World.ownsRow.lt HO7.out y hy).1)
      have HO8:Hid (w8.ownsRow wi.heap.size 5 1 v8 Y9.length (dZ .u8 Y9)):=by rw[HST.out,HLE.out];exact hown8
      have HL8:Hid (Y9.length<=31*(k0+1+1-i)):=by show _<=_;have:=HLE.out;have:=HPL.out;omega
      clear hown8 hg8 hat8 HO7 HS7 HBI7 hz7
      go_roundw
      case measure=>go_light;simp[intOf];omega
      case rel=>go_light;exact⟨k0+1+1,by omega,by omega,by omega,by first|rfl|go_num,by rw[show k0+1+1-i-1=k0+1-i by omega,HYE.out];exact HO8.out,by rw[show k0+1+1-i-1=k0+1-i by omega,HYE.out];exact HL8.out,HBI8.out⟩
     ·have g2:decide ((k:Int)<(n:Int))=false:=by simp;omega
      have g2':decide (k<n)=false:=by simp;omega
      have hpe:=HPE.out (k-i-1) (by omega)
      rw[hpe]at HOP
      obtain⟨A9,c9,rfl⟩:=bZ HOP.out
      have hcl:=HCL.out q
      have hhl:=HHL.out q
      have hbl:=HBL.out q
      have hhs:=HHS.out q
      have hbs:=HBS.out q
      have HI2:Hid (i+size=(q+1)*size):=by show _=_;rw[HI.out,Nat.add_mul,Nat.one_mul]
      have HHQ:Hid (dZ .u8 (HD (q+1))=dZ .u8 (HD q)++dZ .u8 (iZ (C q).length)):=by show _=_;rw[hhs];simp[dZ]
      have HBQ:Hid (dZ .u8 (BD (q+1))=dZ .u8 (BD q)++dZ .u8 (C q)):=by show _=_;rw[hbs];simp[dZ]
      have HHN:Hid ((HD (q+1)).length=(HD q).length+(iZ (C q).length).length):=by show _=_;rw[hhs,List.length_append]
      have HBN:Hid ((BD (q+1)).length=(BD q).length+(C q).length):=by show _=_;rw[hbs,List.length_append]
      have DNC:=hid (fun wx=>lcZ wx (C q).length (by omega))
      have hnc:=mZ (x:=(C q).length) (by omega)
      have HAP9:Hid (Apt (.slice AH (HD q).length cH) (.slice A9 (C q).length c9)):=(xhZ HOP.out (Nat.le_refl _) (fun x hx=>(World.ownsRow.lt HOH.out x hx).2)).symm
      have HOHL:Hid (wl.ownsRow w.heap.size 5 1 (.slice AH (HD q).length cH) (HD q).length (dZ .u8 (HD q))):=fZ HOH.out (fun y hy=>HBI.out.block y (World.ownsRow.lt HOH.out y hy).2)
      have HOBL:Hid (wl.ownsRow w.heap.size 5 1 (.slice AB (BD q).length cB) (BD q).length (dZ .u8 (BD q))):=fZ HOB1.out (fun y hy=>HBI.out.block y (World.ownsRow.lt HOB1.out y hy).2)
      have HBL2:Hid (Below w.heap.size w wl):=gZ HBI.out HB.out.size HB.out
      obtain⟨HD1,hHD1⟩:∃HD1,HD1=HD (q+1):=⟨_,rfl⟩
      obtain⟨BD1,hBD1⟩:∃BD1,BD1=BD (q+1):=⟨_,rfl⟩
      rw[<-hHD1]at hhs HHQ HHN
      rw[<-hBD1]at hbs HBQ HBN
      have HHD1:Hid (HD (q+1)=HD1):=hHD1.symm
      have HBD1:Hid (BD (q+1)=BD1):=hBD1.symm
      clear hHD1 hBD1
      generalize HD q=HD0 at *
      generalize BD q=BD0 at *
      generalize C q=CQ at *
      generalize iZ CQ.length=NC at *
      have u3:IntKind.u64.wrap (CQ.length:Int)=(CQ.length:Int):=by rw[IntKind.wrap_u64];omega
      clear hhs hbs hpe
      go_wp2_with fail
      refine(DNC.out _).mono ?_
      rintro e w6 ⟨v6,rfl,ho6,hb6⟩
      obtain⟨A6,c6,rfl⟩:=bZ ho6
      have HS6:Hid (Src w6 A6 NC.length c6 1 (dZ .u8 NC)):=tZ ho6
      have HOH6:Hid (w6.ownsRow w.heap.size 5 1 (.slice AH HD0.length cH) HD0.length (dZ .u8 HD0)):=fZ HOHL.out (fun y hy=>hb6.block y (World.ownsRow.lt HOHL.out y hy).2)
      have HOB6:Hid (w6.ownsRow w.heap.size 5 1 (.slice AB BD0.length cB) BD0.length (dZ .u8 BD0)):=fZ HOBL.out (fun y hy=>hb6.block y (World.ownsRow.lt HOBL.out y hy).2)
      have HO9:Hid (w6.ownsRow wi.heap.size 5 1 (.slice A9 CQ.length c9) CQ.length (dZ .u8 CQ)):=fZ HOP.out (fun y hy=>hb6.block y (World.ownsRow.lt HOP.out y hy).2)
      have HB6:Hid (Below w.heap.size w w6):=gZ hb6 HBL2.out.size HBL2.out
      have hz6:=HB6.out.size
      clear ho6 hb6 HOHL HOBL HOP HBL2 DNC HBI
      go_wp2_with(first|(at_builtin;refine hZ rfl (.tmp 78) (.tmp 82) 29 rfl w.heap.size 5 j0 _ 1 1 Tryz.underlying29 hj0 hy0 hy1 hy2 rfl (by decide) _ _ _ (by rfl) HOH6.out _ _ _ _ (by rfl) HS6.out (qZ _ _) (by unfold maxLen;omega) (by omega) hz6 ?_;intro v7 w7 hown7 hg7 hat7;have HB7:Hid (Below w.heap.size w w7):=HB6.out.grown hg7 hz6 (fun y hy=>(World.ownsRow.lt HOH6.out y hy).1);have HOH7:=hid hown7;have HOB7:=hid (hcZ HOB6.out HAP1.out hg7 hat7);have HO97:=hid (hcZ HO9.out HAP9.out hg7 hat7);have HS7:Hid (Src w7 A9 CQ.length c9 1 (dZ .u8 CQ)):=tZ HO97.out.1;have hz7:=HB7.out.size;clear hown7 hg7 hat7 HOH6 HOB6 HO9 HB6 hz6 HS6 HAP1 HAP9)|(at_builtin;refine hZ rfl (.tmp 84) (.tmp 85) 29 rfl w.heap.size 5 j0 _ 1 1 Tryz.underlying29 hj0 hy0 hy1 hy2 rfl (by decide) _ _ _ (by rfl) HOB7.out.1 _ _ _ _ (by rfl) HS7.out (qZ _ _) (by unfold maxLen;omega) (by omega) hz7 ?_;intro v8 w8 hown8 hg8 hat8))
      have HB8:Hid (Below w.heap.size w w8):=HB7.out.grown hg8 hz7 (fun y hy=>(World.ownsRow.lt HOB7.out.1 y hy).1)
      have HH8:=hid (hcZ HOH7.out HOB7.out.2.symm hg8 hat8)
      have HOH9:Hid (w8.ownsRow w.heap.size 5 1 v7 HD1.length (dZ .u8 HD1)):=by rw[HHQ.out,HHN.out];exact HH8.out.1
      have HOB9:Hid (w8.ownsRow w.heap.size 5 1 v8 BD1.length (dZ .u8 BD1)):=by rw[HBQ.out,HBN.out];exact hown8
      have HAP10:Hid (Apt v7 v8):=HH8.out.2.symm
      clear hown8 hg8 hat8 HOH7 HOB7 HO97 HB7 HH8
      go_roundw
      case measure=>go_light;simp[intOf];omega
      case rel=>go_light;exact⟨q+1,i+size,by omega,by omega,by first|rfl|go_num,HI2.out,by rw[HHD1.out];exact HOH9.out,by rw[HBD1.out];exact HOB9.out,HAP10.out,HB8.out⟩
    ·have g1:decide ((k:Int)<((i+size:Nat):Int))=false:=by simp;omega
     have g1':decide ((k:Int)<(i:Int)+(size:Int))=false:=by simp;omega
     have g1'':decide (k<i+size)=false:=by simp;omega
     have hpe:=HPE.out (k-i-1) (by omega)
     rw[hpe]at HOP
     obtain⟨A9,c9,rfl⟩:=bZ HOP.out
     have hcl:=HCL.out q
     have hhl:=HHL.out q
     have hbl:=HBL.out q
     have hhs:=HHS.out q
     have hbs:=HBS.out q
     have HI2:Hid (i+size=(q+1)*size):=by show _=_;rw[HI.out,Nat.add_mul,Nat.one_mul]
     have HHQ:Hid (dZ .u8 (HD (q+1))=dZ .u8 (HD q)++dZ .u8 (iZ (C q).length)):=by show _=_;rw[hhs];simp[dZ]
     have HBQ:Hid (dZ .u8 (BD (q+1))=dZ .u8 (BD q)++dZ .u8 (C q)):=by show _=_;rw[hbs];simp[dZ]
     have HHN:Hid ((HD (q+1)).length=(HD q).length+(iZ (C q).length).length):=by show _=_;rw[hhs,List.length_append]
     have HBN:Hid ((BD (q+1)).length=(BD q).length+(C q).length):=by show _=_;rw[hbs,List.length_append]
     have DNC:=hid (fun wx=>lcZ wx (C q).length (by omega))
     have hnc:=mZ (x:=(C q).length) (by omega)
     have HAP9:Hid (Apt (.slice AH (HD q).length cH) (.slice A9 (C q).length c9)):=(xhZ HOP.out (Nat.le_refl _) (fun x hx=>(World.ownsRow.lt HOH.out x hx).2)).symm
     have HOHL:Hid (wl.ownsRow w.heap.size 5 1 (.slice AH (HD q).length cH) (HD q).length (dZ .u8 (HD q))):=fZ HOH.out (fun y hy=>HBI.out.block y (World.ownsRow.lt HOH.out y hy).2)
     have HOBL:Hid (wl.ownsRow w.heap.size 5 1 (.slice AB (BD q).length cB) (BD q).length (dZ .u8 (BD q))):=fZ HOB1.out (fun y hy=>HBI.out.block y (World.ownsRow.lt HOB1.out y hy).2)
     have HBL2:Hid (Below w.heap.size w wl):=gZ HBI.out HB.out.size HB.out
     obtain⟨HD1,hHD1⟩:∃HD1,HD1=HD (q+1):=⟨_,rfl⟩
     obtain⟨BD1,hBD1⟩:∃BD1,BD1=BD (q+1):=⟨_,rfl⟩
     rw[<-hHD1]at hhs HHQ HHN
     rw[<-hBD1]at hbs HBQ HBN
     have HHD1:Hid (HD (q+1)=HD1):=hHD1.symm
     have HBD1:Hid (BD (q+1)=BD1):=hBD1.symm
     clear hHD1 hBD1
     generalize HD q=HD0 at *
     generalize BD q=BD0 at *
     generalize C q=CQ at *
     generalize iZ CQ.length=NC at *
     have u3:IntKind.u64.wrap (CQ.length:Int)=(CQ.length:Int):=by rw[IntKind.wrap_u64];omega
     clear hhs hbs hpe
     go_wp2_with fail
     refine(DNC.out _).mono ?_
     rintro e w6 ⟨v6,rfl,ho6,hb6⟩
     obtain⟨A6,c6,rfl⟩:=bZ ho6
     have HS6:Hid (Src w6 A6 NC.length c6 1 (dZ .u8 NC)):=tZ ho6
     have HOH6:Hid (w6.ownsRow w.heap.size 5 1 (.slice AH HD0.length cH) HD0.length (dZ .u8 HD0)):=fZ HOHL.out (fun y hy=>hb6.block y (World.ownsRow.lt HOHL.out y hy).2)
     have HOB6:Hid (w6.ownsRow w.heap.size 5 1 (.slice AB BD0.length cB) BD0.length (dZ .u8 BD0)):=fZ HOBL.out (fun y hy=>hb6.block y (World.ownsRow.lt HOBL.out y hy).2)
     have HO9:Hid (w6.ownsRow wi.heap.size 5 1 (.slice A9 CQ.length c9) CQ.length (dZ .u8 CQ)):=fZ HOP.out (fun y hy=>hb6.block y (World.ownsRow.lt HOP.out y hy).2)
     have HB6:Hid (Below w.heap.size w w6):=gZ hb6 HBL2.out.size HBL2.out
     have hz6:=HB6.out.size
     clear ho6 hb6 HOHL HOBL HOP HBL2 DNC HBI
     go_wp2_with(first|(at_builtin;refine hZ rfl (.tmp 78) (.tmp 82) 29 rfl w.heap.size 5 j0 _ 1 1 Tryz.underlying29 hj0 hy0 hy1 hy2 rfl (by decide) _ _ _ (by rfl) HOH6.out _ _ _ _ (by rfl) HS6.out (qZ _ _) (by unfold maxLen;omega) (by omega) hz6 ?_;intro v7 w7 hown7 hg7 hat7;have HB7:Hid (Below w.heap.size w w7):=HB6.out.grown hg7 hz6 (fun y hy=>(World.ownsRow.lt HOH6.out y hy).1);have HOH7:=hid hown7;have HOB7:=hid (hcZ HOB6.out HAP1.out hg7 hat7);have HO97:=hid (hcZ HO9.out HAP9.out hg7 hat7);have HS7:Hid (Src w7 A9 CQ.length c9 1 (dZ .u8 CQ)):=tZ HO97.out.1;have hz7:=HB7.out.size;clear hown7 hg7 hat7 HOH6 HOB6 HO9 HB6 hz6 HS6 HAP1 HAP9)|(at_builtin;refine hZ rfl (.tmp 84) (.tmp 85) 29 rfl w.heap.size 5 j0 _ 1 1 Tryz.underlying29 hj0 hy0 hy1 hy2 rfl (by decide) _ _ _ (by rfl) HOB7.out.1 _ _ _ _ (by rfl) HS7.out (qZ _ _) (by unfold maxLen;omega) (by omega) hz7 ?_;intro v8 w8 hown8 hg8 hat8))
     have HB8:Hid (Below w.heap.size w w8):=HB7.out.grown hg8 hz7 (fun y hy=>(World.ownsRow.lt HOB7.out.1 y hy).1)
     have HH8:=hid (hcZ HOH7.out HOB7.out.2.symm hg8 hat8)
     have HOH9:Hid (w8.ownsRow w.heap.size 5 1 v7 HD1.length (dZ .u8 HD1)):=by rw[HHQ.out,HHN.out];exact HH8.out.1
     have HOB9:Hid (w8.ownsRow w.heap.size 5 1 v8 BD1.length (dZ .u8 BD1)):=by rw[HBQ.out,HBN.out];exact hown8
     have HAP10:Hid (Apt v7 v8):=HH8.out.2.symm
     clear hown8 hg8 hat8 HOH7 HOB7 HO97 HB7 HH8
     go_roundw
     case measure=>go_light;simp[intOf];omega
     case rel=>go_light;exact⟨q+1,i+size,by omega,by omega,by first|rfl|go_num,HI2.out,by rw[HHD1.out];exact HOH9.out,by rw[HBD1.out];exact HOB9.out,HAP10.out,HB8.out⟩
  ·have hqm:q=m:=by
    have:¬q<m:=fun h=>by have:=(HIF.out q).1 h;have:=HI.out;omega
    omega
   subst hqm
   have gk:decide ((i:Int)<(n:Int))=false:=by simp;omega
   have gk':decide (i<n)=false:=by simp;omega
   have hhl:=HHL.out q
   have hbl:=HBL.out q
   have HSB:Hid (Src wi AB (BD q).length cB 1 (dZ .u8 (BD q))):=tZ HOB1.out
   have HLN:Hid ((ceZ size ls).length=(HD q).length+(BD q).length):=by show _=_;rw[HDO.out,List.length_append]
   have HEN:Hid (dZ .u8 (ceZ size ls)=dZ .u8 (HD q)++dZ .u8 (BD q)):=by show _=_;rw[HDO.out];simp[dZ]
   have hz:=HB.out.size
   generalize HD q=HD0 at *
   generalize BD q=BD0 at *
   clear HDO
   go_wp2_with(at_builtin;refine hZ rfl (.tmp 87) (.tmp 88) 29 rfl w.heap.size 5 j0 _ 1 1 Tryz.underlying29 hj0 hy0 hy1 hy2 rfl (by decide) _ _ _ (by rfl) HOH.out _ _ _ _ (by rfl) HSB.out (qZ _ _) (by unfold maxLen;omega) (by omega) hz ?_;intro v9 w9 hown9 hg9 hat9)
   have HB9:Hid (Below w.heap.size w w9):=HB.out.grown hg9 hz (fun y hy=>(World.ownsRow.lt HOH.out y hy).1)
   go_ret2
   refine⟨v9,rfl,?_,HB9.out⟩
   rw[HLN.out,HEN.out]
   exact hown9
end Go.Proofs.YtmlaajebadfkoaaGreatDoor.Idx
