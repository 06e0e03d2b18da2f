/- Small steps of an archive of version 1: its mark, its flag; the plain  -/
import Derived.Test.YtmlaajebadfkoaaGreatDoorZTwoPacks28
import Derived.Test.YtmlaajebadfkoaaGreatDoorZTwoPacks27
import Derived.Test.YtmlaajebadfkoaaGreatDoorZTwoPacks3
import Derived.Test.YtmlaajebadfkoaaGreatDoorZTwoPacks34
import Derived.Test.YtmlaajebadfkoaaGreatDoorZTwoPacks31
import Derived.Test.YtmlaajebadfkoaaGreatDoorZTwoPacks29
import Derived.Lib.SmallJoins
import Derived.Deep.DeepCutAuto
namespace Go.Proofs.YtmlaajebadfkoaaGreatDoor end Go.Proofs.YtmlaajebadfkoaaGreatDoor open Go.Proofs.YtmlaajebadfkoaaGreatDoor
open Go.Lib (hid)
set_option maxHeartbeats 8000000
set_option maxRecDepth 100000
namespace Go.Proofs.YtmlaajebadfkoaaGreatDoor.One
open Go.RowKit Mem Own Canon NumPut Crc
open Recs Opts
open Go.Proofs.YtmlaajebadfkoaaGreatDoor.Block (tbZ mkZ lZ enZ)
def ldZ(v:Nat):List Nat:= [70,73,82,75,v]
def oeZ(b:Bool):Nat:=if b=true then 1 else 0
theorem dxZ(S:Nat):∀ (t:List Nat) (h c:Nat),(goG S h c t).sum=c+t.length
 | [],_,c=>by simp[goG]
 |x :: t,h,c=>by
  rw[goG]
  split
  ·rw[List.sum_cons,dxZ S t];simp;omega
  ·rw[dxZ S t];simp;omega
theorem exZ(S:Nat):∀ (t:List Nat) (h c:Nat),1<=c->∀x∈goG S h c t,1<=x
 | [],_,c,hc,x,hx=>by rw[goG,List.mem_singleton]at hx;omega
 |y :: t,h,c,hc,x,hx=>by
  rw[goG]at hx
  split at hx
  ·rcases List.mem_cons.1 hx with rfl|hx
   ·exact hc
   ·exact exZ S t _ 1 (by omega) x hx
  ·exact exZ S t _ (c+1) (by omega) x hx
theorem eqZ(S:Nat)(l:List Nat):(gdZ S l).sum=l.length:=by
 cases l with
 |nil=>rfl
 |cons x t=>rw[gdZ,dxZ];simp;omega
theorem mlZ(S:Nat)(l:List Nat):∀x∈gdZ S l,1<=x:=by
 cases l with
 |nil=>intro x hx;cases hx
 |cons y t=>exact exZ S t y 1 (by omega)
theorem fqZ:∀ {l:List Nat},(∀x∈l,1<=x)->l.length<=l.sum
 | [],_=>by simp
 |x :: l,h=>by
  have h1:=h x (by simp)
  have h2:=fqZ (l:=l) (fun y hy=>h y (by simp[hy]))
  rw[List.length_cons,List.sum_cons]
  omega
theorem nmZ(wh:Bool)(l:List Rec):(fdZ wh l).length=l.length:=by unfold fdZ;rw[List.length_map]
theorem pcZb{P:Program}(w:World)(t ty e:TypeId)(i:TypeInfo)(ht:P.underlying t=some (.slice e))(hi:P.info? e=some i)(hz:i.zero=some (.int .u8 0))(hsize:i.size=1)(hby:i.bytes=1)
 (b:Addr)(n c:Nat)(olds:List Value)(hlo:olds.length=n)(holds:∀j v,olds[j]? =some v->w.cell? (b.add j)=some v)
 (a:Addr)(m c2:Nat)(news:List Value)(hl:news.length=m)(hnews:∀j v,news[j]? =some v->w.cell? (a.add j)=some v)(hg:c<n+m)(h63:n+m<=1000000):
 ∃v' w',(Builtin.append_ #[t,t] ty #[.slice (some b) n c, .slice (some a) m c2]).run P w= .ok v' w'/\w'.ownsRow w.heap.size e 1 v' (n+m) (olds++news)/\Below w.heap.size w w':=by
 have hr:=run_append_grow (P:=P) w t ty e i (.int .u8 0) ht hi hz b n c olds (by rw[hsize];omega) holds a m c2 news (by rw[hsize];omega) hnews hg (by omega) (by rw[hby];exact growslice_fits (by omega) (by omega))
 have hge:=grownCap_ge w (n+m) c e
 have hcm:grownCap w (n+m) c e<=maxLen:=grownCap_le_maxLen w (n+m) c e (by unfold maxLen;omega)
 refine⟨_,_,hr,⟨by rw[List.length_append];omega, .inr ⟨w.heap.size,_,_,rfl,Nat.le_refl _,heap_alloc_new w.drew _,hge,hcm,?_,?_⟩⟩,((Below.refl _ _).drew).alloc (Nat.le_refl _) _⟩
 ·have hz1:(Value.int IntKind.u8 0).cells.size=1:=rfl
  simp only[Array.size_append,List.size_toArray,size_zeroCells,hz1]
  omega
 ·simp only[Array.toList_append,List.append_assoc]
  rw[<-List.append_assoc]
  have hlen:(olds++news).length=(n+m)*1:=by rw[List.length_append];omega
  rw[<-hlen]
  exact List.take_left
theorem gwZ{P:Program}{w:World}{ops:Array Oper}{rest:List Oper}{o:Oper}{a:Act}{Q:Exit->Act->World->Prop}(hgd:o.guard=none)(s x:Operand)(t:TypeId)
 (ho:o.op= .call {callee:= .builtin .append,args:=#[s,x],argTypes:=#[t,t] })(e:TypeId)(i:TypeInfo)(ht:P.underlying t=some (.slice e))(hi:P.info? e=some i)(hz:i.zero=some (.int .u8 0))(hsize:i.size=1)(hby:i.bytes=1)
 (b:Addr)(n c:Nat)(olds:List Value)(hs:a.eval s= .slice (some b) n c)(hlo:olds.length=n)(holds:∀j v,olds[j]? =some v->w.cell? (b.add j)=some v)
 (ad:Addr)(m c2:Nat)(news:List Value)(hx:a.eval x= .slice (some ad) m c2)(hl:news.length=m)(hnews:∀j v,news[j]? =some v->w.cell? (ad.add j)=some v)(hg:c<n+m)(h63:n+m<=1000000)
 (h:∀v' w',w'.ownsRow w.heap.size e 1 v' (n+m) (olds++news)->Below w.heap.size w w'->wpList P ops Q rest (a.put o.dst v') w'):wpList P ops Q (o :: rest) a w:=by
 refine wpList_plain hgd fun K hK=> ?_
 obtain⟨v',w',hr,h2,h3⟩:=pcZb (P:=P) w t o.type e i ht hi hz hsize hby b n c olds hlo holds ad m c2 news hl hnews hg h63
 unfold Oper.wp execOp
 simp only[ho,resolve,invoke,builtin,Sem.run_bind,Sem.run_pure,Result.andThen_ok,List.map_toArray,List.map_cons,List.map_nil,hs,hx,hr]
 exact hK _ _ (h v' w' h2 h3)
theorem plZb(w:World)(b:Bool):Calls Tryz.prog 42 #[.bool b] w fun e w'=>e= .returned (.int .u8 (oeZ b:Nat))/\w'=w:=by
 cases b with
 |true=>
  go_enter Tryz.func42,Tryz.ntmps42
  go_wp2_with fail
  go_ret
  exact⟨rfl,rfl⟩
 |false=>
  go_enter Tryz.func42,Tryz.ntmps42
  go_wp2_with fail
  go_ret
  exact⟨rfl,rfl⟩
end Go.Proofs.YtmlaajebadfkoaaGreatDoor.One
namespace Go.Proofs.YtmlaajebadfkoaaGreatDoor.One
open Go.RowKit Mem Own Canon NumPut Crc
open Recs Opts
open Go.Proofs.YtmlaajebadfkoaaGreatDoor.Block (tbZ mkZ lZ ueZ enZ)
theorem hkZ{l:List Rec}(h:pdZ l=0):∀r∈l,bcZ r=false:=by
 unfold pdZ at h
 split at h
 ·cases h
 ·split at h
  ·cases h
  ·rename_i h1
   intro r hr
   cases hb:bcZ r
   ·rfl
   ·exact absurd (List.any_eq_true.2 ⟨r,hr,hb⟩) h1
theorem hnZ{l:List Rec}{m i:Nat}(h:i<m)(j:Nat):xbZ (l.take m) i j=xbZ l i j:=by
 have e:(l.take m).getD i roZ=l.getD i roZ:=by
  rw[List.getD_eq_getElem?_getD,List.getD_eq_getElem?_getD,List.getElem?_take,if_pos h]
 unfold xbZ
 rw[e]
theorem nlZ(l:List Rec)(k i j:Nat):xbZ l (k+i) j=xbZ (l.drop k) i j:=by
 have e:(l.drop k).getD i roZ=l.getD (k+i) roZ:=by
  rw[List.getD_eq_getElem?_getD,List.getD_eq_getElem?_getD,List.getElem?_drop]
 unfold xbZ
 rw[e]
theorem krZ(wh:Bool){l l':List Rec}(h:l.Sublist l'):(vZ wh l).length<=(vZ wh l').length:=by
 induction h with
 |slnil=>exact Nat.le_refl _
 |cons a _ ih=>unfold vZ at *;rw[List.flatMap_cons,List.length_append];omega
 |cons_cons a _ ih=>unfold vZ at *;rw[List.flatMap_cons,List.flatMap_cons,List.length_append,List.length_append];omega
theorem izZ{bs:List Nat}(plain:Bool)(h:bs.length<=16000):(tbZ bs plain).length<=bs.length+25:=by
 have hb:(Block.kdZ bs plain).length<=bs.length:=by
  unfold Block.kdZ
  split
  ·rename_i hc
   rw[Bool.and_eq_true]at hc
   have h2:=hc.2
   unfold Block.sqz at h2
   simp at h2
   omega
  ·omega
 have h1:=mZ (x:=bs.length) (by omega)
 have h2:=mZ (x:=(Block.kdZ bs plain).length) (by omega)
 unfold tbZ Block.teZ Block.ilZ
 simp only[List.length_append,List.length_singleton]
 have:(zeZ (mfZ (([Block.dkZ bs plain]++iZ bs.length++iZ (Block.kdZ bs plain).length)++Block.kdZ bs plain))).length=4:=rfl
 omega
theorem lrZ(wh:Bool)(l:List Rec)(m:Nat):(vZ wh (l.take m)).length+(vZ wh (l.drop m)).length=(vZ wh l).length:=by
 conv=>rhs;rw[<-List.take_append_drop m l]
 unfold vZ
 rw[List.flatMap_append,List.length_append]
end Go.Proofs.YtmlaajebadfkoaaGreatDoor.One
namespace Go.Proofs.YtmlaajebadfkoaaGreatDoor.One
open Go.RowKit Mem Own Canon NumPut Crc
open Recs Opts
open Go.Proofs.YtmlaajebadfkoaaGreatDoor.Block (tbZ mkZ lZ ueZ fwZ own_one)
def FrsAt(w:World)(base:Nat)(ps:List Part):Prop:=∀p∈ps,w.ownsRow base 5 1 p.v p.ls.length (dZ .u8 p.ls)
theorem FrsAt.step{w w':World}{base:Nat}{ps:List Part}(h:FrsAt w base ps)(hb:Below w.heap.size w w'):FrsAt w' base ps:=fun p hp=>fZ (h p hp) (fun y hy=>hb.block y (World.ownsRow.lt (h p hp) y hy).2)
theorem icZ{w w':World}{base base' s s' n n':Nat}{e e':TypeId}{v v':Value}{xs xs':List Value}(h:w.ownsRow base e s v n xs)(ho:w.ownsRow base' e' s' v' n' xs')(hne:e≠e')(hg:w.grownBy w' v'.ownBlock):w'.ownsRow base e s v n xs:=
 fZ h (fun y hy=>hg.block y (World.ownsRow.lt h y hy).2 (fun e=>by
  rcases qcZ h ho hne with h0|h0
  ·rw[h0]at hy;cases hy
  ·exact h0 (hy.trans e)))
theorem FrsAt.grown{w w':World}{base base' n:Nat}{v:Value}{xs:List Value}{ps:List Part}(h:FrsAt w base ps)(ho:w.ownsRow base' 29 1 v n xs)(hg:w.grownBy w' v.ownBlock):FrsAt w' base ps:=fun p hp=>
 icZ (h p hp) ho (by decide) hg
theorem FrsAt.snoc{w:World}{base:Nat}{ps:List Part}{p:Part}(h:FrsAt w base ps)(hp:w.ownsRow base 5 1 p.v p.ls.length (dZ .u8 p.ls)):FrsAt w base (ps++ [p]):=fun q hq=>by
 rcases List.mem_append.1 hq with hq|hq
 ·exact h q hq
 ·rw[List.mem_singleton.1 hq];exact hp
theorem ulZ:(Tryz.prog.info? 29).map (fun i=>(i.zero,i.size,i.bytes))=some (some (.slice none 0 0),1,24):=by kernel_rfl
end Go.Proofs.YtmlaajebadfkoaaGreatDoor.One
namespace Go.Proofs.YtmlaajebadfkoaaGreatDoor.One
open Go.RowKit Mem Own Canon NumPut Crc
open Recs Opts
open Go.Proofs.YtmlaajebadfkoaaGreatDoor.Block (tbZ lZ)
theorem mqZb{w:World}{base n:Nat}{cs:Array Value}(hb:base<=w.heap.size)(hn:cs.size=n)(hm:n<=maxLen):(w.alloc (.cells cs 5)).ownsRow base 5 1 (.slice (some ⟨w.heap.size,0,none⟩) n n) n cs.toList:=
 ⟨by simpa using hn, .inr ⟨w.heap.size,n,cs,rfl,hb,heap_alloc_new w _,Nat.le_refl _,hm,by omega,by rw[Nat.mul_one,<-hn,<-Array.length_toList,List.take_length]⟩⟩
theorem fgZb{fs:List (List Nat)}{x:List Nat}(h:x∈fs):x.length<=fs.flatten.length:=by
 induction fs with
 |nil=>cases h
 |cons y t ih=>
  rw[List.flatten_cons,List.length_append]
  rcases List.mem_cons.1 h with rfl|h
  ·omega
  ·have:=ih h;omega
end Go.Proofs.YtmlaajebadfkoaaGreatDoor.One
namespace Go.Proofs.YtmlaajebadfkoaaGreatDoor.One
open Go.RowKit Mem Own Canon NumPut Crc
open Recs Opts
open Go.Proofs.YtmlaajebadfkoaaGreatDoor.Block (tbZ lZ)
theorem liZ{l:List Rec}(h:pdZ l≠0):pdZ l=6:=by
 unfold pdZ at h ⊢
 split
 ·rfl
 ·split
  ·rfl
  ·split
   ·rfl
   ·rename_i h1 h2 h3
    rw[if_neg h1,if_neg h2,if_neg h3]at h
    exact absurd rfl h
end Go.Proofs.YtmlaajebadfkoaaGreatDoor.One
namespace Go.Proofs.YtmlaajebadfkoaaGreatDoor.Body
open Recs Opts Crc Idx
open Go.Proofs.YtmlaajebadfkoaaGreatDoor.NumPut (iZ mZ mbZ)
open Go.Proofs.YtmlaajebadfkoaaGreatDoor.Block (tbZ)
open Go.Proofs.YtmlaajebadfkoaaGreatDoor.One (eqZ mlZ fqZ nmZ)
def vbZ(wh pl:Bool):List Nat->List Rec->List (List Nat)
 | [],_=> []
 |c :: t,l=>tbZ (vZ wh (l.take c)) pl :: vbZ wh pl t (l.drop c)
def pbZ(o:Opt)(l:List Rec):List Nat:=gdZ o.block.toNat (fdZ false l)
def cbZ:List Nat->List Nat->List Nat
 |a :: g,b :: s=>iZ a++(iZ b++cbZ g s)
 |_,_=> []
def gbZ(b:List Nat):List Nat:=b++zeZ (mfZ b)
def xgZ(n:Nat)(G S:List Nat)(x y:Nat):List Nat:=iZ n++(iZ G.length++(cbZ G S++(iZ x++iZ y)))
def peZ(n:Nat)(G:List Nat)(FS:List (List Nat))(cols idx:List Nat):List Nat:=
 FS.flatten++(gbZ cols++(gbZ idx++(gbZ (xgZ n G (FS.map List.length) (gbZ cols).length (gbZ idx).length)++wfZ (gbZ (xgZ n G (FS.map List.length) (gbZ cols).length (gbZ idx).length)).length)))
def ixR(o:Opt)(l:List Rec):List Nat:=ixO o.bucket.toNat l.length (ibZ (l.map oZ)) ((ibZ (l.map oZ)).map (ocZ (l.map oZ)))
def kfZ(o:Opt)(l:List Rec):List Nat:=peZ l.length (pbZ o l) (vbZ false o.plain (pbZ o l) l) (neZ l) (ixR o l)
theorem edZ(b:List Nat):(gbZ b).length=b.length+4:=by unfold gbZ;rw[List.length_append];rfl
theorem fxZ{b:List Nat}(h:∀x∈b,x<=255):∀x∈gbZ b,x<=255:=fun x hx=>by
 rcases List.mem_append.1 hx with hx|hx
 ·exact h x hx
 ·have:=dqZ _ x hx;omega
theorem etZ:∀ (g s:List Nat) (a b:Nat),g.length=s.length->cbZ (g++ [a]) (s++ [b])=cbZ g s++(iZ a++iZ b)
 | [],[],a,b,_=>by simp[cbZ]
 |x :: g,y :: s,a,b,h=>by
  rw[List.cons_append,List.cons_append,cbZ,etZ g s a b (by simpa using h),cbZ]
  simp only[List.append_assoc]
 | [],_ :: _,_,_,h=>by simp at h
 |_ :: _,[],_,_,h=>by simp at h
theorem ftZ{g s:List Nat}{k a b:Nat}(ha:g[k]? =some a)(hb:s[k]? =some b):cbZ (g.take (k+1)) (s.take (k+1))=cbZ (g.take k) (s.take k)++(iZ a++iZ b):=by
 obtain⟨hk,_⟩:=List.getElem?_eq_some_iff.1 ha
 obtain⟨hk2,_⟩:=List.getElem?_eq_some_iff.1 hb
 rw[List.take_add_one,ha,List.take_add_one,hb]
 exact etZ _ _ a b (by rw[List.length_take,List.length_take];omega)
theorem hwZ:∀ (g s:List Nat),(∀x∈g,x<18446744073709551616)->(∀x∈s,x<18446744073709551616)->(cbZ g s).length<=20*g.length
 | [],_,_,_=>by simp[cbZ]
 |_ :: _,[],_,_=>by simp[cbZ]
 |x :: g,y :: s,h1,h2=>by
  have a:=mZ (h1 x List.mem_cons_self)
  have b:=mZ (h2 y List.mem_cons_self)
  have c:=hwZ g s (fun z hz=>h1 z (List.mem_cons_of_mem _ hz)) (fun z hz=>h2 z (List.mem_cons_of_mem _ hz))
  rw[cbZ,List.length_append,List.length_append,List.length_cons]
  omega
theorem jzZ:∀ (g s:List Nat),∀x∈cbZ g s,x<=255
 | [],_,x,h=>by simp[cbZ]at h
 |_ :: _,[],x,h=>by simp[cbZ]at h
 |a :: g,b :: s,x,h=>by
  rw[cbZ]at h
  rcases List.mem_append.1 h with h|h
  ·exact mbZ _ x h
  ·rcases List.mem_append.1 h with h|h
   ·exact mbZ _ x h
   ·exact jzZ g s x h
theorem gxZ(n:Nat)(G S:List Nat)(x y:Nat):∀z∈xgZ n G S x y,z<=255:=fun z h=>by
 unfold xgZ at h
 simp only[List.mem_append]at h
 rcases h with h|h|h|h|h
 ·exact mbZ _ z h
 ·exact mbZ _ z h
 ·exact jzZ _ _ z h
 ·exact mbZ _ z h
 ·exact mbZ _ z h
theorem qcZb{n:Nat}{G S:List Nat}{x y:Nat}(hn:n<=1000000000)(hg:G.length<=1000000000)(h1:∀z∈G,z<=1000000000)(h2:∀z∈S,z<=1000000000)(hx:x<=1000000000)(hy:y<=1000000000):(xgZ n G S x y).length<=40+20*G.length:=by
 have a:=mZ (x:=n) (by omega)
 have b:=mZ (x:=G.length) (by omega)
 have c:=mZ (x:=x) (by omega)
 have d:=mZ (x:=y) (by omega)
 have e:=hwZ G S (fun z hz=>by have:=h1 z hz;omega) (fun z hz=>by have:=h2 z hz;omega)
 unfold xgZ
 simp only[List.length_append]
 omega
theorem ikZ(wh pl:Bool):∀ (cs:List Nat) (l:List Rec),(vbZ wh pl cs l).length=cs.length
 | [],_=>rfl
 |c :: t,l=>by rw[vbZ,List.length_cons,ikZ wh pl t,List.length_cons]
theorem nkZ(wh pl:Bool):∀ (cs:List Nat) (l:List Rec),(vZ wh l).length<=16000->(vbZ wh pl cs l).flatten.length<=(vZ wh l).length+25*cs.length
 | [],_,_=>by simp[vbZ]
 |c :: t,l,h=>by
  have hs:=One.lrZ wh l c
  have ih:=nkZ wh pl t (l.drop c) (by omega)
  have hf:=One.izZ (bs:=vZ wh (l.take c)) pl (by omega)
  rw[vbZ,List.flatten_cons,List.length_append,List.length_cons]
  omega
theorem okZ(o:Opt)(l:List Rec):(pbZ o l).sum=l.length:=by unfold pbZ;rw[eqZ,nmZ]
theorem pkZ(o:Opt)(l:List Rec):(pbZ o l).length<=l.length:=by
 have:=fqZ (mlZ o.block.toNat (fdZ false l))
 rw[eqZ,nmZ]at this
 exact this
theorem le_sum:∀ {l:List Nat} {x:Nat},x∈l->x<=l.sum
 |y :: t,x,h=>by
  rw[List.sum_cons]
  rcases List.mem_cons.1 h with rfl|h
  ·omega
  ·have:=le_sum h;omega
end Go.Proofs.YtmlaajebadfkoaaGreatDoor.Body
namespace Go.Proofs.YtmlaajebadfkoaaGreatDoor.Body
open Go.RowKit Mem Own Canon Recs
open NumPut
open Go.Proofs.YtmlaajebadfkoaaGreatDoor.Block (lZ)
theorem ooZb{l:List Nat}{k x:Nat}(h:l[k]? =some x):(l.take (k+1)).sum=(l.take k).sum+x:=by
 rw[List.take_add_one,h]
 simp
theorem jeZb(l:List Nat)(k:Nat):(l.take k).sum<=l.sum:=by
 conv=>rhs;rw[<-List.take_append_drop k l]
 rw[List.sum_append]
 omega
theorem sum_any(w:World)(A:Option Addr)(n c:Nat)(ls:List Nat)(hn:ls.length=n)(hN:n<=1000000)(hs:ls.sum<=1000000000)(ha:Row w w.heap.size A n 1 (rZ .i64 ls)):
 Calls Tryz.prog 58 #[.slice A n c] w fun e w'=>e= .returned (.int .i64 (ls.sum:Nat))/\w'=w:=by
 have HN:=hid hn
 obtain⟨R,hR⟩:∃R,R=ls.sum:=⟨_,rfl⟩
 have HR:=hid hR
 rw[<-hR]at hs ⊢
 clear hn hR
 go_enter Tryz.func58,Tryz.ntmps58
 go_wp2_with fail
 go_loopw [3,8] (fun sv iv wx=>∃k s:Nat,k<=n/\s<=R/\iv= .int .i64 k/\sv= .int .i64 s/\Hid (s=(ls.take k).sum)/\wx=w) (fun _ iv _=>n-(intOf iv).toNat)
 case atStart=>exact⟨0,0,by omega,by omega,rfl,rfl,rfl,rfl⟩
 case round=>
  obtain⟨k,s,hk,hsR,rfl,rfl,HS,rfl⟩:=hrel
  by_cases hlt:k<n
  ·have gk:decide ((k:Int)<(n:Int))=true:=by simp;omega
   have gk':decide (k<n)=true:=by simp;omega
   have x0:(0:Int)<=(k:Int):=by omega
   have x1:(k:Int)<(n:Int):=by omega
   obtain⟨b,off,x,rfl,_,hx,ck⟩:=bbZ ha HN.out hlt
   have hst:=ooZb hx
   have hle:=jeZb ls (k+1)
   rw[hst,<-HS.out,<-HR.out]at hle
   have HS2:Hid (s+x=(ls.take (k+1)).sum):=by show _=_;rw[hst,HS.out]
   have s1:IntKind.i64.wrap ((s:Int)+(x:Int))=((s+x:Nat):Int):=by rw[IntWalk.i64_in _ (by omega)];omega
   clear hst hx HS
   go_wp2_with fail
   go_roundw
   case measure=>go_light;simp[intOf];omega
   case rel=>go_light;exact⟨k+1,s+x,by omega,hle,by first|rfl|go_num,by first|rfl|go_num,HS2.out,by first|rfl|trivial⟩
  ·obtain rfl:k=n:=by omega
   have gk:decide ((k:Int)<(k:Int))=false:=by simp
   have gk':decide (k<k)=false:=by simp
   have hsr:s=R:=by rw[HS.out,HR.out,List.take_of_length_le (by rw[HN.out];exact Nat.le_refl _)]
   subst hsr
   clear HS HR hlt
   go_wp2_with fail
   go_ret
   exact⟨rfl,rfl⟩
theorem rcZb(w:World)(db g cG cS x y base:Nat)(AG AS:Option Addr)(G S:List Nat)(hg:G.length=g)(hs:S.length=g)(hgl:g<=20000)(hG:G.sum<=1000000000)(hS:∀z∈S,z<=1000000000)(hx:x<=1000000000)(hy:y<=1000000000)
 (hb:Blk w db 82 #[.slice AG g cG, .slice AS g cS, .int .i64 (x:Nat), .int .i64 (y:Nat)])(hrG:Row w base AG g 1 (rZ .i64 G))(hrS:Row w base AS g 1 (rZ .i64 S))(hbase:base<=w.heap.size):
 Calls Tryz.prog 89 #[.pointer (some ⟨db,0,none⟩)] w fun e w'=>∃v,e= .returned v/\w'.ownsRow w.heap.size 5 1 v (xgZ G.sum G S x y).length (dZ .u8 (xgZ G.sum G S x y))/\Below w.heap.size w w':=by
 have DS:=hid (fun wx (h:Below w.heap.size w wx)=>sum_any wx AG g cG G hg (by omega) hG (((hrG.mono hbase).below h).mono h.size))
 have D1:=hid (fun wx=>zcZ wx G.sum (by omega))
 have D2:=hid (fun wx=>zcZ wx g (by omega))
 have l1:=mZ (x:=G.sum) (by omega)
 have l2:=mZ (x:=g) (by omega)
 have hDP:xgZ G.sum G S x y=iZ G.sum++(iZ g++(cbZ G S++(iZ x++iZ y))):=by unfold xgZ;rw[hg]
 obtain⟨s,hss⟩:∃s,s=G.sum:=⟨_,rfl⟩
 rw[<-hss]at DS D1 l1 hG hDP ⊢
 have HDP:=hid hDP
 have u1:IntKind.u64.wrap (s:Int)=(s:Int):=by rw[IntKind.wrap_u64];omega
 have u2:IntKind.u64.wrap (g:Int)=(g:Int):=by rw[IntKind.wrap_u64];omega
 have hGl:∀z∈G,z<=1000000000:=fun z hz=>Nat.le_trans (le_sum hz) (by omega)
 have HGL:=hid hGl
 have HSL:=hid hS
 have HG:=hid hg
 have HS:=hid hs
 have HRG:Hid (Row w base AG g 1 (rZ .i64 G)):=hrG
 have HRS:Hid (Row w base AS g 1 (rZ .i64 S)):=hrS
 have HBK:=hid hb
 have HC:Hid (∀wx,Below w.heap.size w wx->wx.cell? ⟨db,0,none⟩=some (.slice AG g cG)):=fun wx h=>(hb.step h).cell 0
 have HSS:=hid hss
 have c0:=hb.cell 0
 have hdb:=hb.lt
 simp only[List.getElem?_toArray,List.getElem?_cons_zero]at c0
 clear hg hs hS hDP hb hrG hrS hGl hss
 generalize iZ s=N1 at *
 generalize iZ g=N2 at *
 have hs2:∀a1 a2 a3 a4,acZ [(⟨a1,a2,N1⟩:Part),⟨a3,a4,N2⟩]<=1000000:=fun _ _ _ _=>by simp[acZ];omega
 go_enter Tryz.func89,Tryz.ntmps89
 go_upto_region 1 with fail
 go_cut [3] (fun v wx=>Hid (wx.ownsRow w.heap.size 5 1 v (N1.length+N2.length) (dZ .u8 (N1++N2)))/\Hid (Below w.heap.size w wx))
 case first=>
  go_region_held3 (fun wx=>wx.cell? ⟨db,0,none⟩=some (.slice AG g cG)) (first|exact HC.out _ ((Below.refl _ _).drew)|(refine HC.out _ ?_;(repeat(first|(with_reducible first|exact Below.refl _ _|assumption|refine Below.drew ?_|refine below_drewN ?_ _|refine aZ ?_|refine cZ (by assumption) ?_)|((with_reducible first|refine jZ ?_ ?_|refine eZ ?_ ?_|refine gZ (by assumption) ?_ ?_);(focus(first|(simp;done)|(simp;omega)|omega|(simp at *;omega)))))))) (first|(go_at_call 58;(with_reducible refine(DS.out _ (by(repeat(first|(with_reducible first|exact Below.refl _ _|assumption|refine Below.drew ?_|refine below_drewN ?_ _|refine aZ ?_|refine cZ (by assumption) ?_)|((with_reducible first|refine jZ ?_ ?_|refine eZ ?_ ?_|refine gZ (by assumption) ?_ ?_);(focus(first|(simp;done)|(simp;omega)|omega|(simp at *;omega)))))))).mono ?_);rintro e wF ⟨rfl,rfl⟩)|(go_at_call 93;first|((with_reducible refine(D1.out _).mono ?_);rintro e wA ⟨vA,rfl,hoA,hbA⟩;obtain⟨AA,cA,rfl⟩:=bZ hoA;have PA:Part.Ok (⟨AA,cA,N1⟩:Part) wA:=lZ hoA rfl)|((with_reducible refine(D2.out _).mono ?_);rintro e wB ⟨vB,rfl,hoB,hbB⟩;obtain⟨AB,cB,rfl⟩:=bZ hoB;have PB:Part.Ok (⟨AB,cB,N2⟩:Part) wB:=lZ hoB rfl))|(go_at_call 38;(refine(mdZ _ _ 2 [(⟨AA,cA,N1⟩:Part),(⟨AB,cB,N2⟩:Part)] rfl (by omega) (hs2 _ _ _ _) (fun p hp=>by{rcases List.mem_cons.1 hp with rfl|hp;exact PA.step (by(repeat(first|(with_reducible first|exact Below.refl _ _|assumption|refine Below.drew ?_|refine below_drewN ?_ _|refine aZ ?_|refine cZ (by assumption) ?_)|((with_reducible first|refine jZ ?_ ?_|refine eZ ?_ ?_|refine gZ (by assumption) ?_ ?_);(focus(first|(simp;done)|(simp;omega)|omega|(simp at *;omega)))))));rcases List.mem_cons.1 hp with rfl|hp;exact PB.step (by(repeat(first|(with_reducible first|exact Below.refl _ _|assumption|refine Below.drew ?_|refine below_drewN ?_ _|refine aZ ?_|refine cZ (by assumption) ?_)|((with_reducible first|refine jZ ?_ ?_|refine eZ ?_ ?_|refine gZ (by assumption) ?_ ?_);(focus(first|(simp;done)|(simp;omega)|omega|(simp at *;omega)))))));cases hp}) (by first|exact Blk.made _ _ _|exact Blk.made_at _ _ _ (by simp)|exact Blk.drew (Blk.made _ _ _)|exact Blk.drew (Blk.made_at _ _ _ (by simp)))).mono ?_);rintro e w7 ⟨v7,rfl,ho7,hb7⟩;obtain⟨A7,c7,rfl⟩:=bZ ho7;have B7:Below w.heap.size w w7:=cZ hb7 (by(repeat(first|(with_reducible first|exact Below.refl _ _|assumption|refine Below.drew ?_|refine below_drewN ?_ _|refine aZ ?_|refine cZ (by assumption) ?_)|((with_reducible first|refine jZ ?_ ?_|refine eZ ?_ ?_|refine gZ (by assumption) ?_ ?_);(focus(first|(simp;done)|(simp;omega)|omega|(simp at *;omega)))))))))
  all_goals
   have HO7:Hid (w7.ownsRow w.heap.size 5 1 (.slice A7 (N1.length+N2.length) c7) (N1.length+N2.length) (dZ .u8 (N1++N2))):=by
    have h:=nZ ho7 (show w.heap.size<=_ from Below.size (by(repeat(first|(with_reducible first|exact Below.refl _ _|assumption|refine Below.drew ?_|refine below_drewN ?_ _|refine aZ ?_|refine cZ (by assumption) ?_)|((with_reducible first|refine jZ ?_ ?_|refine eZ ?_ ?_|refine gZ (by assumption) ?_ ?_);(focus(first|(simp;done)|(simp;omega)|omega|(simp at *;omega))))))))
    simp only[List.flatMap_cons,List.flatMap_nil,List.append_nil,List.length_append]at h
    exact h
   have HB7:=hid B7
   go_wp2_with fail
   go_meet
   case rel=>go_light;exact⟨HO7.out,HB7.out⟩
 case rest=>
  obtain⟨HO9,HB9⟩:=hcut
  have c0':=HC.out _ HB9.out
  clear c0
  go_wp2_with fail
  have HO0:Hid (wc.ownsRow w.heap.size 5 1 u3 (N1++N2++cbZ (G.take 0) (S.take 0)).length (dZ .u8 (N1++N2++cbZ (G.take 0) (S.take 0)))):=by
   have e:N1++N2++cbZ (G.take 0) (S.take 0)=N1++N2:=by simp[cbZ]
   show World.ownsRow _ _ _ _ _ _ _
   rw[e,List.length_append]
   exact HO9.out
  have HL0:Hid ((N1++N2++cbZ (G.take 0) (S.take 0)).length<=20+20*0):=by
   show _<=_
   simp[cbZ]
   omega
  clear c0' HO9
  go_loopw [3,27] (fun ov iv wr=>∃k:Nat,k<=g/\iv= .int .i64 k/\Hid (wr.ownsRow w.heap.size 5 1 ov (N1++N2++cbZ (G.take k) (S.take k)).length (dZ .u8 (N1++N2++cbZ (G.take k) (S.take k))))/\Hid ((N1++N2++cbZ (G.take k) (S.take k)).length<=20+20*k)/\Hid (Below w.heap.size w wr)) (fun _ iv _=>g-(intOf iv).toNat)
  case atStart=>exact⟨0,by omega,rfl,HO0.out,HL0.out,HB9.out⟩
  case round=>
   obtain⟨k,hk,rfl,HO,HL,HB⟩:=hrel
   clear HO0 HL0 HB9
   obtain⟨wi,rfl⟩:∃wi:World,wi=wr:=⟨_,rfl⟩
   have hz:=HB.out.size
   by_cases hlt:k<g
   ·have gk:decide ((k:Int)<(g:Int))=true:=by simp;omega
    have gk':decide (k<g)=true:=by simp;omega
    obtain⟨A3,c3,rfl⟩:=bZ HO.out
    have x0:(0:Int)<=(k:Int):=by omega
    have x1:(k:Int)<(g:Int):=by omega
    obtain⟨bg,og,n,rfl,hbg,hn,cn⟩:=bbZ (HRG.out.keep fun p hp=>HB.out.cell (p:=p) (Nat.lt_of_lt_of_le hp hbase)) HG.out hlt
    obtain⟨bs,os,z,rfl,hbs,hz',cz⟩:=bbZ (HRS.out.keep fun p hp=>HB.out.cell (p:=p) (Nat.lt_of_lt_of_le hp hbase)) HS.out hlt
    have hnl:=HGL.out n (List.mem_of_getElem? hn)
    have hzl:=HSL.out z (List.mem_of_getElem? hz')
    have hst:=ftZ hn hz'
    have DA:=hid (fun wx=>zcZ wx n (by omega))
    have DB:=hid (fun wx=>zcZ wx z (by omega))
    have u3:IntKind.u64.wrap (n:Int)=(n:Int):=by rw[IntKind.wrap_u64];omega
    have u4:IntKind.u64.wrap (z:Int)=(z:Int):=by rw[IntKind.wrap_u64];omega
    have la:=mZ (x:=n) (by omega)
    have lb:=mZ (x:=z) (by omega)
    have HC2:Hid (∀wx,Below wi.heap.size wi wx->wx.cell? ⟨db,1,none⟩=some (.slice (some ⟨bs,os,none⟩) g cS)/\wx.cell? ⟨bs,os+k,none⟩=some (.int .i64 (z:Nat))):=fun wx h=>⟨((HBK.out.step HB.out).step h).cell 1,(h.cell (p:=⟨bs,os+k,none⟩) (by show bs<_;omega)).trans cz⟩
    have PO:Hid (∀wx,Below wi.heap.size wi wx->Part.Ok (⟨A3,c3,N1++N2++cbZ (G.take k) (S.take k)⟩:Part) wx):=fun wx hb=>(lZ HO.out rfl).step hb
    generalize iZ n=NA at *
    generalize iZ z=NB at *
    have HSE:Hid (N1++N2++cbZ (G.take (k+1)) (S.take (k+1))=N1++N2++cbZ (G.take k) (S.take k)++(NA++NB)):=by show _=_;rw[hst];simp only[List.append_assoc]
    have hol:=HL.out
    generalize N1++N2++cbZ (G.take k) (S.take k)=OUT at *
    have hs3:∀a1 a2 a3 a4 a5 a6,acZ [(⟨a1,a2,OUT⟩:Part),⟨a3,a4,NA⟩,⟨a5,a6,NB⟩]<=1000000:=fun _ _ _ _ _ _=>by simp[acZ];omega
    have c1:=(HC2.out wi (Below.refl _ _)).1
    clear hn hz' hst hnl hzl
    go_upto_region 5 with fail
    go_region_held3 (fun wx=>wx.cell? ⟨db,1,none⟩=some (.slice (some ⟨bs,os,none⟩) g cS)/\wx.cell? ⟨bs,os+k,none⟩=some (.int .i64 (z:Nat))) (first|exact HC2.out _ ((Below.refl _ _).drew)|(refine HC2.out _ ?_;(repeat(first|(with_reducible first|exact Below.refl _ _|assumption|refine Below.drew ?_|refine below_drewN ?_ _|refine aZ ?_|refine cZ (by assumption) ?_)|((with_reducible first|refine jZ ?_ ?_|refine eZ ?_ ?_|refine gZ (by assumption) ?_ ?_);(focus(first|(simp;done)|(simp;omega)|omega|(simp at *;omega)))))))) (first|(go_at_call 93;first|((with_reducible refine(DA.out _).mono ?_);rintro e wA ⟨vA,rfl,hoA,hbA⟩;obtain⟨AA,cA,rfl⟩:=bZ hoA;have PA:Part.Ok (⟨AA,cA,NA⟩:Part) wA:=lZ hoA rfl)|((with_reducible refine(DB.out _).mono ?_);rintro e wB ⟨vB,rfl,hoB,hbB⟩;obtain⟨AB,cB,rfl⟩:=bZ hoB;have PB:Part.Ok (⟨AB,cB,NB⟩:Part) wB:=lZ hoB rfl))|(go_at_call 38;(refine(mdZ _ _ 3 [(⟨A3,c3,OUT⟩:Part),(⟨AA,cA,NA⟩:Part),(⟨AB,cB,NB⟩:Part)] rfl (by omega) (hs3 _ _ _ _ _ _) (fun p hp=>by{rcases List.mem_cons.1 hp with rfl|hp;exact PO.out _ (by(repeat(first|(with_reducible first|exact Below.refl _ _|assumption|refine Below.drew ?_|refine below_drewN ?_ _|refine aZ ?_|refine cZ (by assumption) ?_)|((with_reducible first|refine jZ ?_ ?_|refine eZ ?_ ?_|refine gZ (by assumption) ?_ ?_);(focus(first|(simp;done)|(simp;omega)|omega|(simp at *;omega)))))));rcases List.mem_cons.1 hp with rfl|hp;exact PA.step (by(repeat(first|(with_reducible first|exact Below.refl _ _|assumption|refine Below.drew ?_|refine below_drewN ?_ _|refine aZ ?_|refine cZ (by assumption) ?_)|((with_reducible first|refine jZ ?_ ?_|refine eZ ?_ ?_|refine gZ (by assumption) ?_ ?_);(focus(first|(simp;done)|(simp;omega)|omega|(simp at *;omega)))))));rcases List.mem_cons.1 hp with rfl|hp;exact PB.step (by(repeat(first|(with_reducible first|exact Below.refl _ _|assumption|refine Below.drew ?_|refine below_drewN ?_ _|refine aZ ?_|refine cZ (by assumption) ?_)|((with_reducible first|refine jZ ?_ ?_|refine eZ ?_ ?_|refine gZ (by assumption) ?_ ?_);(focus(first|(simp;done)|(simp;omega)|omega|(simp at *;omega)))))));cases hp}) (by first|exact Blk.made _ _ _|exact Blk.made_at _ _ _ (by simp)|exact Blk.drew (Blk.made _ _ _)|exact Blk.drew (Blk.made_at _ _ _ (by simp)))).mono ?_);rintro e w7 ⟨v7,rfl,ho7,hb7⟩;obtain⟨A7,c7,rfl⟩:=bZ ho7;have B7:Below wi.heap.size wi w7:=cZ hb7 (by(repeat(first|(with_reducible first|exact Below.refl _ _|assumption|refine Below.drew ?_|refine below_drewN ?_ _|refine aZ ?_|refine cZ (by assumption) ?_)|((with_reducible first|refine jZ ?_ ?_|refine eZ ?_ ?_|refine gZ (by assumption) ?_ ?_);(focus(first|(simp;done)|(simp;omega)|omega|(simp at *;omega)))))))))
    all_goals
     have HO7:Hid (w7.ownsRow w.heap.size 5 1 (.slice A7 (OUT.length+(NA.length+NB.length)) c7) (OUT.length+(NA.length+NB.length)) (dZ .u8 (OUT++(NA++NB)))):=by
      have h:=nZ ho7 (show w.heap.size<=_ from Nat.le_trans hz (Below.size (by(repeat(first|(with_reducible first|exact Below.refl _ _|assumption|refine Below.drew ?_|refine below_drewN ?_ _|refine aZ ?_|refine cZ (by assumption) ?_)|((with_reducible first|refine jZ ?_ ?_|refine eZ ?_ ?_|refine gZ (by assumption) ?_ ?_);(focus(first|(simp;done)|(simp;omega)|omega|(simp at *;omega)))))))))
      simp only[List.flatMap_cons,List.flatMap_nil,List.append_nil,List.length_append]at h
      exact h
     have HB7:Hid (Below w.heap.size w w7):=gZ B7 hz HB.out
     have HL7:Hid ((OUT++(NA++NB)).length<=20+20*(k+1)):=by show _<=_;rw[List.length_append,List.length_append];omega
     clear ho7 hb7 PA PB B7 HO HB HL PO hoA hoB hbA hbB HC2 cn cz c1
     go_wp2_with fail
     go_roundw
     case measure=>go_light;simp[intOf];omega
     case rel=>go_light;exact⟨k+1,by omega,by first|rfl|go_num,by rw[HSE.out,List.length_append,List.length_append];exact HO7.out,by rw[HSE.out];exact HL7.out,HB7.out⟩
   ·obtain rfl:k=g:=by omega
    have gk:decide ((k:Int)<(k:Int))=false:=by simp
    have gk':decide (k<k)=false:=by simp
    have eG:G.take k=G:=List.take_of_length_le (by rw[HG.out];exact Nat.le_refl _)
    have eS:S.take k=S:=List.take_of_length_le (by rw[HS.out];exact Nat.le_refl _)
    rw[eG,eS]at HO HL
    obtain⟨A3,c3,rfl⟩:=bZ HO.out
    have DA:=hid (fun wx=>zcZ wx x (by omega))
    have DB:=hid (fun wx=>zcZ wx y (by omega))
    have u3:IntKind.u64.wrap (x:Int)=(x:Int):=by rw[IntKind.wrap_u64];omega
    have u4:IntKind.u64.wrap (y:Int)=(y:Int):=by rw[IntKind.wrap_u64];omega
    have la:=mZ (x:=x) (by omega)
    have lb:=mZ (x:=y) (by omega)
    have HC2:Hid (∀wx,Below wi.heap.size wi wx->wx.cell? ⟨db,2,none⟩=some (.int .i64 (x:Nat))/\wx.cell? ⟨db,3,none⟩=some (.int .i64 (y:Nat))):=fun wx h=>⟨((HBK.out.step HB.out).step h).cell 2,((HBK.out.step HB.out).step h).cell 3⟩
    have PO:Hid (∀wx,Below wi.heap.size wi wx->Part.Ok (⟨A3,c3,N1++N2++cbZ G S⟩:Part) wx):=fun wx hb=>(lZ HO.out rfl).step hb
    generalize iZ x=NA at *
    generalize iZ y=NB at *
    have hol:=HL.out
    have HSE:Hid (xgZ s G S x y=N1++N2++cbZ G S++(NA++NB)):=by show _=_;rw[HDP.out];simp only[List.append_assoc]
    generalize N1++N2++cbZ G S=OUT at *
    have hs3:∀a1 a2 a3 a4 a5 a6,acZ [(⟨a1,a2,OUT⟩:Part),⟨a3,a4,NA⟩,⟨a5,a6,NB⟩]<=1000000:=fun _ _ _ _ _ _=>by simp[acZ];omega
    clear eG eS HDP
    go_upto_region 7 with fail
    go_region_held3 (fun wx=>wx.cell? ⟨db,2,none⟩=some (.int .i64 (x:Nat))/\wx.cell? ⟨db,3,none⟩=some (.int .i64 (y:Nat))) (first|exact HC2.out _ ((Below.refl _ _).drew)|(refine HC2.out _ ?_;(repeat(first|(with_reducible first|exact Below.refl _ _|assumption|refine Below.drew ?_|refine below_drewN ?_ _|refine aZ ?_|refine cZ (by assumption) ?_)|((with_reducible first|refine jZ ?_ ?_|refine eZ ?_ ?_|refine gZ (by assumption) ?_ ?_);(focus(first|(simp;done)|(simp;omega)|omega|(simp at *;omega)))))))) (first|(go_at_call 93;first|((with_reducible refine(DA.out _).mono ?_);rintro e wA ⟨vA,rfl,hoA,hbA⟩;obtain⟨AA,cA,rfl⟩:=bZ hoA;have PA:Part.Ok (⟨AA,cA,NA⟩:Part) wA:=lZ hoA rfl)|((with_reducible refine(DB.out _).mono ?_);rintro e wB ⟨vB,rfl,hoB,hbB⟩;obtain⟨AB,cB,rfl⟩:=bZ hoB;have PB:Part.Ok (⟨AB,cB,NB⟩:Part) wB:=lZ hoB rfl))|(go_at_call 38;(refine(mdZ _ _ 3 [(⟨A3,c3,OUT⟩:Part),(⟨AA,cA,NA⟩:Part),(⟨AB,cB,NB⟩:Part)] rfl (by omega) (hs3 _ _ _ _ _ _) (fun p hp=>by{rcases List.mem_cons.1 hp with rfl|hp;exact PO.out _ (by(repeat(first|(with_reducible first|exact Below.refl _ _|assumption|refine Below.drew ?_|refine below_drewN ?_ _|refine aZ ?_|refine cZ (by assumption) ?_)|((with_reducible first|refine jZ ?_ ?_|refine eZ ?_ ?_|refine gZ (by assumption) ?_ ?_);(focus(first|(simp;done)|(simp;omega)|omega|(simp at *;omega)))))));rcases List.mem_cons.1 hp with rfl|hp;exact PA.step (by(repeat(first|(with_reducible first|exact Below.refl _ _|assumption|refine Below.drew ?_|refine below_drewN ?_ _|refine aZ ?_|refine cZ (by assumption) ?_)|((with_reducible first|refine jZ ?_ ?_|refine eZ ?_ ?_|refine gZ (by assumption) ?_ ?_);(focus(first|(simp;done)|(simp;omega)|omega|(simp at *;omega)))))));rcases List.mem_cons.1 hp with rfl|hp;exact PB.step (by(repeat(first|(with_reducible first|exact Below.refl _ _|assumption|refine Below.drew ?_|refine below_drewN ?_ _|refine aZ ?_|refine cZ (by assumption) ?_)|((with_reducible first|refine jZ ?_ ?_|refine eZ ?_ ?_|refine gZ (by assumption) ?_ ?_);(focus(first|(simp;done)|(simp;omega)|omega|(simp at *;omega)))))));cases hp}) (by first|exact Blk.made _ _ _|exact Blk.made_at _ _ _ (by simp)|exact Blk.drew (Blk.made _ _ _)|exact Blk.drew (Blk.made_at _ _ _ (by simp)))).mono ?_);rintro e w7 ⟨v7,rfl,ho7,hb7⟩;obtain⟨A7,c7,rfl⟩:=bZ ho7;have B7:Below wi.heap.size wi w7:=cZ hb7 (by(repeat(first|(with_reducible first|exact Below.refl _ _|assumption|refine Below.drew ?_|refine below_drewN ?_ _|refine aZ ?_|refine cZ (by assumption) ?_)|((with_reducible first|refine jZ ?_ ?_|refine eZ ?_ ?_|refine gZ (by assumption) ?_ ?_);(focus(first|(simp;done)|(simp;omega)|omega|(simp at *;omega)))))))))
    all_goals
     have HO7:Hid (w7.ownsRow w.heap.size 5 1 (.slice A7 (OUT.length+(NA.length+NB.length)) c7) (OUT.length+(NA.length+NB.length)) (dZ .u8 (OUT++(NA++NB)))):=by
      have h:=nZ ho7 (show w.heap.size<=_ from Nat.le_trans hz (Below.size (by(repeat(first|(with_reducible first|exact Below.refl _ _|assumption|refine Below.drew ?_|refine below_drewN ?_ _|refine aZ ?_|refine cZ (by assumption) ?_)|((with_reducible first|refine jZ ?_ ?_|refine eZ ?_ ?_|refine gZ (by assumption) ?_ ?_);(focus(first|(simp;done)|(simp;omega)|omega|(simp at *;omega)))))))))
      simp only[List.flatMap_cons,List.flatMap_nil,List.append_nil,List.length_append]at h
      exact h
     have HB7:Hid (Below w.heap.size w w7):=gZ B7 hz HB.out
     clear ho7 hb7 PA PB B7 HO HB HL PO hoA hoB hbA hbB HC2
     go_wp2_with fail
     go_ret
     exact⟨.slice A7 (OUT.length+(NA.length+NB.length)) c7,rfl,by rw[HSE.out,List.length_append,List.length_append];exact HO7.out,HB7.out⟩
end Go.Proofs.YtmlaajebadfkoaaGreatDoor.Body
namespace Go.Proofs.YtmlaajebadfkoaaGreatDoor.Body
open Go.RowKit Mem Own Canon Recs Idx
open Go.Proofs.YtmlaajebadfkoaaGreatDoor.One (FrsAt FrsAt.step FrsAt.grown FrsAt.snoc icZ)
open NumPut
open Go.Proofs.YtmlaajebadfkoaaGreatDoor.Ef (fcZ dmZ)
structure MSt (base db:Nat) (vG pv vS:Value) (ps:List Part) (W:World):Prop where
 dir:Blk W db 82 #[vG,vS, .int .i64 0, .int .i64 0]
 pr:W.ownsRow base 29 1 pv ps.length (ps.map Part.v)
 fr:FrsAt W base ps
 sr:W.ownsRow base 3 1 vS ps.length (dZ .i64 (ps.map fun p=>p.ls.length))
 gb:base<=db
section
variable {base db:Nat} {vG pv vS pv' vS':Value} {ps:List Part} {W w' w8 w9:World} {p:Part} {o1 o2:Obj}
theorem MSt.step(h:MSt base db vG pv vS ps W)(b:Below W.heap.size W w'):MSt base db vG pv vS ps w':=
 ⟨h.dir.step b,fZ h.pr fun y hy=>b.block y (World.ownsRow.lt h.pr y hy).2,h.fr.step b,fZ h.sr fun y hy=>b.block y (World.ownsRow.lt h.sr y hy).2,h.gb⟩
theorem MSt.mid(h:MSt base db vG pv vS ps W)(g8:(W.alloc o1).grownBy w8 pv.ownBlock):Blk w8 db 82 #[vG,vS, .int .i64 0, .int .i64 0]/\w8.ownsRow base 3 1 vS ps.length (dZ .i64 (ps.map fun p=>p.ls.length)):=
 ⟨(h.dir.alloc o1).grown g8 (Ne.symm (kZ h.pr h.dir (by decide))),icZ (h.sr.alloc o1) (h.pr.alloc o1) (by decide) g8⟩
theorem MSt.round(h:MSt base db vG pv vS ps W)(hp:W.ownsRow base 5 1 p.v p.ls.length (dZ .u8 p.ls))(g8:(W.alloc o1).grownBy w8 pv.ownBlock)(o8:w8.ownsRow base 29 1 pv' (ps.length+1) (ps.map Part.v++ [p.v]))
 (g9:(w8.alloc o2).grownBy w9 vS.ownBlock)(o9:w9.ownsRow base 3 1 vS' (ps.length+1) (dZ .i64 (ps.map fun p=>p.ls.length)++ [.int .i64 (p.ls.length:Nat)])):
 MSt base db vG pv' vS' (ps++ [p]) (w9.setCell ⟨db,1,none⟩ vS')/\Below base W (w9.setCell ⟨db,1,none⟩ vS'):=by
 obtain⟨d8,s8⟩:=h.mid g8
 have d9:Blk w9 db 82 #[vG,vS, .int .i64 0, .int .i64 0]:=(d8.alloc o2).grown g9 (Ne.symm (kZ s8 d8 (by decide)))
 have hp8:=icZ (hp.alloc o1) (h.pr.alloc o1) (by decide) g8
 have hp9:=icZ (hp8.alloc o2) (s8.alloc o2) (by decide) g9
 have f8:FrsAt w8 base ps:=(h.fr.step (aZ (Below.refl _ _))).grown (h.pr.alloc o1) g8
 have f9:FrsAt w9 base ps:=fun q hq=>icZ ((f8 q hq).alloc o2) (s8.alloc o2) (by decide) g9
 have o89:=icZ (o8.alloc o2) (s8.alloc o2) (by decide) g9
 have hB:base<=W.heap.size:=by have:=h.dir.lt;have:=h.gb;omega
 have far:∀ {s n:Nat} {e:TypeId} {v:Value} {xs:List Value},w9.ownsRow base e s v n xs->e≠82->(w9.setCell ⟨db,1,none⟩ vS').ownsRow base e s v n xs:=fun ho hne=>
  fZ ho fun y hy=>Below.heap_setCell _ _ _ y fun e=>kZ ho d9 hne (by rw[hy,e])
 refine⟨⟨by simpa using d9.set 1 vS',?_,fun q hq=> ?_,?_,h.gb⟩,?_⟩
 ·rw[List.length_append,List.map_append]
  exact far o89 (by decide)
 ·rcases List.mem_append.1 hq with hq|hq
  ·exact far (f9 q hq) (by decide)
  ·rw[List.mem_singleton.1 hq]
   exact far hp9 (by decide)
 ·have e1:dZ .i64 ((ps++ [p]).map fun p=>p.ls.length)=dZ .i64 (ps.map fun p=>p.ls.length)++ [.int .i64 (p.ls.length:Nat)]:=by simp[dZ]
  rw[List.length_append,e1]
  exact far o9 (by decide)
 ·have hz8:base<=w8.heap.size:=Nat.le_trans hB (Nat.le_trans (by simp) g8.size)
  exact((((Below.refl base W).alloc hB _).grown g8 (by simp;omega) fun y hy=>(World.ownsRow.lt h.pr y hy).1).alloc hz8 _ |>.grown g9 (by simp;omega) fun y hy=>(World.ownsRow.lt s8 y hy).1).setCell (p:=⟨db,1,none⟩) h.gb _
theorem MSt.stores(h:MSt base db vG pv vS ps W)(x y:Value):
 Blk ((W.setCell ⟨db,2,none⟩ x).setCell ⟨db,3,none⟩ y) db 82 #[vG,vS,x,y]/\Below base W ((W.setCell ⟨db,2,none⟩ x).setCell ⟨db,3,none⟩ y)/\
  ∀ {b s n:Nat} {e:TypeId} {v:Value} {xs:List Value},W.ownsRow b e s v n xs->e≠82->((W.setCell ⟨db,2,none⟩ x).setCell ⟨db,3,none⟩ y).ownsRow b e s v n xs:=by
 refine⟨by simpa using (h.dir.set 2 x).set 3 y,((Below.refl base W).setCell (p:=⟨db,2,none⟩) h.gb _).setCell (p:=⟨db,3,none⟩) h.gb _,fun ho hne=> ?_⟩
 refine fZ ho fun z hz=> ?_
 have hd:z≠db:=fun e=>kZ ho h.dir hne (by rw[hz,e])
 exact(Below.heap_setCell _ _ _ z hd).trans (Below.heap_setCell _ _ _ z hd)
end
theorem kzZ:∀ (l:List Str) (was:Str),(∀s∈l,was<s)->(∀s∈l,1<=s.length/\s.length<=25)->ydZ l->tcZ was l=true
 | [],_,_,_,_=>rfl
 |s :: t,was,h,hs,hr=>by
  obtain⟨h1,h2⟩:=List.pairwise_cons.1 hr
  rw[tcZ,Bool.and_eq_true]
  refine⟨?_,kzZ t s h1 (fun x hx=>hs x (List.mem_cons_of_mem _ hx)) h2⟩
  unfold biZ
  rw[Bool.and_eq_true,Bool.and_eq_true,decide_eq_true_iff,decide_eq_true_iff,decide_eq_true_iff]
  exact⟨(hs s List.mem_cons_self).1,(hs s List.mem_cons_self).2,h s List.mem_cons_self⟩
theorem lzZ{l:List Rec}{s:Str}(h:s∈ibZ (l.map oZ)):1<=s.length/\s.length<=25:=by
 obtain⟨t,ht,hs⟩:=(haZb s _).1 h
 obtain⟨r,_,rfl⟩:=List.mem_map.1 ht
 exact cwZ hs
theorem hxZ{l:List Rec}(h:(ibZ (l.map oZ)).length<=1048576):kjZ (ibZ (l.map oZ))=true:=by
 unfold kjZ
 rw[Bool.and_eq_true]
 refine⟨kzZ _ _ (fun s hs=> ?_) (fun s hs=>lzZ hs) (jsZ _),decide_eq_true h⟩
 have:=(lzZ hs).1
 cases s with
 |nil=>simp at this
 |cons x t=>exact List.nil_lt_cons x t
theorem nqZb(ts:List (List Str))(u:Str):fcZ ts.length none (ocZ ts u)=true:=by
 refine dmZ _ _ none (fun x hx=> ?_) ?_ (fun y hy=>by cases hy)
 ·unfold ocZ at hx
  exact List.mem_range.1 (List.mem_filter.1 hx).1
 ·unfold ocZ
  exact List.Pairwise.filter _ List.pairwise_lt_range
theorem scZb(l:List Rec):vgZ l.length ((ibZ (l.map oZ)).map (ocZ (l.map oZ)))=true/\∀x∈(ibZ (l.map oZ)).map (ocZ (l.map oZ)),x≠ []/\x.length<=l.length:=by
 refine⟨List.all_eq_true.2 fun x hx=> ?_,fun x hx=> ?_⟩
 ·obtain⟨u,_,rfl⟩:=List.mem_map.1 hx
  have:=nqZb (l.map oZ) u
  rw[List.length_map]at this
  exact this
 ·obtain⟨u,hu,rfl⟩:=List.mem_map.1 hx
  have h2:=bxZ (l.map oZ) u
  rw[List.length_map]at h2
  exact⟨(cxZ _ u).1 hu,h2⟩
theorem tcZb(s:Str):∀x∈ofZ s,x<=255:=fun x h=>by
 unfold ofZ natS at h
 rcases List.mem_append.1 h with h|h
 ·exact mbZ _ x h
 ·obtain⟨c,_,rfl⟩:=List.mem_map.1 h
  have:=c.toNat_lt
  omega
theorem ucZb:∀ (t:List Str) (was:Str),∀x∈qgZ was t,x<=255
 | [],_,x,h=>by simp[qgZ]at h
 |s :: t,was,x,h=>by
  rw[qgZ]at h
  simp only[List.mem_append]at h
  rcases h with (h|h)|h
  ·exact mbZ _ x h
  ·exact tcZb _ x h
  ·exact ucZb t s x h
theorem qiZb(l:List Str):∀x∈xZ l,x<=255:=fun x h=>by
 cases l with
 |nil=>simp[xZ]at h
 |cons s t=>
  rw[xZ]at h
  rcases List.mem_append.1 h with h|h
  ·exact tcZb _ x h
  ·exact ucZb t s x h
theorem poZb(size:Nat)(l:List Str):∀x∈ceZ size l,x<=255:=fun x h=>by
 unfold ceZ at h
 simp only[List.mem_append,List.mem_flatMap]at h
 rcases h with (h|⟨c,_,h⟩)|⟨c,_,h⟩
 ·exact mbZ _ x h
 ·exact mbZ _ x h
 ·exact qiZb _ x h
theorem qrZb(bound:Nat)(l:List Nat):∀x∈Ef.efO bound l,x<=255:=fun x h=>by
 unfold Ef.efO at h
 split at h
 ·exact mbZ _ x h
 ·rcases List.mem_append.1 h with h|h
  ·exact mbZ _ x h
  ·obtain⟨k,_,rfl⟩:=List.mem_map.1 h
   exact Huff.rkZ _ k
theorem vcZb(o:Opts.Opt)(l:List Rec):∀x∈ixR o l,x<=255:=fun x h=>by
 unfold ixR ixO lbZ at h
 rcases List.mem_append.1 h with h|h
 ·exact poZb _ _ x h
 ·obtain⟨c,_,h⟩:=List.mem_flatMap.1 h
  exact qrZb _ _ x h
theorem dsZ{o:Opts.Opt}(h:Opts.hfZ o=0):16<=o.block/\o.block<=32768/\1<=o.bucket/\o.bucket<=64:=by
 unfold Opts.hfZ Opts.sfZ at h
 split at h
 ·rename_i hc
  exact⟨hc.1.1,hc.1.2,hc.2.1.1,hc.2.1.2⟩
 ·cases h
end Go.Proofs.YtmlaajebadfkoaaGreatDoor.Body
namespace Go.Proofs.YtmlaajebadfkoaaGreatDoor.Body
open Go.RowKit Mem Own Canon NumPut Crc
open Recs Opts
open Go.Proofs.YtmlaajebadfkoaaGreatDoor.Block (tbZ mkZ lZ)
open Go.Proofs.YtmlaajebadfkoaaGreatDoor.One (FrsAt FrsAt.step FrsAt.grown FrsAt.snoc icZ hkZ hnZ nlZ ulZ)
def omZ(pl:Bool)(G:List Nat)(l:List Rec)(w:World)(e:Ending)(w':World):Prop:=
 ∃v vG ps,e= .returned (.tuple #[v,vG])/\w'.ownsRow w.heap.size 29 1 v (vbZ false pl G l).length (ps.map Part.v)/\FrsAt w' w.heap.size ps/\ps.map Part.ls=vbZ false pl G l/\w'.ownsRow w.heap.size 3 1 vG G.length (dZ .i64 G)/\Below w.heap.size w w'
theorem qzZ(w:World)(o:Opt)(A:Option Addr)(n c:Nat)(l:List Rec)(ho:hfZ o=0)(hn:l.length=n)(hN:n<=1000)(hc:n<=c)(hok:∀r∈l,ccZ r)(hk:pdZ l=0)(hb:(vZ false l).length<=16000)(ht:TabAt w)(ha:Row w w.heap.size A n 4 (xbZ l)):
 Calls Tryz.prog 94 #[o.val, .slice A n c] w (omZ o.plain (pbZ o l) l w):=by
 obtain⟨j0,hj0,hy0,hy1,hy2⟩:=info_parts ulZ
 have hlong:=hkZ hk
 obtain⟨hb1,hb2,_,_⟩:=dsZ ho
 have hgl:=pkZ o l
 have hgs:=okZ o l
 have hgp:∀x∈pbZ o l,1<=x:=One.mlZ _ _
 rw[hn]at hgl
 obtain⟨blk,pl,bu,da,pa,ch⟩:=o
 simp only at hb1 hb2
 obtain⟨S,rfl⟩:=Int.eq_ofNat_of_zero_le (show 0<=blk by omega)
 have D3:=hid (fun wx (hx:Below w.heap.size w wx)=>deZb wx S false A n c l (by omega) (by omega) hn (by omega) hok hlong ((ha.below hx).mono hx.size))
 unfold whZ at D3
 have hcE:gdZ S (fdZ false l)=pbZ ⟨(S:Nat),pl,bu,da,pa,ch⟩ l:=rfl
 rw[hcE]at D3
 unfold omZ Opt.val
 simp only
 generalize pbZ ⟨(S:Nat),pl,bu,da,pa,ch⟩ l=G at *
 rw[ikZ]
 obtain⟨g,hg⟩:∃g,g=G.length:=⟨_,rfl⟩
 rw[<-hg]at hgl D3 ⊢
 have HGL:=hid hg
 have HGS:=hid hgs
 have HPOS:=hid hgp
 have HT:=hid ht
 have HOK:=hid hok
 have HLO:=hid hlong
 have HN:=hid hn
 obtain⟨FR,hFR⟩:∃FR,FR=vbZ false pl G l:=⟨_,rfl⟩
 have HFR:=hid hFR
 rw[<-hFR]
 clear ho hk hcE hg hgs hgp ht hok hlong hFR
 go_enter Tryz.func94,Tryz.ntmps94
 go_wp2_with fail
 have hba:Blk (w.alloc (.cells #[.int .i64 S, .bool pl, .int .i64 bu, .int .i64 da, .int .i64 pa, .int .i64 ch] 23)) w.heap.size 23 #[.int .i64 S, .bool pl, .int .i64 bu, .int .i64 da, .int .i64 pa, .int .i64 ch]:=Blk.made _ _ _
 have hbw:Below w.heap.size w (w.alloc (.cells #[.int .i64 S, .bool pl, .int .i64 bu, .int .i64 da, .int .i64 pa, .int .i64 ch] 23)):=aZ (Below.refl _ _)
 have hzw:(w.alloc (.cells #[.int .i64 S, .bool pl, .int .i64 bu, .int .i64 da, .int .i64 pa, .int .i64 ch] 23)).heap.size=w.heap.size+1:=by simp
 generalize w.alloc (.cells #[.int .i64 S, .bool pl, .int .i64 bu, .int .i64 da, .int .i64 pa, .int .i64 ch] 23)=wa at *
 have hzw2:w.heap.size<wa.heap.size:=by omega
 have HWASZ:Hid (w.heap.size<=wa.heap.size):=by show _<=_;omega
 have HS:Hid (∀wx,Below wa.heap.size wa wx->wx.cell? ⟨w.heap.size,1,none⟩=some (.bool pl)):=fun wx h=>(hba.step h).cell 1
 have HWA:Hid (∀wx,Below wa.heap.size wa wx->Below w.heap.size w wx):=fun wx h=>hbw.trans (h.mono hbw.size)
 have E3:=hid (D3.out wa hbw)
 clear hba hbw hzw D3
 refine E3.out.mono ?_
 rintro e w4 ⟨vG,rfl,hoG,hb3⟩
 obtain⟨AG,cG,rfl⟩:=bZ hoG
 have B4:Hid (Below wa.heap.size wa w4):=hb3
 have HOG4:=hid hoG
 have HS4:Hid (∀wx,Below w4.heap.size w4 wx->wx.cell? ⟨w.heap.size,1,none⟩=some (.bool pl)):=fun wx h=>HS.out wx (cZ h B4.out)
 have HBW4:Hid (Below w.heap.size w w4):=HWA.out _ B4.out
 clear hb3 hoG E3
 go_wp2_with fail
 go_loopw [7,8,9] (fun ov av iv wx=>∃ (k at_:Nat) (ps:List Part),k<=g/\at_<=n/\iv= .int .i64 k/\av= .int .i64 at_/\Hid (ps.map Part.ls++vbZ false pl (G.drop k) (l.drop at_)=FR)/\Hid (ps.length=k)/\Hid (at_+(G.drop k).sum=n)/\Hid (wx.ownsRow w4.heap.size 29 1 ov k (ps.map Part.v))/\Hid (FrsAt wx w4.heap.size ps)/\Hid (Below w4.heap.size w4 wx)) (fun _ _ iv _=>g-(intOf iv).toNat)
 case atStart=>exact⟨0,0,[],by omega,by omega,rfl,rfl,HFR.out.symm,rfl,by show _=_;rw[List.drop_zero,HGS.out,HN.out];omega,World.ownsRow_nil _ _ _ _,(fun p hp=>by cases hp),Below.refl _ _⟩
 case round=>
  obtain⟨k,at_,ps,hkg,hat,rfl,rfl,HF,HPL,HSM,HO,HFS,HB⟩:=hrel
  have hz:=HB.out.size
  by_cases hlt:k<g
  ·have hkl:k<G.length:=by rw[<-HGL.out];exact hlt
   obtain⟨m,hm⟩:∃m,m=G[k]:=⟨_,rfl⟩
   have hdr:G.drop k=m :: G.drop (k+1):=by rw[hm];exact List.drop_eq_getElem_cons hkl
   have hsm:=HSM.out
   have hf:=HF.out
   rw[hdr]at hsm hf
   rw[List.sum_cons]at hsm
   rw[vbZ,List.drop_drop]at hf
   have HOGx:Hid (wr.ownsRow wa.heap.size 3 1 (.slice AG g cG) g (dZ .i64 G)):=fZ HOG4.out (fun y hy=>HB.out.block y (World.ownsRow.lt HOG4.out y hy).2)
   obtain⟨gb,gc,hAG,hgb,_⟩:=HOGx.out.form (by omega)
   injection hAG with e1 e2 e3
   subst e1 e3
   have cg:wr.cell? ⟨gb,k,none⟩=some (.int .i64 (m:Nat)):=by
    rw[(Lz.own_cells HOGx.out hlt).1]
    simp[dZ,List.getElem?_eq_getElem hkl,hm]
   have HCG:Hid (∀wx,Below wr.heap.size wr wx->wx.cell? ⟨gb,k,none⟩=some (.int .i64 (m:Nat))):=fun wx h=>by
    have h2:wx.ownsRow wa.heap.size 3 1 (.slice (some ⟨gb,0,none⟩) g cG) g (dZ .i64 G):=fZ HOGx.out (fun y hy=>h.block y (World.ownsRow.lt HOGx.out y hy).2)
    rw[(Lz.own_cells h2 hlt).1]
    simp[dZ,List.getElem?_eq_getElem hkl,hm]
   have hml:at_+m<=n:=by omega
   have ks:=fun wx=>yaZb (P:=Tryz.prog) (t:=24) (s:=4) Tryz.underlying24 (fun _=>by kernel_rfl) A n c .i64 .i64 (at_:Int) ((at_+m:Nat):Int) at_ (at_+m) rfl rfl (by omega) (by omega) wx
   rw[Nat.add_sub_cancel_left]at ks
   have s1:IntKind.i64.wrap ((at_:Int)+(m:Int))=((at_+m:Nat):Int):=by rw[IntWalk.i64_in _ (by omega)];omega
   have hsub:((l.drop at_).take m).Sublist l:=(List.take_sublist _ _).trans (List.drop_sublist _ _)
   have hb3:(vZ false ((l.drop at_).take m)).length<=16000:=Nat.le_trans (One.krZ false hsub) hb
   have hb8:=arZ false (l:=(l.drop at_).take m) (fun r hr=>HOK.out r (hsub.subset hr))
   have hrow:Row w w.heap.size (ycZ A at_ c 4) m 4 (xbZ ((l.drop at_).take m)):=ha.cut at_ m hml hc (fun i j hi _=>by rw[nlZ,hnZ hi])
   have E1:=hid (fun wx (hx:Below w.heap.size w wx)=>Recs.rbytes_any wx false (ycZ A at_ c 4) m (c-at_) ((l.drop at_).take m) (by rw[List.length_take,List.length_drop,HN.out];omega) (by omega) (fun r hr=>HOK.out r (hsub.subset hr)) (fun r hr=>HLO.out r (hsub.subset hr)) (by omega) ((hrow.below hx).mono hx.size))
   have E2:=hid (fun wx A2 c2 (hx:Below w.heap.size w wx) (h:wx.ownsRow w4.heap.size 5 1 (.slice A2 (vZ false ((l.drop at_).take m)).length c2) (vZ false ((l.drop at_).take m)).length (dZ .u8 (vZ false ((l.drop at_).take m))))=>Block.fwZ wx A2 _ c2 _ pl rfl hb3 (fun e=>(mjZ h).1 e) hb8 (HT.out.step hx) (Part.Ok.row (lZ h rfl)))
   unfold yiZ at E1
   unfold mkZ at E2
   have HF2:=hid hf
   have HSM2:Hid (at_+m+(G.drop (k+1)).sum=n):=by show _=_;omega
   have hwx:Below w.heap.size w wr:=HBW4.out.trans (HB.out.mono HBW4.out.size)
   have HWX:=hid hwx
   have x0:(0:Int)<=(k:Int):=by omega
   have x1:(k:Int)<(g:Int):=by omega
   have kp:=HS4.out wr HB.out
   generalize vZ false ((l.drop at_).take m)=BB at *
   generalize tbZ BB pl=FF at *
   obtain⟨bl,hbl⟩:∃bl,bl=BB.length:=⟨_,rfl⟩
   rw[<-hbl]at E1 E2
   generalize ycZ A at_ c 4=AC at *
   generalize c-at_=cc at *
   obtain⟨am,ham⟩:∃am,am=at_+m:=⟨_,rfl⟩
   rw[<-ham]at ks s1 hml HSM2 HF2
   have HAM:=hid ham
   clear hkl hm hdr hsm hf HSM HF hb8 hwx hbl hb3 hrow hsub ham
   go_upto_region 7 with fail
   go_region_held3 (fun wx=>wx.cell? ⟨w.heap.size,1,none⟩=some (.bool pl)/\wx.cell? ⟨gb,k,none⟩=some (.int .i64 (m:Nat))) (first|exact⟨kp,cg⟩|exact kp2|exact kp3) (first|(go_at_call 149;(with_reducible refine(E1.out _ (Below.drew HWX.out)).mono ?_);rintro e wA ⟨vA,rfl,hoA,hbA⟩;obtain⟨AA,cA,rfl⟩:=bZ hoA;have BA:Below w4.heap.size w4 wA:=cZ hbA (Below.drew HB.out);have HOA:wA.ownsRow w4.heap.size 5 1 (.slice AA bl cA) bl (dZ .u8 BB):=nZ hoA (by simpa using hz);have BWA:Below w.heap.size w wA:=cZ hbA (Below.drew HWX.out);have BRA:Below wr.heap.size wr wA:=cZ hbA (Below.drew (Below.refl _ _));have kp2:wA.cell? ⟨w.heap.size,1,none⟩=some (.bool pl)/\wA.cell? ⟨gb,k,none⟩=some (.int .i64 (m:Nat)):=⟨HS4.out wA BA,HCG.out wA BRA⟩)|(go_at_call 148;(with_reducible refine(E2.out _ _ _ BWA HOA).mono ?_);rintro e wB ⟨vB,rfl,hoB,hbB⟩;obtain⟨AB,cB,rfl⟩:=bZ hoB;have BB2:Below w4.heap.size w4 wB:=cZ hbB BA;have BRB:Below wr.heap.size wr wB:=cZ hbB BRA;have kp3:wB.cell? ⟨w.heap.size,1,none⟩=some (.bool pl)/\wB.cell? ⟨gb,k,none⟩=some (.int .i64 (m:Nat)):=⟨HS4.out wB BB2,HCG.out wB BRB⟩))
   all_goals
    have cg2:=kp3.2
    have HOy:Hid (wB.ownsRow w4.heap.size 29 1 u7 k (ps.map Part.v)):=fZ HO.out (fun y hy=>BRB.block y (World.ownsRow.lt HO.out y hy).2)
    have HFy:Hid (FrsAt wB w4.heap.size ps):=HFS.out.step BRB
    have HPy:Hid (wB.ownsRow w4.heap.size 5 1 (.slice AB FF.length cB) FF.length (dZ .u8 FF)):=nZ hoB (by have:=BA.size;omega)
    have HBy:=hid BB2
    have hzy:=BB2.size
    have HGy:Hid (wB.ownsRow wa.heap.size 3 1 (.slice (some ⟨gb,0,none⟩) g cG) g (dZ .i64 G)):=fZ HOGx.out (fun y hy=>BRB.block y (World.ownsRow.lt HOGx.out y hy).2)
    obtain⟨fl2,hfl⟩:∃fl2,fl2=FF.length:=⟨_,rfl⟩
    rw[<-hfl]at HPy ⊢
    have HFL:=hid hfl
    have HCM:Hid ((dZ .i64 G)[k]? =some (.int .i64 (m:Nat))):=by
     have h:=(Lz.own_cells HGy.out hlt).1
     rw[cg2]at h
     exact h.symm
    clear hbA hoA BA HOA BWA BRA kp2 hbB hoB BB2 BRB kp3 kp cg cg2 E1 E2 HCG hfl
    go_wp2_with(at_builtin;refine hZ rfl (.tmp 38) (.tmp 40) 39 rfl w4.heap.size 29 j0 _ 1 24 Tryz.underlying39 hj0 hy0 hy1 hy2 rfl (by decide) _ _ _ (by rfl) (HOy.out.alloc _) _ 1 1 [.slice AB fl2 cB] (by rfl) (Src.of_blk (g:=wB.heap.size) (Blk.made _ _ _) 1 1 1 rfl) (by intro u hu;simp at hu;rcases hu with rfl;rfl) (by unfold maxLen;omega) (by omega) (by simp;omega) ?_;intro v8 w8 hown8 hg8 hat8;have HB8:Hid (Below w4.heap.size w4 w8):=Below.grown (HBy.out.alloc hzy _) hg8 (by simp;omega) (fun y hy=>(World.ownsRow.lt HOy.out y hy).1);have HO8:Hid (w8.ownsRow w4.heap.size 29 1 v8 (k+1) (ps.map Part.v++ [.slice AB fl2 cB])):=hown8;have HG8:w8.ownsRow wa.heap.size 3 1 (.slice (some ⟨gb,0,none⟩) g cG) g (dZ .i64 G):=icZ (HGy.out.alloc _) (HOy.out.alloc _) (by decide) hg8;have cg8:w8.cell? ⟨gb,k,none⟩=some (.int .i64 (m:Nat)):=(Lz.own_cells HG8 hlt).1.trans HCM.out;have HP8:Hid (w8.ownsRow w4.heap.size 5 1 (.slice AB fl2 cB) fl2 (dZ .u8 FF)):=icZ (HPy.out.alloc _) (HOy.out.alloc _) (by decide) hg8;have HF8:Hid (FrsAt w8 w4.heap.size ps):=FrsAt.grown (HFy.out.step (aZ (Below.refl _ _))) (HOy.out.alloc _) hg8;clear hown8 hg8 hat8 HG8)
    go_roundw
    case measure=>go_light;simp[intOf];omega
    case rel=>go_light;exact⟨k+1,am,ps++ [⟨AB,cB,FF⟩],by omega,hml,by first|rfl|go_num,by first|rfl|go_num,by show _=_;rw[List.map_append,List.append_assoc];exact HF2.out,by show _=_;rw[List.length_append,HPL.out];rfl,HSM2.out,by show World.ownsRow _ _ _ _ _ _ _;rw[List.map_append];show World.ownsRow _ _ _ _ _ _ (ps.map Part.v++ [.slice AB FF.length cB]);rw[<-HFL.out];exact HO8.out,HF8.out.snoc (by show World.ownsRow _ _ _ _ (.slice AB FF.length cB) FF.length (dZ .u8 FF);rw[<-HFL.out];exact HP8.out),HB8.out⟩
  ·obtain rfl:k=g:=by omega
   have hf:=HF.out
   rw[List.drop_of_length_le (by rw[<-HGL.out];exact Nat.le_refl _),vbZ,List.append_nil]at hf
   have HF2:=hid hf
   have HWX:Hid (Below w.heap.size w wr):=HBW4.out.trans (HB.out.mono HBW4.out.size)
   clear hf HF
   go_wp2_with fail
   go_ret2
   exact⟨_,_,ps,rfl,nZ HO.out HBW4.out.size,(fun p hp=>nZ (HFS.out p hp) HBW4.out.size),HF2.out,fZ (nZ HOG4.out HWASZ.out) (fun y hy=>HB.out.block y (World.ownsRow.lt HOG4.out y hy).2),HWX.out⟩
end Go.Proofs.YtmlaajebadfkoaaGreatDoor.Body
namespace Go.Proofs.YtmlaajebadfkoaaGreatDoor.Body
open Go.RowKit Mem Own Canon NumPut Crc
open Recs Idx
open Go.Proofs.YtmlaajebadfkoaaGreatDoor.Block (lZ)
open Go.Proofs.YtmlaajebadfkoaaGreatDoor.One (FrsAt FrsAt.step)
structure JS (base:Nat) (O D:List Nat) (vo vd:Value) (W:World):Prop where
 oo:W.ownsRow base 5 1 vo O.length (dZ .u8 O)
 od:W.ownsRow base 5 1 vd D.length (dZ .u8 D)
 ap:Apt vo vd
section
variable {base:Nat} {O D X:List Nat} {vo vd v':Value} {W w':World}
theorem JS.step(h:JS base O D vo vd W)(b:Below W.heap.size W w'):JS base O D vo vd w':=
 ⟨fZ h.oo fun y hy=>b.block y (World.ownsRow.lt h.oo y hy).2,fZ h.od fun y hy=>b.block y (World.ownsRow.lt h.od y hy).2,h.ap⟩
theorem JS.dirA(h:JS base O D vo vd W)(hB:base<=W.heap.size)(g:W.grownBy w' vd.ownBlock)(o:w'.ownsRow base 5 1 v' (D.length+X.length) (dZ .u8 D++dZ .u8 X))(t:v'.ownBlock=vd.ownBlock∨v'.ownBlock=some W.heap.size):
 JS base O (D++X) vo v' w'/\Below base W w':=by
 obtain⟨a,b⟩:=hcZ h.oo h.ap.symm g t
 refine⟨⟨a,?_,b.symm⟩,(Below.refl base W).grown g hB fun y hy=>(World.ownsRow.lt h.od y hy).1⟩
 rw[List.length_append,show dZ .u8 (D++X)=dZ .u8 D++dZ .u8 X by simp[dZ]]
 exact o
theorem JS.outA(h:JS base O D vo vd W)(hB:base<=W.heap.size)(g:W.grownBy w' vo.ownBlock)(o:w'.ownsRow base 5 1 v' (O.length+X.length) (dZ .u8 O++dZ .u8 X))(t:v'.ownBlock=vo.ownBlock∨v'.ownBlock=some W.heap.size):
 JS base (O++X) D v' vd w'/\Below base W w':=by
 obtain⟨a,b⟩:=hcZ h.od h.ap g t
 refine⟨⟨?_,a,b⟩,(Below.refl base W).grown g hB fun y hy=>(World.ownsRow.lt h.oo y hy).1⟩
 rw[List.length_append,show dZ .u8 (O++X)=dZ .u8 O++dZ .u8 X by simp[dZ]]
 exact o
end
structure JE (base:Nat) (vo vd u:Value) (m:Nat) (ys:List Value) (W:World):Prop where
 own:W.ownsRow base 5 1 u m ys
 ao:Apt vo u
 ad:Apt vd u
section
variable {base m:Nat} {O D X:List Nat} {vo vd v' u:Value} {ys:List Value} {W w':World}
theorem JE.new(h:JS base O D vo vd W)(hB:base<=W.heap.size)(o:w'.ownsRow W.heap.size 5 1 u m ys):JE base vo vd u m ys w':=
 ⟨nZ o hB,(xhZ o (Nat.le_refl _) fun x hx=>(World.ownsRow.lt h.oo x hx).2).symm,(xhZ o (Nat.le_refl _) fun x hx=>(World.ownsRow.lt h.od x hx).2).symm⟩
theorem JE.step(h:JE base vo vd u m ys W)(b:Below W.heap.size W w'):JE base vo vd u m ys w':=⟨fZ h.own fun y hy=>b.block y (World.ownsRow.lt h.own y hy).2,h.ao,h.ad⟩
theorem JE.dirA(h:JE base vo vd u m ys W)(g:W.grownBy w' vd.ownBlock)(t:v'.ownBlock=vd.ownBlock∨v'.ownBlock=some W.heap.size):JE base vo v' u m ys w':=by
 obtain⟨a,b⟩:=hcZ h.own h.ad g t
 exact⟨a,h.ao,b⟩
theorem JE.outA(h:JE base vo vd u m ys W)(g:W.grownBy w' vo.ownBlock)(t:v'.ownBlock=vo.ownBlock∨v'.ownBlock=some W.heap.size):JE base v' vd u m ys w':=by
 obtain⟨a,b⟩:=hcZ h.own h.ao g t
 exact⟨a,b,h.ad⟩
end
theorem src_part{w:World}{p:Part}(h:p.Ok w):Src w p.A p.ls.length p.c 1 (dZ .u8 p.ls):=by
 refine⟨by simp[dZ],?_⟩
 by_cases h0:0<p.ls.length
 ·obtain⟨b,off,hA,_,hc⟩:=h.row h0
  refine .inr ⟨_,hA,fun j u hu=> ?_⟩
  have hj:j<p.ls.length:=by
   refine Decidable.byContradiction fun hn=> ?_
   have hn':(dZ .u8 p.ls).length<=j:=by simp[dZ];omega
   rw[List.getElem?_eq_none hn']at hu
   cases hu
  have hcj:=hc j 0 hj (by omega)
  rw[Nat.mul_one,Nat.add_zero]at hcj
  rw[add_none,hcj,<-hu]
  have hg:=Huff.rgZ (k:= .u8) hj
  rw[Nat.mul_one,Nat.add_zero]at hg
  rw[hg]
 ·cases hA:p.A with
  |none=>exact .inl ⟨rfl,(h.nil hA).1,(h.nil hA).2⟩
  |some a=>
   refine .inr ⟨a,rfl,fun j u hu=> ?_⟩
   have h1:(dZ .u8 p.ls).length=0:=by rw[show(dZ .u8 p.ls).length=p.ls.length by simp[dZ]];omega
   rw[List.getElem?_eq_none (by rw[h1];exact Nat.zero_le _)]at hu
   cases hu
theorem gtZ(w:World)(n g base cF cG cc cx:Nat)(AF AG AC AX:Option Addr)(ps:List Part)(G CB IX:List Nat)(hn:n<=1000000)(hg:g<=20000)(hpl:ps.length=g)(hGl:G.length=g)(hGb:∀z∈G,z<=1000000)(hfl:(ps.map Part.ls).flatten.length<=500000)(hcl:CB.length<=900000)(hxl:IX.length<=900000)(hc8:∀x∈CB,x<=255)(hx8:∀x∈IX,x<=255)
 (ho:w.ownsRow base 29 1 (.slice AF g cF) g (ps.map Part.v))(hfs:FrsAt w base ps)(hG:Row w w.heap.size AG g 1 (rZ .i64 G))(hC:Part.Ok (⟨AC,cc,CB⟩:Part) w)(hX:Part.Ok (⟨AX,cx,IX⟩:Part) w):
 Calls Tryz.prog 34 #[.int .i64 (n:Nat), .slice AF g cF, .slice AG g cG, .slice AC CB.length cc, .slice AX IX.length cx] w fun e w'=>∃v,e= .returned v/\w'.ownsRow w.heap.size 5 1 v (peZ n G (ps.map Part.ls) CB IX).length (dZ .u8 (peZ n G (ps.map Part.ls) CB IX))/\Below w.heap.size w w':=by
 obtain⟨j0,hj0,hy0,hy1,hy2⟩:=info_parts hbZ
 have D1:=hid (fun wx=>lcZ wx n (by omega))
 have D2:=hid (fun wx=>lcZ wx g (by omega))
 have l1:=mZ (x:=n) (by omega)
 have l2:=mZ (x:=g) (by omega)
 have u1:IntKind.u64.wrap (n:Int)=(n:Int):=by rw[IntKind.wrap_u64];omega
 have u2:IntKind.u64.wrap (g:Int)=(g:Int):=by rw[IntKind.wrap_u64];omega
 obtain⟨SZ,hSZ⟩:∃SZ,SZ=(ps.map Part.ls).map List.length:=⟨_,rfl⟩
 have hSl:SZ.length=g:=by rw[hSZ,List.length_map,List.length_map];exact hpl
 have HJP:Hid (peZ n G (ps.map Part.ls) CB IX=(ps.map Part.ls).flatten++(gbZ CB++(gbZ IX++(gbZ (xgZ n G SZ (gbZ CB).length (gbZ IX).length)++wfZ (gbZ (xgZ n G SZ (gbZ CB).length (gbZ IX).length)).length)))):=by show _=_;unfold peZ;rw[hSZ]
 have HDP:Hid (∀x y,xgZ n G SZ x y=iZ n++iZ g++cbZ G SZ++(iZ x++iZ y)):=fun x y=>by unfold xgZ;rw[hGl];simp only[List.append_assoc]
 have HPL:=hid hpl
 have HGL:=hid hGl
 have HSL:=hid hSl
 have HGB:=hid hGb
 have HFL:=hid hfl
 have HC8:=hid hc8
 have HX8:=hid hx8
 have HO:=hid ho
 have HFS:=hid hfs
 have HRG:Hid (Row w w.heap.size AG g 1 (rZ .i64 G)):=hG
 have HC:=hid hC
 have HX:=hid hX
 have HSZ:=hid hSZ
 clear hpl hGl hSl hGb hfl hc8 hx8 ho hfs hG hC hX hSZ
 go_enter Tryz.func34,Tryz.ntmps34
 go_wp2_with fail
 refine(D1.out _).mono ?_
 rintro e w1 ⟨v1,rfl,ho1,hb1⟩
 have HJ1:Hid (JS w.heap.size [] (iZ n) (.slice none 0 0) v1 w1):=⟨World.ownsRow_nil _ _ _ _,ho1,fun _ h=>by cases h⟩
 obtain⟨A1,c1,rfl⟩:=bZ ho1
 have HB:=hid hb1
 clear ho1 hb1 D1
 obtain⟨NA,hNA⟩:∃NA,NA=iZ g:=⟨_,rfl⟩
 rw[<-hNA]at D2 l2
 have DNA:=hid D2.out
 have HJ:=hid HJ1.out
 have HNA:=hid hNA
 clear D2 HJ1 hNA
 go_wp2_with fail
 refine(DNA.out _).mono ?_
 rintro e wA ⟨vA,rfl,hoA,hbA⟩
 obtain⟨AA,cA,rfl⟩:=bZ hoA
 have HSA:Hid (Src wA AA NA.length cA 1 (dZ .u8 NA)):=tZ hoA
 have HJA:=hid (HJ.out.step hbA)
 have HBA:Hid (Below w.heap.size w wA):=gZ hbA HB.out.size HB.out
 have hzA:=HBA.out.size
 clear hoA hbA DNA HJ HB
 go_wp2_with(at_builtin;refine hZ rfl (.tmp 21) (.tmp 25) 29 rfl w.heap.size 5 j0 _ 1 1 Tryz.underlying29 hj0 hy0 hy1 hy2 rfl (by decide) _ _ _ (by rfl) HJA.out.od _ _ _ _ (by rfl) HSA.out (qZ _ _) (by unfold maxLen;omega) (by omega) hzA ?_;intro v2 w2 hown2 hg2 hat2;have q:=HJA.out.dirA hzA hg2 hown2 hat2;obtain⟨A2,c2,rfl⟩:=bZ hown2;have HJ2:=hid q.1;have HB2:Hid (Below w.heap.size w w2):=HBA.out.trans q.2;clear q hown2 hg2 hat2 HJA HSA HBA)
 have HDIR0:Hid (iZ n++NA=iZ n++iZ g++cbZ (G.take 0) (SZ.take 0)):=by show _=_;rw[HNA.out];simp[cbZ]
 rw[HDIR0.out]at HJ2
 have HJ3:Hid (JS w.heap.size ((ps.take 0).map Part.ls).flatten (iZ n++iZ g++cbZ (G.take 0) (SZ.take 0)) (.slice none 0 0) (.slice A2 ((iZ n).length+NA.length) c2) w2):=HJ2.out
 have HLD0:Hid ((iZ n++iZ g++cbZ (G.take 0) (SZ.take 0)).length<=20+20*0):=by
  show _<=_
  rw[<-HDIR0.out,List.length_append]
  omega
 clear HJ2
 go_wp2_with fail
 go_loopw [11,12,13] (fun ov dv iv wr=>∃k:Nat,k<=g/\iv= .int .i64 k/\Hid (JS w.heap.size ((ps.take k).map Part.ls).flatten (iZ n++iZ g++cbZ (G.take k) (SZ.take k)) ov dv wr)/\Hid ((iZ n++iZ g++cbZ (G.take k) (SZ.take k)).length<=20+20*k)/\Hid (Below w.heap.size w wr)) (fun _ _ iv _=>g-(intOf iv).toNat)
 case atStart=>exact⟨0,by omega,rfl,HJ3.out,HLD0.out,HB2.out⟩
 case round=>
  obtain⟨k,hk,rfl,HJ,HLD,HB⟩:=hrel
  clear HJ3 HLD0 HB2 HDIR0
  obtain⟨wi,rfl⟩:∃wi:World,wi=wr:=⟨_,rfl⟩
  have hz:=HB.out.size
  by_cases hlt:k<g
  ·have gk:decide ((k:Int)<(g:Int))=true:=by simp;omega
   have gk':decide (k<g)=true:=by simp;omega
   have x0:(0:Int)<=(k:Int):=by omega
   have x1:(k:Int)<(g:Int):=by omega
   obtain⟨bg,og,m,rfl,hbg,hm,cm⟩:=bbZ (HRG.out.below HB.out) HGL.out hlt
   have hkl:k<ps.length:=by rw[HPL.out];exact hlt
   obtain⟨P,hP⟩:∃P,P=ps[k]:=⟨_,rfl⟩
   have hPk:ps[k]? =some P:=by rw[hP];exact List.getElem?_eq_getElem hkl
   have hOw:wi.ownsRow base 29 1 (.slice AF g cF) g (ps.map Part.v):=fZ HO.out fun y hy=>HB.out.block y (World.ownsRow.lt HO.out y hy).2
   obtain⟨gf,gc,hAF,_,_⟩:=hOw.form (by omega)
   injection hAF with e1 e2 e3
   subst e1 e3
   have hgf:gf<w.heap.size:=(World.ownsRow.lt HO.out gf rfl).2
   have cf:w.cell? ⟨gf,k,none⟩=some P.v:=(Lz.own_cells HO.out hlt).1.trans (by rw[List.getElem?_map,hPk];rfl)
   have HCF:Hid (∀wx,Below w.heap.size w wx->wx.cell? ⟨gf,k,none⟩=some P.v):=fun wx h=>(h.cell (p:=⟨gf,k,none⟩) hgf).trans cf
   have HPO:Hid (∀wx,Below w.heap.size w wx->Part.Ok P wx):=fun wx h=>(lZ (HFS.out P (by rw[hP];exact List.getElem_mem hkl)) rfl).step h
   have hml:=HGB.out m (List.mem_of_getElem? hm)
   have hSk:SZ[k]? =some P.ls.length:=by rw[HSZ.out,List.getElem?_map,List.getElem?_map,hPk];rfl
   have hpl1:P.ls.length<=500000:=Nat.le_trans (One.fgZb (List.mem_map.2 ⟨P,by rw[hP];exact List.getElem_mem hkl,rfl⟩)) HFL.out
   have hst:=ftZ hm hSk
   have hot:((ps.take (k+1)).map Part.ls).flatten=((ps.take k).map Part.ls).flatten++P.ls:=by rw[List.take_add_one,hPk];simp
   have hol:((ps.take k).map Part.ls).flatten.length<=500000:=by
    refine Nat.le_trans ?_ HFL.out
    conv=>rhs;rw[<-List.take_append_drop k ps]
    rw[List.map_append,List.flatten_append,List.length_append]
    omega
   have DNA:=hid (fun wx=>lcZ wx m (by omega))
   have DNB:=hid (fun wx=>lcZ wx P.ls.length (by omega))
   have la:=mZ (x:=m) (by omega)
   have lb:=mZ (x:=P.ls.length) (by omega)
   have u3:IntKind.u64.wrap (m:Int)=(m:Int):=by rw[IntKind.wrap_u64];omega
   obtain⟨pA,pc,pls⟩:=P
   simp only[Part.v]at HCF hot hst hpl1 hSk lb DNB HPO
   have u4:IntKind.u64.wrap (pls.length:Int)=(pls.length:Int):=by rw[IntKind.wrap_u64];omega
   have HSE:Hid (iZ n++iZ g++cbZ (G.take (k+1)) (SZ.take (k+1))=iZ n++iZ g++cbZ (G.take k) (SZ.take k)++iZ m++iZ pls.length):=by show _=_;rw[hst];simp only[List.append_assoc]
   obtain⟨NB,hNB⟩:∃NB,NB=iZ pls.length:=⟨_,rfl⟩
   rw[<-hNB]at HSE DNB lb
   obtain⟨NA,hNA⟩:∃NA,NA=iZ m:=⟨_,rfl⟩
   rw[<-hNA]at HSE DNA la
   have HOE:Hid (((ps.take (k+1)).map Part.ls).flatten=((ps.take k).map Part.ls).flatten++pls):=hot
   have hdl:=HLD.out
   generalize iZ n++iZ g++cbZ (G.take k) (SZ.take k)=DI at *
   generalize ((ps.take k).map Part.ls).flatten=OU at *
   obtain⟨Ao,co,rfl⟩:=bZ HJ.out.oo
   obtain⟨Ad,cd,rfl⟩:=bZ HJ.out.od
   clear hm hkl hP hPk hOw cf hml hSk hst hot hNA hNB HLD
   go_wp2_with fail
   refine(DNA.out _).mono ?_
   rintro e wA ⟨vA,rfl,hoA,hbA⟩
   obtain⟨AA,cA,rfl⟩:=bZ hoA
   have HSA:Hid (Src wA AA NA.length cA 1 (dZ .u8 NA)):=tZ hoA
   have HJA:=hid (HJ.out.step hbA)
   have HBA:Hid (Below w.heap.size w wA):=gZ hbA HB.out.size HB.out
   have hzA:=HBA.out.size
   clear hoA hbA DNA HJ HB
   go_wp2_with(at_builtin;refine hZ rfl (.tmp 33) (.tmp 39) 29 rfl w.heap.size 5 j0 _ 1 1 Tryz.underlying29 hj0 hy0 hy1 hy2 rfl (by decide) _ _ _ (by rfl) HJA.out.od _ _ _ _ (by rfl) HSA.out (qZ _ _) (by unfold maxLen;omega) (by omega) hzA ?_;intro v2 w2 hown2 hg2 hat2;have q2:=HJA.out.dirA hzA hg2 hown2 hat2;obtain⟨A2,c2,rfl⟩:=bZ hown2;have HJ2:=hid q2.1;have HB2:Hid (Below w.heap.size w w2):=HBA.out.trans q2.2;have hz2:=HB2.out.size;clear q2 hown2 hg2 hat2;have cf2:=HCF.out w2 HB2.out)
   clear HJA HSA HBA hzA
   have hd2:(DI++NA).length<=30+20*k:=by rw[List.length_append];omega
   refine(DNB.out _).mono ?_
   rintro e wB ⟨vB,rfl,hoB,hbB⟩
   obtain⟨AB,cB,rfl⟩:=bZ hoB
   have HSB:Hid (Src wB AB NB.length cB 1 (dZ .u8 NB)):=tZ hoB
   have HJB:=hid (HJ2.out.step hbB)
   have HBB:Hid (Below w.heap.size w wB):=gZ hbB HB2.out.size HB2.out
   have hzB:=HBB.out.size
   clear hoB hbB DNB HJ2 HB2
   have cfB:=HCF.out wB HBB.out
   go_wp2_with(first|(at_builtin;refine hZ rfl (.tmp 41) (.tmp 48) 29 rfl w.heap.size 5 j0 _ 1 1 Tryz.underlying29 hj0 hy0 hy1 hy2 rfl (by decide) _ _ _ (by rfl) HJB.out.od _ _ _ _ (by rfl) HSB.out (qZ _ _) (by unfold maxLen;omega) (by omega) hzB ?_;intro v3 w3 hown3 hg3 hat3;have q3:=HJB.out.dirA hzB hg3 hown3 hat3;obtain⟨A3,c3,rfl⟩:=bZ hown3;have HJ3:=hid q3.1;have HB3:Hid (Below w.heap.size w w3):=HBB.out.trans q3.2;have hz3:=HB3.out.size;clear q3 hown3 hg3 hat3;have cf3:=HCF.out w3 HB3.out;have HS3:Src w3 pA pls.length pc 1 (dZ .u8 pls):=src_part (HPO.out w3 HB3.out))|(at_builtin;refine hZ rfl (.tmp 50) (.tmp 54) 29 rfl w.heap.size 5 j0 _ 1 1 Tryz.underlying29 hj0 hy0 hy1 hy2 rfl (by decide) _ _ _ (by rfl) HJ3.out.oo _ _ _ _ (by rfl) HS3 (qZ _ _) (by unfold maxLen;omega) (by omega) hz3 ?_;intro v4 w4 hown4 hg4 hat4;have q4:=HJ3.out.outA hz3 hg4 hown4 hat4;obtain⟨A4,c4,rfl⟩:=bZ hown4;have HJ4:=hid q4.1;have HB4:Hid (Below w.heap.size w w4):=HB3.out.trans q4.2;have hz4:=HB4.out.size;clear q4 hown4 hg4 hat4;skip))
   have hj4:=HJ4.out
   simp only[List.length_append]at hj4
   have HJ5:=hid hj4
   clear hj4
   have HLD4:Hid ((DI++NA++NB).length<=20+20*(k+1)):=by show _<=_;rw[List.length_append];omega
   go_roundw
   case measure=>go_light;simp[intOf];omega
   case rel=>go_light;exact⟨k+1,by omega,by first|rfl|go_num,by rw[HSE.out,HOE.out];exact HJ5.out,by rw[HSE.out];exact HLD4.out,HB4.out⟩
  ·obtain rfl:k=g:=by omega
   have gk:decide ((k:Int)<(k:Int))=false:=by simp
   have gk':decide (k<k)=false:=by simp
   have eG:G.take k=G:=List.take_of_length_le (by rw[HGL.out];exact Nat.le_refl _)
   have eS:SZ.take k=SZ:=List.take_of_length_le (by rw[HSL.out];exact Nat.le_refl _)
   have eP:ps.take k=ps:=List.take_of_length_le (by rw[HPL.out];exact Nat.le_refl _)
   rw[eG,eS]at HJ HLD
   rw[eP]at HJ
   have hdl:=HLD.out
   have hol:=HFL.out
   have HDE:=hid (HDP.out (gbZ CB).length (gbZ IX).length)
   have hd8:=gxZ n G SZ (gbZ CB).length (gbZ IX).length
   rw[edZ CB,edZ IX]at HDE hd8 HJP
   generalize xgZ n G SZ (CB.length+4) (IX.length+4)=DD at *
   generalize iZ n++iZ k++cbZ G SZ=DI at *
   generalize (ps.map Part.ls).flatten=OU at *
   obtain⟨Ao,co,rfl⟩:=bZ HJ.out.oo
   obtain⟨Ad,cd,rfl⟩:=bZ HJ.out.od
   have HCw:=hid (HC.out)
   have E1:=hid (rput_any wi AC CB.length cc CB rfl (by omega) HC.out.nil HC8.out ((HC.out.row.below HB.out).mono hz))
   have E2:=hid (fun wx (h:Below w.heap.size w wx)=>rput_any wx AX IX.length cx IX rfl (by omega) HX.out.nil HX8.out ((HX.out.row.below h).mono h.size))
   unfold nfZ at E1 E2
   obtain⟨cl,hcl4⟩:∃cl,cl=CB.length+4:=⟨_,rfl⟩
   obtain⟨il,hil4⟩:∃il,il=IX.length+4:=⟨_,rfl⟩
   rw[<-hcl4]at E1 HDE
   rw[<-hil4]at E2 HDE
   have hclb:cl<=900004:=by omega
   have hilb:il<=900004:=by omega
   have HCL4:=hid hcl4
   have HIL4:=hid hil4
   clear eG eS eP HLD hcl4 hil4 HDP HSZ HCw
   go_wp2_with fail
   refine E1.out.mono ?_
   rintro e w5 ⟨v5,rfl,ho5,hb5⟩
   obtain⟨A5,c5,rfl⟩:=bZ ho5
   have HB5:Hid (Below w.heap.size w w5):=gZ hb5 hz HB.out
   have HJ5:=hid (HJ.out.step hb5)
   have HO5:Hid (w5.ownsRow w.heap.size 5 1 (.slice A5 cl c5) cl (dZ .u8 (gbZ CB))):=nZ ho5 hz
   have HE5:Hid (JE w.heap.size (.slice Ao OU.length co) (.slice Ad DI.length cd) (.slice A5 cl c5) cl (dZ .u8 (gbZ CB)) w5):=JE.new HJ.out hz ho5
   have E2':=hid (E2.out w5 HB5.out)
   have hz5:=HB5.out.size
   clear ho5 hb5 E1 E2 HJ HB HO5 hz
   go_wp2_with fail
   refine E2'.out.mono ?_
   rintro e w6 ⟨v6,rfl,ho6,hb6⟩
   obtain⟨A6,c6,rfl⟩:=bZ ho6
   have HB6:Hid (Below w.heap.size w w6):=gZ hb6 hz5 HB5.out
   have HE6:Hid (JE w.heap.size (.slice Ao OU.length co) (.slice Ad DI.length cd) (.slice A6 il c6) il (dZ .u8 (gbZ IX)) w6):=JE.new HJ5.out hz5 ho6
   have HE56:=hid (HE5.out.step hb6)
   have HJ6:=hid (HJ5.out.step hb6)
   have hz6:=HB6.out.size
   have DN1:=hid (fun wx=>lcZ wx cl (by omega))
   have DN2:=hid (fun wx=>lcZ wx il (by omega))
   have la:=mZ (x:=cl) (by omega)
   have lb:=mZ (x:=il) (by omega)
   have u3:IntKind.u64.wrap (cl:Int)=(cl:Int):=by rw[IntKind.wrap_u64];omega
   have u4:IntKind.u64.wrap (il:Int)=(il:Int):=by rw[IntKind.wrap_u64];omega
   generalize iZ cl=N1 at *
   generalize iZ il=N2 at *
   clear ho6 hb6 E2' HJ5 HB5 HE5 hz5
   go_wp2_with fail
   refine(DN1.out _).mono ?_
   rintro e w7 ⟨v7,rfl,ho7,hb7⟩
   obtain⟨A7,c7,rfl⟩:=bZ ho7
   have HS7:Hid (Src w7 A7 N1.length c7 1 (dZ .u8 N1)):=tZ ho7
   have HJ7:=hid (HJ6.out.step hb7)
   have HE57:=hid (HE56.out.step hb7)
   have HE67:=hid (HE6.out.step hb7)
   have HB7:Hid (Below w.heap.size w w7):=gZ hb7 hz6 HB6.out
   have hz7:=HB7.out.size
   clear ho7 hb7 DN1 HJ6 HE56 HE6 HB6 hz6
   go_wp2_with(at_builtin;refine hZ rfl (.tmp 60) (.tmp 64) 29 rfl w.heap.size 5 j0 _ 1 1 Tryz.underlying29 hj0 hy0 hy1 hy2 rfl (by decide) _ _ _ (by rfl) HJ7.out.od _ _ _ _ (by rfl) HS7.out (qZ _ _) (by unfold maxLen;omega) (by omega) hz7 ?_;intro v8 w8 hown8 hg8 hat8;have HE58:=hid (HE57.out.dirA hg8 hat8);have HE68:=hid (HE67.out.dirA hg8 hat8);have q8:=HJ7.out.dirA hz7 hg8 hown8 hat8;obtain⟨A8,c8,rfl⟩:=bZ hown8;have HJ8:=hid q8.1;have HB8:Hid (Below w.heap.size w w8):=HB7.out.trans q8.2;have hz8:=HB8.out.size;clear q8 hown8 hg8 hat8;skip)
   have hd8l:(DI++N1).length<=400030:=by rw[List.length_append];omega
   clear HS7 HJ7 HE57 HE67 HB7 hz7
   refine(DN2.out _).mono ?_
   rintro e w9 ⟨v9,rfl,ho9,hb9⟩
   obtain⟨A9,c9,rfl⟩:=bZ ho9
   have HS9:Hid (Src w9 A9 N2.length c9 1 (dZ .u8 N2)):=tZ ho9
   have HJ9:=hid (HJ8.out.step hb9)
   have HE59:=hid (HE58.out.step hb9)
   have HE69:=hid (HE68.out.step hb9)
   have HB9:Hid (Below w.heap.size w w9):=gZ hb9 hz8 HB8.out
   have hz9:=HB9.out.size
   clear ho9 hb9 DN2 HJ8 HE58 HE68 HB8 hz8
   go_wp2_with(at_builtin;refine hZ rfl (.tmp 66) (.tmp 70) 29 rfl w.heap.size 5 j0 _ 1 1 Tryz.underlying29 hj0 hy0 hy1 hy2 rfl (by decide) _ _ _ (by rfl) HJ9.out.od _ _ _ _ (by rfl) HS9.out (qZ _ _) (by unfold maxLen;omega) (by omega) hz9 ?_;intro v10 w10 hown10 hg10 hat10;have HE510:=hid (HE59.out.dirA hg10 hat10);have HE610:=hid (HE69.out.dirA hg10 hat10);have q10:=HJ9.out.dirA hz9 hg10 hown10 hat10;obtain⟨A10,c10,rfl⟩:=bZ hown10;have HJ10:=hid q10.1;have HB10:Hid (Below w.heap.size w w10):=HB9.out.trans q10.2;have hz10:=HB10.out.size;clear q10 hown10 hg10 hat10;skip)
   clear HS9 HJ9 HE59 HE69 HB9 hz9
   have hDD:DD=DI++N1++N2:=by rw[HDE.out,List.append_assoc]
   have hdd:DD.length=DI.length+N1.length+N2.length:=by rw[hDD,List.length_append,List.length_append]
   have od:=HJ10.out.od
   rw[<-hDD]at od
   have od2:=od
   rw[hdd]at od2
   simp only[List.length_append]at od2
   have P10:Part.Ok (⟨A10,c10,DD⟩:Part) w10:=by
    have h:=lZ (A:=A10) (c:=c10) (ls:=DD) (n:=DI.length+N1.length+N2.length) od2 hdd
    exact h
   have E11:=hid (rput_any w10 A10 (DI.length+N1.length+N2.length) c10 DD hdd (by omega) (fun e=>by have h:=P10.nil e;exact⟨by rw[<-hdd];exact h.1,h.2⟩) hd8 (by have h:=P10.row;simp only[hdd]at h;exact h))
   unfold nfZ at E11
   obtain⟨dl,hdl4⟩:∃dl,dl=DD.length+4:=⟨_,rfl⟩
   rw[<-hdl4]at E11
   have hdlb:dl<=400060:=by omega
   have HDL4:=hid hdl4
   clear hDD hdd od od2 P10 hdl4 HDE
   refine E11.out.mono ?_
   rintro e w11 ⟨v11,rfl,ho11,hb11⟩
   obtain⟨A11,c11,rfl⟩:=bZ ho11
   have HE11:Hid (JE w.heap.size (.slice Ao OU.length co) (.slice A10 ((DI++N1).length+N2.length) c10) (.slice A11 dl c11) dl (dZ .u8 (gbZ DD)) w11):=JE.new HJ10.out hz10 ho11
   have HE511:=hid (HE510.out.step hb11)
   have HE611:=hid (HE610.out.step hb11)
   have HJ11:=hid (HJ10.out.step hb11)
   have HB11:Hid (Below w.heap.size w w11):=gZ hb11 hz10 HB10.out
   have hz11:=HB11.out.size
   have HS5:Hid (Src w11 A5 cl c5 1 (dZ .u8 (gbZ CB))):=tZ HE511.out.own
   have hl5:(OU++gbZ CB).length<=1500000:=by rw[List.length_append,edZ,<-HCL4.out];omega
   have hl6:(OU++gbZ CB++gbZ IX).length<=2500000:=by rw[List.length_append,edZ,<-HIL4.out];omega
   have hl7:(OU++gbZ CB++gbZ IX++gbZ DD).length<=3000000:=by rw[List.length_append,edZ,<-HDL4.out];omega
   have f5:(gbZ CB).length=cl:=by rw[edZ,HCL4.out]
   have f6:(gbZ IX).length=il:=by rw[edZ,HIL4.out]
   have f7:(gbZ DD).length=dl:=by rw[edZ,HDL4.out]
   have HF5:=hid f5
   have HF6:=hid f6
   have HF7:=hid f7
   generalize gbZ CB=KC at *
   generalize gbZ IX=KX at *
   generalize gbZ DD=KD at *
   clear ho11 hb11 E11 HJ10 HE510 HE610 HB10 hz10 f5 f6 f7
   go_wp2_with(first|(at_builtin;refine hZ rfl (.tmp 73) (.tmp 74) 29 rfl w.heap.size 5 j0 _ 1 1 Tryz.underlying29 hj0 hy0 hy1 hy2 rfl (by decide) _ _ _ (by rfl) HJ11.out.oo _ _ _ _ (by rfl) HS5.out (qZ _ _) (by unfold maxLen;omega) (by omega) hz11 ?_;intro v12 w12 hown12 hg12 hat12;rw[<-HF5.out]at hown12;have HE612:=hid (HE611.out.outA hg12 hat12);have HE1112:=hid (HE11.out.outA hg12 hat12);have HS6:Src w12 A6 il c6 1 (dZ .u8 KX):=tZ HE612.out.own;have q12:=HJ11.out.outA hz11 hg12 hown12 hat12;obtain⟨A12,c12,rfl⟩:=bZ hown12;have hj12:=q12.1;(try simp only[List.length_append]at hj12);have HJ12:=hid hj12;clear hj12;have HB12:Hid (Below w.heap.size w w12):=HB11.out.trans q12.2;have hz12:=HB12.out.size;clear q12 hown12 hg12 hat12;skip)|(at_builtin;refine hZ rfl (.tmp 76) (.tmp 77) 29 rfl w.heap.size 5 j0 _ 1 1 Tryz.underlying29 hj0 hy0 hy1 hy2 rfl (by decide) _ _ _ (by rfl) HJ12.out.oo _ _ _ _ (by rfl) HS6 (qZ _ _) (by unfold maxLen;omega) (by omega) hz12 ?_;intro v13 w13 hown13 hg13 hat13;rw[<-HF6.out]at hown13;have HE1113:=hid (HE1112.out.outA hg13 hat13);have HS7:Src w13 A11 dl c11 1 (dZ .u8 KD):=tZ HE1113.out.own;have q13:=HJ12.out.outA hz12 hg13 hown13 hat13;obtain⟨A13,c13,rfl⟩:=bZ hown13;have hj13:=q13.1;(try simp only[List.length_append]at hj13);have HJ13:=hid hj13;clear hj13;have HB13:Hid (Below w.heap.size w w13):=HB12.out.trans q13.2;have hz13:=HB13.out.size;clear q13 hown13 hg13 hat13;skip)|(at_builtin;refine hZ rfl (.tmp 79) (.tmp 80) 29 rfl w.heap.size 5 j0 _ 1 1 Tryz.underlying29 hj0 hy0 hy1 hy2 rfl (by decide) _ _ _ (by rfl) HJ13.out.oo _ _ _ _ (by rfl) HS7 (qZ _ _) (by unfold maxLen;omega) (by omega) hz13 ?_;intro v14 w14 hown14 hg14 hat14;rw[<-HF7.out]at hown14;have q14:=HJ13.out.outA hz13 hg14 hown14 hat14;obtain⟨A14,c14,rfl⟩:=bZ hown14;have hj14:=q14.1;(try simp only[List.length_append]at hj14);have HJ14:=hid hj14;clear hj14;have HB14:Hid (Below w.heap.size w w14):=HB13.out.trans q14.2;have hz14:=HB14.out.size;clear q14 hown14 hg14 hat14;skip))
   have HJO:Hid (peZ n G (ps.map Part.ls) CB IX=OU++KC++KX++KD++wfZ dl):=by show _=_;rw[HJP.out,HF7.out];simp only[List.append_assoc]
   have E15:=hid (geZb w14 dl (by omega))
   have u5:IntKind.u64.wrap (dl:Int)=(dl:Int):=by rw[IntKind.wrap_u64];omega
   clear HJ11 HJ12 HJ13 HB11 HB12 HB13 HE11 HE511 HE611 HE612 HE1112 HE1113 HS5 HS6 HS7 HJP
   refine E15.out.mono ?_
   rintro e w15 ⟨v15,rfl,ho15,hb15⟩
   obtain⟨A15,c15,rfl⟩:=bZ ho15
   have HS15:Hid (Src w15 A15 4 c15 1 (dZ .u8 (wfZ dl))):=tZ ho15
   have HJ15:=hid (HJ14.out.step hb15)
   have HB15:Hid (Below w.heap.size w w15):=gZ hb15 hz14 HB14.out
   have hz15:=HB15.out.size
   clear ho15 hb15 E15 HJ14 HB14
   have HO16:Hid (w15.ownsRow w.heap.size 5 1 (.slice A14 (OU.length+(KC.length+KX.length)+KD.length) c14) (OU++KC++KX++KD).length (dZ .u8 (OU++KC++KX++KD))):=by
    have h:=HJ15.out.oo
    show World.ownsRow _ _ _ _ _ _ _
    rw[show OU.length+(KC.length+KX.length)+KD.length=OU.length+KC.length+KX.length+KD.length by omega]
    exact h
   clear HJ15
   go_wp2_with(at_builtin;refine hZ rfl (.tmp 89) (.tmp 90) 29 rfl w.heap.size 5 j0 _ 1 1 Tryz.underlying29 hj0 hy0 hy1 hy2 rfl (by decide) _ _ _ (by rfl) HO16.out _ _ _ _ (by rfl) HS15.out (qZ _ _) (by unfold maxLen;omega) (by omega) hz15 ?_;intro v17 w17 hown17 hg17 hat17)
   have HB17:Hid (Below w.heap.size w w17):=HB15.out.grown hg17 hz15 (fun y hy=>(World.ownsRow.lt HO16.out y hy).1)
   go_ret
   refine⟨v17,rfl,?_,HB17.out⟩
   rw[HJO.out]
   have e1:(OU++KC++KX++KD++wfZ dl).length=(OU++KC++KX++KD).length+4:=by rw[List.length_append];rfl
   have e2:dZ .u8 (OU++KC++KX++KD++wfZ dl)=dZ .u8 (OU++KC++KX++KD)++dZ .u8 (wfZ dl):=by simp[dZ]
   rw[e1,e2]
   exact hown17
end Go.Proofs.YtmlaajebadfkoaaGreatDoor.Body
namespace Go.Proofs.YtmlaajebadfkoaaGreatDoor.Body
open Recs Idx Opts
open Go.Proofs.YtmlaajebadfkoaaGreatDoor.NumPut (iZ mZ)
open Go.Proofs.YtmlaajebadfkoaaGreatDoor.Ef (efO fcZ bgZ pfZ oiZ efW)
open Go.Proofs.YtmlaajebadfkoaaGreatDoor.Huff (bytesOf_length)
theorem qoZb{bound:Nat}{l:List Nat}(hb:bound<=20000)(hm:fcZ bound none l=true)(h0:l≠ [])(hn:l.length<=bound):(efO bound l).length<=10+(3*bound+7) / 8:=by
 have h1:1<=l.length:=List.length_pos_iff.2 h0
 have hq:1<=bound / l.length:=(Nat.one_le_div_iff (by omega)).2 hn
 have hW:l.length*efW bound l.length<=bound:=by
  have h3:=Ef.unZ (q:=bound / l.length) (by omega)
  have h4:efW bound l.length<2 ^ efW bound l.length:=Nat.lt_two_pow_self
  unfold efW at h4 ⊢
  have h5:l.length*Nat.log2 (bound / l.length)<=l.length*(bound / l.length):=Nat.mul_le_mul_left _ (by omega)
  exact Nat.le_trans h5 (Nat.mul_div_le _ _)
 have hlow:=pfZ (efW bound l.length) l
 have hlt:=oiZ bound l none hm
 have hp:=(jrZ bound l none hm).1
 have hhi:=irZ (l.map (·/ 2 ^ efW bound l.length)) 0 bound (Nat.zero_le _) (fun x hx=>by
  obtain⟨y,hy,rfl⟩:=List.mem_map.1 hx
  exact⟨Nat.zero_le _,Nat.le_trans (Nat.div_le_self _ _) (by have:=hlt y hy;omega)⟩) (List.Pairwise.map _ (fun a b h=>Nat.div_le_div_right h) hp)
 rw[List.length_map]at hhi
 have hn2:=mZ (x:=l.length) (by omega)
 unfold efO
 rw[if_neg h0,List.length_append,bytesOf_length]
 unfold bgZ
 rw[List.length_append,hlow]
 omega
theorem htZ{bound C:Nat}:∀ {ls:List (List Nat)},(∀x∈ls,(efO bound x).length<=C)->(lbZ bound ls).length<=C*ls.length
 | [],_=>by simp[lbZ]
 |x :: t,h=>by
  have ih:=htZ (ls:=t) (fun y hy=>h y (List.mem_cons_of_mem _ hy))
  have hx:=h x List.mem_cons_self
  unfold lbZ at ih ⊢
  rw[List.flatMap_cons,List.length_append,List.length_cons,Nat.mul_add]
  omega
theorem roZb(ts:List (List Str)):(ibZ ts).length<=(ts.map List.length).sum:=by
 have h:∀ (ts:List (List Str)) (acc:List Str),(ts.foldl zZ acc).length<=acc.length+(ts.map List.length).sum:=fun ts=>by
  induction ts with
  |nil=>intro acc;simp
  |cons t ts ih=>
   intro acc
   have h1:=ih (zZ acc t)
   have h2:=elZ t acc
   rw[List.foldl_cons,List.map_cons,List.sum_cons]
   omega
 have:=h ts []
 simpa[ibZ]using this
theorem mrZ:∀l:List Rec,((((l.map oZ).map List.length).sum:Nat):Int)<=nbZ l
 | []=>by simp[blZ]
 |r :: l=>by
  have ih:=mrZ l
  have e:nbZ (r :: l)=weigh r+nbZ l:=by
   simp only[nbZ,List.map_cons,List.foldl_cons]
   rw[kqZ]
   omega
  have h:=hrZ r.text.data.toList r.source.data.toList
  have h1:r.text.data.toList.length=r.text.size:=Array.length_toList
  have h2:r.source.data.toList.length=r.source.size:=Array.length_toList
  rw[h1,h2]at h
  rw[List.map_cons,List.map_cons,List.sum_cons,e]
  have h3:(oZ r).length<=r.text.size+r.source.size:=h
  unfold weigh
  omega
theorem wcZb{o:Opt}{l:List Rec}{n:Nat}(hn:l.length=n)(h1:(n:Int)<=30)(h2:nbZ l<=1500):(ibZ (l.map oZ)).length<=20000/\(hfZ o=0->(ixR o l).length<=99000):=by
 have hT:(ibZ (l.map oZ)).length<=1500:=by
  have a:=roZb (l.map oZ)
  have b:=mrZ l
  omega
 refine⟨by omega,fun ho=> ?_⟩
 obtain⟨_,_,hb3,hb4⟩:=dsZ ho
 have hok:=scZb l
 have hmay:=hxZ (l:=l) (by omega)
 have hs:∀s∈ibZ (l.map oZ),s.length<=25:=fun s hs=>(sjZ hmay s hs).2
 have a:=doZ hs (size:=o.bucket.toNat) (by omega) (by omega) (nCh o.bucket.toNat (ibZ (l.map oZ)).length)
 have b:=cqZ hs (size:=o.bucket.toNat) (by omega) (nCh o.bucket.toNat (ibZ (l.map oZ)).length)
 have c:=drZ (size:=o.bucket.toNat) (n:=(ibZ (l.map oZ)).length) (by omega)
 have d:=htZ (bound:=l.length) (C:=22) (ls:=(ibZ (l.map oZ)).map (ocZ (l.map oZ))) (fun x hx=>by
  have h3:=hok.2 x hx
  have h4:=qoZb (bound:=l.length) (l:=x) (by omega) (List.all_eq_true.1 hok.1 x hx) h3.1 h3.2
  omega)
 rw[List.length_map]at d
 have e:ceZ o.bucket.toNat (ibZ (l.map oZ))=hdB o.bucket.toNat (ibZ (l.map oZ)) (nCh o.bucket.toNat (ibZ (l.map oZ)).length)++bdB o.bucket.toNat (ibZ (l.map oZ)) (nCh o.bucket.toNat (ibZ (l.map oZ)).length):=zpZ (by omega) _
 unfold ixR ixO
 rw[List.length_append,e,List.length_append]
 omega
end Go.Proofs.YtmlaajebadfkoaaGreatDoor.Body
