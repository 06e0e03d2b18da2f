/- Plain: rising texts in buckets (chapter 16): the bytes that are writte -/
import Derived.Test.YtbgoibedicbkjaaGreatDoorZTwoOpens11
import Derived.Test.YtbgoibedicbkjaaGreatDoorZTwoOpens10
import Derived.Test.YtbgoibedicbkjaaGreatDoorZTwoOpens12
import Derived.BigQuiet
import Derived.Deep.QuietTactic
namespace Go.Proofs.YtbgoibedicbkjaaGreatDoor end Go.Proofs.YtbgoibedicbkjaaGreatDoor open Go.Proofs.YtbgoibedicbkjaaGreatDoor
open Go.Lib (hid)
set_option maxHeartbeats 1000000
set_option maxRecDepth 100000
namespace Go.Proofs.YtbgoibedicbkjaaGreatDoor.Idx
open Go.Proofs.YtbgoibedicbkjaaGreatDoor.NumPut (nZ)
def natS(s:Str):List Nat:=s.map UInt8.toNat
def pgZ(s:Str):List Nat:=nZ s.length++natS s
def zZ:Str->Str->Nat
 |a :: s,b :: t=>if a=b then zZ s t+1 else 0
 |_,_=>0
theorem vmZ:∀a b,zZ a b<=a.length/\zZ a b<=b.length
 | [],b=>by simp[zZ]
 |a :: s,[]=>by simp[zZ]
 |a :: s,b :: t=>by
  have:=vmZ s t
  rw[zZ]
  split<;>simp<;>omega
def zfZ:Str->List Str->List Nat
 |_,[]=> []
 |was,x :: t=>nZ (zZ was x)++pgZ (x.drop (zZ was x))++zfZ x t
def ibZ:List Str->List Nat
 | []=> []
 |x :: t=>pgZ x++zfZ x t
theorem fqZ:∀ (t:List Str) (was x:Str),zfZ was (t++ [x])=zfZ was t++(nZ (zZ (t.getLast?.getD was) x)++pgZ (x.drop (zZ (t.getLast?.getD was) x)))
 | [],was,x=>by simp[zfZ]
 |y :: t,was,x=>by
  rw[List.cons_append,zfZ,fqZ t y x,zfZ]
  have e:((y :: t).getLast?.getD was)=t.getLast?.getD y:=by
   cases t with
   |nil=>rfl
   |cons z s=>simp[List.getLast?_cons]
  rw[e]
  simp only[List.append_assoc]
theorem suZ{l:List Str}(h:l≠ [])(x was:Str)(hw:l.getLast?=some was):ibZ (l++ [x])=ibZ l++(nZ (zZ was x)++pgZ (x.drop (zZ was x))):=by
 cases l with
 |nil=>exact absurd rfl h
 |cons y t=>
  rw[List.cons_append,ibZ,fqZ,ibZ]
  have e:t.getLast?.getD y=was:=by
   cases t with
   |nil=>simpa using hw
   |cons z s=>simp[List.getLast?_cons]at hw ⊢;exact hw
  rw[e,List.append_assoc]
def tjZ(size:Nat):Nat->List Str->List (List Str)
 |0,_=> []
 |f+1,l=>if l= []then []else l.take size :: tjZ size f (l.drop size)
def njZ(size:Nat)(l:List Str):List (List Str):=tjZ size l.length l
def agZ(size:Nat)(l:List Str):List Nat:=
 nZ l.length++(njZ size l).flatMap (fun c=>nZ (ibZ c).length)++(njZ size l).flatMap ibZ
end Go.Proofs.YtbgoibedicbkjaaGreatDoor.Idx
namespace Go.Proofs.YtbgoibedicbkjaaGreatDoor.Idx
open Go.RowKit Mem Own Canon Sift
def dcZ(was s:Str):Bool:=decide (1<=s.length)&&(decide (s.length<=25)&&decide (was<s))
theorem hpZ(s:Str)(h:s≠ []):((bs s).toList==({data:=#[] }:ByteArray).toList)=false/\((bs s).toList== [])=false/\(bs s).toList.isEmpty=false/\¬(bs s).toList= []:=by
 have e:(bs s).toList=s:=by rw[ByteArray.toList_eq,ogZ]
 have e2:({data:=#[] }:ByteArray).toList= []:=by rw[ByteArray.toList_eq]
 rw[e,e2]
 cases s with
 |nil=>exact absurd rfl h
 |cons x t=>exact⟨rfl,rfl,rfl,by simp⟩
theorem tuZ:((bs []).toList==({data:=#[] }:ByteArray).toList)=true/\((bs []).toList== [])=true/\(bs []).toList.isEmpty=true/\(bs []).toList= []:=by
 have e:(bs []).toList= []:=by rw[ByteArray.toList_eq,ogZ]
 have e2:({data:=#[] }:ByteArray).toList= []:=by rw[ByteArray.toList_eq]
 rw[e,e2]
 exact⟨rfl,rfl,rfl,rfl⟩
theorem mjZb(P:Program)(t:TypeId)(a b:Str)(w:World):(binOp .gtr t (.string (bs a)) (.string (bs b))).run P w= .ok (.bool (decide (b<a))) w:=by
 have h:(binOp .gtr t (.string (bs a)) (.string (bs b))).run P w= .ok (.bool (!(Op.bytesLess (bs a).toList (bs b).toList || (bs a).toList==(bs b).toList))) w:=rfl
 rw[h,hcZb,str_eq]
 rcases pnZ a b with h|h|h
 ·simp[h,jkZ h]
 ·subst h
  simp[xdZ]
 ·have h1:¬a<b:=jkZ h
  have h2:a≠b:=fun e=>xdZ b (by rw[e]at h;exact h)
  simp[h,h1,h2]
theorem ryZ(P:Program)(t:TypeId)(a b:Str)(w:World):(binOp .leq t (.string (bs a)) (.string (bs b))).run P w= .ok (.bool (!decide (b<a))) w:=by
 have h:(binOp .leq t (.string (bs a)) (.string (bs b))).run P w= .ok (.bool (Op.bytesLess (bs a).toList (bs b).toList || (bs a).toList==(bs b).toList)) w:=rfl
 rw[h,hcZb,str_eq]
 rcases pnZ a b with h|h|h
 ·simp[h,jkZ h]
 ·subst h
  simp[xdZ]
 ·have h1:¬a<b:=jkZ h
  have h2:a≠b:=fun e=>xdZ b (by rw[e]at h;exact h)
  simp[h,h1,h2]
theorem rsZ(w:World)(was s:Str):Calls Tryz.prog 195 #[.string (bs was), .string (bs s)] w fun e w'=>e= .returned (.bool (dcZ was s))/\w'=w:=by
 have hz:=xbZ s
 by_cases h0:s= []
 ·subst h0
  have hr:dcZ was []=false:=rfl
  rw[hr]
  obtain⟨a1,a2,a3,a4⟩:=tuZ
  go_enter Tryz.func195,Tryz.ntmps195
  go_wp2_with fail
  go_ret
  exact⟨rfl,rfl⟩
 ·obtain⟨a1,a2,a3,a4⟩:=hpZ s h0
  have h1:1<=s.length:=List.length_pos_iff.2 h0
  have hg:=fun wx=>mjZb Tryz.prog 9 s was wx
  have hr:dcZ was s=(decide (s.length<=25)&&decide (was<s)):=by simp[dcZ,h1]
  rw[hr]
  generalize decide (was<s)=D at *
  generalize bs s=S at *
  generalize bs was=W at *
  clear hr h0
  by_cases h2:s.length<=25
  ·have z2:decide ((s.length:Int)<=25)=true:=by simp;omega
   have z3:decide (s.length<=25)=true:=by simpa using h2
   rw[z3]
   go_enter Tryz.func195,Tryz.ntmps195
   go_wp2_with fail
   go_ret
   exact⟨by simp,rfl⟩
  ·have z2:decide ((s.length:Int)<=25)=false:=by simp;omega
   have z3:decide (s.length<=25)=false:=by simpa using h2
   rw[z3]
   go_enter Tryz.func195,Tryz.ntmps195
   go_wp2_with fail
   go_ret
   exact⟨by simp,rfl⟩
def geZ:Str->List Str->Bool
 |_,[]=>true
 |was,s :: t=>dcZ was s&&geZ s t
def nlZ(l:List Str):Bool:=geZ [] l&&decide (l.length<=1048576)
theorem gxZ{u t:Str}{l:List Str}{k:Nat}(h:l[k]? =some t):geZ u (l.drop k)=(dcZ u t&&geZ t (l.drop (k+1))):=by
 obtain⟨hk,e⟩:=List.getElem?_eq_some_iff.1 h
 rw[List.drop_eq_getElem_cons hk,geZ,e]
theorem hxZ(w:World)(A:Option Addr)(n c:Nat)(ls:List Str)(hn:ls.length=n)(hN:n<=3000000000)(ha:Row w w.heap.size A n 1 (ehZ ls)):
 Calls Tryz.prog 147 #[.slice A n c] w fun e w'=>e= .returned (.bool (nlZ ls))/\w'=w:=by
 have HN:=hid hn
 obtain⟨R,hR⟩:∃R,R=nlZ ls:=⟨_,rfl⟩
 have HR:Hid (R=(geZ [] ls&&decide (n<=1048576))):=by show R=_;rw[hR,<-hn];rfl
 rw[<-hR]
 clear hn hR
 go_enter Tryz.func147,Tryz.ntmps147
 go_wp2_with fail
 go_loopw [3,8] (fun uv iv wx=>∃ (k:Nat) (u:Str),k<=n/\iv= .int .i64 k/\uv= .string (bs u)/\Hid (geZ [] ls=geZ u (ls.drop k))/\wx=w) (fun _ iv _=>n-(intOf iv).toNat)
 case atStart=>exact⟨0,[],by omega,rfl,rfl,rfl,rfl⟩
 case round=>
  obtain⟨k,u,hk,rfl,rfl,HS,rfl⟩:=hrel
  by_cases hlt:k<n
  ·have gk:decide ((k:Int)<(n:Int))=true:=by simp;omega
   have gk':decide (k<n)=true:=by simp;omega
   have x0:(0:Int)<=(k:Int):=by omega
   have x1:(k:Int)<(n:Int):=by omega
   obtain⟨b,off,t,rfl,_,ht,ck⟩:=Row.str ha HN.out hlt
   have hst:=gxZ (u:=u) ht
   have D:=hid (rsZ wr u t)
   by_cases hm:dcZ u t=true
   ·rw[hm,Bool.true_and]at hst
    rw[hm]at D
    have HS2:Hid (geZ [] ls=geZ t (ls.drop (k+1))):=HS.out.trans hst
    clear HS hst hm ht
    go_wp2_with(refine D.out.mono ?_;rintro e w' ⟨rfl,rfl⟩)
    go_roundw
    case measure=>go_light;simp[intOf];omega
    case rel=>go_light;exact⟨k+1,t,by omega,by first|rfl|go_num,rfl,HS2.out,by first|rfl|trivial⟩
   ·have hm:dcZ u t=false:=by simpa using hm
    rw[hm,Bool.false_and]at hst
    rw[hm]at D
    have hr:R=false:=by rw[HR.out,HS.out,hst];rfl
    subst hr
    clear HS hst hm ht HR
    go_wp2_with(refine D.out.mono ?_;rintro e w' ⟨rfl,rfl⟩)
    go_ret
    exact⟨rfl,rfl⟩
  ·obtain rfl:k=n:=by omega
   have gk:decide ((k:Int)<(k:Int))=false:=by simp
   have gk':decide (k<k)=false:=by simp
   have hr:R=decide (k<=1048576):=by
    have h:=HS.out
    rw[List.drop_of_length_le (by rw[HN.out];exact Nat.le_refl _)]at h
    rw[HR.out,h]
    simp[geZ]
   by_cases hz:k<=1048576
   ·have z1:decide ((k:Int)<=1048576)=true:=by simp;omega
    rw[decide_eq_true hz]at hr
    subst hr
    clear HS HR hlt
    go_wp2_with fail
    go_ret
    exact⟨rfl,rfl⟩
   ·have z1:decide ((k:Int)<=1048576)=false:=by simp;omega
    rw[decide_eq_false hz]at hr
    subst hr
    clear HS HR hlt
    go_wp2_with fail
    go_ret
    exact⟨rfl,rfl⟩
end Go.Proofs.YtbgoibedicbkjaaGreatDoor.Idx
namespace Go.Proofs.YtbgoibedicbkjaaGreatDoor.Ef
open Go.RowKit Mem Own Canon
def olZ(bound:Nat)(u:Option Nat)(x:Nat):Bool:=decide (x<bound)&&(match u with|none=>true|some y=>decide (y<x))
def ycZ(bound:Nat):Option Nat->List Nat->Bool
 |_,[]=>true
 |u,x :: t=>olZ bound u x&&ycZ bound (some x) t
def ipZ:Option Nat->Int
 |none=> -1
 |some y=>y
theorem jcZb{bound:Nat}{u:Option Nat}{x:Nat}{l:List Nat}{k:Nat}(h:l[k]? =some x):ycZ bound u (l.drop k)=(olZ bound u x&&ycZ bound (some x) (l.drop (k+1))):=by
 obtain⟨hk,e⟩:=List.getElem?_eq_some_iff.1 h
 rw[List.drop_eq_getElem_cons hk,ycZ,e]
theorem njZb(bound:Nat)(u:Option Nat)(x:Nat):olZ bound u x=(decide ((x:Int)<(bound:Int))&&decide (ipZ u<(x:Int))):=by
 unfold olZ
 cases u with
 |none=>
  have:decide (ipZ none<(x:Int))=true:=decide_eq_true (by show(-1:Int)<_;omega)
  rw[this]
  congr 1
  exact decide_eq_decide.2 (by omega)
 |some y=>
  congr 1
  ·exact decide_eq_decide.2 (by omega)
  ·exact decide_eq_decide.2 (by simp only[ipZ];omega)
theorem ixZ(w:World)(bound:Nat)(A:Option Addr)(n c:Nat)(ls:List Nat)(hn:ls.length=n)(hN:n<=3000000000)(ha:Row w w.heap.size A n 1 (mZ .i64 ls)):
 Calls Tryz.prog 150 #[.int .i64 bound, .slice A n c] w fun e w'=>e= .returned (.bool (ycZ bound none ls))/\w'=w:=by
 have HN:=hid hn
 obtain⟨R,hR⟩:∃R,R=ycZ bound none ls:=⟨_,rfl⟩
 have HR:Hid (R=ycZ bound none (ls.drop 0)):=hR
 rw[<-hR]
 clear hn hR
 go_enter Tryz.func150,Tryz.ntmps150
 go_wp2_with fail
 go_loopw [5,10] (fun uv iv wx=>∃ (k:Nat) (u:Option Nat),k<=n/\iv= .int .i64 k/\uv= .int .i64 (ipZ u)/\Hid (R=ycZ bound u (ls.drop k))/\wx=w) (fun _ iv _=>n-(intOf iv).toNat)
 case atStart=>exact⟨0,none,by omega,rfl,rfl,HR.out,rfl⟩
 case round=>
  obtain⟨k,u,hk,rfl,rfl,HS,rfl⟩:=hrel
  by_cases hlt:k<n
  ·have gk:decide ((k:Int)<(n:Int))=true:=by simp;omega
   have gk':decide (k<n)=true:=by simp;omega
   have x0:(0:Int)<=(k:Int):=by omega
   have x1:(k:Int)<(n:Int):=by omega
   obtain⟨b,off,x,rfl,_,hx,ck⟩:=kbZ ha HN.out hlt
   have hst:=jcZb (bound:=bound) (u:=u) hx
   rw[njZb]at hst
   have hw:Hid (ipZ (some x)=(x:Int)):=rfl
   have HW:Hid (Value.int .i64 (x:Nat)= .int .i64 (ipZ (some x))):=rfl
   generalize ipZ u=V at *
   by_cases h1:(x:Int)<=V
   ·have y1:decide ((x:Int)<=V)=true:=decide_eq_true h1
    rw[decide_eq_false (by omega:¬V<(x:Int)),Bool.and_false,Bool.false_and]at hst
    have hr:R=false:=HS.out.trans hst
    subst hr
    clear HS hst hx HW h1 hw
    go_wp2_with fail
    go_ret
    exact⟨rfl,rfl⟩
   ·have y1:decide ((x:Int)<=V)=false:=decide_eq_false h1
    rw[decide_eq_true (by omega:V<(x:Int)),Bool.and_true]at hst
    by_cases h2:(x:Int)<(bound:Int)
    ·have y2:decide ((bound:Int)<=(x:Int))=false:=decide_eq_false (by omega)
     have y2':decide (bound<=x)=false:=decide_eq_false (by omega)
     rw[decide_eq_true h2,Bool.true_and]at hst
     have HS2:Hid (R=ycZ bound (some x) (ls.drop (k+1))):=HS.out.trans hst
     clear HS hst hx h1 h2 hw
     go_wp2_with fail
     go_roundw
     case measure=>go_light;simp[intOf];omega
     case rel=>go_light;exact⟨k+1,some x,by omega,by first|rfl|go_num,HW.out,HS2.out,by first|rfl|trivial⟩
    ·have y2:decide ((bound:Int)<=(x:Int))=true:=decide_eq_true (by omega)
     have y2':decide (bound<=x)=true:=decide_eq_true (by omega)
     rw[decide_eq_false h2,Bool.false_and]at hst
     have hr:R=false:=HS.out.trans hst
     subst hr
     clear HS hst hx HW h1 h2 hw
     go_wp2_with fail
     go_ret
     exact⟨rfl,rfl⟩
  ·obtain rfl:k=n:=by omega
   have gk:decide ((k:Int)<(k:Int))=false:=by simp
   have gk':decide (k<k)=false:=by simp
   have hr:R=true:=by rw[HS.out,List.drop_of_length_le (by rw[HN.out];exact Nat.le_refl _)];rfl
   subst hr
   clear HS HR hlt
   go_wp2_with fail
   go_ret
   exact⟨rfl,rfl⟩
end Go.Proofs.YtbgoibedicbkjaaGreatDoor.Ef
namespace Go.Proofs.YtbgoibedicbkjaaGreatDoor.Ef
open Go.Proofs.YtbgoibedicbkjaaGreatDoor.Huff (msb ilZ bytesOf)
theorem kiZ:∀ (bound:Nat) (l:List Nat) (u:Option Nat),ycZ bound u l=true->∀x∈l,x<bound
 |bound,[],_,_,x,hx=>by cases hx
 |bound,y :: t,u,h,x,hx=>by
  rw[ycZ,Bool.and_eq_true]at h
  rcases List.mem_cons.1 hx with rfl|hx
  ·have h1:=h.1
   unfold olZ at h1
   rw[Bool.and_eq_true,decide_eq_true_iff]at h1
   exact h1.1
  ·exact kiZ bound t (some y) h.2 x hx
theorem wmZ:∀ (bound:Nat) (l:List Nat) (u:Option Nat),ycZ bound u l=true->∀ (k x y:Nat),l[k]? =some x->l[k+1]? =some y->x<y
 |bound,[],_,_,k,x,y,hx,_=>by simp at hx
 |bound,a :: t,u,h,k,x,y,hx,hy=>by
  rw[ycZ,Bool.and_eq_true]at h
  cases k with
  |zero=>
   simp only[List.getElem?_cons_zero,Option.some.injEq]at hx
   subst hx
   rw[List.getElem?_cons_succ]at hy
   cases t with
   |nil=>simp at hy
   |cons b s=>
    simp only[List.getElem?_cons_zero,Option.some.injEq]at hy
    subst hy
    have h2:=h.2
    rw[ycZ,Bool.and_eq_true]at h2
    have h3:=h2.1
    unfold olZ at h3
    rw[Bool.and_eq_true]at h3
    simpa using h3.2
  |succ k=>
   rw[List.getElem?_cons_succ]at hx hy
   exact wmZ bound t (some a) h.2 k x y hx hy
theorem ujZ:∀ (bound:Nat) (l:List Nat) (u:Option Nat),(∀x∈l,x<bound)->l.Pairwise (·< ·)->(∀y,u=some y->∀x∈l,y<x)->ycZ bound u l=true
 |_,[],_,_,_,_=>rfl
 |bound,x :: t,u,h1,h2,h3=>by
  rw[ycZ,Bool.and_eq_true]
  rw[List.pairwise_cons]at h2
  refine⟨?_,ujZ bound t (some x) (fun y hy=>h1 y (List.mem_cons_of_mem _ hy)) h2.2 (fun y hy z hz=>by injection hy with hy;rw[<-hy];exact h2.1 z hz)⟩
  unfold olZ
  rw[Bool.and_eq_true]
  refine⟨decide_eq_true (h1 x List.mem_cons_self),?_⟩
  cases u with
  |none=>rfl
  |some y=>exact decide_eq_true (h3 y rfl x List.mem_cons_self)
theorem fgZ(w:Nat):∀l:List Nat,(seZ w l).length=l.length*w
 | []=>by simp[seZ]
 |x :: t=>by
  have h:=fgZ w t
  unfold seZ at h ⊢
  rw[List.flatMap_cons,List.length_append,h,ilZ,List.length_cons,Nat.add_mul]
  omega
theorem egZb(P:Nat){ls:List Nat}{j x:Nat}(hx:ls[j]? =some x)(hr:∀ (k x y:Nat),ls[k]? =some x->ls[k+1]? =some y->x<y):((ls.take j).map (·/ P)).getLast?.getD 0<=x / P:=by
 cases j with
 |zero=>simp
 |succ i=>
  obtain⟨hl,_⟩:=List.getElem?_eq_some_iff.1 hx
  have hy:ls[i]? =some ls[i]:=List.getElem?_eq_getElem (by omega)
  rw[List.take_add_one,hy]
  simp only[Option.toList_some,List.map_append,List.map_cons,List.map_nil,List.getLast?_append]
  exact Nat.div_le_div_right (Nat.le_of_lt (hr i _ _ hy hx))
theorem kcZb(P:Nat){ls:List Nat}{j x:Nat}(hx:ls[j]? =some x):((ls.take (j+1)).map (·/ P)).getLast?.getD 0=x / P:=by
 rw[List.take_add_one,hx]
 simp
theorem jxZ(P:Nat){ls:List Nat}{j x:Nat}(hx:ls[j]? =some x):sdZ 0 ((ls.take (j+1)).map (·/ P))=sdZ 0 ((ls.take j).map (·/ P))++unary (x / P-((ls.take j).map (·/ P)).getLast?.getD 0):=by
 rw[List.take_add_one,hx,Option.toList_some,List.map_append,List.map_cons,List.map_nil]
 exact znZ _ 0 (x / P)
end Go.Proofs.YtbgoibedicbkjaaGreatDoor.Ef
namespace Go.Proofs.YtbgoibedicbkjaaGreatDoor.Idx
open Go.RowKit Mem Own Canon Sift
theorem foZ{a b:Str}{k:Nat}(ha:k<a.length)(hb:k<b.length):zZ (a.drop k) (b.drop k)=if a[k]=b[k]then zZ (a.drop (k+1)) (b.drop (k+1))+1 else 0:=by
 rw[List.drop_eq_getElem_cons ha,List.drop_eq_getElem_cons hb,zZ]
theorem ejZ{a b:Str}{k:Nat}(h:a.length<=k∨b.length<=k):zZ (a.drop k) (b.drop k)=0:=by
 rcases h with h|h
 ·rw[List.drop_of_length_le h]
  cases b.drop k<;>rfl
 ·rw[List.drop_of_length_le h]
  cases a.drop k<;>rfl
theorem syZ{a b:Str}{k:Nat}(ha:k<(bs a).size)(hb:k<(bs b).size)(ha':k<a.length)(hb':k<b.length):((((bs a)[k]'ha).toNat:Int)==(((bs b)[k]'hb).toNat:Int))=decide (a[k]'ha'=b[k]'hb'):=by
 have e1:(bs a)[k]'ha=a[k]'ha':=djZb a k ha
 have e2:(bs b)[k]'hb=b[k]'hb':=djZb b k hb
 rw[e1,e2]
 refine Bool.eq_iff_iff.2 ?_
 rw[beq_iff_eq,decide_eq_true_iff]
 constructor
 ·intro h
  exact UInt8.toNat_inj.1 (by omega)
 ·intro h
  rw[h]
theorem gqZ(w:World)(a b:Str)(haz:a.length<=1000000)(hbz:b.length<=1000000):
 Calls Tryz.prog 197 #[.string (bs a), .string (bs b)] w fun e w'=>e= .returned (.int .i64 (zZ a b:Nat))/\∃q,w'=w.drewN q:=by
 have hza:=xbZ a
 have hzb:=xbZ b
 obtain⟨R,hR⟩:∃R,R=zZ a b:=⟨_,rfl⟩
 have H0:Hid (R=0+zZ (a.drop 0) (b.drop 0)):=by show R=_;rw[hR,List.drop_zero,List.drop_zero,Nat.zero_add]
 rw[<-hR]
 clear hR
 go_enter Tryz.func197,Tryz.ntmps197
 go_wp2_with fail
 go_loopw [5] (fun iv wx=>∃k:Nat,k<=a.length/\k<=b.length/\iv= .int .i64 k/\Hid (R=k+zZ (a.drop k) (b.drop k))/\Hid (∃q,wx=w.drewN q)) (fun iv _=>a.length-(intOf iv).toNat)
 case atStart=>exact⟨0,by omega,by omega,rfl,H0.out,0,rfl⟩
 case round=>
  obtain⟨k,hka,hkb,rfl,HS,HQ⟩:=hrel
  have HQ2:Hid (∀nq,∃q,wr.drewN nq=w.drewN q):=fun nq=>by
   obtain⟨q,hq⟩:=HQ.out
   exact⟨_,by rw[hq];exact World.drewN_drewN _ _ _⟩
  have x0:(0:Int)<=(k:Int):=by omega
  by_cases h1:k<a.length
  ·have g1:decide ((k:Int)<(a.length:Int))=true:=by simp;omega
   have g1':decide (k<a.length)=true:=by simp;omega
   have x1:(k:Int)<((bs a).size:Int):=by omega
   have x1':(k:Int)<(a.length:Int):=by omega
   by_cases h2:k<b.length
   ·have g2:decide ((k:Int)<(b.length:Int))=true:=by simp;omega
    have g2':decide (k<b.length)=true:=by simp;omega
    have x2:(k:Int)<((bs b).size:Int):=by omega
    have x2':(k:Int)<(b.length:Int):=by omega
    have he:=syZ (by rw[hza];exact h1) (by rw[hzb];exact h2) h1 h2
    have hs:=foZ h1 h2
    by_cases h3:a[k]=b[k]
    ·rw[decide_eq_true h3]at he
     rw[if_pos h3]at hs
     have HS2:Hid (R=(k+1)+zZ (a.drop (k+1)) (b.drop (k+1))):=by
      show R=_
      rw[HS.out,hs]
      omega
     clear hs HS h3 HQ
     go_wp2_with fail
     go_quiet (fail)
     go_wp2_with fail
     go_roundw
     case measure=>go_light;simp[intOf];omega
     case rel=>go_light;exact⟨k+1,by omega,by omega,by first|rfl|go_num,HS2.out,HQ2.out _⟩
    ·rw[decide_eq_false h3]at he
     rw[if_neg h3]at hs
     have hr:R=k:=by rw[HS.out,hs];omega
     subst hr
     clear hs HS h3 HQ
     go_wp2_with fail
     go_quiet (fail)
     go_wp2_with fail
     go_ret
     exact⟨rfl,HQ2.out _⟩
   ·have g2:decide ((k:Int)<(b.length:Int))=false:=by simp;omega
    have g2':decide (k<b.length)=false:=by simp;omega
    have hr:R=k:=by rw[HS.out,ejZ (.inr (by omega))];omega
    subst hr
    clear HS HQ
    go_wp2_with fail
    go_quiet (fail)
    go_wp2_with fail
    go_ret
    exact⟨rfl,HQ2.out _⟩
  ·have g1:decide ((k:Int)<(a.length:Int))=false:=by simp;omega
   have g1':decide (k<a.length)=false:=by simp;omega
   have hr:R=k:=by rw[HS.out,ejZ (.inl (by omega))];omega
   subst hr
   clear HS HQ
   go_wp2_with fail
   go_quiet (fail)
   go_wp2_with fail
   go_ret
   exact⟨rfl,HQ2.out _⟩
theorem caZb(w:World)(a b:Str)(haz:a.length<=1000000)(hbz:b.length<=1000000):
 Calls Tryz.prog 174 #[.string (bs a), .string (bs b)] w fun e w'=>e= .returned (.int .i64 (zZ a b:Nat))/\∃q,w'=w.drewN q:=by
 have hza:=xbZ a
 have hzb:=xbZ b
 obtain⟨R,hR⟩:∃R,R=zZ a b:=⟨_,rfl⟩
 have H0:Hid (R=0+zZ (a.drop 0) (b.drop 0)):=by show R=_;rw[hR,List.drop_zero,List.drop_zero,Nat.zero_add]
 rw[<-hR]
 clear hR
 go_enter Tryz.func174,Tryz.ntmps174
 go_wp2_with fail
 go_loopw [5] (fun iv wx=>∃k:Nat,k<=a.length/\k<=b.length/\iv= .int .i64 k/\Hid (R=k+zZ (a.drop k) (b.drop k))/\Hid (∃q,wx=w.drewN q)) (fun iv _=>a.length-(intOf iv).toNat)
 case atStart=>exact⟨0,by omega,by omega,rfl,H0.out,0,rfl⟩
 case round=>
  obtain⟨k,hka,hkb,rfl,HS,HQ⟩:=hrel
  have HQ2:Hid (∀nq,∃q,wr.drewN nq=w.drewN q):=fun nq=>by
   obtain⟨q,hq⟩:=HQ.out
   exact⟨_,by rw[hq];exact World.drewN_drewN _ _ _⟩
  have x0:(0:Int)<=(k:Int):=by omega
  by_cases h1:k<a.length
  ·have g1:decide ((k:Int)<(a.length:Int))=true:=by simp;omega
   have g1':decide (k<a.length)=true:=by simp;omega
   have x1:(k:Int)<((bs a).size:Int):=by omega
   have x1':(k:Int)<(a.length:Int):=by omega
   by_cases h2:k<b.length
   ·have g2:decide ((b.length:Int)<=(k:Int))=false:=by simp;omega
    have g2':decide (b.length<=k)=false:=by simp;omega
    have x2:(k:Int)<((bs b).size:Int):=by omega
    have x2':(k:Int)<(b.length:Int):=by omega
    have he:=syZ (by rw[hza];exact h1) (by rw[hzb];exact h2) h1 h2
    have hs:=foZ h1 h2
    by_cases h3:a[k]=b[k]
    ·rw[decide_eq_true h3]at he
     rw[if_pos h3]at hs
     have HS2:Hid (R=(k+1)+zZ (a.drop (k+1)) (b.drop (k+1))):=by
      show R=_
      rw[HS.out,hs]
      omega
     clear hs HS h3 HQ
     go_wp2_with fail
     go_quiet (fail)
     go_wp2_with fail
     go_roundw
     case measure=>go_light;simp[intOf];omega
     case rel=>go_light;exact⟨k+1,by omega,by omega,by first|rfl|go_num,HS2.out,HQ2.out _⟩
    ·rw[decide_eq_false h3]at he
     rw[if_neg h3]at hs
     have hr:R=k:=by rw[HS.out,hs];omega
     subst hr
     clear hs HS h3 HQ
     go_wp2_with fail
     go_quiet (fail)
     go_wp2_with fail
     go_ret
     exact⟨rfl,HQ2.out _⟩
   ·have g2:decide ((b.length:Int)<=(k:Int))=true:=by simp;omega
    have g2':decide (b.length<=k)=true:=by simp;omega
    have hr:R=k:=by rw[HS.out,ejZ (.inr (by omega))];omega
    subst hr
    clear HS HQ
    go_wp2_with fail
    go_quiet (fail)
    go_wp2_with fail
    go_ret
    exact⟨rfl,HQ2.out _⟩
  ·have g1:decide ((k:Int)<(a.length:Int))=false:=by simp;omega
   have g1':decide (k<a.length)=false:=by simp;omega
   have hr:R=k:=by rw[HS.out,ejZ (.inl (by omega))];omega
   obtain rfl:a.length=k:=by omega
   subst hr
   clear HS
   go_wp2_with fail
   go_ret
   exact⟨rfl,HQ.out⟩
end Go.Proofs.YtbgoibedicbkjaaGreatDoor.Idx
namespace Go.Proofs.YtbgoibedicbkjaaGreatDoor.Ef
open Go.RowKit Mem Own Canon Toks
theorem ojZb{q w:Nat}(h1:2 ^ w<=q)(h2:q<2*2 ^ w):Nat.log2 q=w:=by
 have hq:q≠0:=by have:=Nat.two_pow_pos w;omega
 have h3:=wkZ hq
 have h4:=ljZb q
 rw[Nat.pow_succ]at h4
 rcases Nat.lt_trichotomy (Nat.log2 q) w with h|h|h
 ·exfalso
  have:2 ^ (Nat.log2 q+1)<=2 ^ w:=Nat.pow_le_pow_right (by omega) h
  rw[Nat.pow_succ]at this
  omega
 ·exact h
 ·exfalso
  have:2 ^ (w+1)<=2 ^ Nat.log2 q:=Nat.pow_le_pow_right (by omega) h
  rw[Nat.pow_succ]at this
  omega
theorem daZb(w:World)(q:Nat)(h1:1<=q)(hq:q<=1000000):
 Calls Tryz.prog 175 #[.int .i64 q] w fun e w'=>e= .returned (.tuple #[.int .i64 (Nat.log2 q:Nat), .int .i64 (2 ^ Nat.log2 q:Nat)])/\w'=w:=by
 have HE:Hid (∀k p:Nat,p=2 ^ k->p<=q->q<2*p->Nat.log2 q=k/\2 ^ Nat.log2 q=p):=fun k p hp ha hb=>by
  subst hp
  have:=ojZb ha hb
  rw[this]
  exact⟨rfl,rfl⟩
 generalize Nat.log2 q=L at *
 generalize 2 ^ L=PL at *
 go_enter Tryz.func175,Tryz.ntmps175
 go_wp2_with fail
 go_loopw [4,5] (fun kv pv wr=>∃k p:Nat,k<p/\p<=q/\kv= .int .i64 k/\pv= .int .i64 p/\Hid (p=2 ^ k)/\wr=w) (fun _ pv _=>q-(intOf pv).toNat)
 case atStart=>exact⟨0,1,by omega,by omega,rfl,rfl,rfl,rfl⟩
 case round=>
  obtain⟨k,p,hk,hp,rfl,rfl,HP,rfl⟩:=hrel
  have s1:IntKind.i64.wrap (2*(p:Int))=((2*p:Nat):Int):=by rw[IntWalk.i64_in _ (by omega)];omega
  have s2:IntKind.i64.wrap ((k:Int)+1)=((k+1:Nat):Int):=by rw[IntWalk.i64_in _ (by omega)];omega
  by_cases hlt:2*p<=q
  ·have g:decide (((2*p:Nat):Int)<=(q:Int))=true:=decide_eq_true (by omega)
   have g':decide (2*(p:Int)<=(q:Int))=true:=decide_eq_true (by omega)
   have HP2:Hid (2*p=2 ^ (k+1)):=by show _=_;rw[HP.out,Nat.pow_succ];omega
   have f1:k+1<2*p:=by omega
   have f2:p<2*p:=by omega
   generalize 2*p=p2 at *
   clear HP
   go_wp2_with fail
   go_roundw
   case measure=>go_light;simp[intOf];omega
   case rel=>go_light;exact⟨k+1,p2,by omega,by omega,by first|rfl|go_num,by first|rfl|go_num,HP2.out,by first|rfl|trivial⟩
  ·have g:decide (((2*p:Nat):Int)<=(q:Int))=false:=decide_eq_false (by omega)
   have g':decide (2*(p:Int)<=(q:Int))=false:=decide_eq_false (by omega)
   obtain⟨e1,e2⟩:=HE.out k p HP.out hp (by omega)
   generalize 2*p=p2 at *
   subst e1 e2
   clear HE HP
   go_wp2_with fail
   go_ret2
   exact⟨rfl,rfl⟩
theorem ssZ(w:World)(bound n:Nat)(h1:1<=n)(h2:n<=bound)(hb:bound<=1000000):
 Calls Tryz.prog 151 #[.int .i64 bound, .int .i64 n] w fun e w'=>e= .returned (.int .i64 (efW bound n:Nat))/\w'=w:=by
 have hq:1<=bound / n:=(Nat.one_le_div_iff (by omega)).2 h2
 have hql:bound / n<=bound:=Nat.div_le_self _ _
 have D:=dgZb ((bound / n:Nat):Int) w (by omega) (by omega)
 have hl:lg ((bound / n:Nat):Int)=(efW bound n:Nat):=rfl
 rw[hl]at D
 have hll:efW bound n<=bound:=by
  unfold efW
  have:=Nat.log2_le_self (bound / n)
  omega
 have hn0:¬(n:Int)=0:=by omega
 have hn1:((n:Int)==0)=false:=by simpa using (by omega:¬n=0)
 have u1:IntKind.u64.wrap ((bound / n:Nat):Int)=((bound / n:Nat):Int):=by rw[IntKind.wrap_u64];omega
 have u2:IntKind.i64.wrap ((bound / n:Nat):Int)=((bound / n:Nat):Int):=IntWalk.i64_in _ (by omega)
 have u3:IntKind.i64.wrap ((efW bound n:Int)+1-1)=((efW bound n:Nat):Int):=by rw[IntWalk.i64_in _ (by omega)];omega
 have ud:Int.tdiv (bound:Int) (n:Int)=((bound / n:Nat):Int):=by rw[Int.tdiv_eq_ediv_of_nonneg (by omega)];rfl
 have DD:=hid D
 clear D hl
 go_enter Tryz.func151,Tryz.ntmps151
 go_wp2_with fail
 refine DD.out.mono ?_
 rintro e w' ⟨rfl,rfl⟩
 go_wp2_with fail
 go_ret
 exact⟨rfl,rfl⟩
end Go.Proofs.YtbgoibedicbkjaaGreatDoor.Ef
