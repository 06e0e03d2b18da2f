/- Plain: rising texts in buckets (chapter 16): the bytes that are writte -/
import Derived.Test.YtmlaajebadfkoaaGreatDoorZTwoPacks11
import Derived.Test.YtmlaajebadfkoaaGreatDoorZTwoPacks10
import Derived.Test.YtmlaajebadfkoaaGreatDoorZTwoPacks15
import Derived.BigQuiet
import Derived.Deep.QuietTactic
namespace Go.Proofs.YtmlaajebadfkoaaGreatDoor end Go.Proofs.YtmlaajebadfkoaaGreatDoor open Go.Proofs.YtmlaajebadfkoaaGreatDoor
open Go.Lib (hid)
set_option maxHeartbeats 1000000
set_option maxRecDepth 100000
namespace Go.Proofs.YtmlaajebadfkoaaGreatDoor.Idx
open Go.Proofs.YtmlaajebadfkoaaGreatDoor.NumPut (iZ)
def natS(s:Str):List Nat:=s.map UInt8.toNat
def ofZ(s:Str):List Nat:=iZ s.length++natS s
def kbZ:Str->Str->Nat
 |a :: s,b :: t=>if a=b then kbZ s t+1 else 0
 |_,_=>0
theorem tmZ:∀a b,kbZ a b<=a.length/\kbZ a b<=b.length
 | [],b=>by simp[kbZ]
 |a :: s,[]=>by simp[kbZ]
 |a :: s,b :: t=>by
  have:=tmZ s t
  rw[kbZ]
  split<;>simp<;>omega
def qgZ:Str->List Str->List Nat
 |_,[]=> []
 |was,x :: t=>iZ (kbZ was x)++ofZ (x.drop (kbZ was x))++qgZ x t
def xZ:List Str->List Nat
 | []=> []
 |x :: t=>ofZ x++qgZ x t
theorem zuZ:∀ (t:List Str) (was x:Str),qgZ was (t++ [x])=qgZ was t++(iZ (kbZ (t.getLast?.getD was) x)++ofZ (x.drop (kbZ (t.getLast?.getD was) x)))
 | [],was,x=>by simp[qgZ]
 |y :: t,was,x=>by
  rw[List.cons_append,qgZ,zuZ t y x,qgZ]
  have e:((y :: t).getLast?.getD was)=t.getLast?.getD y:=by
   cases t with
   |nil=>rfl
   |cons z s=>simp[List.getLast?_cons]
  rw[e]
  simp only[List.append_assoc]
theorem uaZb{l:List Str}(h:l≠ [])(x was:Str)(hw:l.getLast?=some was):xZ (l++ [x])=xZ l++(iZ (kbZ was x)++ofZ (x.drop (kbZ was x))):=by
 cases l with
 |nil=>exact absurd rfl h
 |cons y t=>
  rw[List.cons_append,xZ,zuZ,xZ]
  have e:t.getLast?.getD y=was:=by
   cases t with
   |nil=>simpa using hw
   |cons z s=>simp[List.getLast?_cons]at hw ⊢;exact hw
  rw[e,List.append_assoc]
def cmZ(size:Nat):Nat->List Str->List (List Str)
 |0,_=> []
 |f+1,l=>if l= []then []else l.take size :: cmZ size f (l.drop size)
def rlZ(size:Nat)(l:List Str):List (List Str):=cmZ size l.length l
def ceZ(size:Nat)(l:List Str):List Nat:=
 iZ l.length++(rlZ size l).flatMap (fun c=>iZ (xZ c).length)++(rlZ size l).flatMap xZ
end Go.Proofs.YtmlaajebadfkoaaGreatDoor.Idx
namespace Go.Proofs.YtmlaajebadfkoaaGreatDoor.Idx
open Go.RowKit Mem Own Canon Sift
def biZ(was s:Str):Bool:=decide (1<=s.length)&&(decide (s.length<=25)&&decide (was<s))
theorem mmZb(s:Str)(h:s≠ []):((bs s).toList==({data:=#[] }:ByteArray).toList)=false/\((bs s).toList== [])=false/\(bs s).toList.isEmpty=false/\¬(bs s).toList= []:=by
 have e:(bs s).toList=s:=by rw[ByteArray.toList_eq,miZ]
 have e2:({data:=#[] }:ByteArray).toList= []:=by rw[ByteArray.toList_eq]
 rw[e,e2]
 cases s with
 |nil=>exact absurd rfl h
 |cons x t=>exact⟨rfl,rfl,rfl,by simp⟩
theorem arZb:((bs []).toList==({data:=#[] }:ByteArray).toList)=true/\((bs []).toList== [])=true/\(bs []).toList.isEmpty=true/\(bs []).toList= []:=by
 have e:(bs []).toList= []:=by rw[ByteArray.toList_eq,miZ]
 have e2:({data:=#[] }:ByteArray).toList= []:=by rw[ByteArray.toList_eq]
 rw[e,e2]
 exact⟨rfl,rfl,rfl,rfl⟩
theorem npZb(P:Program)(t:TypeId)(a b:Str)(w:World):(binOp .gtr t (.string (bs a)) (.string (bs b))).run P w= .ok (.bool (decide (b<a))) w:=by
 have h:(binOp .gtr t (.string (bs a)) (.string (bs b))).run P w= .ok (.bool (!(Op.bytesLess (bs a).toList (bs b).toList || (bs a).toList==(bs b).toList))) w:=rfl
 rw[h,yuZ,str_eq]
 rcases plZ a b with h|h|h
 ·simp[h,rmZ h]
 ·subst h
  simp[beZ]
 ·have h1:¬a<b:=rmZ h
  have h2:a≠b:=fun e=>beZ b (by rw[e]at h;exact h)
  simp[h,h1,h2]
theorem opZb(P:Program)(t:TypeId)(a b:Str)(w:World):(binOp .leq t (.string (bs a)) (.string (bs b))).run P w= .ok (.bool (!decide (b<a))) w:=by
 have h:(binOp .leq t (.string (bs a)) (.string (bs b))).run P w= .ok (.bool (Op.bytesLess (bs a).toList (bs b).toList || (bs a).toList==(bs b).toList)) w:=rfl
 rw[h,yuZ,str_eq]
 rcases plZ a b with h|h|h
 ·simp[h,rmZ h]
 ·subst h
  simp[beZ]
 ·have h1:¬a<b:=rmZ h
  have h2:a≠b:=fun e=>beZ b (by rw[e]at h;exact h)
  simp[h,h1,h2]
theorem ojZb(w:World)(was s:Str):Calls Tryz.prog 242 #[.string (bs was), .string (bs s)] w fun e w'=>e= .returned (.bool (biZ was s))/\w'=w:=by
 have hz:=ybZ s
 by_cases h0:s= []
 ·subst h0
  have hr:biZ was []=false:=rfl
  rw[hr]
  obtain⟨a1,a2,a3,a4⟩:=arZb
  go_enter Tryz.func242,Tryz.ntmps242
  go_wp2_with fail
  go_ret
  exact⟨rfl,rfl⟩
 ·obtain⟨a1,a2,a3,a4⟩:=mmZb s h0
  have h1:1<=s.length:=List.length_pos_iff.2 h0
  have hg:=fun wx=>npZb Tryz.prog 9 s was wx
  have hr:biZ was s=(decide (s.length<=25)&&decide (was<s)):=by simp[biZ,h1]
  rw[hr]
  generalize decide (was<s)=D at *
  generalize bs s=S at *
  generalize bs was=W at *
  clear hr h0
  by_cases h2:s.length<=25
  ·have z2:decide ((s.length:Int)<=25)=true:=by simp;omega
   have z3:decide (s.length<=25)=true:=by simpa using h2
   rw[z3]
   go_enter Tryz.func242,Tryz.ntmps242
   go_wp2_with fail
   go_ret
   exact⟨by simp,rfl⟩
  ·have z2:decide ((s.length:Int)<=25)=false:=by simp;omega
   have z3:decide (s.length<=25)=false:=by simpa using h2
   rw[z3]
   go_enter Tryz.func242,Tryz.ntmps242
   go_wp2_with fail
   go_ret
   exact⟨by simp,rfl⟩
def tcZ:Str->List Str->Bool
 |_,[]=>true
 |was,s :: t=>biZ was s&&tcZ s t
def kjZ(l:List Str):Bool:=tcZ [] l&&decide (l.length<=1048576)
theorem lsZ{u t:Str}{l:List Str}{k:Nat}(h:l[k]? =some t):tcZ u (l.drop k)=(biZ u t&&tcZ t (l.drop (k+1))):=by
 obtain⟨hk,e⟩:=List.getElem?_eq_some_iff.1 h
 rw[List.drop_eq_getElem_cons hk,tcZ,e]
theorem vdZb(w:World)(A:Option Addr)(n c:Nat)(ls:List Str)(hn:ls.length=n)(hN:n<=3000000000)(ha:Row w w.heap.size A n 1 (pgZ ls)):
 Calls Tryz.prog 194 #[.slice A n c] w fun e w'=>e= .returned (.bool (kjZ ls))/\w'=w:=by
 have HN:=hid hn
 obtain⟨R,hR⟩:∃R,R=kjZ ls:=⟨_,rfl⟩
 have HR:Hid (R=(tcZ [] ls&&decide (n<=1048576))):=by show R=_;rw[hR,<-hn];rfl
 rw[<-hR]
 clear hn hR
 go_enter Tryz.func194,Tryz.ntmps194
 go_wp2_with fail
 go_loopw [3,8] (fun uv iv wx=>∃ (k:Nat) (u:Str),k<=n/\iv= .int .i64 k/\uv= .string (bs u)/\Hid (tcZ [] ls=tcZ u (ls.drop k))/\wx=w) (fun _ iv _=>n-(intOf iv).toNat)
 case atStart=>exact⟨0,[],by omega,rfl,rfl,rfl,rfl⟩
 case round=>
  obtain⟨k,u,hk,rfl,rfl,HS,rfl⟩:=hrel
  by_cases hlt:k<n
  ·have gk:decide ((k:Int)<(n:Int))=true:=by simp;omega
   have gk':decide (k<n)=true:=by simp;omega
   have x0:(0:Int)<=(k:Int):=by omega
   have x1:(k:Int)<(n:Int):=by omega
   obtain⟨b,off,t,rfl,_,ht,ck⟩:=Row.str ha HN.out hlt
   have hst:=lsZ (u:=u) ht
   have D:=hid (ojZb wr u t)
   by_cases hm:biZ u t=true
   ·rw[hm,Bool.true_and]at hst
    rw[hm]at D
    have HS2:Hid (tcZ [] ls=tcZ t (ls.drop (k+1))):=HS.out.trans hst
    clear HS hst hm ht
    go_wp2_with(refine D.out.mono ?_;rintro e w' ⟨rfl,rfl⟩)
    go_roundw
    case measure=>go_light;simp[intOf];omega
    case rel=>go_light;exact⟨k+1,t,by omega,by first|rfl|go_num,rfl,HS2.out,by first|rfl|trivial⟩
   ·have hm:biZ u t=false:=by simpa using hm
    rw[hm,Bool.false_and]at hst
    rw[hm]at D
    have hr:R=false:=by rw[HR.out,HS.out,hst];rfl
    subst hr
    clear HS hst hm ht HR
    go_wp2_with(refine D.out.mono ?_;rintro e w' ⟨rfl,rfl⟩)
    go_ret
    exact⟨rfl,rfl⟩
  ·obtain rfl:k=n:=by omega
   have gk:decide ((k:Int)<(k:Int))=false:=by simp
   have gk':decide (k<k)=false:=by simp
   have hr:R=decide (k<=1048576):=by
    have h:=HS.out
    rw[List.drop_of_length_le (by rw[HN.out];exact Nat.le_refl _)]at h
    rw[HR.out,h]
    simp[tcZ]
   by_cases hz:k<=1048576
   ·have z1:decide ((k:Int)<=1048576)=true:=by simp;omega
    rw[decide_eq_true hz]at hr
    subst hr
    clear HS HR hlt
    go_wp2_with fail
    go_ret
    exact⟨rfl,rfl⟩
   ·have z1:decide ((k:Int)<=1048576)=false:=by simp;omega
    rw[decide_eq_false hz]at hr
    subst hr
    clear HS HR hlt
    go_wp2_with fail
    go_ret
    exact⟨rfl,rfl⟩
theorem avZ(w:World)(A:Option Addr)(n c:Nat)(ls:List Str)(hn:ls.length=n)(hN:n<=3000000000)(ha:Row w w.heap.size A n 1 (pgZ ls)):
 Calls Tryz.prog 206 #[.slice A n c] w fun e w'=>e= .returned (.bool (kjZ ls))/\∃q,w'=w.drewN q:=by
 have HN:=hid hn
 obtain⟨R,hR⟩:∃R,R=kjZ ls:=⟨_,rfl⟩
 have HR:Hid (R=(tcZ [] ls&&decide (n<=1048576))):=by show R=_;rw[hR,<-hn];rfl
 rw[<-hR]
 clear hn hR
 by_cases hz:n<=1048576
 ·have z1:decide ((1048576:Int)<(n:Int))=false:=by simp;omega
  have z1':decide (1048576<n)=false:=by simp;omega
  have HR2:Hid (R=tcZ [] ls):=by show R=_;rw[HR.out,decide_eq_true hz,Bool.and_true]
  clear HR
  go_enter Tryz.func206,Tryz.ntmps206
  go_wp2_with fail
  go_loopw [3] (fun iv wx=>∃k:Nat,k<=n/\iv= .int .i64 k/\Hid (tcZ [] ls=tcZ (if k=0 then []else ls.getD (k-1) []) (ls.drop k))/\Hid (∃q,wx=w.drewN q)) (fun iv _=>n-(intOf iv).toNat)
  case atStart=>exact⟨0,by omega,rfl,rfl,0,rfl⟩
  case round=>
   obtain⟨k,hk,rfl,HS,HQ⟩:=hrel
   by_cases hlt:k<n
   ·have gk:decide ((k:Int)<(n:Int))=true:=by simp;omega
    have gk':decide (k<n)=true:=by simp;omega
    have x0:(0:Int)<=(k:Int):=by omega
    have x1:(k:Int)<(n:Int):=by omega
    have har:Row wr w.heap.size A n 1 (pgZ ls):=by obtain⟨q,hq⟩:=HQ.out;rw[hq];exact ha
    obtain⟨b,off,t,rfl,_,ht,ck⟩:=Row.str har HN.out hlt
    have hst:=lsZ (u:=if k=0 then []else ls.getD (k-1) []) ht
    have hz2:=ybZ t
    have HQ2:Hid (∀nq,∃q,wr.drewN nq=w.drewN q):=fun nq=>by
     obtain⟨q,hq⟩:=HQ.out
     exact⟨_,by rw[hq];exact World.drewN_drewN _ _ _⟩
    by_cases h1:1<=t.length/\t.length<=25
    ·have y1:decide ((t.length:Int)<1)=false:=by simp;omega
     have y2:decide ((25:Int)<(t.length:Int))=false:=by simp;omega
     have y2':decide (25<t.length)=false:=by simp;omega
     by_cases h0:k=0
     ·have g0:decide ((0:Int)<(k:Int))=false:=by simp;omega
      have g0':decide (0<k)=false:=by simp;omega
      have hm:biZ [] t=true:=by
       have h2:([]:Str)<t:=by
        cases t with
        |nil=>simp at h1
        |cons a u=>exact List.Lex.nil
       simp[biZ,h1,h2]
      rw[if_pos h0,hm,Bool.true_and]at hst
      have HS2:Hid (tcZ [] ls=tcZ (if k+1=0 then []else ls.getD (k+1-1) []) (ls.drop (k+1))):=by
       have h:=HS.out
       rw[if_pos h0,hst]at h
       show _=_
       rw[if_neg (by omega),Nat.add_sub_cancel,show ls.getD k []=t by rw[List.getD_eq_getElem?_getD,ht];rfl]
       exact h
      clear HS hst hm ht h1 HQ h0
      go_wp2_with fail
      go_quiet (fail)
      go_wp2_with fail
      go_roundw
      case measure=>go_light;simp[intOf];omega
      case rel=>go_light;exact⟨k+1,by omega,by first|rfl|go_num,HS2.out,HQ2.out _⟩
     ·obtain⟨k1,hk1⟩:∃k1,k=k1+1:=⟨k-1,by omega⟩
      obtain⟨p,hp⟩:∃p,ls[k1]? =some p:=⟨_,List.getElem?_eq_getElem (by have:=HN.out;omega)⟩
      have ck1:wr.cell? ⟨b,off+k1,none⟩=some (.string (bs p)):=by
       obtain⟨b',off',p',hA,_,hp',d⟩:=Row.str har HN.out (k:=k1) (by omega)
       injection hA with hA
       injection hA with e1 e2
       subst e1 e2
       rw[hp]at hp'
       injection hp' with hp'
       subst hp'
       exact d
      have hgd:ls.getD (k-1) []=p:=by rw[hk1,Nat.add_sub_cancel,List.getD_eq_getElem?_getD,hp];rfl
      have s3:IntKind.i64.wrap ((k:Int)-1)=(k1:Int):=by rw[IntWalk.i64_in _ (by omega)];omega
      have x2:(0:Int)<=(k1:Int):=by omega
      have x3:(k1:Int)<(n:Int):=by omega
      have g0:decide ((0:Int)<(k:Int))=true:=by simp;omega
      have g0':decide (0<k)=true:=by simp;omega
      have hle:=fun wx=>opZb Tryz.prog 9 t p wx
      rw[if_neg h0,hgd]at hst
      have hmt:biZ p t=decide (p<t):=by simp[biZ,h1]
      rw[hmt]at hst
      have HS1:=HS.out
      rw[if_neg h0,hgd,hst]at HS1
      have HS2:Hid (decide (p<t)=true->tcZ [] ls=tcZ (if k+1=0 then []else ls.getD (k+1-1) []) (ls.drop (k+1))):=fun hd=>by
       rw[hd,Bool.true_and]at HS1
       rw[if_neg (by omega),Nat.add_sub_cancel,show ls.getD k []=t by rw[List.getD_eq_getElem?_getD,ht];rfl]
       exact HS1
      have HS3:Hid (decide (p<t)=false->R=false):=fun hd=>by
       rw[hd,Bool.false_and]at HS1
       rw[HR2.out,HS1]
      generalize decide (p<t)=D at *
      clear hst hmt HS1 HS hgd hp ht h1 HQ hk1 h0
      cases D with
      |true=>
       have HS4:=hid (HS2.out rfl)
       clear HS2 HS3
       go_wp2_with fail
       go_quiet (fail)
       go_wp2_with fail
       go_roundw
       case measure=>go_light;simp[intOf];omega
       case rel=>go_light;exact⟨k+1,by omega,by first|rfl|go_num,HS4.out,HQ2.out _⟩
      |false=>
       obtain rfl:=HS3.out rfl
       clear HS2 HS3 HR2
       go_wp2_with fail
       go_quiet (fail)
       go_wp2_with fail
       go_ret
       exact⟨rfl,HQ2.out _⟩
    ·have hm:∀u,biZ u t=false:=fun u=>by
      rw[Bool.eq_false_iff]
      intro h
      simp[biZ]at h
      omega
     rw[hm,Bool.false_and]at hst
     have hr:R=false:=by rw[HR2.out,HS.out,hst]
     subst hr
     by_cases h2:1<=t.length
     ·have y1:decide ((t.length:Int)<1)=false:=by simp;omega
      have y2:decide ((25:Int)<(t.length:Int))=true:=by simp;omega
      have y2':decide (25<t.length)=true:=by simp;omega
      clear HS hst hm ht h1 h2 HR2 HQ
      go_wp2_with fail
      go_quiet (fail)
      go_wp2_with fail
      go_ret
      exact⟨rfl,HQ2.out _⟩
     ·have y1:decide ((t.length:Int)<1)=true:=by simp;omega
      clear HS hst hm ht h1 h2 HR2 HQ
      go_wp2_with fail
      go_quiet (fail)
      go_wp2_with fail
      go_ret
      exact⟨rfl,HQ2.out _⟩
   ·obtain rfl:k=n:=by omega
    have gk:decide ((k:Int)<(k:Int))=false:=by simp
    have gk':decide (k<k)=false:=by simp
    have hr:R=true:=by
     have h:=HS.out
     rw[List.drop_of_length_le (by rw[HN.out];exact Nat.le_refl _),tcZ]at h
     rw[HR2.out,h]
    subst hr
    clear HS HR2 hlt
    go_wp2_with fail
    go_ret
    exact⟨rfl,HQ.out⟩
 ·have z1:decide ((1048576:Int)<(n:Int))=true:=by simp;omega
  have z1':decide (1048576<n)=true:=by simp;omega
  have hr:R=false:=by rw[HR.out,decide_eq_false hz,Bool.and_false]
  subst hr
  clear HR
  go_enter Tryz.func206,Tryz.ntmps206
  go_wp2_with fail
  go_ret
  exact⟨rfl,0,rfl⟩
end Go.Proofs.YtmlaajebadfkoaaGreatDoor.Idx
namespace Go.Proofs.YtmlaajebadfkoaaGreatDoor.Ef
open Go.RowKit Mem Own Canon
def jiZ(bound:Nat)(u:Option Nat)(x:Nat):Bool:=decide (x<bound)&&(match u with|none=>true|some y=>decide (y<x))
def fcZ(bound:Nat):Option Nat->List Nat->Bool
 |_,[]=>true
 |u,x :: t=>jiZ bound u x&&fcZ bound (some x) t
def stZ:Option Nat->Int
 |none=> -1
 |some y=>y
theorem cyZ{bound:Nat}{u:Option Nat}{x:Nat}{l:List Nat}{k:Nat}(h:l[k]? =some x):fcZ bound u (l.drop k)=(jiZ bound u x&&fcZ bound (some x) (l.drop (k+1))):=by
 obtain⟨hk,e⟩:=List.getElem?_eq_some_iff.1 h
 rw[List.drop_eq_getElem_cons hk,fcZ,e]
theorem ppZb(bound:Nat)(u:Option Nat)(x:Nat):jiZ bound u x=(decide ((x:Int)<(bound:Int))&&decide (stZ u<(x:Int))):=by
 unfold jiZ
 cases u with
 |none=>
  have:decide (stZ none<(x:Int))=true:=decide_eq_true (by show(-1:Int)<_;omega)
  rw[this]
  congr 1
  exact decide_eq_decide.2 (by omega)
 |some y=>
  congr 1
  ·exact decide_eq_decide.2 (by omega)
  ·exact decide_eq_decide.2 (by simp only[stZ];omega)
theorem wdZb(w:World)(bound:Nat)(A:Option Addr)(n c:Nat)(ls:List Nat)(hn:ls.length=n)(hN:n<=3000000000)(ha:Row w w.heap.size A n 1 (rZ .i64 ls)):
 Calls Tryz.prog 197 #[.int .i64 bound, .slice A n c] w fun e w'=>e= .returned (.bool (fcZ bound none ls))/\w'=w:=by
 have HN:=hid hn
 obtain⟨R,hR⟩:∃R,R=fcZ bound none ls:=⟨_,rfl⟩
 have HR:Hid (R=fcZ bound none (ls.drop 0)):=hR
 rw[<-hR]
 clear hn hR
 go_enter Tryz.func197,Tryz.ntmps197
 go_wp2_with fail
 go_loopw [5,10] (fun uv iv wx=>∃ (k:Nat) (u:Option Nat),k<=n/\iv= .int .i64 k/\uv= .int .i64 (stZ u)/\Hid (R=fcZ bound u (ls.drop k))/\wx=w) (fun _ iv _=>n-(intOf iv).toNat)
 case atStart=>exact⟨0,none,by omega,rfl,rfl,HR.out,rfl⟩
 case round=>
  obtain⟨k,u,hk,rfl,rfl,HS,rfl⟩:=hrel
  by_cases hlt:k<n
  ·have gk:decide ((k:Int)<(n:Int))=true:=by simp;omega
   have gk':decide (k<n)=true:=by simp;omega
   have x0:(0:Int)<=(k:Int):=by omega
   have x1:(k:Int)<(n:Int):=by omega
   obtain⟨b,off,x,rfl,_,hx,ck⟩:=bbZ ha HN.out hlt
   have hst:=cyZ (bound:=bound) (u:=u) hx
   rw[ppZb]at hst
   have hw:Hid (stZ (some x)=(x:Int)):=rfl
   have HW:Hid (Value.int .i64 (x:Nat)= .int .i64 (stZ (some x))):=rfl
   generalize stZ u=V at *
   by_cases h1:(x:Int)<=V
   ·have y1:decide ((x:Int)<=V)=true:=decide_eq_true h1
    rw[decide_eq_false (by omega:¬V<(x:Int)),Bool.and_false,Bool.false_and]at hst
    have hr:R=false:=HS.out.trans hst
    subst hr
    clear HS hst hx HW h1 hw
    go_wp2_with fail
    go_ret
    exact⟨rfl,rfl⟩
   ·have y1:decide ((x:Int)<=V)=false:=decide_eq_false h1
    rw[decide_eq_true (by omega:V<(x:Int)),Bool.and_true]at hst
    by_cases h2:(x:Int)<(bound:Int)
    ·have y2:decide ((bound:Int)<=(x:Int))=false:=decide_eq_false (by omega)
     have y2':decide (bound<=x)=false:=decide_eq_false (by omega)
     rw[decide_eq_true h2,Bool.true_and]at hst
     have HS2:Hid (R=fcZ bound (some x) (ls.drop (k+1))):=HS.out.trans hst
     clear HS hst hx h1 h2 hw
     go_wp2_with fail
     go_roundw
     case measure=>go_light;simp[intOf];omega
     case rel=>go_light;exact⟨k+1,some x,by omega,by first|rfl|go_num,HW.out,HS2.out,by first|rfl|trivial⟩
    ·have y2:decide ((bound:Int)<=(x:Int))=true:=decide_eq_true (by omega)
     have y2':decide (bound<=x)=true:=decide_eq_true (by omega)
     rw[decide_eq_false h2,Bool.false_and]at hst
     have hr:R=false:=HS.out.trans hst
     subst hr
     clear HS hst hx HW h1 h2 hw
     go_wp2_with fail
     go_ret
     exact⟨rfl,rfl⟩
  ·obtain rfl:k=n:=by omega
   have gk:decide ((k:Int)<(k:Int))=false:=by simp
   have gk':decide (k<k)=false:=by simp
   have hr:R=true:=by rw[HS.out,List.drop_of_length_le (by rw[HN.out];exact Nat.le_refl _)];rfl
   subst hr
   clear HS HR hlt
   go_wp2_with fail
   go_ret
   exact⟨rfl,rfl⟩
theorem xoZ(w:World)(bound:Nat)(A:Option Addr)(n c:Nat)(ls:List Nat)(hn:ls.length=n)(hN:n<=3000000000)(ha:Row w w.heap.size A n 1 (rZ .i64 ls)):
 Calls Tryz.prog 207 #[.int .i64 bound, .slice A n c] w fun e w'=>e= .returned (.bool (fcZ bound none ls))/\∃q,w'=w.drewN q:=by
 have HN:=hid hn
 obtain⟨R,hR⟩:∃R,R=fcZ bound none ls:=⟨_,rfl⟩
 have HR:Hid (R=fcZ bound none (ls.drop 0)):=hR
 rw[<-hR]
 clear hn hR
 go_enter Tryz.func207,Tryz.ntmps207
 go_wp2_with fail
 go_loopw [5] (fun iv wx=>∃k:Nat,k<=n/\iv= .int .i64 k/\Hid (R=fcZ bound (if k=0 then none else some (ls.getD (k-1) 0)) (ls.drop k))/\Hid (∃q,wx=w.drewN q)) (fun iv _=>n-(intOf iv).toNat)
 case atStart=>exact⟨0,by omega,rfl,HR.out,0,rfl⟩
 case round=>
  obtain⟨k,hk,rfl,HS,HQ⟩:=hrel
  clear HR
  by_cases hlt:k<n
  ·have gk:decide ((k:Int)<(n:Int))=true:=by simp;omega
   have gk':decide (k<n)=true:=by simp;omega
   have x0:(0:Int)<=(k:Int):=by omega
   have x1:(k:Int)<(n:Int):=by omega
   have har:Row wr w.heap.size A n 1 (rZ .i64 ls):=by obtain⟨q,hq⟩:=HQ.out;rw[hq];exact ha
   obtain⟨b,off,x,rfl,_,hx,ck⟩:=bbZ har HN.out hlt
   have hst:=cyZ (bound:=bound) (u:=if k=0 then none else some (ls.getD (k-1) 0)) hx
   have hgk:ls.getD k 0=x:=by rw[List.getD_eq_getElem?_getD,hx];rfl
   have HQ2:Hid (∀nq,∃q,wr.drewN nq=w.drewN q):=fun nq=>by
    obtain⟨q,hq⟩:=HQ.out
    exact⟨_,by rw[hq];exact World.drewN_drewN _ _ _⟩
   have y0:decide ((x:Int)<0)=false:=by simp
   have HS3:Hid (jiZ bound (if k=0 then none else some (ls.getD (k-1) 0)) x=false->R=false):=fun hd=>by
    rw[HS.out,hst,hd,Bool.false_and]
   have HS2:Hid (jiZ bound (if k=0 then none else some (ls.getD (k-1) 0)) x=true->R=fcZ bound (if k+1=0 then none else some (ls.getD (k+1-1) 0)) (ls.drop (k+1))):=fun hd=>by
    rw[if_neg (by omega),Nat.add_sub_cancel,hgk,HS.out,hst,hd,Bool.true_and]
   clear hst hgk HS
   by_cases h2:x<bound
   ·have y2:decide ((bound:Int)<=(x:Int))=false:=decide_eq_false (by omega)
    have y2':decide (bound<=x)=false:=decide_eq_false (by omega)
    by_cases h0:k=0
    ·have g0:decide ((0:Int)<(k:Int))=false:=by simp;omega
     have g0':decide (0<k)=false:=by simp;omega
     have HS4:=hid (HS2.out (by rw[if_pos h0];simp[jiZ,h2]))
     clear HS2 HS3 hx HQ h0 h2
     go_wp2_with fail
     go_quiet (fail)
     go_wp2_with fail
     go_roundw
     case measure=>go_light;simp[intOf];omega
     case rel=>go_light;exact⟨k+1,by omega,by first|rfl|go_num,HS4.out,HQ2.out _⟩
    ·obtain⟨k1,hk1⟩:∃k1,k=k1+1:=⟨k-1,by omega⟩
     obtain⟨p,hp⟩:∃p,ls[k1]? =some p:=⟨_,List.getElem?_eq_getElem (by have:=HN.out;omega)⟩
     have ck1:wr.cell? ⟨b,off+k1,none⟩=some (.int .i64 (p:Nat)):=by
      obtain⟨b',off',p',hA,_,hp',d⟩:=bbZ har HN.out (i:=k1) (by omega)
      injection hA with hA
      injection hA with e1 e2
      subst e1 e2
      rw[hp]at hp'
      injection hp' with hp'
      subst hp'
      exact d
     have hgd:ls.getD (k-1) 0=p:=by rw[hk1,Nat.add_sub_cancel,List.getD_eq_getElem?_getD,hp];rfl
     rw[if_neg h0,hgd]at HS2 HS3
     have s3:IntKind.i64.wrap ((k:Int)-1)=(k1:Int):=by rw[IntWalk.i64_in _ (by omega)];omega
     have x2:(0:Int)<=(k1:Int):=by omega
     have x3:(k1:Int)<(n:Int):=by omega
     have g0:decide ((0:Int)<(k:Int))=true:=by simp;omega
     have g0':decide (0<k)=true:=by simp;omega
     by_cases h3:p<x
     ·have y3:decide ((x:Int)<=(p:Int))=false:=decide_eq_false (by omega)
      have y3':decide (x<=p)=false:=decide_eq_false (by omega)
      have HS4:=hid (HS2.out (by simp[jiZ,h2,h3]))
      clear HS2 HS3 hx HQ h0 h2 h3 hk1 hp hgd
      go_wp2_with fail
      go_quiet (fail)
      go_wp2_with fail
      go_roundw
      case measure=>go_light;simp[intOf];omega
      case rel=>go_light;exact⟨k+1,by omega,by first|rfl|go_num,HS4.out,HQ2.out _⟩
     ·have y3:decide ((x:Int)<=(p:Int))=true:=decide_eq_true (by omega)
      have y3':decide (x<=p)=true:=decide_eq_true (by omega)
      have hr:R=false:=HS3.out (by simp[jiZ,h3])
      subst hr
      clear HS2 HS3 hx HQ h0 h2 h3 hk1 hp hgd
      go_wp2_with fail
      go_quiet (fail)
      go_wp2_with fail
      go_ret
      exact⟨rfl,HQ2.out _⟩
   ·have y2:decide ((bound:Int)<=(x:Int))=true:=decide_eq_true (by omega)
    have y2':decide (bound<=x)=true:=decide_eq_true (by omega)
    have hr:R=false:=HS3.out (by simp[jiZ,h2])
    subst hr
    clear HS2 HS3 hx HQ h2
    go_wp2_with fail
    go_quiet (fail)
    go_wp2_with fail
    go_ret
    exact⟨rfl,HQ2.out _⟩
  ·obtain rfl:k=n:=by omega
   have gk:decide ((k:Int)<(k:Int))=false:=by simp
   have gk':decide (k<k)=false:=by simp
   have hr:R=true:=by rw[HS.out,List.drop_of_length_le (by rw[HN.out];exact Nat.le_refl _)];rfl
   subst hr
   clear HS hlt
   go_wp2_with fail
   go_ret
   exact⟨rfl,HQ.out⟩
end Go.Proofs.YtmlaajebadfkoaaGreatDoor.Ef
namespace Go.Proofs.YtmlaajebadfkoaaGreatDoor.Ef
open Go.Proofs.YtmlaajebadfkoaaGreatDoor.Huff (msb uZ bytesOf)
theorem oiZ:∀ (bound:Nat) (l:List Nat) (u:Option Nat),fcZ bound u l=true->∀x∈l,x<bound
 |bound,[],_,_,x,hx=>by cases hx
 |bound,y :: t,u,h,x,hx=>by
  rw[fcZ,Bool.and_eq_true]at h
  rcases List.mem_cons.1 hx with rfl|hx
  ·have h1:=h.1
   unfold jiZ at h1
   rw[Bool.and_eq_true,decide_eq_true_iff]at h1
   exact h1.1
  ·exact oiZ bound t (some y) h.2 x hx
theorem umZ:∀ (bound:Nat) (l:List Nat) (u:Option Nat),fcZ bound u l=true->∀ (k x y:Nat),l[k]? =some x->l[k+1]? =some y->x<y
 |bound,[],_,_,k,x,y,hx,_=>by simp at hx
 |bound,a :: t,u,h,k,x,y,hx,hy=>by
  rw[fcZ,Bool.and_eq_true]at h
  cases k with
  |zero=>
   simp only[List.getElem?_cons_zero,Option.some.injEq]at hx
   subst hx
   rw[List.getElem?_cons_succ]at hy
   cases t with
   |nil=>simp at hy
   |cons b s=>
    simp only[List.getElem?_cons_zero,Option.some.injEq]at hy
    subst hy
    have h2:=h.2
    rw[fcZ,Bool.and_eq_true]at h2
    have h3:=h2.1
    unfold jiZ at h3
    rw[Bool.and_eq_true]at h3
    simpa using h3.2
  |succ k=>
   rw[List.getElem?_cons_succ]at hx hy
   exact umZ bound t (some a) h.2 k x y hx hy
theorem dmZ:∀ (bound:Nat) (l:List Nat) (u:Option Nat),(∀x∈l,x<bound)->l.Pairwise (·< ·)->(∀y,u=some y->∀x∈l,y<x)->fcZ bound u l=true
 |_,[],_,_,_,_=>rfl
 |bound,x :: t,u,h1,h2,h3=>by
  rw[fcZ,Bool.and_eq_true]
  rw[List.pairwise_cons]at h2
  refine⟨?_,dmZ bound t (some x) (fun y hy=>h1 y (List.mem_cons_of_mem _ hy)) h2.2 (fun y hy z hz=>by injection hy with hy;rw[<-hy];exact h2.1 z hz)⟩
  unfold jiZ
  rw[Bool.and_eq_true]
  refine⟨decide_eq_true (h1 x List.mem_cons_self),?_⟩
  cases u with
  |none=>rfl
  |some y=>exact decide_eq_true (h3 y rfl x List.mem_cons_self)
theorem pfZ(w:Nat):∀l:List Nat,(scZ w l).length=l.length*w
 | []=>by simp[scZ]
 |x :: t=>by
  have h:=pfZ w t
  unfold scZ at h ⊢
  rw[List.flatMap_cons,List.length_append,h,uZ,List.length_cons,Nat.add_mul]
  omega
theorem vaZb(P:Nat){ls:List Nat}{j x:Nat}(hx:ls[j]? =some x)(hr:∀ (k x y:Nat),ls[k]? =some x->ls[k+1]? =some y->x<y):((ls.take j).map (·/ P)).getLast?.getD 0<=x / P:=by
 cases j with
 |zero=>simp
 |succ i=>
  obtain⟨hl,_⟩:=List.getElem?_eq_some_iff.1 hx
  have hy:ls[i]? =some ls[i]:=List.getElem?_eq_getElem (by omega)
  rw[List.take_add_one,hy]
  simp only[Option.toList_some,List.map_append,List.map_cons,List.map_nil,List.getLast?_append]
  exact Nat.div_le_div_right (Nat.le_of_lt (hr i _ _ hy hx))
theorem dyZ(P:Nat){ls:List Nat}{j x:Nat}(hx:ls[j]? =some x):((ls.take (j+1)).map (·/ P)).getLast?.getD 0=x / P:=by
 rw[List.take_add_one,hx]
 simp
theorem msZ(P:Nat){ls:List Nat}{j x:Nat}(hx:ls[j]? =some x):ncZ 0 ((ls.take (j+1)).map (·/ P))=ncZ 0 ((ls.take j).map (·/ P))++unary (x / P-((ls.take j).map (·/ P)).getLast?.getD 0):=by
 rw[List.take_add_one,hx,Option.toList_some,List.map_append,List.map_cons,List.map_nil]
 exact fsZ _ 0 (x / P)
end Go.Proofs.YtmlaajebadfkoaaGreatDoor.Ef
namespace Go.Proofs.YtmlaajebadfkoaaGreatDoor.Idx
open Go.RowKit Mem Own Canon Sift
theorem nsZ{a b:Str}{k:Nat}(ha:k<a.length)(hb:k<b.length):kbZ (a.drop k) (b.drop k)=if a[k]=b[k]then kbZ (a.drop (k+1)) (b.drop (k+1))+1 else 0:=by
 rw[List.drop_eq_getElem_cons ha,List.drop_eq_getElem_cons hb,kbZ]
theorem flZ{a b:Str}{k:Nat}(h:a.length<=k∨b.length<=k):kbZ (a.drop k) (b.drop k)=0:=by
 rcases h with h|h
 ·rw[List.drop_of_length_le h]
  cases b.drop k<;>rfl
 ·rw[List.drop_of_length_le h]
  cases a.drop k<;>rfl
theorem dfZb{a b:Str}{k:Nat}(ha:k<(bs a).size)(hb:k<(bs b).size)(ha':k<a.length)(hb':k<b.length):((((bs a)[k]'ha).toNat:Int)==(((bs b)[k]'hb).toNat:Int))=decide (a[k]'ha'=b[k]'hb'):=by
 have e1:(bs a)[k]'ha=a[k]'ha':=tzZ a k ha
 have e2:(bs b)[k]'hb=b[k]'hb':=tzZ b k hb
 rw[e1,e2]
 refine Bool.eq_iff_iff.2 ?_
 rw[beq_iff_eq,decide_eq_true_iff]
 constructor
 ·intro h
  exact UInt8.toNat_inj.1 (by omega)
 ·intro h
  rw[h]
theorem zgZb(w:World)(a b:Str)(haz:a.length<=1000000)(hbz:b.length<=1000000):
 Calls Tryz.prog 244 #[.string (bs a), .string (bs b)] w fun e w'=>e= .returned (.int .i64 (kbZ a b:Nat))/\∃q,w'=w.drewN q:=by
 have hza:=ybZ a
 have hzb:=ybZ b
 obtain⟨R,hR⟩:∃R,R=kbZ a b:=⟨_,rfl⟩
 have H0:Hid (R=0+kbZ (a.drop 0) (b.drop 0)):=by show R=_;rw[hR,List.drop_zero,List.drop_zero,Nat.zero_add]
 rw[<-hR]
 clear hR
 go_enter Tryz.func244,Tryz.ntmps244
 go_wp2_with fail
 go_loopw [5] (fun iv wx=>∃k:Nat,k<=a.length/\k<=b.length/\iv= .int .i64 k/\Hid (R=k+kbZ (a.drop k) (b.drop k))/\Hid (∃q,wx=w.drewN q)) (fun iv _=>a.length-(intOf iv).toNat)
 case atStart=>exact⟨0,by omega,by omega,rfl,H0.out,0,rfl⟩
 case round=>
  obtain⟨k,hka,hkb,rfl,HS,HQ⟩:=hrel
  have HQ2:Hid (∀nq,∃q,wr.drewN nq=w.drewN q):=fun nq=>by
   obtain⟨q,hq⟩:=HQ.out
   exact⟨_,by rw[hq];exact World.drewN_drewN _ _ _⟩
  have x0:(0:Int)<=(k:Int):=by omega
  by_cases h1:k<a.length
  ·have g1:decide ((k:Int)<(a.length:Int))=true:=by simp;omega
   have g1':decide (k<a.length)=true:=by simp;omega
   have x1:(k:Int)<((bs a).size:Int):=by omega
   have x1':(k:Int)<(a.length:Int):=by omega
   by_cases h2:k<b.length
   ·have g2:decide ((k:Int)<(b.length:Int))=true:=by simp;omega
    have g2':decide (k<b.length)=true:=by simp;omega
    have x2:(k:Int)<((bs b).size:Int):=by omega
    have x2':(k:Int)<(b.length:Int):=by omega
    have he:=dfZb (by rw[hza];exact h1) (by rw[hzb];exact h2) h1 h2
    have hs:=nsZ h1 h2
    by_cases h3:a[k]=b[k]
    ·rw[decide_eq_true h3]at he
     rw[if_pos h3]at hs
     have HS2:Hid (R=(k+1)+kbZ (a.drop (k+1)) (b.drop (k+1))):=by
      show R=_
      rw[HS.out,hs]
      omega
     clear hs HS h3 HQ
     go_wp2_with fail
     go_quiet (fail)
     go_wp2_with fail
     go_roundw
     case measure=>go_light;simp[intOf];omega
     case rel=>go_light;exact⟨k+1,by omega,by omega,by first|rfl|go_num,HS2.out,HQ2.out _⟩
    ·rw[decide_eq_false h3]at he
     rw[if_neg h3]at hs
     have hr:R=k:=by rw[HS.out,hs];omega
     subst hr
     clear hs HS h3 HQ
     go_wp2_with fail
     go_quiet (fail)
     go_wp2_with fail
     go_ret
     exact⟨rfl,HQ2.out _⟩
   ·have g2:decide ((k:Int)<(b.length:Int))=false:=by simp;omega
    have g2':decide (k<b.length)=false:=by simp;omega
    have hr:R=k:=by rw[HS.out,flZ (.inr (by omega))];omega
    subst hr
    clear HS HQ
    go_wp2_with fail
    go_quiet (fail)
    go_wp2_with fail
    go_ret
    exact⟨rfl,HQ2.out _⟩
  ·have g1:decide ((k:Int)<(a.length:Int))=false:=by simp;omega
   have g1':decide (k<a.length)=false:=by simp;omega
   have hr:R=k:=by rw[HS.out,flZ (.inl (by omega))];omega
   subst hr
   clear HS HQ
   go_wp2_with fail
   go_quiet (fail)
   go_wp2_with fail
   go_ret
   exact⟨rfl,HQ2.out _⟩
theorem ahZb(w:World)(a b:Str)(haz:a.length<=1000000)(hbz:b.length<=1000000):
 Calls Tryz.prog 167 #[.string (bs a), .string (bs b)] w fun e w'=>e= .returned (.int .i64 (kbZ a b:Nat))/\∃q,w'=w.drewN q:=by
 have hza:=ybZ a
 have hzb:=ybZ b
 obtain⟨R,hR⟩:∃R,R=kbZ a b:=⟨_,rfl⟩
 have H0:Hid (R=0+kbZ (a.drop 0) (b.drop 0)):=by show R=_;rw[hR,List.drop_zero,List.drop_zero,Nat.zero_add]
 rw[<-hR]
 clear hR
 go_enter Tryz.func167,Tryz.ntmps167
 go_wp2_with fail
 go_loopw [5] (fun iv wx=>∃k:Nat,k<=a.length/\k<=b.length/\iv= .int .i64 k/\Hid (R=k+kbZ (a.drop k) (b.drop k))/\Hid (∃q,wx=w.drewN q)) (fun iv _=>a.length-(intOf iv).toNat)
 case atStart=>exact⟨0,by omega,by omega,rfl,H0.out,0,rfl⟩
 case round=>
  obtain⟨k,hka,hkb,rfl,HS,HQ⟩:=hrel
  have HQ2:Hid (∀nq,∃q,wr.drewN nq=w.drewN q):=fun nq=>by
   obtain⟨q,hq⟩:=HQ.out
   exact⟨_,by rw[hq];exact World.drewN_drewN _ _ _⟩
  have x0:(0:Int)<=(k:Int):=by omega
  by_cases h1:k<a.length
  ·have g1:decide ((k:Int)<(a.length:Int))=true:=by simp;omega
   have g1':decide (k<a.length)=true:=by simp;omega
   have x1:(k:Int)<((bs a).size:Int):=by omega
   have x1':(k:Int)<(a.length:Int):=by omega
   by_cases h2:k<b.length
   ·have g2:decide ((b.length:Int)<=(k:Int))=false:=by simp;omega
    have g2':decide (b.length<=k)=false:=by simp;omega
    have x2:(k:Int)<((bs b).size:Int):=by omega
    have x2':(k:Int)<(b.length:Int):=by omega
    have he:=dfZb (by rw[hza];exact h1) (by rw[hzb];exact h2) h1 h2
    have hs:=nsZ h1 h2
    by_cases h3:a[k]=b[k]
    ·rw[decide_eq_true h3]at he
     rw[if_pos h3]at hs
     have HS2:Hid (R=(k+1)+kbZ (a.drop (k+1)) (b.drop (k+1))):=by
      show R=_
      rw[HS.out,hs]
      omega
     clear hs HS h3 HQ
     go_wp2_with fail
     go_quiet (fail)
     go_wp2_with fail
     go_roundw
     case measure=>go_light;simp[intOf];omega
     case rel=>go_light;exact⟨k+1,by omega,by omega,by first|rfl|go_num,HS2.out,HQ2.out _⟩
    ·rw[decide_eq_false h3]at he
     rw[if_neg h3]at hs
     have hr:R=k:=by rw[HS.out,hs];omega
     subst hr
     clear hs HS h3 HQ
     go_wp2_with fail
     go_quiet (fail)
     go_wp2_with fail
     go_ret
     exact⟨rfl,HQ2.out _⟩
   ·have g2:decide ((b.length:Int)<=(k:Int))=true:=by simp;omega
    have g2':decide (b.length<=k)=true:=by simp;omega
    have hr:R=k:=by rw[HS.out,flZ (.inr (by omega))];omega
    subst hr
    clear HS HQ
    go_wp2_with fail
    go_quiet (fail)
    go_wp2_with fail
    go_ret
    exact⟨rfl,HQ2.out _⟩
  ·have g1:decide ((k:Int)<(a.length:Int))=false:=by simp;omega
   have g1':decide (k<a.length)=false:=by simp;omega
   have hr:R=k:=by rw[HS.out,flZ (.inl (by omega))];omega
   obtain rfl:a.length=k:=by omega
   subst hr
   clear HS
   go_wp2_with fail
   go_ret
   exact⟨rfl,HQ.out⟩
end Go.Proofs.YtmlaajebadfkoaaGreatDoor.Idx
