/- The contracts of functions of Go's library that the walks call, laid a -/
import Derived.Test.YtbgoibedicbkjaaGreatDoorZTwoOpens11
import Derived.Test.YtbgoibedicbkjaaGreatDoorZTwoOpens1
import Derived.Test.YtbgoibedicbkjaaGreatDoorZTwoOpens3
import Derived.Shelf.Small.Bits
import Derived.Shelf.Strconv.Itoa0
import Derived.Shelf.Sort.Plain
import Derived.Shelf.Slices.CompactS
import Derived.Shelf.Slices.Cells
import Derived.Shelf.Slices.In.SortNone
import Derived.Test.YtbgoibedicbkjaaGreatDoorProg
import Derived.Sort.OwnSorted
import Derived.Sort.Grow
import Derived.Lib.OwnBridge
import Derived.Lib.SlicesCompact
import Derived.WalkKit
import Derived.ProofKit
import Derived.BigQuiet
import Derived.BigGuardPart
import Derived.Deep.QuietTactic
import Derived.Lib.Hide
import Derived.Deep.Light
namespace Go.Proofs.YtbgoibedicbkjaaGreatDoor end Go.Proofs.YtbgoibedicbkjaaGreatDoor open Go.Proofs.YtbgoibedicbkjaaGreatDoor
open Go.Lib (hid)
namespace Go.Proofs
open Go.Shelf
def Tryz.lays125_ren:Go.Shelf.Ren:=⟨fun|125=>198|128=>228|129=>229|n=>n,fun|46=>191|3=>3|51=>145|53=>57|4=>4|5=>5|9=>9|n=>n,fun|n=>n⟩
theorem Tryz.lays125:Go.Proofs.Lays.n125 Tryz.prog Tryz.lays125_ren:={
 mixed:=by kernel_rfl
 f125:=Tryz.func198.trans (congrArg some (by kernel_rfl))
 f128:=Tryz.func228.trans (congrArg some (by kernel_rfl))
 f129:=Tryz.func229.trans (congrArg some (by kernel_rfl))
 t3:=Tryz.underlying3
 a3:=Tryz.isAgg3
 z3:=Tryz.sizeOf3
 v3:=Tryz.zeroValue3
 t4:=Tryz.underlying4
 a4:=Tryz.isAgg4
 z4:=Tryz.sizeOf4
 v4:=Tryz.zeroValue4
 t5:=Tryz.underlying5
 a5:=Tryz.isAgg5
 z5:=Tryz.sizeOf5
 v5:=Tryz.zeroValue5
 t9:=Tryz.underlying9
 a9:=Tryz.isAgg9
 z9:=Tryz.sizeOf9
 v9:=Tryz.zeroValue9
 t46:=Tryz.underlying191
 a46:=Tryz.isAgg191
 z46:=Tryz.sizeOf191
 v46:=Tryz.zeroValue191
 t51:=Tryz.underlying145
 a51:=Tryz.isAgg145
 z51:=Tryz.sizeOf145
 v51:=Tryz.zeroValue145
 t53:=Tryz.underlying57
 a53:=Tryz.isAgg57
 z53:=Tryz.sizeOf57
 v53:=Tryz.zeroValue57}
theorem Tryz.bits_Len(x:Int)(w:World)(h0:0<=x)(h1:x<=18446744073709551615):
 Calls Tryz.prog 198 #[.int .u64 x] w fun e w'=>e= .returned (.int .i64 (Lib.bitLen x.toNat))/\w'=w:=Any.bits_Len Tryz.lays125 x w h0 h1
end Go.Proofs
namespace Go.Proofs.YtbgoibedicbkjaaGreatDoor.Idx
open Go.RowKit Mem Own Canon Sift Go.Sort
def cuZ(l:List Str):List Str:=l.mergeSort fun x y=>decide (x<=y)
theorem yfZb(l:List Str):(cuZ l).Pairwise (·<= ·):=by
 have h:=List.pairwise_mergeSort (le:=fun(x y:Str)=>decide (x<=y)) (fun a b c h1 h2=>by
  simp only[decide_eq_true_eq]at h1 h2 ⊢
  exact List.le_trans h1 h2) (fun a b=>by
  simp only[Bool.or_eq_true,decide_eq_true_eq]
  exact List.le_total a b) l
 exact h.imp fun h=>of_decide_eq_true h
theorem gcZb{l:List Str}{u:Str}:u∈cuZ l↔u∈l:=List.mem_mergeSort
theorem zfZb(l:List Str):l.map encStr=ccZ l:=rfl
theorem umZ:∀ (l row:List UInt8),(split row l).length<=row.length+l.length
 | [],row=>by rw[split];have:=aoZ row;simpa using this
 |c :: t,row=>by
  rw[split]
  split
  ·have:=umZ t (row++ [ouZ c])
   simp at this ⊢
   omega
  ·have h1:=umZ t []
   have h2:=aoZ row
   rw[List.length_append,List.length_cons]
   simp at h1
   omega
theorem qsZ(l:List UInt8):(words l).length<=l.length:=by have:=umZ l [];simpa[words]using this
end Go.Proofs.YtbgoibedicbkjaaGreatDoor.Idx
namespace Go.Proofs.YtbgoibedicbkjaaGreatDoor.Idx
open Go.RowKit Mem Own Canon Sift
open Go.Proofs.YtbgoibedicbkjaaGreatDoor.Crc (fcZ)
section
variable {w:World} {base n c s:Nat} {e:TypeId} {A:Option Addr} {xs:List Value}
theorem agZb(h:w.ownsRow base e 1 (.slice A n c) n xs):n<=c/\∀a,A=some a->a.add 0=a:=by
 rcases h.2 with ⟨hv,h0⟩|⟨g,cap,cur,hv,_,_,hc,_⟩
 ·injection hv with e1 e2 e3
  subst e1 e2 e3
  exact⟨Nat.le_refl _,fun a ha=>by cases ha⟩
 ·injection hv with e1 e2 e3
  subst e1 e3
  exact⟨hc,fun a ha=>by injection ha with ha;subst ha;exact Mem.add_none _ _ _⟩
end
theorem quZ(l:List Str):∀u∈ccZ l,u.oneCell'=true:=by
 intro u hu
 obtain⟨x,_,rfl⟩:=List.mem_map.1 hu
 rfl
theorem llZ{l:List Str}{i:Nat}{x:Str}(h:l[i]? =some x):(ccZ l)[i]? =some (.string (bs x)):=by simp[ccZ,h]
theorem jiZ(a b:List Str):ccZ (a++b)=ccZ a++ccZ b:=by simp[ccZ]
theorem bgZb(a:List Str):(ccZ a).length=a.length:=by simp[ccZ]
theorem hcZb(x s:Str):Op.bytesLess (bs x).toList (bs s).toList=decide (x<s):=by rw[ByteArray.toList_eq,ByteArray.toList_eq,ogZ,ogZ,bytesLess_eq]
theorem str_eq(x s:Str):((bs x).toList==(bs s).toList)=decide (x=s):=by
 rw[ByteArray.toList_eq,ByteArray.toList_eq,ogZ,ogZ]
 exact Bool.eq_iff_iff.2 (by simp)
end Go.Proofs.YtbgoibedicbkjaaGreatDoor.Idx
namespace Go.Proofs.YtbgoibedicbkjaaGreatDoor.Idx
open Go.RowKit Mem Own Canon Sift
theorem ruZ(s:Str):∀l,(iiZ l s).length<=l.length+1
 | []=>by simp[iiZ]
 |x :: t=>by
  have:=ruZ s t
  rw[iiZ]
  split
  ·simp only[List.length_cons];omega
  ·split<;>simp
theorem mlZ:∀ (l acc:List Str),(hfZ acc l).length<=acc.length+l.length
 | [],acc=>by simp[hfZ]
 |x :: t,acc=>by
  have h1:=mlZ t (iiZ acc x)
  have h2:=ruZ x acc
  unfold hfZ at h1 ⊢
  rw[List.foldl_cons,List.length_cons]
  omega
theorem tiZ:∀ (l row:List UInt8),∀x∈split row l,1<=x.length/\x.length<=24
 | [],row,x,hx=>by
  rw[split]at hx
  unfold tell at hx
  split at hx
  ·cases hx
  ·rename_i h
   have:=List.length_pos_iff.2 h
   obtain rfl:x=row.take 24:=by simpa using hx
   rw[List.length_take]
   omega
 |c :: t,row,x,hx=>by
  rw[split]at hx
  split at hx
  ·exact tiZ t _ x hx
  ·rcases List.mem_append.1 hx with hx|hx
   ·exact tiZ [] row x (by rw[split];exact hx)
   ·exact tiZ t [] x hx
theorem doZ(l:List UInt8):∀x∈words l,1<=x.length/\x.length<=24:=tiZ l []
end Go.Proofs.YtbgoibedicbkjaaGreatDoor.Idx
namespace Go.Proofs.YtbgoibedicbkjaaGreatDoor.Idx
open Go.RowKit Mem Own Canon Sift
def ehZ(ls:List Str)(i _j:Nat):Value:= .string (bs (ls.getD i []))
theorem cgZb(l:List Str)(i j:Nat)(hi:i<l.length)(hj:j<1):(ccZ l)[i*1+j]? =some (ehZ l i j):=by
 obtain rfl:j=0:=by omega
 rw[Nat.mul_one,Nat.add_zero]
 unfold ehZ
 rw[List.getD_eq_getElem?_getD,List.getElem?_eq_getElem hi]
 exact llZ (List.getElem?_eq_getElem hi)
theorem gpZ{w:World}{base n c:Nat}{A:Option Addr}{l:List Str}(h:w.ownsRow base 9 1 (.slice A n c) n (ccZ l)):Row w w.heap.size A n 1 (ehZ l):=
 Row.of_own h rfl fun i j hi hj=>cgZb l i j (by have:=h.1;rw[bgZb]at this;omega) hj
theorem Row.str{w:World}{B n:Nat}{A:Option Addr}{l:List Str}(h:Row w B A n 1 (ehZ l))(hn:l.length=n){k:Nat}(hk:k<n):
 ∃b off x,A=some ⟨b,off,none⟩/\b<B/\l[k]? =some x/\w.cell? ⟨b,off+k,none⟩=some (.string (bs x)):=by
 obtain⟨b,off,rfl,hb,hc⟩:=h (by omega)
 have c0:=hc k 0 hk (by omega)
 rw[Nat.mul_one,Nat.add_zero]at c0
 unfold ehZ at c0
 rw[List.getD_eq_getElem?_getD,List.getElem?_eq_getElem (show k<l.length by omega)]at c0
 exact⟨b,off,_,rfl,hb,List.getElem?_eq_getElem (by omega),c0⟩
end Go.Proofs.YtbgoibedicbkjaaGreatDoor.Idx
namespace Go.Proofs.YtbgoibedicbkjaaGreatDoor.Toks
open Go.RowKit Mem
theorem icZb(v:Int)(h:1<=v)(h2:v<=4611686018427387903):((Lib.bitLen v.toNat:Nat):Int)=lg v+1:=by
 unfold lg Lib.bitLen
 have key:∀ (f n:Nat),1<=n->n<2 ^ f->Lib.bitLenAux f n=Nat.log2 n+1:=by
  intro f
  induction f with
  |zero=>intro n h1 h2;simp at h2;omega
  |succ f ih=>
   intro n h1 h2
   rw[Lib.bitLenAux,if_neg (by omega)]
   rw[Nat.log2_def]
   by_cases hn:2<=n
   ·rw[if_pos hn,ih (n / 2) (by omega) (by rw[Nat.pow_succ]at h2;omega)]
    omega
   ·have:n=1:=by omega
    subst this
    simp
    cases f<;>simp[Lib.bitLenAux]
 rw[key 64 v.toNat (by omega) (by omega)]
 omega
theorem dgZb(v:Int)(w:World)(h1:1<=v)(h2:v<=4611686018427387903):
 Calls Tryz.prog 198 #[.int .u64 v] w fun e w'=>e= .returned (.int .i64 (lg v+1))/\w=w':=
 (Tryz.bits_Len v w (by omega) (by omega)).mono fun e w' ⟨he,hw⟩=>⟨by rw[he,icZb v h1 h2],hw.symm⟩
end Go.Proofs.YtbgoibedicbkjaaGreatDoor.Toks
namespace Go.Proofs.YtbgoibedicbkjaaGreatDoor.Idx
open Go.RowKit Mem Own Canon Sift
set_option maxHeartbeats 1000000 in
set_option maxRecDepth 100000 in
theorem eoZ(w:World)(A A2:Option Addr)(n n2 c c2:Nat)(ls ms:List Str)(hn:ls.length=n)(hn2:ms.length=n2)(hN:n<=3000000000)(ha:Row w w.heap.size A n 1 (ehZ ls))(ha2:Row w w.heap.size A2 n2 1 (ehZ ms)):
 Calls Tryz.prog 45 #[.slice A n c, .slice A2 n2 c2] w fun e w'=>e= .returned (.bool (decide (ls=ms)))/\∃q,w'=w.drewN q:=by
 have HN:=hid hn
 have HN2:=hid hn2
 have HY:Hid (n=n2->(∀i,i<n->ls.getD i []=ms.getD i [])->decide (ls=ms)=true):=fun he h=>decide_eq_true (List.ext_getElem (by omega) fun i h1 h2=>by
  have:=h i (by omega)
  rwa [List.getD_eq_getElem?_getD,List.getD_eq_getElem?_getD,List.getElem?_eq_getElem h1,List.getElem?_eq_getElem h2]at this)
 have HNO:Hid (∀ (i:Nat) x y,ls[i]? =some x->ms[i]? =some y->x≠y->decide (ls=ms)=false):=fun i x y hx hy hne=>decide_eq_false fun e=>by
  rw[e,hy]at hx
  injection hx with hx
  exact hne hx.symm
 have HNL:Hid (n≠n2->decide (ls=ms)=false):=fun hne=>decide_eq_false fun e=>by rw[e]at hn;omega
 generalize decide (ls=ms)=R at *
 clear hn hn2
 by_cases he:n=n2
 ·have z1:((n:Int) != (n2:Int))=false:=by simp;omega
  have z1':(n != n2)=false:=by simpa using he
  clear HNL
  go_enter Tryz.func45,Tryz.ntmps45
  go_wp2_with fail
  go_loopw [5] (fun iv wx=>∃k:Nat,k<=n/\iv= .int .i64 k/\Hid (∀i,i<k->ls.getD i []=ms.getD i [])/\Hid (∃q,wx=w.drewN q)) (fun iv _=>n-(intOf iv).toNat)
  case atStart=>exact⟨0,by omega,rfl,fun i h=>absurd h (by omega),0,rfl⟩
  case round=>
   obtain⟨k,hk,rfl,HS,HQ⟩:=hrel
   by_cases hlt:k<n
   ·have gk:decide ((k:Int)<(n:Int))=true:=by simp;omega
    have gk':decide (k<n)=true:=by simp;omega
    have x0:(0:Int)<=(k:Int):=by omega
    have x1:(k:Int)<(n:Int):=by omega
    have x2:(k:Int)<(n2:Int):=by omega
    have har:Row wr w.heap.size A n 1 (ehZ ls):=by obtain⟨q,hq⟩:=HQ.out;rw[hq];exact ha
    have har2:Row wr w.heap.size A2 n2 1 (ehZ ms):=by obtain⟨q,hq⟩:=HQ.out;rw[hq];exact ha2
    obtain⟨b,off,x,rfl,_,hx,ck⟩:=Row.str har HN.out hlt
    obtain⟨b2,off2,y,rfl,_,hy,ck2⟩:=Row.str har2 HN2.out (show k<n2 by omega)
    have HQ2:Hid (∀nq,∃q,wr.drewN nq=w.drewN q):=fun nq=>by
     obtain⟨q,hq⟩:=HQ.out
     exact⟨_,by rw[hq];exact World.drewN_drewN _ _ _⟩
    by_cases hxy:x=y
    ·have ge:((bs x).toList==(bs y).toList)=true:=by rw[str_eq];simpa using hxy
     have HS2:Hid (∀i,i<k+1->ls.getD i []=ms.getD i []):=fun i h=>by
      by_cases e:i<k
      ·exact HS.out i e
      ·obtain rfl:i=k:=by omega
       rw[List.getD_eq_getElem?_getD,List.getD_eq_getElem?_getD,hx,hy,hxy]
     clear HS hx hy hxy HQ he
     go_wp2_with fail
     go_quiet (fail)
     go_wp2_with fail
     go_roundw
     case measure=>go_light;simp[intOf];omega
     case rel=>go_light;exact⟨k+1,by omega,by first|rfl|go_num,HS2.out,HQ2.out _⟩
    ·have ge:((bs x).toList==(bs y).toList)=false:=by rw[str_eq];simpa using hxy
     obtain rfl:=HNO.out k x y hx hy hxy
     clear HS HY HNO hx hy hxy HQ he
     go_wp2_with fail
     go_quiet (fail)
     go_wp2_with fail
     go_ret
     exact⟨rfl,HQ2.out _⟩
   ·obtain rfl:k=n:=by omega
    have gk:decide ((k:Int)<(k:Int))=false:=by simp
    have gk':decide (k<k)=false:=by simp
    obtain rfl:=HY.out he HS.out
    clear HS HY HNO hlt he
    go_wp2_with fail
    go_ret
    exact⟨rfl,HQ.out⟩
 ·have z1:((n:Int) != (n2:Int))=true:=by simp;omega
  have z1':(n != n2)=true:=by simpa using he
  obtain rfl:=HNL.out he
  clear HY HNO HNL he
  go_enter Tryz.func45,Tryz.ntmps45
  go_wp2_with fail
  go_ret
  exact⟨rfl,0,rfl⟩
end Go.Proofs.YtbgoibedicbkjaaGreatDoor.Idx
