/- Plain: words of a text, runs of a needle, which word fits (chapters 15 -/
import Derived.Test.YtmlaajebadfkoaaGreatDoorZTwoPacks1
import Derived.Lib.IndexMore
import Derived.Test.YtmlaajebadfkoaaGreatDoorProg
import Derived.WalkKit
import Derived.ProofKit
import Derived.BigQuiet
import Derived.BigGuardPart
import Derived.Lib.Hide
import Derived.Deep.Light
namespace Go.Proofs.YtmlaajebadfkoaaGreatDoor end Go.Proofs.YtmlaajebadfkoaaGreatDoor open Go.Proofs.YtmlaajebadfkoaaGreatDoor
set_option maxRecDepth 100000
namespace Go.Proofs.YtmlaajebadfkoaaGreatDoor.Sift
def rdZ(c:UInt8):UInt8:=if 97<=c.toNat/\c.toNat<=122∨48<=c.toNat/\c.toNat<=57 then c else if 65<=c.toNat/\c.toNat<=90 then c+32 else 0
def ucZ(c:UInt8):Bool:=rdZ c != 0
def run:List UInt8->List UInt8
 | []=> []
 |c :: t=>if ucZ c=true then rdZ c :: run t else []
def rest:List UInt8->List UInt8
 | []=> []
 |c :: t=>if ucZ c=true then rest t else c :: t
theorem hjZ:∀l,(run l).length+(rest l).length=l.length
 | []=>rfl
 |c :: t=>by
  have:=hjZ t
  rw[run,rest]
  split<;>simp only[List.length_cons,List.length_nil]<;>omega
def tell(row:List UInt8):List (List UInt8):=if row= []then []else [row.take 24]
def split:List UInt8->List UInt8->List (List UInt8)
 |row,[]=>tell row
 |row,c :: t=>if ucZ c=true then split (row++ [rdZ c]) t else tell row++split [] t
def words(l:List UInt8):List (List UInt8):=split [] l
theorem rxZ:∀ (l row:List UInt8),split row l=tell (row++run l)++split [] (rest l)
 | [],row=>by simp[split,run,rest,tell]
 |c :: t,row=>by
  rw[split,run,rest]
  by_cases h:ucZ c=true
  ·rw[if_pos h,if_pos h,if_pos h,rxZ t (row++ [rdZ c])]
   simp
  ·rw[if_neg h,if_neg h,if_neg h,split,if_neg h]
   simp[tell]
def veZ:Bool->List UInt8->List (List UInt8)
 |_,[]=> []
 |p,c :: t=>(if ucZ c=true/\p=false then [(run (c :: t)).take 24]else [])++veZ (ucZ c) t
theorem gsZ:∀l,veZ true l=veZ false (rest l)
 | []=>rfl
 |c :: t=>by
  rw[veZ,rest]
  by_cases h:ucZ c=true
  ·rw[if_pos h,if_neg (by simp),h,gsZ t];rfl
  ·rw[if_neg h,if_neg (by simp),veZ,if_neg (by simp[h])]
theorem faZb(l:List UInt8):veZ false l=words l:=by
 unfold words
 obtain⟨n,hn⟩:∃n,n=l.length:=⟨_,rfl⟩
 induction n using Nat.strongRecOn generalizing l with
 |ind n ih=>
  match l with
  | []=>simp[veZ,split,tell]
  |c :: t=>
   have hlen:=hjZ t
   simp only[List.length_cons]at hn
   rw[rxZ,List.nil_append,veZ]
   by_cases h:ucZ c=true
   ·have hne:run (c :: t)≠ []:=by rw[run,if_pos h];simp
    rw[if_pos ⟨h,rfl⟩,h,gsZ,ih (rest t).length (by omega) (rest t) rfl]
    unfold tell
    rw[if_neg hne]
    congr 2
    rw[rest,if_pos h]
   ·have hr:run (c :: t)= []:=by rw[run,if_neg h]
    have hf:ucZ c=false:=by cases hc:ucZ c<;>simp_all
    rw[if_neg (by simp[hf]),hr,hf,ih t.length (by omega) t rfl,rest,if_neg h,split,if_neg h]
    simp[tell]
end Go.Proofs.YtmlaajebadfkoaaGreatDoor.Sift
namespace Go.Proofs.YtmlaajebadfkoaaGreatDoor.Sift
open Go.RowKit Mem
def moZ(n:Nat):Bool:=decide ((97<=n/\n<=122)∨(65<=n/\n<=90)∨(48<=n/\n<=57))
def xcZ(n:Nat):Nat:=if(97<=n/\n<=122)∨(48<=n/\n<=57)then n else if 65<=n/\n<=90 then n+32 else 0
theorem ijZ(c:UInt8):(rdZ c).toNat=xcZ c.toNat:=by
 unfold rdZ xcZ
 split
 ·rfl
 ·split
  ·rename_i h
   rw[UInt8.toNat_add]
   show(c.toNat+32) % 256=_
   omega
  ·rfl
theorem seZ(c:UInt8):ucZ c=moZ c.toNat:=by
 have h:ucZ c=decide ((rdZ c).toNat≠0):=by
  unfold ucZ
  rw[Bool.eq_iff_iff,bne_iff_ne,decide_eq_true_eq]
  constructor
  ·intro h h2;exact h (UInt8.toNat_inj.1 h2)
  ·intro h h2;exact h (by rw[h2];rfl)
 rw[h,ijZ]
 unfold xcZ moZ
 rw[Bool.eq_iff_iff,decide_eq_true_eq,decide_eq_true_eq]
 split
 ·constructor<;>intro _<;>omega
 ·split
  ·constructor<;>intro _<;>omega
  ·constructor<;>intro _<;>omega
theorem zeZb(n:Nat):n<48∨(48<=n/\n<=57)∨(58<=n/\n<=64)∨(65<=n/\n<=90)∨(91<=n/\n<=96)∨(97<=n/\n<=122)∨123<=n:=by omega
theorem jqZ{n:Nat}(h:(97<=n/\n<=122)∨(65<=n/\n<=90)∨(48<=n/\n<=57)):moZ n=true:=decide_eq_true h
theorem noZ{n:Nat}(h:¬((97<=n/\n<=122)∨(65<=n/\n<=90)∨(48<=n/\n<=57))):moZ n=false:=decide_eq_false h
theorem ooZ{n:Nat}(h:(97<=n/\n<=122)∨(48<=n/\n<=57)):xcZ n=n:=if_pos h
theorem sxZ{n:Nat}(h:65<=n/\n<=90):xcZ n=n+32:=(if_neg (by omega)).trans (if_pos h)
theorem fgZ{n:Nat}(h:¬((97<=n/\n<=122)∨(48<=n/\n<=57))/\¬(65<=n/\n<=90)):xcZ n=0:=(if_neg h.1).trans (if_neg h.2)
theorem jdZb(n:Nat)(h:65<=n)(h':n<=90)(w:World):Calls Tryz.prog 227 #[.int .u8 n] w fun e w'=>e= .returned (.tuple #[.int .u8 (n+32:Nat), .bool true])/\w=w':=by
 have g0:decide ((97:Int)<=(n:Int))=false:=decide_eq_false (by omega)
 have g1:decide ((65:Int)<=(n:Int))=true:=decide_eq_true (by omega)
 have g2:decide ((48:Int)<=(n:Int))=true:=decide_eq_true (by omega)
 have l0:decide ((n:Int)<=122)=true:=decide_eq_true (by omega)
 have l1:decide ((n:Int)<=90)=true:=decide_eq_true (by omega)
 have l2:decide ((n:Int)<=57)=false:=decide_eq_false (by omega)
 go_enter Tryz.func227,Tryz.ntmps227
 go_wp2_with fail
 go_ret2
 exact⟨by first|rfl|go_num|(congr 1;omega),rfl⟩
theorem kdZb(n:Nat)(h:97<=n)(h':n<=122)(w:World):Calls Tryz.prog 227 #[.int .u8 n] w fun e w'=>e= .returned (.tuple #[.int .u8 (n:Nat), .bool true])/\w=w':=by
 have g0:decide ((97:Int)<=(n:Int))=true:=decide_eq_true (by omega)
 have g1:decide ((65:Int)<=(n:Int))=true:=decide_eq_true (by omega)
 have g2:decide ((48:Int)<=(n:Int))=true:=decide_eq_true (by omega)
 have l0:decide ((n:Int)<=122)=true:=decide_eq_true (by omega)
 have l1:decide ((n:Int)<=90)=false:=decide_eq_false (by omega)
 have l2:decide ((n:Int)<=57)=false:=decide_eq_false (by omega)
 go_enter Tryz.func227,Tryz.ntmps227
 go_wp2_with fail
 go_ret2
 exact⟨by first|rfl|go_num|(congr 1;omega),rfl⟩
theorem ldZb(n:Nat)(h:48<=n)(h':n<=57)(w:World):Calls Tryz.prog 227 #[.int .u8 n] w fun e w'=>e= .returned (.tuple #[.int .u8 (n:Nat), .bool true])/\w=w':=by
 have g0:decide ((97:Int)<=(n:Int))=false:=decide_eq_false (by omega)
 have g1:decide ((65:Int)<=(n:Int))=false:=decide_eq_false (by omega)
 have g2:decide ((48:Int)<=(n:Int))=true:=decide_eq_true (by omega)
 have l0:decide ((n:Int)<=122)=true:=decide_eq_true (by omega)
 have l1:decide ((n:Int)<=90)=true:=decide_eq_true (by omega)
 have l2:decide ((n:Int)<=57)=true:=decide_eq_true (by omega)
 go_enter Tryz.func227,Tryz.ntmps227
 go_wp2_with fail
 go_ret2
 exact⟨by first|rfl|go_num|(congr 1;omega),rfl⟩
theorem mgZb(n:Nat)(h:0<=n)(h':n<48)(w:World):Calls Tryz.prog 227 #[.int .u8 n] w fun e w'=>e= .returned (.tuple #[.int .u8 (0:Nat), .bool false])/\w=w':=by
 have g0:decide ((97:Int)<=(n:Int))=false:=decide_eq_false (by omega)
 have g1:decide ((65:Int)<=(n:Int))=false:=decide_eq_false (by omega)
 have g2:decide ((48:Int)<=(n:Int))=false:=decide_eq_false (by omega)
 have l0:decide ((n:Int)<=122)=true:=decide_eq_true (by omega)
 have l1:decide ((n:Int)<=90)=true:=decide_eq_true (by omega)
 have l2:decide ((n:Int)<=57)=true:=decide_eq_true (by omega)
 go_enter Tryz.func227,Tryz.ntmps227
 go_wp2_with fail
 go_ret2
 exact⟨by first|rfl|go_num|(congr 1;omega),rfl⟩
theorem ngZb(n:Nat)(h:58<=n)(h':n<=64)(w:World):Calls Tryz.prog 227 #[.int .u8 n] w fun e w'=>e= .returned (.tuple #[.int .u8 (0:Nat), .bool false])/\w=w':=by
 have g0:decide ((97:Int)<=(n:Int))=false:=decide_eq_false (by omega)
 have g1:decide ((65:Int)<=(n:Int))=false:=decide_eq_false (by omega)
 have g2:decide ((48:Int)<=(n:Int))=true:=decide_eq_true (by omega)
 have l0:decide ((n:Int)<=122)=true:=decide_eq_true (by omega)
 have l1:decide ((n:Int)<=90)=true:=decide_eq_true (by omega)
 have l2:decide ((n:Int)<=57)=false:=decide_eq_false (by omega)
 go_enter Tryz.func227,Tryz.ntmps227
 go_wp2_with fail
 go_ret2
 exact⟨by first|rfl|go_num|(congr 1;omega),rfl⟩
theorem ogZb(n:Nat)(h:91<=n)(h':n<=96)(w:World):Calls Tryz.prog 227 #[.int .u8 n] w fun e w'=>e= .returned (.tuple #[.int .u8 (0:Nat), .bool false])/\w=w':=by
 have g0:decide ((97:Int)<=(n:Int))=false:=decide_eq_false (by omega)
 have g1:decide ((65:Int)<=(n:Int))=true:=decide_eq_true (by omega)
 have g2:decide ((48:Int)<=(n:Int))=true:=decide_eq_true (by omega)
 have l0:decide ((n:Int)<=122)=true:=decide_eq_true (by omega)
 have l1:decide ((n:Int)<=90)=false:=decide_eq_false (by omega)
 have l2:decide ((n:Int)<=57)=false:=decide_eq_false (by omega)
 go_enter Tryz.func227,Tryz.ntmps227
 go_wp2_with fail
 go_ret2
 exact⟨by first|rfl|go_num|(congr 1;omega),rfl⟩
theorem pgZb(n:Nat)(h:123<=n)(h':n<256)(w:World):Calls Tryz.prog 227 #[.int .u8 n] w fun e w'=>e= .returned (.tuple #[.int .u8 (0:Nat), .bool false])/\w=w':=by
 have g0:decide ((97:Int)<=(n:Int))=true:=decide_eq_true (by omega)
 have g1:decide ((65:Int)<=(n:Int))=true:=decide_eq_true (by omega)
 have g2:decide ((48:Int)<=(n:Int))=true:=decide_eq_true (by omega)
 have l0:decide ((n:Int)<=122)=false:=decide_eq_false (by omega)
 have l1:decide ((n:Int)<=90)=false:=decide_eq_false (by omega)
 have l2:decide ((n:Int)<=57)=false:=decide_eq_false (by omega)
 go_enter Tryz.func227,Tryz.ntmps227
 go_wp2_with fail
 go_ret2
 exact⟨by first|rfl|go_num|(congr 1;omega),rfl⟩
theorem hsZ(n:Nat)(hn:n<256)(w:World):Calls Tryz.prog 227 #[.int .u8 n] w fun e w'=>e= .returned (.tuple #[.int .u8 (xcZ n:Nat), .bool (moZ n)])/\w=w':=by
 rcases zeZb n with h|⟨h,h'⟩|⟨h,h'⟩|⟨h,h'⟩|⟨h,h'⟩|⟨h,h'⟩|h
 ·rw[noZ (by omega),fgZ (by omega)];exact mgZb n (by omega) h w
 ·rw[jqZ (by omega),ooZ (by omega)];exact ldZb n h h' w
 ·rw[noZ (by omega),fgZ (by omega)];exact ngZb n h h' w
 ·rw[jqZ (by omega),sxZ (by omega)];exact jdZb n h h' w
 ·rw[noZ (by omega),fgZ (by omega)];exact ogZb n h h' w
 ·rw[jqZ (by omega),ooZ (by omega)];exact kdZb n h h' w
 ·rw[noZ (by omega),fgZ (by omega)];exact pgZb n h hn w
theorem qgZb(n:Nat)(h:65<=n)(h':n<=90)(w:World):Calls Tryz.prog 231 #[.int .u8 n] w fun e w'=>e= .returned (.int .u8 (n+32:Nat))/\w=w':=by
 have g0:decide ((97:Int)<=(n:Int))=false:=decide_eq_false (by omega)
 have g1:decide ((65:Int)<=(n:Int))=true:=decide_eq_true (by omega)
 have g2:decide ((48:Int)<=(n:Int))=true:=decide_eq_true (by omega)
 have l0:decide ((n:Int)<=122)=true:=decide_eq_true (by omega)
 have l1:decide ((n:Int)<=90)=true:=decide_eq_true (by omega)
 have l2:decide ((n:Int)<=57)=false:=decide_eq_false (by omega)
 go_enter Tryz.func231,Tryz.ntmps231
 go_wp2_with fail
 go_ret
 exact⟨by first|rfl|go_num|(congr 1;omega),rfl⟩
theorem rgZb(n:Nat)(h:97<=n)(h':n<=122)(w:World):Calls Tryz.prog 231 #[.int .u8 n] w fun e w'=>e= .returned (.int .u8 (n:Nat))/\w=w':=by
 have g0:decide ((97:Int)<=(n:Int))=true:=decide_eq_true (by omega)
 have g1:decide ((65:Int)<=(n:Int))=true:=decide_eq_true (by omega)
 have g2:decide ((48:Int)<=(n:Int))=true:=decide_eq_true (by omega)
 have l0:decide ((n:Int)<=122)=true:=decide_eq_true (by omega)
 have l1:decide ((n:Int)<=90)=false:=decide_eq_false (by omega)
 have l2:decide ((n:Int)<=57)=false:=decide_eq_false (by omega)
 go_enter Tryz.func231,Tryz.ntmps231
 go_wp2_with fail
 go_ret
 exact⟨by first|rfl|go_num|(congr 1;omega),rfl⟩
theorem sgZb(n:Nat)(h:48<=n)(h':n<=57)(w:World):Calls Tryz.prog 231 #[.int .u8 n] w fun e w'=>e= .returned (.int .u8 (n:Nat))/\w=w':=by
 have g0:decide ((97:Int)<=(n:Int))=false:=decide_eq_false (by omega)
 have g1:decide ((65:Int)<=(n:Int))=false:=decide_eq_false (by omega)
 have g2:decide ((48:Int)<=(n:Int))=true:=decide_eq_true (by omega)
 have l0:decide ((n:Int)<=122)=true:=decide_eq_true (by omega)
 have l1:decide ((n:Int)<=90)=true:=decide_eq_true (by omega)
 have l2:decide ((n:Int)<=57)=true:=decide_eq_true (by omega)
 go_enter Tryz.func231,Tryz.ntmps231
 go_wp2_with fail
 go_ret
 exact⟨by first|rfl|go_num|(congr 1;omega),rfl⟩
theorem cjZb(n:Nat)(h:0<=n)(h':n<48)(w:World):Calls Tryz.prog 231 #[.int .u8 n] w fun e w'=>e= .returned (.int .u8 (0:Nat))/\w=w':=by
 have g0:decide ((97:Int)<=(n:Int))=false:=decide_eq_false (by omega)
 have g1:decide ((65:Int)<=(n:Int))=false:=decide_eq_false (by omega)
 have g2:decide ((48:Int)<=(n:Int))=false:=decide_eq_false (by omega)
 have l0:decide ((n:Int)<=122)=true:=decide_eq_true (by omega)
 have l1:decide ((n:Int)<=90)=true:=decide_eq_true (by omega)
 have l2:decide ((n:Int)<=57)=true:=decide_eq_true (by omega)
 go_enter Tryz.func231,Tryz.ntmps231
 go_wp2_with fail
 go_ret
 exact⟨by first|rfl|go_num|(congr 1;omega),rfl⟩
theorem djZb(n:Nat)(h:58<=n)(h':n<=64)(w:World):Calls Tryz.prog 231 #[.int .u8 n] w fun e w'=>e= .returned (.int .u8 (0:Nat))/\w=w':=by
 have g0:decide ((97:Int)<=(n:Int))=false:=decide_eq_false (by omega)
 have g1:decide ((65:Int)<=(n:Int))=false:=decide_eq_false (by omega)
 have g2:decide ((48:Int)<=(n:Int))=true:=decide_eq_true (by omega)
 have l0:decide ((n:Int)<=122)=true:=decide_eq_true (by omega)
 have l1:decide ((n:Int)<=90)=true:=decide_eq_true (by omega)
 have l2:decide ((n:Int)<=57)=false:=decide_eq_false (by omega)
 go_enter Tryz.func231,Tryz.ntmps231
 go_wp2_with fail
 go_ret
 exact⟨by first|rfl|go_num|(congr 1;omega),rfl⟩
theorem ejZb(n:Nat)(h:91<=n)(h':n<=96)(w:World):Calls Tryz.prog 231 #[.int .u8 n] w fun e w'=>e= .returned (.int .u8 (0:Nat))/\w=w':=by
 have g0:decide ((97:Int)<=(n:Int))=false:=decide_eq_false (by omega)
 have g1:decide ((65:Int)<=(n:Int))=true:=decide_eq_true (by omega)
 have g2:decide ((48:Int)<=(n:Int))=true:=decide_eq_true (by omega)
 have l0:decide ((n:Int)<=122)=true:=decide_eq_true (by omega)
 have l1:decide ((n:Int)<=90)=false:=decide_eq_false (by omega)
 have l2:decide ((n:Int)<=57)=false:=decide_eq_false (by omega)
 go_enter Tryz.func231,Tryz.ntmps231
 go_wp2_with fail
 go_ret
 exact⟨by first|rfl|go_num|(congr 1;omega),rfl⟩
theorem fjZb(n:Nat)(h:123<=n)(h':n<256)(w:World):Calls Tryz.prog 231 #[.int .u8 n] w fun e w'=>e= .returned (.int .u8 (0:Nat))/\w=w':=by
 have g0:decide ((97:Int)<=(n:Int))=true:=decide_eq_true (by omega)
 have g1:decide ((65:Int)<=(n:Int))=true:=decide_eq_true (by omega)
 have g2:decide ((48:Int)<=(n:Int))=true:=decide_eq_true (by omega)
 have l0:decide ((n:Int)<=122)=false:=decide_eq_false (by omega)
 have l1:decide ((n:Int)<=90)=false:=decide_eq_false (by omega)
 have l2:decide ((n:Int)<=57)=false:=decide_eq_false (by omega)
 go_enter Tryz.func231,Tryz.ntmps231
 go_wp2_with fail
 go_ret
 exact⟨by first|rfl|go_num|(congr 1;omega),rfl⟩
theorem ngZ(n:Nat)(hn:n<256)(w:World):Calls Tryz.prog 231 #[.int .u8 n] w fun e w'=>e= .returned (.int .u8 (xcZ n:Nat))/\w=w':=by
 rcases zeZb n with h|⟨h,h'⟩|⟨h,h'⟩|⟨h,h'⟩|⟨h,h'⟩|⟨h,h'⟩|h
 ·rw[fgZ (by omega)];exact cjZb n (by omega) h w
 ·rw[ooZ (by omega)];exact sgZb n h h' w
 ·rw[fgZ (by omega)];exact djZb n h h' w
 ·rw[sxZ (by omega)];exact qgZb n h h' w
 ·rw[fgZ (by omega)];exact ejZb n h h' w
 ·rw[ooZ (by omega)];exact rgZb n h h' w
 ·rw[fgZ (by omega)];exact fjZb n h hn w
end Go.Proofs.YtmlaajebadfkoaaGreatDoor.Sift
namespace Go.Proofs.YtmlaajebadfkoaaGreatDoor.Idx
open Go.Proofs.YtmlaajebadfkoaaGreatDoor.Sift (words)
abbrev Str:=List UInt8
theorem beZ(a:Str):¬a<a:=List.lt_irrefl a
theorem qmZ{a b c:Str}(h:a<b)(k:b<c):a<c:=List.lt_trans h k
theorem rmZ{a b:Str}(h:a<b):¬b<a:=fun k=>beZ a (qmZ h k)
theorem plZ(a b:Str):a<b∨a=b∨b<a:=by
 by_cases h:a<b
 ·exact .inl h
 ·by_cases k:b<a
  ·exact .inr (.inr k)
  ·exact .inr (.inl (List.le_antisymm k h))
def ydZ(l:List Str):Prop:=l.Pairwise (·< ·)
theorem poZ:∀ {a b:List Str},ydZ a->ydZ b->(∀s,s∈a↔s∈b)->a=b
 | [],[],_,_,_=>rfl
 | [],y :: b,_,_,h=>absurd ((h y).2 (by simp)) (by simp)
 |x :: a,[],_,_,h=>absurd ((h x).1 (by simp)) (by simp)
 |x :: a,y :: b,ha,hb,h=>by
  obtain⟨hx,ha2⟩:=List.pairwise_cons.1 ha
  obtain⟨hy,hb2⟩:=List.pairwise_cons.1 hb
  have hxy:x=y:=by
   have h1:=(h x).1 (by simp)
   have h2:=(h y).2 (by simp)
   rw[List.mem_cons]at h1 h2
   rcases h1 with h1|h1
   ·exact h1
   ·rcases h2 with h2|h2
    ·exact h2.symm
    ·exact absurd (qmZ (hy x h1) (hx y h2)) (beZ y)
  subst hxy
  refine congrArg (x :: ·) (poZ ha2 hb2 fun s=>⟨fun hs=> ?_,fun hs=> ?_⟩)
  ·rcases List.mem_cons.1 ((h s).1 (List.mem_cons_of_mem _ hs))with rfl|h'
   ·exact absurd (hx s hs) (beZ s)
   ·exact h'
  ·rcases List.mem_cons.1 ((h s).2 (List.mem_cons_of_mem _ hs))with rfl|h'
   ·exact absurd (hy s hs) (beZ s)
   ·exact h'
def lfZ:List Str->Str->List Str
 | [],s=> [s]
 |x :: t,s=>if x<s then x :: lfZ t s else if x=s then x :: t else s :: x :: t
theorem ltZ(s u:Str):∀l,u∈lfZ l s↔u∈l∨u=s
 | []=>by simp[lfZ]
 |x :: t=>by
  rw[lfZ]
  split
  ·rw[List.mem_cons,ltZ s u t,List.mem_cons,or_assoc]
  ·split
   ·rename_i h
    subst h
    rw[List.mem_cons]
    exact⟨.inl,fun h=>h.elim id (fun h=> .inl h)⟩
   ·rw[List.mem_cons,or_comm]
theorem isZ(s:Str):∀ {l},ydZ l->ydZ (lfZ l s)
 | [],_=>by simp[lfZ,ydZ]
 |x :: t,h=>by
  obtain⟨hx,ht⟩:=List.pairwise_cons.1 h
  rw[lfZ]
  split
  ·rename_i hlt
   refine List.pairwise_cons.2 ⟨fun u hu=> ?_,isZ s ht⟩
   rcases(ltZ s u t).1 hu with h'|rfl
   ·exact hx u h'
   ·exact hlt
  ·split
   ·exact h
   ·rename_i h1 h2
    have hs:s<x:=(plZ x s).elim (fun k=>absurd k h1) (fun k=>k.elim (fun k=>absurd k h2) id)
    refine List.pairwise_cons.2 ⟨fun u hu=> ?_,h⟩
    rcases List.mem_cons.1 hu with rfl|hu
    ·exact hs
    ·exact qmZ hs (hx u hu)
theorem afZb(s:Str):∀ (l:List Str) (k:Nat),k<=l.length->(∀i,(h:i<k)->(h':i<l.length)->l[i]<s)->(∀x,l[k]? =some x->¬x<s)->lfZ l s=if l[k]? =some s then l else l.take k++s :: l.drop k
 | [],k,hk,_,_=>by
  obtain rfl:k=0:=by simpa using hk
  simp[lfZ]
 |x :: t,0,_,_,h2=>by
  have:=h2 x rfl
  rw[lfZ,if_neg this]
  simp
 |x :: t,k+1,hk,h1,h2=>by
  have hx:x<s:=h1 0 (by omega) (by simp)
  have ih:=afZb s t k (by simpa using hk) (fun i hi hi'=>h1 (i+1) (by omega) (by simpa using hi')) (fun y hy=>h2 y (by simpa using hy))
  rw[lfZ,if_pos hx,ih,List.getElem?_cons_succ]
  split<;>simp
def zZ(acc l:List Str):List Str:=l.foldl lfZ acc
theorem alZ(u:Str):∀ (l acc:List Str),u∈zZ acc l↔u∈acc∨u∈l
 | [],acc=>by simp[zZ]
 |x :: t,acc=>by
  have ih:=alZ u t (lfZ acc x)
  unfold zZ at ih ⊢
  rw[List.foldl_cons,ih,ltZ,List.mem_cons,or_assoc]
theorem diZ:∀ (l:List Str) {acc:List Str},ydZ acc->ydZ (zZ acc l)
 | [],_,h=>h
 |x :: t,_,h=>diZ t (isZ x h)
theorem mdZb(acc l:List Str)(x:Str):zZ acc (l++ [x])=lfZ (zZ acc l) x:=by unfold zZ;rw[List.foldl_append];rfl
theorem ozZ(acc a b:List Str):zZ acc (a++b)=zZ (zZ acc a) b:=by unfold zZ;rw[List.foldl_append]
theorem gjZb{l:List Str}(h:l.Pairwise (·<= ·)):∀ {m:List Str},m.Sublist l->m.Pairwise (·≠ ·)->ydZ m:=fun hs hn=>by
 refine(List.Pairwise.and (h.sublist hs) hn).imp fun{a b} hab=> ?_
 rcases plZ a b with k|k|k
 ·exact k
 ·exact absurd k hab.2
 ·exact absurd k hab.1
def cgZ:UInt8:=64
def qoZ(text source:List UInt8):List Str:=words text++(words source).map (cgZ :: ·)
def eiZ(text source:List UInt8):List Str:=zZ [] (qoZ text source)
theorem gaZb(t s:List UInt8):ydZ (eiZ t s):=diZ _ List.Pairwise.nil
theorem hjZb(t s:List UInt8)(u:Str):u∈eiZ t s↔u∈qoZ t s:=by unfold eiZ;rw[alZ];simp
def ibZ(ts:List (List Str)):List Str:=ts.foldl zZ []
theorem ijZb(ts:List (List Str))(t:List Str):ibZ (ts++ [t])=zZ (ibZ ts) t:=by unfold ibZ;rw[List.foldl_append];rfl
theorem vlZ(u:Str):∀ (ts:List (List Str)) (acc:List Str),u∈ts.foldl zZ acc↔u∈acc∨∃t∈ts,u∈t
 | [],acc=>by simp
 |t :: ts,acc=>by
  rw[List.foldl_cons,vlZ u ts,alZ,or_assoc]
  simp
theorem xjZ:∀ (ts:List (List Str)) {acc:List Str},ydZ acc->ydZ (ts.foldl zZ acc)
 | [],_,h=>h
 |t :: ts,_,h=>xjZ ts (diZ t h)
theorem haZb(u:Str)(ts:List (List Str)):u∈ibZ ts↔∃t∈ts,u∈t:=by unfold ibZ;rw[vlZ];simp
theorem jsZ(ts:List (List Str)):ydZ (ibZ ts):=xjZ ts List.Pairwise.nil
def ocZ(ts:List (List Str))(u:Str):List Nat:=(List.range ts.length).filter fun i=>(ts.getD i []).contains u
theorem jjZb(ts:List (List Str))(t:List Str)(u:Str):ocZ (ts++ [t]) u=ocZ ts u++(if t.contains u then [ts.length]else []):=by
 unfold ocZ
 rw[List.length_append,List.length_singleton,List.range_succ,List.filter_append]
 congr 1
 ·refine List.filter_congr fun i hi=> ?_
  rw[List.mem_range]at hi
  simp only[List.getD_eq_getElem?_getD]
  rw[List.getElem?_append_left hi]
 ·rw[List.filter_cons]
  simp
end Go.Proofs.YtmlaajebadfkoaaGreatDoor.Idx
namespace Go.Proofs.YtmlaajebadfkoaaGreatDoor.Recs
open Go.RowKit Mem
structure Rec where
 time:Int
 level:Int
 source:ByteArray
 text:ByteArray
def roZ:Rec:=⟨0,0, .empty, .empty⟩
def xbZ(l:List Rec):Nat->Nat->Value:=fun i j=>match j with
 |0=> .int .u64 (l.getD i roZ).time
 |1=> .int .u8 (l.getD i roZ).level
 |2=> .string (l.getD i roZ).source
 |_=> .string (l.getD i roZ).text
def szZ(a b:Rec):Bool:=a.time==b.time&&(a.level==b.level&&(a.source.toList==b.source.toList&&a.text.toList==b.text.toList))
theorem txZ{a b:ByteArray}(h:a.toList=b.toList):a=b:=by
 have h':a.data.toList=b.data.toList:=by rw[<-ByteArray.toList_eq,<-ByteArray.toList_eq];exact h
 cases a;cases b
 simp at h'
 rw[h']
theorem uxZ(a b:Rec):szZ a b=true↔a=b:=by
 constructor
 ·intro h
  simp only[szZ,Bool.and_eq_true,beq_iff_eq]at h
  obtain⟨h1,h2,h3,h4⟩:=h
  cases a;cases b
  simp only at h1 h2 h3 h4
  rw[h1,h2,txZ h3,txZ h4]
 ·intro h
  subst h
  simp[szZ]
instance:DecidableEq Rec:=fun a b=>if h:szZ a b=true then .isTrue ((uxZ a b).1 h)else .isFalse fun e=>h ((uxZ a b).2 e)
def weigh(r:Rec):Int:=16+r.source.size+r.text.size
def nbZ(l:List Rec):Int:=(l.map weigh).foldl (·+ ·) 0
theorem kqZ(l:List Int):∀a:Int,l.foldl (·+ ·) a=a+l.foldl (·+ ·) 0:=by
 induction l with
 |nil=>intro a;simp
 |cons x l ih=>intro a;simp only[List.foldl_cons];rw[ih (a+x),ih (0+x)];omega
theorem ksZ(l:List Rec)(r:Rec):nbZ (l++ [r])=nbZ l+weigh r:=by
 simp[nbZ]
theorem blZ:nbZ []=0:=rfl
end Go.Proofs.YtmlaajebadfkoaaGreatDoor.Recs
namespace Go.Proofs.YtmlaajebadfkoaaGreatDoor.Toks
open Go.RowKit
def lg(v:Int):Int:=((Nat.log2 v.toNat:Nat):Int)
def pw(b:Int):Int:=((2 ^ b.toNat:Nat):Int)
theorem ggZ(v:Int):0<=lg v:=by unfold lg;omega
theorem iaZb(b:Int):1<=pw b:=by
 unfold pw
 have:0<2 ^ b.toNat:=Nat.two_pow_pos _
 omega
theorem soZ(v:Int)(h:1<=v):pw (lg v)<=v:=by
 unfold pw lg
 have:=Nat.log2_self_le (n:=v.toNat) (by omega)
 rw[Int.toNat_natCast]
 omega
theorem mtZ(v:Int)(h:1<=v):v<2*pw (lg v):=by
 unfold pw lg
 have:=Nat.lt_log2_self (n:=v.toNat)
 rw[Int.toNat_natCast]
 rw[Nat.pow_succ]at this
 omega
theorem mwZ(b:Int)(h:0<=b):pw (b+1)=2*pw b:=by
 unfold pw
 rw[show(b+1).toNat=b.toNat+1 from by omega,Nat.pow_succ]
 omega
theorem srZ(a b:Int)(h:a<=b):pw a<=pw b:=by
 unfold pw
 have:=Nat.pow_le_pow_right (n:=2) (by omega) (show a.toNat<=b.toNat by omega)
 omega
theorem kjZb(v b:Int)(hb:0<=b)(h1:pw b<=v)(h2:v<2*pw b):lg v=b:=by
 have hp:=iaZb b
 have h3:=soZ v (by omega)
 have h4:=mtZ v (by omega)
 have hl:=ggZ v
 rcases Int.lt_trichotomy (lg v) b with h|h|h
 ·have:=srZ (lg v+1) b (by omega)
  rw[mwZ _ hl]at this
  omega
 ·exact h
 ·have:=srZ (b+1) (lg v) (by omega)
  rw[mwZ _ hb]at this
  omega
theorem toZ(v b:Int)(_hb:0<=b)(h1:1<=v)(h2:v<pw b):lg v<b:=by
 have h3:=soZ v h1
 rcases Int.lt_or_le (lg v) b with h|h
 ·exact h
 ·have:=srZ b (lg v) h
  omega
def dcZ(lit len dist:Int):Bool:=
 if len=0 then decide (dist=0)else decide (lit=0/\3<=len/\len<=257/\1<=dist/\dist<=4095)
structure Pc where
 sym:Int
 len:Int
 dist:Int
 far:Int
structure Tk where
 lit:Int
 len:Int
 dist:Int
def Pc.val(p:Pc):Value:= .agg #[.int .i64 p.sym, .int .i64 p.len, .int .i64 p.dist, .int .i64 p.far]
def Tk.val(t:Tk):Value:= .agg #[.int .u8 t.lit, .int .i64 t.len, .int .i64 t.dist]
def wZ(t:Tk):Pc:=
 if dcZ t.lit t.len t.dist=true then
  if t.len=0 then⟨t.lit,0,0,0⟩else⟨257+lg (t.len-2),t.len-2-pw (lg (t.len-2)),lg t.dist,t.dist-pw (lg t.dist)⟩
 else⟨0,0,0,0⟩
def sdZ(t:Tk):Int:=if dcZ t.lit t.len t.dist=true then 0 else 7
theorem pw_8:pw 8=256:=by decide
theorem dpZb:pw 12=4096:=by decide
end Go.Proofs.YtmlaajebadfkoaaGreatDoor.Toks
namespace Go.Proofs.YtmlaajebadfkoaaGreatDoor.Toks
def bump(l:List Int)(i:Nat):List Int:=l.set i (l.getD i 0+1)
def obZ(st:List Int×List Int)(t:Tk):List Int×List Int:=
 (bump st.1 (wZ t).sym.toNat,if t.len=0 then st.2 else bump st.2 (wZ t).dist.toNat)
def udZ(ts:List Tk):List Int×List Int:=ts.foldl obZ (List.replicate 265 0,List.replicate 12 0)
def symsOf(ts:List Tk):List Int:=bump (udZ ts).1 256
def lqZ(ts:List Tk):List Int:=(udZ ts).2
def jcZ(ts:List Tk):Bool:=ts.all fun t=>dcZ t.lit t.len t.dist
theorem knZ(l:List Int)(i:Nat):(bump l i).length=l.length:=by simp[bump]
theorem vnZ(st:List Int×List Int)(t:Tk):(obZ st t).1.length=st.1.length/\(obZ st t).2.length=st.2.length:=by
 unfold obZ
 refine⟨knZ _ _,?_⟩
 simp only
 split
 ·rfl
 ·exact knZ _ _
theorem ntZ(ts:List Tk):∀st:List Int×List Int,(ts.foldl obZ st).1.length=st.1.length/\(ts.foldl obZ st).2.length=st.2.length:=by
 induction ts with
 |nil=>intro st;exact⟨rfl,rfl⟩
 |cons t ts ih=>
  intro st
  have h:=ih (obZ st t)
  have h2:=vnZ st t
  exact⟨h.1.trans h2.1,h.2.trans h2.2⟩
theorem tfZ(ts:List Tk):(udZ ts).1.length=265/\(udZ ts).2.length=12:=by
 have h:=ntZ ts (List.replicate 265 0,List.replicate 12 0)
 exact⟨h.1.trans List.length_replicate,h.2.trans List.length_replicate⟩
theorem vxZ(ts:List Tk)(k:Nat)(h:k<ts.length):udZ (ts.take (k+1))=obZ (udZ (ts.take k)) ts[k]:=by
 unfold udZ
 rw[List.take_succ_eq_append_getElem h,List.foldl_append]
 rfl
def Within(b:Int)(l:List Int):Prop:=∀i,0<=l.getD i 0/\l.getD i 0<=b
theorem Within.mono{b c:Int}{l:List Int}(h:Within b l)(hbc:b<=c):Within c l:=fun i=>by have:=h i;omega
theorem Within.bump{b:Int}{l:List Int}(h:Within b l)(j:Nat):Within (b+1) (bump l j):=by
 intro i
 unfold Toks.bump
 simp only[List.getD_eq_getElem?_getD,List.getElem?_set]
 have hi:=h i
 have hj:=h j
 simp only[List.getD_eq_getElem?_getD]at hi hj
 split
 ·split
  ·simp;omega
  ·simp;omega
 ·omega
theorem ufZ(ts:List Tk):Within ts.length (udZ ts).1/\Within ts.length (udZ ts).2:=by
 have key:∀ (ts:List Tk) (st:List Int×List Int) (b:Int),Within b st.1->Within b st.2->Within (b+ts.length) (ts.foldl obZ st).1/\Within (b+ts.length) (ts.foldl obZ st).2:=by
  intro ts
  induction ts with
  |nil=>intro st b h1 h2;simpa using ⟨h1,h2⟩
  |cons t ts ih=>
   intro st b h1 h2
   have h:=ih (obZ st t) (b+1) (h1.bump _) (by
    unfold obZ
    simp only
    split
    ·exact h2.mono (by omega)
    ·exact h2.bump _)
   simp only[List.length_cons,List.foldl_cons]
   exact⟨h.1.mono (by omega),h.2.mono (by omega)⟩
 have z:∀n:Nat,Within 0 (List.replicate n 0):=by
  intro n i
  simp only[List.getD_eq_getElem?_getD,List.getElem?_replicate]
  split<;>simp
 have h:=key ts (List.replicate 265 0,List.replicate 12 0) 0 (z _) (z _)
 rw[Int.zero_add]at h
 exact h
theorem nwZ(t:Tk)(h0:0<=t.lit)(h1:t.lit<=255)(hm:dcZ t.lit t.len t.dist=true):
 ∃S D:Nat,∃L F:Int,wZ t=⟨S,L,D,F⟩/\S<265/\D<12/\(t.len=0->S<256)/\(t.len≠0->257<=S/\3<=t.len)/\sdZ t=0:=by
 by_cases hl:t.len=0
 ·refine⟨t.lit.toNat,0,0,0,?_,by omega,by omega,fun _=>by omega,fun h=>absurd hl h,?_⟩
  ·unfold wZ;rw[if_pos hm,if_pos hl,Int.toNat_of_nonneg h0];rfl
  ·unfold sdZ;rw[if_pos hm]
 ·have hb:t.lit=0/\3<=t.len/\t.len<=257/\1<=t.dist/\t.dist<=4095:=by
   unfold dcZ at hm;rw[if_neg hl]at hm;exact of_decide_eq_true hm
  have a1:=ggZ (t.len-2)
  have a2:=toZ (t.len-2) 8 (by omega) (by omega) (by rw[pw_8];omega)
  have b1:=ggZ t.dist
  have b2:=toZ t.dist 12 (by omega) (by omega) (by rw[dpZb];omega)
  refine⟨(257+lg (t.len-2)).toNat,(lg t.dist).toNat,t.len-2-pw (lg (t.len-2)),t.dist-pw (lg t.dist),?_,by omega,by omega,fun h=>absurd h hl,fun _=>⟨by omega,hb.2.1⟩,?_⟩
  ·unfold wZ
   rw[if_pos hm,if_neg hl,Int.toNat_of_nonneg (by omega),Int.toNat_of_nonneg b1]
  ·unfold sdZ;rw[if_pos hm]
end Go.Proofs.YtmlaajebadfkoaaGreatDoor.Toks
namespace Go.Proofs.YtmlaajebadfkoaaGreatDoor.Lz
open Go.Proofs.YtmlaajebadfkoaaGreatDoor.Toks (Tk dcZ)
def mqZ(l:List Nat)(p at_:Nat):Nat->Nat->Nat
 |0,n=>n
 |f+1,n=>if n<257/\at_+n<l.length/\l.getD (p+n) 0=l.getD (at_+n) 0 then mqZ l p at_ f (n+1)else n
def alike(l:List Nat)(p at_:Nat):Nat:=mqZ l p at_ 257 0
structure IsAlike (l:List Nat) (p at_ k:Nat):Prop where
 le:k<=257
 fits:k=0∨at_+k<=l.length
 same:∀j,j<k->l.getD (p+j) 0=l.getD (at_+j) 0
 stop:¬(k<257/\at_+k<l.length/\l.getD (p+k) 0=l.getD (at_+k) 0)
theorem wxZ(l:List Nat)(p at_:Nat):∀ (f n:Nat),n+f=257->(n=0∨at_+n<=l.length)->(∀j,j<n->l.getD (p+j) 0=l.getD (at_+j) 0)->IsAlike l p at_ (mqZ l p at_ f n)
 |0,n,hf,h1,h2=>by
  rw[mqZ]
  exact⟨by omega,h1,h2,by omega⟩
 |f+1,n,hf,h1,h2=>by
  rw[mqZ]
  split
  ·rename_i h
   refine wxZ l p at_ f (n+1) (by omega) (.inr (by omega)) fun j hj=> ?_
   by_cases e:j<n
   ·exact h2 j e
   ·obtain rfl:j=n:=by omega
    exact h.2.2
  ·rename_i h
   exact⟨by omega,h1,h2,h⟩
theorem wlZ(l:List Nat)(p at_:Nat):IsAlike l p at_ (alike l p at_):=wxZ l p at_ 257 0 rfl (.inl rfl) fun j hj=>absurd hj (by omega)
theorem IsAlike.unique{l:List Nat}{p at_ k k':Nat}(h:IsAlike l p at_ k)(h':IsAlike l p at_ k'):k=k':=by
 have key:∀ {a b:Nat},IsAlike l p at_ a->IsAlike l p at_ b->¬a<b:=by
  intro a b ha hb hlt
  refine ha.stop ⟨?_,?_,hb.same a hlt⟩
  ·have:=hb.le;omega
  ·rcases hb.fits with h0|h0<;>omega
 have h1:=key h h'
 have h2:=key h' h
 omega
theorem jaZb{l:List Nat}{p at_ k:Nat}(h:IsAlike l p at_ k):alike l p at_=k:=(wlZ l p at_).unique h
theorem otZ(l:List Nat)(p at_:Nat):alike l p at_<=257:=(wlZ l p at_).le
def ifZ(l:List Nat)(at_:Nat)(nd:Nat×Nat)(d:Nat):Nat×Nat:=if nd.1<alike l (at_-d) at_ then(alike l (at_-d) at_,d)else nd
def ubZ(l:List Nat)(at_:Nat):Nat->Nat×Nat
 |0=>(0,0)
 |d+1=>ifZ l at_ (ubZ l at_ d) (d+1)
def dbZ(l:List Nat)(at_:Nat):Nat×Nat:=ubZ l at_ (min 4095 at_)
structure Good (l:List Nat) (at_:Nat) (nd:Nat×Nat) (D:Nat):Prop where
 n:nd.1<=257
 d1:nd.1≠0->1<=nd.2
 d2:nd.2<=D
 is:nd.1≠0->nd.1=alike l (at_-nd.2) at_
theorem uuZ(l:List Nat)(at_:Nat):∀D,Good l at_ (ubZ l at_ D) D
 |0=>⟨by simp[ubZ],by simp[ubZ],by simp[ubZ],by simp[ubZ]⟩
 |D+1=>by
  have h:=uuZ l at_ D
  rw[ubZ,ifZ]
  split
  ·exact⟨otZ _ _ _,fun _=>by simp,by simp,fun _=>rfl⟩
  ·exact⟨h.n,h.d1,by have:=h.d2;omega,h.is⟩
theorem uoZ(l:List Nat)(at_:Nat):Good l at_ (dbZ l at_) (min 4095 at_):=uuZ l at_ _
theorem clZ{l:List Nat}{at_:Nat}(h:(dbZ l at_).1≠0):at_+(dbZ l at_).1<=l.length:=by
 have hg:=(uoZ l at_).is h
 rcases(wlZ l (at_-(dbZ l at_).2) at_).fits with h0|h0<;>omega
def ebZ(l:List Nat)(at_:Nat):List Tk:=
 if at_<l.length then
  if 3<=(dbZ l at_).1 then⟨0,((dbZ l at_).1:Nat),((dbZ l at_).2:Nat)⟩ :: ebZ l (at_+(dbZ l at_).1)
  else⟨(l.getD at_ 0:Nat),0,0⟩ :: ebZ l (at_+1)
 else []
termination_by l.length-at_
def find(l:List Nat):List Tk:=ebZ l 0
theorem xlZ{l:List Nat}{at_:Nat}(h:¬at_<l.length):ebZ l at_= []:=by rw[ebZ,if_neg h]
theorem zjZ{l:List Nat}{at_:Nat}(h:at_<l.length)(h3:3<=(dbZ l at_).1):ebZ l at_=⟨0,((dbZ l at_).1:Nat),((dbZ l at_).2:Nat)⟩ :: ebZ l (at_+(dbZ l at_).1):=by
 rw[ebZ,if_pos h,if_pos h3]
theorem ylZ{l:List Nat}{at_:Nat}(h:at_<l.length)(h3:¬3<=(dbZ l at_).1):ebZ l at_=⟨(l.getD at_ 0:Nat),0,0⟩ :: ebZ l (at_+1):=by
 rw[ebZ,if_pos h,if_neg h3]
theorem kaZb{l:List Nat}{motive:Nat->Prop}(h1:∀at_,¬at_<l.length->motive at_)(h2:∀at_,at_<l.length->3<=(dbZ l at_).1->motive (at_+(dbZ l at_).1)->motive at_)
 (h3:∀at_,at_<l.length->¬3<=(dbZ l at_).1->motive (at_+1)->motive at_):∀at_,motive at_:=by
 intro at_
 obtain⟨m,hm⟩:∃m,m=l.length-at_:=⟨_,rfl⟩
 induction m using Nat.strongRecOn generalizing at_ with
 |ind m ih=>
  by_cases h:at_<l.length
  ·by_cases h':3<=(dbZ l at_).1
   ·exact h2 at_ h h' (ih _ (by omega) _ rfl)
   ·exact h3 at_ h h' (ih _ (by omega) _ rfl)
  ·exact h1 at_ h
theorem find_ok{l:List Nat}(h8:∀x∈l,x<=255):∀at_,(∀t∈ebZ l at_,(0<=t.lit/\t.lit<=255)/\dcZ t.lit t.len t.dist=true)/\(ebZ l at_).length<=l.length-at_:=by
 refine kaZb (l:=l) ?_ ?_ ?_
 ·intro at_ h
  rw[xlZ h]
  simp
 ·intro at_ h h3 ih
  rw[zjZ h h3]
  have hg:=uoZ l at_
  have hd1:=hg.d1 (by omega)
  have hd2:=hg.d2
  have hn:=hg.n
  refine⟨fun t ht=> ?_,by rw[List.length_cons];have:=ih.2;have:=clZ (l:=l) (at_:=at_) (by omega);omega⟩
  rcases List.mem_cons.1 ht with rfl|ht
  ·refine⟨⟨by simp,by simp⟩,?_⟩
   unfold dcZ
   generalize (dbZ l at_).1=n at *
   generalize (dbZ l at_).2=d at *
   rw[if_neg (by show ¬(n:Int)=0;omega)]
   exact decide_eq_true ⟨rfl,by show(3:Int)<=(n:Int);omega,by show(n:Int)<=257;omega,by show(1:Int)<=(d:Int);omega,by show(d:Int)<=4095;omega⟩
  ·exact ih.1 t ht
 ·intro at_ h h3 ih
  rw[ylZ h h3]
  refine⟨fun t ht=> ?_,by rw[List.length_cons];have:=ih.2;omega⟩
  rcases List.mem_cons.1 ht with rfl|ht
  ·have hx:=h8 l[at_] (List.getElem_mem h)
   have e:l.getD at_ 0=l[at_]:=by rw[List.getD_eq_getElem?_getD,List.getElem?_eq_getElem h];rfl
   refine⟨⟨by simp,by simp only[e];omega⟩,?_⟩
   unfold dcZ
   simp
  ·exact ih.1 t ht
def rcZ(l:List Nat)(p:Nat):Nat×Nat×Nat:=(l.getD p 0,l.getD (p+1) 0,l.getD (p+2) 0)
def norm(nd:Nat×Nat):Nat×Nat:=if 3<=nd.1 then nd else(0,0)
theorem ljZb{l:List Nat}{p at_:Nat}(h:3<=alike l p at_):rcZ l p=rcZ l at_:=by
 have hs:=(wlZ l p at_).same
 unfold rcZ
 have h0:=hs 0 (by omega)
 have h1:=hs 1 (by omega)
 have h2:=hs 2 (by omega)
 simp only[Nat.add_zero]at h0
 rw[h0,h1,h2]
theorem ndZb{l:List Nat}{p at_:Nat}(h:rcZ l p=rcZ l at_)(hf:at_+3<=l.length):3<=alike l p at_:=by
 have ha:=wlZ l p at_
 unfold rcZ at h
 simp only[Prod.mk.injEq]at h
 rcases Nat.lt_or_ge (alike l p at_) 3 with hlt|hge
 ·exfalso
  refine ha.stop ⟨by omega,by omega,?_⟩
  generalize alike l p at_=k at hlt
  match k,hlt with
  |0,_=>exact h.1
  |1,_=>exact h.2.1
  |2,_=>exact h.2.2
 ·exact hge
end Go.Proofs.YtmlaajebadfkoaaGreatDoor.Lz
