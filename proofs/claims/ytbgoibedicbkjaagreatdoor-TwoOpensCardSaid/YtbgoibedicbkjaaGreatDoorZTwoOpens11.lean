/- Plain: words of a text, runs of a needle, which word fits (chapters 15 -/
import Derived.Test.YtbgoibedicbkjaaGreatDoorZTwoOpens1
import Derived.Test.YtbgoibedicbkjaaGreatDoorZTwoOpens2
import Derived.Test.YtbgoibedicbkjaaGreatDoorZTwoOpens3
import Derived.Lib.IndexMore
import Derived.Laws.IdiomStrings
import Derived.Lib.SlBytesRow
import Derived.Test.YtbgoibedicbkjaaGreatDoorProg
import Derived.WalkKit
import Derived.ProofKit
import Derived.BigQuiet
import Derived.BigGuardPart
import Derived.Lib.Hide
import Derived.Deep.Light
import Derived.Deep.AppendLies
import Derived.Lib.MinMax
import Derived.Deep.RegionHeld3
namespace Go.Proofs.YtbgoibedicbkjaaGreatDoor end Go.Proofs.YtbgoibedicbkjaaGreatDoor open Go.Proofs.YtbgoibedicbkjaaGreatDoor
namespace Go.Proofs.YtbgoibedicbkjaaGreatDoor.Sift
def ouZ(c:UInt8):UInt8:=if 97<=c.toNat/\c.toNat<=122∨48<=c.toNat/\c.toNat<=57 then c else if 65<=c.toNat/\c.toNat<=90 then c+32 else 0
def letB(c:UInt8):Bool:=ouZ c != 0
def rest:List UInt8->List UInt8
 | []=> []
 |c :: t=>if letB c=true then rest t else c :: t
def tell(row:List UInt8):List (List UInt8):=if row= []then []else [row.take 24]
def split:List UInt8->List UInt8->List (List UInt8)
 |row,[]=>tell row
 |row,c :: t=>if letB c=true then split (row++ [ouZ c]) t else tell row++split [] t
def words(l:List UInt8):List (List UInt8):=split [] l
end Go.Proofs.YtbgoibedicbkjaaGreatDoor.Sift
namespace Go.Proofs.YtbgoibedicbkjaaGreatDoor.Sift
open Go.RowKit Mem
def bs(l:List UInt8):ByteArray:=⟨l.toArray⟩
theorem ogZ(l:List UInt8):(bs l).data.toList=l:=rfl
theorem xbZ(l:List UInt8):(bs l).size=l.length:=by simp[bs,ByteArray.size]
theorem djZb(l:List UInt8)(i:Nat)(h:i<(bs l).size):(bs l)[i]=l[i]'(by rw[xbZ]at h;exact h):=by
 have h1:=byte_at' (bs l) i h (by rw[ogZ];rw[xbZ]at h;exact h)
 exact h1.symm
end Go.Proofs.YtbgoibedicbkjaaGreatDoor.Sift
namespace Go.Proofs.YtbgoibedicbkjaaGreatDoor.Sift
open Go.RowKit Mem Own
theorem smZ(s:ByteArray)(a b:Nat):(s.extract a b).data.toList=(s.data.toList.drop a).take (b-a):=by
 rw[<-Lib.extract_toList,ByteArray.toList_eq]
end Go.Proofs.YtbgoibedicbkjaaGreatDoor.Sift
namespace Go.Proofs.YtbgoibedicbkjaaGreatDoor.Sift
open Go.RowKit Mem Own Canon
def ccZ(ws:List (List UInt8)):List Value:=ws.map fun l=> .string (bs l)
theorem xfZb:(Tryz.prog.info? 9).map (fun i=>(i.zero,i.size,i.bytes))=some (some (.string ⟨#[]⟩),1,16):=by kernel_rfl
end Go.Proofs.YtbgoibedicbkjaaGreatDoor.Sift
namespace Go.Proofs.YtbgoibedicbkjaaGreatDoor.Sift
open Go.RowKit Mem Own Canon
section
variable {wx w4:World} {g base:Nat} {t e:TypeId} {s n:Nat} {v:Value} {xs cs}
theorem qeZ{p:Addr}(h:wx.ownsRow base e s v n xs)(hr:v.ownBlock≠some p.block)(u:Value):(wx.setCell p u).ownsRow base e s v n xs:=
 eZ h fun b hb=>Below.heap_setCell wx p u b (fun e=>hr (e ▸ hb))
end
section
variable {base:Nat} {a w w4:World} {bo bw br:Nat} {ws:List (List UInt8)} {row:List UInt8} {fv vo vr v4:Value}
end
end Go.Proofs.YtbgoibedicbkjaaGreatDoor.Sift
namespace Go.Proofs.YtbgoibedicbkjaaGreatDoor.Sift
open Go.RowKit Mem Own Canon
theorem aoZ(row:List UInt8):(tell row).length<=row.length:=by
 unfold tell
 split
 ·simp
 ·rename_i h
  have:=List.length_pos_iff.2 h
  simp
  omega
end Go.Proofs.YtbgoibedicbkjaaGreatDoor.Sift
namespace Go.Proofs.YtbgoibedicbkjaaGreatDoor.Idx
open Go.Proofs.YtbgoibedicbkjaaGreatDoor.Sift (words)
abbrev Str:=List UInt8
theorem xdZ(a:Str):¬a<a:=List.lt_irrefl a
theorem tmZ{a b c:Str}(h:a<b)(k:b<c):a<c:=List.lt_trans h k
theorem jkZ{a b:Str}(h:a<b):¬b<a:=fun k=>xdZ a (tmZ h k)
theorem pnZ(a b:Str):a<b∨a=b∨b<a:=by
 by_cases h:a<b
 ·exact .inl h
 ·by_cases k:b<a
  ·exact .inr (.inr k)
  ·exact .inr (.inl (List.le_antisymm k h))
def gfZ(l:List Str):Prop:=l.Pairwise (·< ·)
theorem dqZ:∀ {a b:List Str},gfZ a->gfZ b->(∀s,s∈a↔s∈b)->a=b
 | [],[],_,_,_=>rfl
 | [],y :: b,_,_,h=>absurd ((h y).2 (by simp)) (by simp)
 |x :: a,[],_,_,h=>absurd ((h x).1 (by simp)) (by simp)
 |x :: a,y :: b,ha,hb,h=>by
  obtain⟨hx,ha2⟩:=List.pairwise_cons.1 ha
  obtain⟨hy,hb2⟩:=List.pairwise_cons.1 hb
  have hxy:x=y:=by
   have h1:=(h x).1 (by simp)
   have h2:=(h y).2 (by simp)
   rw[List.mem_cons]at h1 h2
   rcases h1 with h1|h1
   ·exact h1
   ·rcases h2 with h2|h2
    ·exact h2.symm
    ·exact absurd (tmZ (hy x h1) (hx y h2)) (xdZ y)
  subst hxy
  refine congrArg (x :: ·) (dqZ ha2 hb2 fun s=>⟨fun hs=> ?_,fun hs=> ?_⟩)
  ·rcases List.mem_cons.1 ((h s).1 (List.mem_cons_of_mem _ hs))with rfl|h'
   ·exact absurd (hx s hs) (xdZ s)
   ·exact h'
  ·rcases List.mem_cons.1 ((h s).2 (List.mem_cons_of_mem _ hs))with rfl|h'
   ·exact absurd (hy s hs) (xdZ s)
   ·exact h'
def iiZ:List Str->Str->List Str
 | [],s=> [s]
 |x :: t,s=>if x<s then x :: iiZ t s else if x=s then x :: t else s :: x :: t
theorem fpZ(s u:Str):∀l,u∈iiZ l s↔u∈l∨u=s
 | []=>by simp[iiZ]
 |x :: t=>by
  rw[iiZ]
  split
  ·rw[List.mem_cons,fpZ s u t,List.mem_cons,or_assoc]
  ·split
   ·rename_i h
    subst h
    rw[List.mem_cons]
    exact⟨.inl,fun h=>h.elim id (fun h=> .inl h)⟩
   ·rw[List.mem_cons,or_comm]
theorem boZ(s:Str):∀ {l},gfZ l->gfZ (iiZ l s)
 | [],_=>by simp[iiZ,gfZ]
 |x :: t,h=>by
  obtain⟨hx,ht⟩:=List.pairwise_cons.1 h
  rw[iiZ]
  split
  ·rename_i hlt
   refine List.pairwise_cons.2 ⟨fun u hu=> ?_,boZ s ht⟩
   rcases(fpZ s u t).1 hu with h'|rfl
   ·exact hx u h'
   ·exact hlt
  ·split
   ·exact h
   ·rename_i h1 h2
    have hs:s<x:=(pnZ x s).elim (fun k=>absurd k h1) (fun k=>k.elim (fun k=>absurd k h2) id)
    refine List.pairwise_cons.2 ⟨fun u hu=> ?_,h⟩
    rcases List.mem_cons.1 hu with rfl|hu
    ·exact hs
    ·exact tmZ hs (hx u hu)
def hfZ(acc l:List Str):List Str:=l.foldl iiZ acc
theorem klZ(u:Str):∀ (l acc:List Str),u∈hfZ acc l↔u∈acc∨u∈l
 | [],acc=>by simp[hfZ]
 |x :: t,acc=>by
  have ih:=klZ u t (iiZ acc x)
  unfold hfZ at ih ⊢
  rw[List.foldl_cons,ih,fpZ,List.mem_cons,or_assoc]
theorem pmZ:∀ (l:List Str) {acc:List Str},gfZ acc->gfZ (hfZ acc l)
 | [],_,h=>h
 |x :: t,_,h=>pmZ t (boZ x h)
theorem ecZb{l:List Str}(h:l.Pairwise (·<= ·)):∀ {m:List Str},m.Sublist l->m.Pairwise (·≠ ·)->gfZ m:=fun hs hn=>by
 refine(List.Pairwise.and (h.sublist hs) hn).imp fun{a b} hab=> ?_
 rcases pnZ a b with k|k|k
 ·exact k
 ·exact absurd k hab.2
 ·exact absurd k hab.1
def at64:UInt8:=64
def erZ(text source:List UInt8):List Str:=words text++(words source).map (at64 :: ·)
def eqZ(text source:List UInt8):List Str:=hfZ [] (erZ text source)
theorem fcZb(t s:List UInt8)(u:Str):u∈eqZ t s↔u∈erZ t s:=by unfold eqZ;rw[klZ];simp
def obZ(ts:List (List Str)):List Str:=ts.foldl hfZ []
theorem sjZ(u:Str):∀ (ts:List (List Str)) (acc:List Str),u∈ts.foldl hfZ acc↔u∈acc∨∃t∈ts,u∈t
 | [],acc=>by simp
 |t :: ts,acc=>by
  rw[List.foldl_cons,sjZ u ts,klZ,or_assoc]
  simp
theorem fiZ:∀ (ts:List (List Str)) {acc:List Str},gfZ acc->gfZ (ts.foldl hfZ acc)
 | [],_,h=>h
 |t :: ts,_,h=>fiZ ts (pmZ t h)
theorem puZ(u:Str)(ts:List (List Str)):u∈obZ ts↔∃t∈ts,u∈t:=by unfold obZ;rw[sjZ];simp
theorem coZ(ts:List (List Str)):gfZ (obZ ts):=fiZ ts List.Pairwise.nil
def weZ(ts:List (List Str))(u:Str):List Nat:=(List.range ts.length).filter fun i=>(ts.getD i []).contains u
end Go.Proofs.YtbgoibedicbkjaaGreatDoor.Idx
