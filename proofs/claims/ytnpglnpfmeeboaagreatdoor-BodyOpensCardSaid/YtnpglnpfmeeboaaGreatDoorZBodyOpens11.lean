/- Plain: words of a text, runs of a needle, which word fits (chapters 15 -/
import Derived.Test.YtnpglnpfmeeboaaGreatDoorZBodyOpens1
import Derived.Test.YtnpglnpfmeeboaaGreatDoorZBodyOpens2
import Derived.Test.YtnpglnpfmeeboaaGreatDoorZBodyOpens3
import Derived.Lib.IndexMore
import Derived.Laws.IdiomStrings
import Derived.Lib.SlBytesRow
import Derived.Test.YtnpglnpfmeeboaaGreatDoorProg
import Derived.WalkKit
import Derived.ProofKit
import Derived.BigQuiet
import Derived.BigGuardPart
import Derived.Lib.Hide
import Derived.Deep.Light
import Derived.Deep.AppendLies
import Derived.Lib.MinMax
import Derived.Deep.RegionHeld3
namespace Go.Proofs.YtnpglnpfmeeboaaGreatDoor end Go.Proofs.YtnpglnpfmeeboaaGreatDoor open Go.Proofs.YtnpglnpfmeeboaaGreatDoor
namespace Go.Proofs.YtnpglnpfmeeboaaGreatDoor.Sift
def gtZ(c:UInt8):UInt8:=if 97<=c.toNat/\c.toNat<=122∨48<=c.toNat/\c.toNat<=57 then c else if 65<=c.toNat/\c.toNat<=90 then c+32 else 0
def letB(c:UInt8):Bool:=gtZ c != 0
def rest:List UInt8->List UInt8
 | []=> []
 |c :: t=>if letB c=true then rest t else c :: t
def tell(row:List UInt8):List (List UInt8):=if row= []then []else [row.take 24]
def split:List UInt8->List UInt8->List (List UInt8)
 |row,[]=>tell row
 |row,c :: t=>if letB c=true then split (row++ [gtZ c]) t else tell row++split [] t
def words(l:List UInt8):List (List UInt8):=split [] l
end Go.Proofs.YtnpglnpfmeeboaaGreatDoor.Sift
namespace Go.Proofs.YtnpglnpfmeeboaaGreatDoor.Sift
open Go.RowKit Mem
def bs(l:List UInt8):ByteArray:=⟨l.toArray⟩
theorem agZ(l:List UInt8):(bs l).data.toList=l:=rfl
theorem vbZ(l:List UInt8):(bs l).size=l.length:=by simp[bs,ByteArray.size]
theorem yhZb(l:List UInt8)(i:Nat)(h:i<(bs l).size):(bs l)[i]=l[i]'(by rw[vbZ]at h;exact h):=by
 have h1:=byte_at' (bs l) i h (by rw[agZ];rw[vbZ]at h;exact h)
 exact h1.symm
end Go.Proofs.YtnpglnpfmeeboaaGreatDoor.Sift
namespace Go.Proofs.YtnpglnpfmeeboaaGreatDoor.Sift
open Go.RowKit Mem Own
theorem amZ(s:ByteArray)(a b:Nat):(s.extract a b).data.toList=(s.data.toList.drop a).take (b-a):=by
 rw[<-Lib.extract_toList,ByteArray.toList_eq]
end Go.Proofs.YtnpglnpfmeeboaaGreatDoor.Sift
namespace Go.Proofs.YtnpglnpfmeeboaaGreatDoor.Sift
open Go.RowKit Mem Own Canon
def zbZ(ws:List (List UInt8)):List Value:=ws.map fun l=> .string (bs l)
theorem seZb:(Tryz.prog.info? 9).map (fun i=>(i.zero,i.size,i.bytes))=some (some (.string ⟨#[]⟩),1,16):=by kernel_rfl
end Go.Proofs.YtnpglnpfmeeboaaGreatDoor.Sift
namespace Go.Proofs.YtnpglnpfmeeboaaGreatDoor.Sift
open Go.RowKit Mem Own Canon
section
variable {wx w4:World} {g base:Nat} {t e:TypeId} {s n:Nat} {v:Value} {xs cs}
theorem feZ{p:Addr}(h:wx.ownsRow base e s v n xs)(hr:v.ownBlock≠some p.block)(u:Value):(wx.setCell p u).ownsRow base e s v n xs:=
 dZ h fun b hb=>Below.heap_setCell wx p u b (fun e=>hr (e ▸ hb))
end
section
variable {base:Nat} {a w w4:World} {bo bw br:Nat} {ws:List (List UInt8)} {row:List UInt8} {fv vo vr v4:Value}
end
end Go.Proofs.YtnpglnpfmeeboaaGreatDoor.Sift
namespace Go.Proofs.YtnpglnpfmeeboaaGreatDoor.Sift
open Go.RowKit Mem Own Canon
theorem zmZ(row:List UInt8):(tell row).length<=row.length:=by
 unfold tell
 split
 ·simp
 ·rename_i h
  have:=List.length_pos_iff.2 h
  simp
  omega
end Go.Proofs.YtnpglnpfmeeboaaGreatDoor.Sift
namespace Go.Proofs.YtnpglnpfmeeboaaGreatDoor.Idx
open Go.Proofs.YtnpglnpfmeeboaaGreatDoor.Sift (words)
abbrev Str:=List UInt8
theorem qdZ(a:Str):¬a<a:=List.lt_irrefl a
theorem bmZ{a b c:Str}(h:a<b)(k:b<c):a<c:=List.lt_trans h k
theorem rjZ{a b:Str}(h:a<b):¬b<a:=fun k=>qdZ a (bmZ h k)
theorem qmZ(a b:Str):a<b∨a=b∨b<a:=by
 by_cases h:a<b
 ·exact .inl h
 ·by_cases k:b<a
  ·exact .inr (.inr k)
  ·exact .inr (.inl (List.le_antisymm k h))
def weZ(l:List Str):Prop:=l.Pairwise (·< ·)
theorem yoZ:∀ {a b:List Str},weZ a->weZ b->(∀s,s∈a↔s∈b)->a=b
 | [],[],_,_,_=>rfl
 | [],y :: b,_,_,h=>absurd ((h y).2 (by simp)) (by simp)
 |x :: a,[],_,_,h=>absurd ((h x).1 (by simp)) (by simp)
 |x :: a,y :: b,ha,hb,h=>by
  obtain⟨hx,ha2⟩:=List.pairwise_cons.1 ha
  obtain⟨hy,hb2⟩:=List.pairwise_cons.1 hb
  have hxy:x=y:=by
   have h1:=(h x).1 (by simp)
   have h2:=(h y).2 (by simp)
   rw[List.mem_cons]at h1 h2
   rcases h1 with h1|h1
   ·exact h1
   ·rcases h2 with h2|h2
    ·exact h2.symm
    ·exact absurd (bmZ (hy x h1) (hx y h2)) (qdZ y)
  subst hxy
  refine congrArg (x :: ·) (yoZ ha2 hb2 fun s=>⟨fun hs=> ?_,fun hs=> ?_⟩)
  ·rcases List.mem_cons.1 ((h s).1 (List.mem_cons_of_mem _ hs))with rfl|h'
   ·exact absurd (hx s hs) (qdZ s)
   ·exact h'
  ·rcases List.mem_cons.1 ((h s).2 (List.mem_cons_of_mem _ hs))with rfl|h'
   ·exact absurd (hy s hs) (qdZ s)
   ·exact h'
def phZ:List Str->Str->List Str
 | [],s=> [s]
 |x :: t,s=>if x<s then x :: phZ t s else if x=s then x :: t else s :: x :: t
theorem boZ(s u:Str):∀l,u∈phZ l s↔u∈l∨u=s
 | []=>by simp[phZ]
 |x :: t=>by
  rw[phZ]
  split
  ·rw[List.mem_cons,boZ s u t,List.mem_cons,or_assoc]
  ·split
   ·rename_i h
    subst h
    rw[List.mem_cons]
    exact⟨.inl,fun h=>h.elim id (fun h=> .inl h)⟩
   ·rw[List.mem_cons,or_comm]
theorem anZ(s:Str):∀ {l},weZ l->weZ (phZ l s)
 | [],_=>by simp[phZ,weZ]
 |x :: t,h=>by
  obtain⟨hx,ht⟩:=List.pairwise_cons.1 h
  rw[phZ]
  split
  ·rename_i hlt
   refine List.pairwise_cons.2 ⟨fun u hu=> ?_,anZ s ht⟩
   rcases(boZ s u t).1 hu with h'|rfl
   ·exact hx u h'
   ·exact hlt
  ·split
   ·exact h
   ·rename_i h1 h2
    have hs:s<x:=(qmZ x s).elim (fun k=>absurd k h1) (fun k=>k.elim (fun k=>absurd k h2) id)
    refine List.pairwise_cons.2 ⟨fun u hu=> ?_,h⟩
    rcases List.mem_cons.1 hu with rfl|hu
    ·exact hs
    ·exact bmZ hs (hx u hu)
def xeZ(acc l:List Str):List Str:=l.foldl phZ acc
theorem okZ(u:Str):∀ (l acc:List Str),u∈xeZ acc l↔u∈acc∨u∈l
 | [],acc=>by simp[xeZ]
 |x :: t,acc=>by
  have ih:=okZ u t (phZ acc x)
  unfold xeZ at ih ⊢
  rw[List.foldl_cons,ih,boZ,List.mem_cons,or_assoc]
theorem xlZ:∀ (l:List Str) {acc:List Str},weZ acc->weZ (xeZ acc l)
 | [],_,h=>h
 |x :: t,_,h=>xlZ t (anZ x h)
theorem abZb{l:List Str}(h:l.Pairwise (·<= ·)):∀ {m:List Str},m.Sublist l->m.Pairwise (·≠ ·)->weZ m:=fun hs hn=>by
 refine(List.Pairwise.and (h.sublist hs) hn).imp fun{a b} hab=> ?_
 rcases qmZ a b with k|k|k
 ·exact k
 ·exact absurd k hab.2
 ·exact absurd k hab.1
def at64:UInt8:=64
def aqZ(text source:List UInt8):List Str:=words text++(words source).map (at64 :: ·)
def zoZ(text source:List UInt8):List Str:=xeZ [] (aqZ text source)
theorem bbZb(t s:List UInt8)(u:Str):u∈zoZ t s↔u∈aqZ t s:=by unfold zoZ;rw[okZ];simp
def ubZ(ts:List (List Str)):List Str:=ts.foldl xeZ []
theorem bjZ(u:Str):∀ (ts:List (List Str)) (acc:List Str),u∈ts.foldl xeZ acc↔u∈acc∨∃t∈ts,u∈t
 | [],acc=>by simp
 |t :: ts,acc=>by
  rw[List.foldl_cons,bjZ u ts,okZ,or_assoc]
  simp
theorem mhZ:∀ (ts:List (List Str)) {acc:List Str},weZ acc->weZ (ts.foldl xeZ acc)
 | [],_,h=>h
 |t :: ts,_,h=>mhZ ts (xlZ t h)
theorem htZ(u:Str)(ts:List (List Str)):u∈ubZ ts↔∃t∈ts,u∈t:=by unfold ubZ;rw[bjZ];simp
theorem bnZ(ts:List (List Str)):weZ (ubZ ts):=mhZ ts List.Pairwise.nil
def keZ(ts:List (List Str))(u:Str):List Nat:=(List.range ts.length).filter fun i=>(ts.getD i []).contains u
end Go.Proofs.YtnpglnpfmeeboaaGreatDoor.Idx
