/- Plain: words of a te -/
import Derived.Test.YtfgdoknipbpfhaaGreatDoorZBodyOpened3
import Derived.Lib.IndexMore
import Derived.Laws.IdiomStrings
import Derived.Lib.SlBytesRow
import Derived.Deep.AppendLies
import Derived.Lib.MinMax
namespace Go.Proofs.YtfgdoknipbpfhaaGreatDoor
open Go.Proofs.Tryz
open Go.Lib (hid)
set_option maxHeartbeats 1000000
set_option maxRecDepth 100000
variable{c n:Nat}{o:Obj}{p:Addr}
namespace Sift
def GV(c:UInt8):UInt8:=if 97<=c.toNat/\c.toNat<=122∨48<=c.toNat/\c.toNat<=57 then c else if 65<=c.toNat/\c.toNat<=90 then c+32 else 0
def Ja(c:UInt8):Bool:=GV c != 0
def rest:List UInt8->List UInt8
 | []=> []
 |c :: t=>if Ja c=true then rest t else c :: t
def tell(row:List UInt8):List (List UInt8):=if row= []then []else [row.take 24]
def split:List UInt8->List UInt8->List (List UInt8)
 |row,[]=>tell row
 |row,c :: t=>if Ja c=true then split (row++ [GV c]) t else tell row++split [] t
def words(l:List UInt8):List (List UInt8):=split [] l
end Sift
namespace Sift
open Go.RowKit Mem
def Kt(n:Nat):Bool:=decide ((97<=n/\n<=122)∨(65<=n/\n<=90)∨(48<=n/\n<=57))
def Jt(n:Nat):Nat:=if(97<=n/\n<=122)∨(48<=n/\n<=57)then n else if 65<=n/\n<=90 then n+32 else 0
theorem NK(c:UInt8):(GV c).toNat=Jt c.toNat:=by
 unfold GV Jt;split
 ·rfl
 ·split
  ·rename_i h;rw[UInt8.toNat_add];show(c.toNat+32) % 256=_;omega
  ·rfl
theorem Ut(c:UInt8):Ja c=Kt c.toNat:=by
 have h:Ja c=decide ((GV c).toNat≠0):=by
  unfold Ja;rw[Kh,bne_iff_ne,decide_eq_true_eq];constructor
  ·intro h h2;exact h (UInt8.toNat_inj.1 h2)
  ·intro h h2;exact h (by rw[h2];rfl)
 rw[h,NK];unfold Jt Kt;rw[Kh,decide_eq_true_eq,decide_eq_true_eq];split
 ·constructor<;>intro _<;>omega
 ·split
  ·constructor<;>intro _<;>omega
  ·constructor<;>intro _<;>omega
theorem lR(n:Nat):n<48∨(48<=n/\n<=57)∨(58<=n/\n<=64)∨(65<=n/\n<=90)∨(91<=n/\n<=96)∨(97<=n/\n<=122)∨123<=n:=mz
theorem Qi(h:(97<=n/\n<=122)∨(65<=n/\n<=90)∨(48<=n/\n<=57)):Kt n=true:=Be h
theorem Ny(h:¬((97<=n/\n<=122)∨(65<=n/\n<=90)∨(48<=n/\n<=57))):Kt n=false:=Bi h
theorem Uh(h:(97<=n/\n<=122)∨(48<=n/\n<=57)):Jt n=n:=Ae h
theorem YI(h:65<=n/\n<=90):Jt n=n+32:=(Ab mz).trans (Ae h)
theorem LU(h:¬((97<=n/\n<=122)∨(48<=n/\n<=57))/\¬(65<=n/\n<=90)):Jt n=0:=(Ab h.1).trans (Ab h.2)
theorem Yd(n:Nat)(h:65<=n)(h':n<=90)(w:World):Calls prog 236 #[.int .u8 n] w fun e w'=>e= .returned (.tuple #[.int .u8 (n+32:Nat),true])/\w=w':=by have g0:decide ((97:Int)<=(n:Int))=false:=Bi mz;have g1:decide ((65:Int)<=(n:Int))=true:=Be mz;have g2:decide ((48:Int)<=(n:Int))=true:=Be mz;have l0:decide ((n:Int)<=122)=true:=Be mz;have l1:decide ((n:Int)<=90)=true:=Be mz;have l2:decide ((n:Int)<=57)=false:=Bi mz;go_enter func236,ntmps236;go_wp2_with fail;go_ret2;exact⟨iw,rfl⟩
theorem XS(n:Nat)(h:97<=n)(h':n<=122)(w:World):Calls prog 236 #[.int .u8 n] w fun e w'=>e= .returned (.tuple #[.int .u8 (n:Nat),true])/\w=w':=by have g0:decide ((97:Int)<=(n:Int))=true:=Be mz;have g1:decide ((65:Int)<=(n:Int))=true:=Be mz;have g2:decide ((48:Int)<=(n:Int))=true:=Be mz;have l0:decide ((n:Int)<=122)=true:=Be mz;have l1:decide ((n:Int)<=90)=false:=Bi mz;have l2:decide ((n:Int)<=57)=false:=Bi mz;go_enter func236,ntmps236;go_wp2_with fail;go_ret2;exact⟨iw,rfl⟩
theorem Xy(n:Nat)(h:48<=n)(h':n<=57)(w:World):Calls prog 236 #[.int .u8 n] w fun e w'=>e= .returned (.tuple #[.int .u8 (n:Nat),true])/\w=w':=by have g0:decide ((97:Int)<=(n:Int))=false:=Bi mz;have g1:decide ((65:Int)<=(n:Int))=false:=Bi mz;have g2:decide ((48:Int)<=(n:Int))=true:=Be mz;have l0:decide ((n:Int)<=122)=true:=Be mz;have l1:decide ((n:Int)<=90)=true:=Be mz;have l2:decide ((n:Int)<=57)=true:=Be mz;go_enter func236,ntmps236;go_wp2_with fail;go_ret2;exact⟨iw,rfl⟩
theorem ZJ(n:Nat)(h:0<=n)(h':n<48)(w:World):Calls prog 236 #[.int .u8 n] w fun e w'=>e= .returned (.tuple #[.int .u8 (0:Nat),false])/\w=w':=by have g0:decide ((97:Int)<=(n:Int))=false:=Bi mz;have g1:decide ((65:Int)<=(n:Int))=false:=Bi mz;have g2:decide ((48:Int)<=(n:Int))=false:=Bi mz;have l0:decide ((n:Int)<=122)=true:=Be mz;have l1:decide ((n:Int)<=90)=true:=Be mz;have l2:decide ((n:Int)<=57)=true:=Be mz;go_enter func236,ntmps236;go_wp2_with fail;go_ret2;exact⟨iw,rfl⟩
theorem Zr(n:Nat)(h:58<=n)(h':n<=64)(w:World):Calls prog 236 #[.int .u8 n] w fun e w'=>e= .returned (.tuple #[.int .u8 (0:Nat),false])/\w=w':=by have g0:decide ((97:Int)<=(n:Int))=false:=Bi mz;have g1:decide ((65:Int)<=(n:Int))=false:=Bi mz;have g2:decide ((48:Int)<=(n:Int))=true:=Be mz;have l0:decide ((n:Int)<=122)=true:=Be mz;have l1:decide ((n:Int)<=90)=true:=Be mz;have l2:decide ((n:Int)<=57)=false:=Bi mz;go_enter func236,ntmps236;go_wp2_with fail;go_ret2;exact⟨iw,rfl⟩
theorem Y7(n:Nat)(h:91<=n)(h':n<=96)(w:World):Calls prog 236 #[.int .u8 n] w fun e w'=>e= .returned (.tuple #[.int .u8 (0:Nat),false])/\w=w':=by have g0:decide ((97:Int)<=(n:Int))=false:=Bi mz;have g1:decide ((65:Int)<=(n:Int))=true:=Be mz;have g2:decide ((48:Int)<=(n:Int))=true:=Be mz;have l0:decide ((n:Int)<=122)=true:=Be mz;have l1:decide ((n:Int)<=90)=false:=Bi mz;have l2:decide ((n:Int)<=57)=false:=Bi mz;go_enter func236,ntmps236;go_wp2_with fail;go_ret2;exact⟨iw,rfl⟩
theorem YM(n:Nat)(h:123<=n)(h':n<256)(w:World):Calls prog 236 #[.int .u8 n] w fun e w'=>e= .returned (.tuple #[.int .u8 (0:Nat),false])/\w=w':=by have g0:decide ((97:Int)<=(n:Int))=true:=Be mz;have g1:decide ((65:Int)<=(n:Int))=true:=Be mz;have g2:decide ((48:Int)<=(n:Int))=true:=Be mz;have l0:decide ((n:Int)<=122)=false:=Bi mz;have l1:decide ((n:Int)<=90)=false:=Bi mz;have l2:decide ((n:Int)<=57)=false:=Bi mz;go_enter func236,ntmps236;go_wp2_with fail;go_ret2;exact⟨iw,rfl⟩
theorem Ub(n:Nat)(hn:n<256)(w:World):Calls prog 236 #[.int .u8 n] w fun e w'=>e= .returned (.tuple #[.int .u8 (Jt n:Nat), .bool (Kt n)])/\w=w':=by
 rcases lR n with h|⟨h,h'⟩|⟨h,h'⟩|⟨h,h'⟩|⟨h,h'⟩|⟨h,h'⟩|h
 ·rw[Ny mz,LU mz];exact ZJ n mz h w
 ·rw[Qi mz,Uh mz];exact Xy n h h' w
 ·rw[Ny mz,LU mz];exact Zr n h h' w
 ·rw[Qi mz,YI mz];exact Yd n h h' w
 ·rw[Ny mz,LU mz];exact Y7 n h h' w
 ·rw[Qi mz,Uh mz];exact XS n h h' w
 ·rw[Ny mz,LU mz];exact YM n h hn w
end Sift
namespace Sift
open Go.RowKit Mem
def bs(l:List UInt8):ByteArray:=⟨l.toArray⟩
theorem Ht(l:List UInt8):(bs l).data.toList=l:=rfl
theorem EE(l:List UInt8):(bs l).size=l.length:=by simp[bs,ByteArray.size]
theorem Oz(l:List UInt8)(i:Nat)(h:i<(bs l).size):(bs l)[i]=l[i]'(by rw[EE]at h;exact h):=by have h1:=byte_at' (bs l) i h (by rw[Ht];rw[EE]at h;exact h);exact h1.symm
end Sift
namespace Sift
open Go.RowKit Mem Own
theorem drop_at{s:ByteArray}{k:Nat}(h:k<s.size):s.data.toList.drop k=s[k] :: s.data.toList.drop (k+1):=by
 have h1:k<s.data.toList.length:=by rw[<-Lib.size_eq];exact h
 rw[Df h1,byte_at' s k h h1]
theorem VA(s:ByteArray)(a b:Nat):(s.extract a b).data.toList=(s.data.toList.drop a).take (b-a):=by rw[<-Lib.extract_toList,GK]
end Sift
namespace Sift
open Go.RowKit Mem Own Canon
def Bh(ws:List (List UInt8)):List Value:=ws.map fun l=> .string (bs l)
theorem Yq(ws:List (List UInt8))(x:List UInt8):Bh (ws++ [x])=Bh ws++ [.string (bs x)]:=by simp[Bh]
def byL(l:List UInt8):List Value:=l.map fun c=> .int .u8 (c.toNat:Nat)
theorem WH(l:List UInt8)(x:UInt8):byL (l++ [x])=byL l++ [.int .u8 (x.toNat:Nat)]:=by simp[byL]
theorem kU{l:List UInt8}{i:Nat}{c:UInt8}(h:l[i]? =some c):(byL l)[i]? =some (.int .u8 (c.toNat:Nat)):=by simp[byL,h]
theorem Oo:(prog.info? 9).map (fun i=>(i.zero,i.size,i.bytes))=some (some (.string ⟨#[]⟩),1,16):=mr
end Sift
namespace Sift
open Go.RowKit Mem Own Canon
section
variable {wx w4:World} {g base:Nat} {t e:TypeId} {s n:Nat} {v:Value} {xs cs}
theorem blk_over{row:Option Nat}(h:Blk wx g t cs)(hg:(wx.alloc o).grownBy w4 row)(hr:row≠some g)(hp:g≠p.block)(u:Value):Blk (w4.setCell p u) g t cs:=
 ((h.alloc o).grown hg (fun e=>hr e.symm)).far hp u
theorem T6{row:Option Nat}(h:wx.ownsRow base e s v n xs)(hg:(wx.alloc o).grownBy w4 row)(hr:∀g,v.ownBlock=some g->row≠some g/\g≠p.block)(u:Value):(w4.setCell p u).ownsRow base e s v n xs:=
 eZ h fun b hb=>by obtain⟨h1,h2⟩:=hr b hb;have h3:=(Am h b hb).2;exact(AV w4 p u b h2).trans ((hg.block b pQ (fun e=>h1 e.symm)).trans (Ed wx o b h3))
theorem Fg(h:wx.ownsRow base e s v n xs)(hr:v.ownBlock≠some p.block)(u:Value):(wx.setCell p u).ownsRow base e s v n xs:=
 eZ h fun b hb=>AV wx p u b (fun e=>hr (e ▸ hb))
end
structure WSt (base:Nat) (a w:World) (bo bw br:Nat) (ws:List (List UInt8)) (row:List UInt8) (fv vo vr:Value):Prop where
 below:Below base a w
 o:Blk w bo 50 #[vo]
 f:Blk w bw 236 #[fv]
 r:Blk w br 28 #[vr]
 oo:w.ownsRow base 9 1 vo ws.length (Bh ws)
 ro:w.ownsRow base 5 1 vr row.length (byL row)
 lo:base<=bo
 lr:base<=br
 la:base<=a.heap.size
section
variable {base:Nat} {a w w4:World} {bo bw br:Nat} {ws:List (List UInt8)} {row:List UInt8} {fv vo vr v4:Value}
theorem WSt.drew(h:WSt base a w bo bw br ws row fv vo vr):WSt base a w.drew bo bw br ws row fv vo vr:=⟨h.below.drew,h.o,h.f,h.r,h.oo,h.ro,h.lo,h.lr,h.la⟩
theorem WSt.row_app(h:WSt base a w bo bw br ws row fv vo vr)(c:UInt8)(i:w4.ownsRow base 5 1 v4 (row.length+1) (byL row++ [.int .u8 (c.toNat:Nat)]))(hg:(w.alloc o).grownBy w4 vr.ownBlock):
 WSt base a (w4.setCell ⟨br,0,none⟩ v4) bo bw br ws (row++ [c]) fv vo v4:=by
 have hz:=h.below.size;have j:Below base a w4:=(mZ (by have:=h.la;omega) h.below).grown hg (by simp;have:=h.la;omega) (fun y hy=>(Am h.ro y hy).1);refine⟨j.setCell h.lr _,blk_over h.o hg (gZ h.ro h.o ip) (Blk.apart h.o h.r ip) _,blk_over h.f hg (gZ h.ro h.f ip) (Blk.apart h.f h.r ip) _,?_,T6 h.oo hg (fun g hg2=>⟨?_,?_⟩) _,?_,h.lo,h.lr,h.la⟩
 ·exact(((h.r.alloc o).grown hg (fun e=>gZ h.ro h.r ip e.symm))).set 0 v4
 ·intro e;rcases EZ h.oo h.ro ip with h1|h1
  ·rw[h1]at hg2;cases hg2
  ·exact h1 (hg2.trans e.symm)
 ·intro e;exact gZ h.oo h.r ip (hg2.trans (AE some e))
 ·have hb:=(h.r.alloc o).grown hg (fun e=>gZ h.ro h.r ip e.symm);rw[Aj,WH];exact Fg i (gZ i hb ip) _
theorem WSt.word_app(h:WSt base a w bo bw br ws row fv vo vr)(x:List UInt8)(i:w4.ownsRow base 9 1 v4 (ws.length+1) (Bh ws++ [.string (bs x)]))(hg:(w.alloc o).grownBy w4 vo.ownBlock):
 WSt base a (w4.setCell ⟨bo,0,none⟩ v4) bo bw br (ws++ [x]) row fv v4 vr:=by
 have hz:=h.below.size;have j:Below base a w4:=(mZ (by have:=h.la;omega) h.below).grown hg (by simp;have:=h.la;omega) (fun y hy=>(Am h.oo y hy).1);refine⟨j.setCell h.lo _,?_,blk_over h.f hg (gZ h.oo h.f ip) (Blk.apart h.f h.o ip) _,blk_over h.r hg (gZ h.oo h.r ip) (Blk.apart h.r h.o ip) _,?_,T6 h.ro hg (fun g hg2=>⟨?_,?_⟩) _,h.lo,h.lr,h.la⟩
 ·exact(((h.o.alloc o).grown hg (fun e=>gZ h.oo h.o ip e.symm))).set 0 v4
 ·have hb:=(h.o.alloc o).grown hg (fun e=>gZ h.oo h.o ip e.symm);rw[Aj,Yq];exact Fg i (gZ i hb ip) _
 ·intro e;rcases EZ h.ro h.oo ip with h1|h1
  ·rw[h1]at hg2;cases hg2
  ·exact h1 (hg2.trans e.symm)
 ·intro e;exact gZ h.ro h.o ip (hg2.trans (AE some e))
theorem WSt.row_cut{A:Option Addr}(h:WSt base a w bo bw br ws row fv vo (.slice A n c)):WSt base a (w.setCell ⟨br,0,none⟩ (.slice A 0 c)) bo bw br ws [] fv vo (.slice A 0 c):=by
 refine⟨h.below.setCell h.lr _,h.o.far (Blk.apart h.o h.r ip) _,h.f.far (Blk.apart h.f h.r ip) _,h.r.set 0 _,Fg h.oo (gZ h.oo h.r ip) _,?_,h.lo,h.lr,h.la⟩
 have h2:w.ownsRow base 5 1 (.slice A 0 c) 0 []:=by
  rcases h.ro.2 with ⟨hv,_⟩|⟨g,y,cur,hv,hg,hh,_,j,i,_⟩
  ·injection hv with e1 e2 e3;subst e1 e3;exact AK _ _ _ _
  ·injection hv with e1 e2 e3;subst e1 e3;exact⟨pI, .inr ⟨g,c,cur,rfl,hg,hh,Cr _,j,i,pI⟩⟩
 exact Fg h2 (gZ h2 h.r ip) _
end
theorem TO{P:Program}{t e:TypeId}{s:Nat}(ht:P.underlying t=some (.slice e))(hs:∀w,(sizeOf e).run P w= .ok s w)(g o len i:Nat)(kh:IntKind)(h:Int)(m:Nat)(hh:h=m)(hm:m<=i)(w:World):
 (Instr.slice t (.slice (some ⟨g,o,none⟩) len i) none (some (.int kh h)) none).run P w= .ok (.slice (some ⟨g,o,none⟩) m i) w:=by
 subst hh;have he:P.elem t=e:=pS
 rw[run_slice_h w t (some ⟨g,o,none⟩) len i oW kh (m:Int) mz mz,he,hs];simp[Result.andThen,sliced,Gh]
theorem Me{w:World}{base m:Nat}{g:Nat}{l:List UInt8}(h:w.ownsRow base 5 1 (.slice (some ⟨g,0,none⟩) n c) n (byL l))(hn:l.length=n)(hm:m<=n):
 ∀wx:World,wx.heap[g]? =w.heap[g]? ->(convert 28 9 (.slice (some ⟨g,0,none⟩) m c)).run prog wx= .ok (.string (bs (l.take m))) wx:=by
 intro wx hb;have hz:(bs (l.take m)).size=m:=by rw[EE,Bd];omega
 have j:Lib.Bytes wx g 0 (bs (l.take m)):=by
  intro i hi;rw[hz]at hi;have y:i<l.length:=mz
  rw[Ck,World.cell?_of_block (a:=⟨g,i,none⟩) hb,h.cellAt i mz,Oz (l.take m) i (by rw[hz];exact hi),List.getElem_take];exact kU (AD y)
 have kd:=Lib.run_convert_whole (P:=prog) wx 28 5 9 underlying28 underlying5 underlying9 g 0 (bs (l.take m)) j c;rw[hz]at kd;exact kd
end Sift
namespace Sift
open Go.RowKit Mem Own Canon
theorem L5(row:List UInt8):(tell row).length<=row.length:=by
 unfold tell;split
 ·simp
 ·rename_i h;have:=FD.2 h;simp;omega
end Sift
namespace Idx
open Sift (words)
abbrev Str:=List UInt8
theorem Ir(a:Str):¬a<a:=List.lt_irrefl a
theorem LP{a b c:Str}(h:a<b)(k:b<c):a<c:=List.lt_trans h k
theorem TR{a b:Str}(h:a<b):¬b<a:=fun k=>Ir a (LP h k)
theorem K8(a b:Str):a<b∨a=b∨b<a:=by
 by_cases h:a<b
 ·exact .inl h
 ·by_cases k:b<a
  ·exact .inr (.inr k)
  ·exact .inr (.inl (List.le_antisymm k h))
def EV(l:List Str):Prop:=l.Pairwise (·< ·)
theorem Qf:∀ {a b:List Str},EV a->EV b->(∀s,s∈a↔s∈b)->a=b
 | [],[],_,_,_=>rfl
 | [],y :: b,_,_,h=>absurd ((h y).2 pI) pI
 |x :: a,[],_,_,h=>absurd ((h x).1 pI) pI
 |x :: a,y :: b,ha,hb,h=>by
  obtain⟨hx,j⟩:=Fz.1 ha;obtain⟨hy,i⟩:=Fz.1 hb
  have z:x=y:=by
   have h1:=(h x).1 pI;have h2:=(h y).2 pI;rw[AQ]at h1 h2;rcases h1 with h1|h1
   ·exact h1
   ·rcases h2 with h2|h2
    ·exact h2.symm
    ·exact absurd (LP (hy x h1) (hx y h2)) (Ir y)
  subst z;refine AE (x :: ·) (Qf j i fun s=>⟨fun hs=> ?_,fun hs=> ?_⟩)
  ·rcases AQ.1 ((h s).1 (BW _ hs))with rfl|h'
   ·exact absurd (hx s hs) (Ir s)
   ·exact h'
  ·rcases AQ.1 ((h s).2 (BW _ hs))with rfl|h'
   ·exact absurd (hy s hs) (Ir s)
   ·exact h'
def Fc:List Str->Str->List Str
 | [],s=> [s]
 |x :: t,s=>if x<s then x :: Fc t s else if x=s then x :: t else s :: x :: t
theorem Oi(s u:Str):∀l,u∈Fc l s↔u∈l∨u=s
 | []=>by simp[Fc]
 |x :: t=>by
  rw[Fc];split
  ·rw[AQ,Oi s u t,AQ,or_assoc]
  ·split
   ·rename_i h;subst h;rw[AQ];exact⟨.inl,fun h=>h.elim id (fun h=> .inl h)⟩
   ·rw[AQ,or_comm]
theorem TX(s:Str):∀ {l},EV l->EV (Fc l s)
 | [],_=>by simp[Fc,EV]
 |x :: t,h=>by
  obtain⟨hx,ht⟩:=Fz.1 h;rw[Fc];split
  ·rename_i i;refine Fz.2 ⟨fun u hu=> ?_,TX s ht⟩;rcases(Oi s u t).1 hu with h'|rfl
   ·exact hx u h'
   ·exact i
  ·split
   ·exact h
   ·rename_i h1 h2;have hs:s<x:=(K8 x s).elim (fun k=>absurd k h1) (fun k=>k.elim (fun k=>absurd k h2) id);refine Fz.2 ⟨fun u hu=> ?_,h⟩;rcases AQ.1 hu with rfl|hu
    ·exact hs
    ·exact LP hs (hx u hu)
def EB(acc l:List Str):List Str:=l.foldl Fc acc
theorem MR(u:Str):∀ (l h:List Str),u∈EB h l↔u∈h∨u∈l
 | [],h=>by simp[EB]
 |x :: t,h=>by have ih:=MR u t (Fc h x);unfold EB at ih ⊢;rw[List.foldl_cons,ih,Oi,AQ,or_assoc]
theorem Nk:∀ (l:List Str) {i:List Str},EV i->EV (EB i l)
 | [],_,h=>h
 |x :: t,_,h=>Nk t (TX x h)
theorem X7{l:List Str}(h:l.Pairwise (·<= ·)):∀ {m:List Str},m.Sublist l->m.Pairwise (·≠ ·)->EV m:=fun hs hn=>by
 refine(List.Pairwise.and (h.sublist hs) hn).imp fun{a b} hab=> ?_;rcases K8 a b with k|k|k
 ·exact k
 ·exact absurd k hab.2
 ·exact absurd k hab.1
def I9:UInt8:=64
def Hb(text source:List UInt8):List Str:=words text++(words source).map (I9 :: ·)
def Hi(text source:List UInt8):List Str:=EB [] (Hb text source)
theorem aT(t s:List UInt8):EV (Hi t s):=Nk _ List.Pairwise.nil
theorem XL(t s:List UInt8)(u:Str):u∈Hi t s↔u∈Hb t s:=by unfold Hi;rw[MR];simp
def AY(ts:List (List Str)):List Str:=ts.foldl EB []
theorem VC(u:Str):∀ (ts:List (List Str)) (h:List Str),u∈ts.foldl EB h↔u∈h∨∃t∈ts,u∈t
 | [],h=>pI
 |t :: ts,h=>by rw[List.foldl_cons,VC u ts,MR,or_assoc];simp
theorem Sl:∀ (ts:List (List Str)) {i:List Str},EV i->EV (ts.foldl EB i)
 | [],_,h=>h
 |t :: ts,_,h=>Sl ts (Nk t h)
theorem Tp(u:Str)(ts:List (List Str)):u∈AY ts↔∃t∈ts,u∈t:=by unfold AY;rw[VC];simp
theorem TI(ts:List (List Str)):EV (AY ts):=Sl ts List.Pairwise.nil
def Cf(ts:List (List Str))(u:Str):List Nat:=(List.range ts.length).filter fun i=>(ts.getD i []).contains u
theorem Xt(ts:List (List Str))(t:List Str)(u:Str):Cf (ts++ [t]) u=Cf ts u++(if t.contains u then [ts.length]else []):=by
 unfold Cf;rw[Aj,Kg,GJ,List.filter_append];congr 1
 ·refine List.filter_congr fun i hi=> ?_;rw[Fm]at hi;simp only[List.getD_eq_getElem?_getD];rw[G1 hi]
 ·rw[List.filter_cons];simp
end Idx
namespace Sift
open Go.RowKit Mem Own Canon
open Idx (I9)
def Jm(f:List UInt8->List UInt8)(ws0:List (List UInt8))(s:ByteArray)(base:Nat)(a:World)(bo:Nat)(e:Ending)(w':World):Prop:=
 e= .returned (.tuple #[])/\Below base a w'/\∃vo,Blk w' bo 50 #[vo]/\w'.ownsRow base 9 1 vo (ws0++(words s.data.toList).map f).length (Bh (ws0++(words s.data.toList).map f))
theorem nJ(x:List UInt8):(ByteArray.mk #[64])++bs x=bs (I9 :: x):=by
 apply ByteArray.ext
 rw[ByteArray.data_append];apply Array.ext';simp[bs,I9]
def idS(x:List UInt8):List UInt8:=x
def atS(x:List UInt8):List UInt8:=I9 :: x
theorem jS(base:Nat)(a w:World)(bo bw br:Nat)(ws:List (List UInt8))(row x:List UInt8)(fv vo vr:Value)(hl:ws.length<=100000)(h:WSt base a w bo bw br ws row fv vo vr):
 Calls prog 179 #[.string (bs x), .pointer (some ⟨bo,0,none⟩)] w fun e w'=>e= .returned (.tuple #[])/\∃vo',WSt base a w' bo bw br (ws++ [idS x]) row fv vo' vr:=by
 obtain⟨j1,z,y,G,E⟩:=info_parts Oo;obtain⟨A,c,rfl⟩:=bZ h.oo;have c0:=h.o.ia 0;have f0:=h.o.frozen 0;have hz:=h.below.size;have M:=h.la;have H:=hid h;generalize hn:ws.length=n at *;have HN:=hid hn;clear h hn;go_enter func179,ntmps179;go_wp2_with(at_builtin;refine iZ rfl (.tmp 3) (.tmp 5) 50 rfl base 9 j1 _ 1 16 underlying50 z y G E rfl ip _ _ _ nc ((HN.out ▸ H.out.oo).alloc _) _ 1 1 [.string (bs x)] nc (Src.of_blk (Blk.made _ _ _) 1 1 1 rfl) mj qg mz pQ ?_;intro v4 w4 i j J;obtain⟨A4,k4,rfl⟩:=bZ i;have f4:w4.frozen? ⟨bo,0,none⟩=false:=(((H.out.o.alloc _).grown j (fun e=>gZ H.out.oo H.out.o ip e.symm))).frozen 0;have c4:w4.cell? ⟨bo,0,none⟩=some (.slice A n c):=(((H.out.o.alloc _).grown j (fun e=>gZ H.out.oo H.out.o ip e.symm))).cell 0);refine bodyPost_end (BN rfl _ _ _) rfl ?_;exact⟨rfl,_,H.out.word_app (idS x) (HN.out ▸ i) j⟩
def GB(bo:Nat):Value:= .func (.func 179) #[] #[.pointer (some ⟨bo,0,none⟩)]
theorem Yb(base:Nat)(a w:World)(bo bw br:Nat)(ws:List (List UInt8))(vo vr:Value)
 (h:WSt base a w bo bw br ws [] (GB bo) vo vr):
 Calls prog 235 #[.pointer (some ⟨br,0,none⟩), .pointer (some ⟨bw,0,none⟩)] w fun e w'=>e= .returned (.tuple #[])/\∃vo' vr',WSt base a w' bo bw br (ws++(tell []).map idS) [] (GB bo) vo' vr':=by
 rw[show(tell []).map idS= [] from rfl,Ce];obtain⟨A,c,rfl⟩:=bZ h.ro;have c0:=h.r.cell 0;have f0:=h.r.frozen 0;simp only[List.getElem?_toArray,List.getElem?_cons_zero,List.length_nil]at c0;have H:=hid h;clear h;go_enter func235,ntmps235;go_wp2_with fail;refine bodyPost_end (BN rfl _ _ _) rfl ?_;exact⟨rfl,_,_,H.out.row_cut⟩
theorem Xg(base:Nat)(a w:World)(bo bw br:Nat)(ws:List (List UInt8))(row:List UInt8)(vo vr:Value)(hl:ws.length<=100000)(hr:row.length<=100000)(h0:row≠ [])
 (h:WSt base a w bo bw br ws row (GB bo) vo vr):
 Calls prog 235 #[.pointer (some ⟨br,0,none⟩), .pointer (some ⟨bw,0,none⟩)] w fun e w'=>e= .returned (.tuple #[])/\∃i vr',WSt base a w' bo bw br (ws++(tell row).map idS) [] (GB bo) i vr':=by
 have ht:(tell row).map idS= [idS (row.take 24)]:=by rw[show tell row= [row.take 24] from Ab h0];rfl
 rw[ht];have z:0<row.length:=FD.2 h0;obtain⟨g,c,rfl⟩:∃g c,vr= .slice (some ⟨g,0,none⟩) row.length c:=mv
 have c0:=h.r.ia 0;have f0:=h.r.frozen 0;have c1:=h.f.ia 0;have D:=jS base a w.drew bo bw br ws row (row.take 24) _ _ _ hl h.drew;obtain⟨M,hM⟩:=ii (min row.length 24);have kd:=Me (m:=M) h.ro rfl mz w.drew rfl;have KD:∀ (w':World) base a bo bw br ws fv vo,WSt base a w' bo bw br ws row fv vo (.slice (some ⟨g,0,none⟩) row.length c)->(convert 28 9 (.slice (some ⟨g,0,none⟩) M c)).run prog w'= .ok (.string (bs (row.take M))) w':=fun w' _ _ _ _ _ _ _ _ h'=>Me (m:=M) h'.ro rfl mz w' rfl
 have y:row.take M=row.take 24:=by
  rw[hM];by_cases j:row.length<=24
  ·rw[Nat.min_eq_left j,BV mz,BV j]
  ·rw[Nat.min_eq_right mz]
 rw[y]at kd KD;have E:min (row.length:Int) 24=(M:Int):=mz
 have G:=(Ex h.ro).2;have ks:=fun wx=>TO (P:=prog) (t:=28) (s:=1) underlying28 (fun _=>by kernel_rfl) g 0 row.length c .i64 (M:Int) M rfl mz wx;have H:=hid h;have D:=hid D;generalize hn:row.length=n at *;have g1:=ic (0<n)
 clear h hn h0 ht hM y;unfold GB at c1;go_enter func235,ntmps235;go_upto_region 1 with fail;go_region_held3 (fun wx=>wx.cell? ⟨br,0,none⟩=some (.slice (some ⟨g,0,none⟩) n c)/\wx.cell? ⟨bw,0,none⟩=some (.func (.func 179) #[] #[.pointer (some ⟨bo,0,none⟩)])/\(convert 28 9 (.slice (some ⟨g,0,none⟩) M c)).run prog wx= .ok (.string (bs (row.take 24))) wx) (first|exact⟨c0,c1,kd⟩|exact k0) (first|(go_at_call 179;(with_reducible refine D.out.mono ?_);rintro e w' ⟨rfl,i,h'⟩;have k0:w'.cell? ⟨br,0,none⟩=some (.slice (some ⟨g,0,none⟩) n c)/\w'.cell? ⟨bw,0,none⟩=some (.func (.func 179) #[] #[.pointer (some ⟨bo,0,none⟩)])/\(convert 28 9 (.slice (some ⟨g,0,none⟩) M c)).run prog w'= .ok (.string (bs (row.take 24))) w':=⟨h'.r.cell 0,h'.f.cell 0,KD w' _ _ _ _ _ _ _ _ h'⟩));obtain⟨c2,c3,_⟩:=k0;have f2:=h'.r.frozen 0;have H':=hid h';clear h' D H c0 f0 c1;go_wp2_with fail;refine bodyPost_end (BN rfl _ _ _) rfl ?_;exact⟨rfl,_,_,H'.out.row_cut⟩
theorem QL(base:Nat)(a w:World)(bo bw br:Nat)(ws:List (List UInt8))(row:List UInt8)(vo vr:Value)(hl:ws.length<=100000)(hr:row.length<=100000)
 (h:WSt base a w bo bw br ws row (GB bo) vo vr):
 Calls prog 235 #[.pointer (some ⟨br,0,none⟩), .pointer (some ⟨bw,0,none⟩)] w fun e w'=>e= .returned (.tuple #[])/\∃vo' vr',WSt base a w' bo bw br (ws++(tell row).map idS) [] (GB bo) vo' vr':=by
 by_cases h0:row= []
 ·subst h0;exact Yb base a w bo bw br ws vo vr h
 ·exact Xg base a w bo bw br ws row vo vr hl hr h0 h
theorem WU(base:Nat)(a w:World)(bo:Nat)(s:ByteArray)(h:List (List UInt8))(v0:Value)(hs:s.size<=100000)(h0:h.length<=50000)(an:s.size<=50000)(hb:Below base a w)(ae:base<=a.heap.size)(ho:Blk w bo 50 #[v0])(Y:w.ownsRow base 9 1 v0 h.length (Bh h))(af:base<=bo):
 Calls prog 178 #[.string s,GB bo] w (Jm idS h s base a bo):=by
 obtain⟨j0,aj,ak,ag,ah⟩:=info_parts Eo;have y:=Lib.size_eq s;obtain⟨l,hl⟩:=ii s.data.toList;have HL:=hid hl;rw[<-hl]at y;have ab:=hid y;unfold Jm words;rw[<-hl];have hz:=hb.size;have HB:=hid hb;have HO:=hid ho;have ai:=hid Y;clear hl y hb ho Y;unfold GB;go_enter func178,ntmps178;go_wp2_with fail;go_loopw [12] (fun i wx=>∃ (k:Nat) (ws:List (List UInt8)) (row:List UInt8) (vo vr:Value),k<=s.size/\i= .int .i64 k/\Hid (ws.length+row.length<=h.length+k)/\Hid (ws++(split row (l.drop k)).map idS=h++(split [] l).map idS)/\Hid (WSt base a wx bo w (w.heap.size+1) ws row (GB bo) vo vr)) (fun i _=>s.size-(intOf i).toNat)
 case atStart=>refine⟨0,h,[],v0, .slice none 0 0,mz,rfl,(by show _<=_;simp),pC,?_⟩;refine⟨mZ pQ (mZ mz HB.out),(HO.out.alloc _).alloc _,(Blk.made _ _ _).alloc _,Blk.made_at _ _ _ pI,(ai.out.alloc _).alloc _,AK _ _ _ _,af,mz,ae⟩
 case round=>
  obtain⟨k,ws,row,vo,vr,hk,rfl,hq,hW,H⟩:=hrel;have am:=hq.out;by_cases Z:k<s.size
  ·have hd:=drop_at Z;rw[<-HL.out]at hd;have hw:=hW.out;rw[hd,split]at hw;have hu:=UInt8.toNat_lt s[k];have j:=Ut s[k];have D:=fun wx=>Ub s[k].toNat hu wx;have x0:(0:Int)<=(k:Int):=mz;have x1:(k:Int)<(s.size:Int):=mz;cases hc:Ja s[k]
   ·rw[hc]at hw j;rw[Ab pI,EN,<-AJ]at hw;rw[<-j]at D;have D:=hid D;have z:=hid hw;have T:=hid (QL base a wr bo w (w.heap.size+1) ws row vo vr mz mz H.out);have aq:=L5 row;clear hd hw j hu hc hW;go_wp2_with fail;refine(D.out _).mono ?_;rintro e w1 ⟨rfl,rfl⟩;go_wp2_with fail;refine T.out.mono ?_;rintro e w1 ⟨rfl,Q,aa,h'⟩;have H':=hid h';clear T D h' H;go_wp2_with fail;go_roundw
    case measure=>exact jo
    case rel=>go_light;exact⟨k+1,ws++(tell row).map idS,[],Q,aa,mz,jp,by show _<=_;rw[Aj,De,Bc];omega,z.out,H'.out⟩
   ·rw[hc]at hw j;rw[Ae rfl]at hw;rw[<-j]at D;obtain⟨A,c,rfl⟩:=bZ H.out.ro;have c0:=H.out.r.ia 0;have U:=NK s[k];have J:=fun w4 v4 o own4 hg=>H.out.row_app (w4:=w4) (v4:=v4) (o:=o) (GV (s[k]'Z)) own4 hg;have HA:=hid J;rw[<-U]at D;generalize GV s[k]=x at *;have D:=hid D;have z:=hid hw;have ar:=H.out.below.size;have N:=hid H.out.ro;have ac:=H.out.r;have G:=hid ac;clear hd hw j hu hc hW J U ac;generalize hn:row.length=n at *;have HN:=hid hn;clear hn;go_wp2_with fail;refine(D.out _).mono ?_;rintro e w1 ⟨rfl,rfl⟩;go_wp2_with(at_builtin;refine iZ rfl (.tmp 23) (.tmp 25) 28 rfl base 5 j0 _ 1 1 underlying28 aj ak ag ah rfl ip _ _ _ nc (N.out.alloc _) _ 1 1 [.int .u8 x.toNat] nc (Src.of_blk (Blk.made _ _ _) 1 1 1 rfl) mj qg mz pQ ?_;intro v4 w4 E M al;obtain⟨A4,k4,rfl⟩:=bZ E;have f4:w4.frozen? ⟨w.heap.size+1,0,none⟩=false:=(((G.out.alloc _).grown M (fun e=>gZ N.out G.out ip e.symm))).frozen 0;have c4:w4.cell? ⟨w.heap.size+1,0,none⟩=some (.slice A n c):=(((G.out.alloc _).grown M (fun e=>gZ N.out G.out ip e.symm))).cell 0);go_roundw
    case measure=>exact jo
    case rel=>exact jm
  ·obtain rfl:k=s.size:=by omega
   have hw:=hW.out;rw[Eb (by rw[ab.out];exact Aq _),split]at hw;have T:=hid (QL base a wr bo w (w.heap.size+1) ws row vo vr mz mz H.out);have z:=hid hw;clear hw hW H;go_wp2_with fail;refine T.out.mono ?_;rintro e w1 ⟨rfl,Q,aa,h'⟩;have H':=hid h';clear T h';go_wp2_with fail;refine bodyPost_end (BN rfl _ _ _) rfl ?_;refine⟨rfl,H'.out.below,Q,H'.out.o,?_⟩;show World.ownsRow _ _ _ _ _ (h++(split [] l).map idS).length (Bh (h++(split [] l).map idS));rw[<-z.out];exact H'.out.oo
theorem i8(base:Nat)(a w:World)(bo bw br:Nat)(ws:List (List UInt8))(row x:List UInt8)(fv vo vr:Value)(hl:ws.length<=100000)(hx:x.length<=100000)(h:WSt base a w bo bw br ws row fv vo vr):
 Calls prog 180 #[.string (bs x), .pointer (some ⟨bo,0,none⟩)] w fun e w'=>e= .returned (.tuple #[])/\∃vo',WSt base a w' bo bw br (ws++ [atS x]) row fv vo' vr:=by
 obtain⟨j1,y,z,G,E⟩:=info_parts Oo;obtain⟨A,c,rfl⟩:=bZ h.oo;have c0:=h.o.ia 0;have f0:=h.o.frozen 0;have hz:=h.below.size;have N:=h.la;have H:=hid h;have kc:=nJ x;have M:(bs x).size<=100000:=by rw[EE];exact hx
 clear hx;generalize hn:ws.length=n at *;have HN:=hid hn;clear h hn;go_enter func180,ntmps180;go_wp2_with(at_builtin;refine iZ rfl (.tmp 3) (.tmp 6) 50 rfl base 9 j1 _ 1 16 underlying50 y z G E rfl ip _ _ _ nc ((HN.out ▸ H.out.oo).alloc _) _ 1 1 [.string (bs (I9 :: x))] nc (Src.of_blk (Blk.made _ _ _) 1 1 1 rfl) mj qg mz pQ ?_;intro v4 w4 i j J;obtain⟨A4,k4,rfl⟩:=bZ i;have f4:w4.frozen? ⟨bo,0,none⟩=false:=(((H.out.o.alloc _).grown j (fun e=>gZ H.out.oo H.out.o ip e.symm))).frozen 0;have c4:w4.cell? ⟨bo,0,none⟩=some (.slice A n c):=(((H.out.o.alloc _).grown j (fun e=>gZ H.out.oo H.out.o ip e.symm))).cell 0);refine bodyPost_end (BN rfl _ _ _) rfl ?_;exact⟨rfl,_,H.out.word_app (atS x) (HN.out ▸ i) j⟩
def GA(bo:Nat):Value:= .func (.func 180) #[] #[.pointer (some ⟨bo,0,none⟩)]
theorem XP(base:Nat)(a w:World)(bo bw br:Nat)(ws:List (List UInt8))(vo vr:Value)
 (h:WSt base a w bo bw br ws [] (GA bo) vo vr):
 Calls prog 235 #[.pointer (some ⟨br,0,none⟩), .pointer (some ⟨bw,0,none⟩)] w fun e w'=>e= .returned (.tuple #[])/\∃vo' vr',WSt base a w' bo bw br (ws++(tell []).map atS) [] (GA bo) vo' vr':=by
 rw[show(tell []).map atS= [] from rfl,Ce];obtain⟨A,c,rfl⟩:=bZ h.ro;have c0:=h.r.cell 0;have f0:=h.r.frozen 0;simp only[List.getElem?_toArray,List.getElem?_cons_zero,List.length_nil]at c0;have H:=hid h;clear h;go_enter func235,ntmps235;go_wp2_with fail;refine bodyPost_end (BN rfl _ _ _) rfl ?_;exact⟨rfl,_,_,H.out.row_cut⟩
theorem Wz(base:Nat)(a w:World)(bo bw br:Nat)(ws:List (List UInt8))(row:List UInt8)(vo vr:Value)(hl:ws.length<=100000)(hr:row.length<=100000)(h0:row≠ [])
 (h:WSt base a w bo bw br ws row (GA bo) vo vr):
 Calls prog 235 #[.pointer (some ⟨br,0,none⟩), .pointer (some ⟨bw,0,none⟩)] w fun e w'=>e= .returned (.tuple #[])/\∃i vr',WSt base a w' bo bw br (ws++(tell row).map atS) [] (GA bo) i vr':=by
 have ht:(tell row).map atS= [atS (row.take 24)]:=by rw[show tell row= [row.take 24] from Ab h0];rfl
 rw[ht];have z:0<row.length:=FD.2 h0;obtain⟨g,c,rfl⟩:∃g c,vr= .slice (some ⟨g,0,none⟩) row.length c:=mv
 have c0:=h.r.ia 0;have f0:=h.r.frozen 0;have c1:=h.f.ia 0;have D:=i8 base a w.drew bo bw br ws row (row.take 24) _ _ _ hl nX h.drew;obtain⟨M,hM⟩:=ii (min row.length 24);have kd:=Me (m:=M) h.ro rfl mz w.drew rfl;have KD:∀ (w':World) base a bo bw br ws fv vo,WSt base a w' bo bw br ws row fv vo (.slice (some ⟨g,0,none⟩) row.length c)->(convert 28 9 (.slice (some ⟨g,0,none⟩) M c)).run prog w'= .ok (.string (bs (row.take M))) w':=fun w' _ _ _ _ _ _ _ _ h'=>Me (m:=M) h'.ro rfl mz w' rfl
 have y:row.take M=row.take 24:=by
  rw[hM];by_cases j:row.length<=24
  ·rw[Nat.min_eq_left j,BV mz,BV j]
  ·rw[Nat.min_eq_right mz]
 rw[y]at kd KD;have E:min (row.length:Int) 24=(M:Int):=mz
 have G:=(Ex h.ro).2;have ks:=fun wx=>TO (P:=prog) (t:=28) (s:=1) underlying28 (fun _=>by kernel_rfl) g 0 row.length c .i64 (M:Int) M rfl mz wx;have H:=hid h;have D:=hid D;generalize hn:row.length=n at *;have g1:=ic (0<n)
 clear h hn h0 ht hM y;unfold GA at c1;go_enter func235,ntmps235;go_upto_region 1 with fail;go_region_held3 (fun wx=>wx.cell? ⟨br,0,none⟩=some (.slice (some ⟨g,0,none⟩) n c)/\wx.cell? ⟨bw,0,none⟩=some (.func (.func 180) #[] #[.pointer (some ⟨bo,0,none⟩)])/\(convert 28 9 (.slice (some ⟨g,0,none⟩) M c)).run prog wx= .ok (.string (bs (row.take 24))) wx) (first|exact⟨c0,c1,kd⟩|exact k0) (first|(go_at_call 180;(with_reducible refine D.out.mono ?_);rintro e w' ⟨rfl,i,h'⟩;have k0:w'.cell? ⟨br,0,none⟩=some (.slice (some ⟨g,0,none⟩) n c)/\w'.cell? ⟨bw,0,none⟩=some (.func (.func 180) #[] #[.pointer (some ⟨bo,0,none⟩)])/\(convert 28 9 (.slice (some ⟨g,0,none⟩) M c)).run prog w'= .ok (.string (bs (row.take 24))) w':=⟨h'.r.cell 0,h'.f.cell 0,KD w' _ _ _ _ _ _ _ _ h'⟩));obtain⟨c2,c3,_⟩:=k0;have f2:=h'.r.frozen 0;have H':=hid h';clear h' D H c0 f0 c1;go_wp2_with fail;refine bodyPost_end (BN rfl _ _ _) rfl ?_;exact⟨rfl,_,_,H'.out.row_cut⟩
theorem Qv(base:Nat)(a w:World)(bo bw br:Nat)(ws:List (List UInt8))(row:List UInt8)(vo vr:Value)(hl:ws.length<=100000)(hr:row.length<=100000)
 (h:WSt base a w bo bw br ws row (GA bo) vo vr):
 Calls prog 235 #[.pointer (some ⟨br,0,none⟩), .pointer (some ⟨bw,0,none⟩)] w fun e w'=>e= .returned (.tuple #[])/\∃vo' vr',WSt base a w' bo bw br (ws++(tell row).map atS) [] (GA bo) vo' vr':=by
 by_cases h0:row= []
 ·subst h0;exact XP base a w bo bw br ws vo vr h
 ·exact Wz base a w bo bw br ws row vo vr hl hr h0 h
theorem Wa(base:Nat)(a w:World)(bo:Nat)(s:ByteArray)(h:List (List UInt8))(v0:Value)(hs:s.size<=100000)(h0:h.length<=50000)(an:s.size<=50000)(hb:Below base a w)(ae:base<=a.heap.size)(ho:Blk w bo 50 #[v0])(Y:w.ownsRow base 9 1 v0 h.length (Bh h))(af:base<=bo):
 Calls prog 178 #[.string s,GA bo] w (Jm atS h s base a bo):=by
 obtain⟨j0,aj,ak,ag,ah⟩:=info_parts Eo;have y:=Lib.size_eq s;obtain⟨l,hl⟩:=ii s.data.toList;have HL:=hid hl;rw[<-hl]at y;have ab:=hid y;unfold Jm words;rw[<-hl];have hz:=hb.size;have HB:=hid hb;have HO:=hid ho;have ai:=hid Y;clear hl y hb ho Y;unfold GA;go_enter func178,ntmps178;go_wp2_with fail;go_loopw [12] (fun i wx=>∃ (k:Nat) (ws:List (List UInt8)) (row:List UInt8) (vo vr:Value),k<=s.size/\i= .int .i64 k/\Hid (ws.length+row.length<=h.length+k)/\Hid (ws++(split row (l.drop k)).map atS=h++(split [] l).map atS)/\Hid (WSt base a wx bo w (w.heap.size+1) ws row (GA bo) vo vr)) (fun i _=>s.size-(intOf i).toNat)
 case atStart=>refine⟨0,h,[],v0, .slice none 0 0,mz,rfl,(by show _<=_;simp),pC,?_⟩;refine⟨mZ pQ (mZ mz HB.out),(HO.out.alloc _).alloc _,(Blk.made _ _ _).alloc _,Blk.made_at _ _ _ pI,(ai.out.alloc _).alloc _,AK _ _ _ _,af,mz,ae⟩
 case round=>
  obtain⟨k,ws,row,vo,vr,hk,rfl,hq,hW,H⟩:=hrel;have am:=hq.out;by_cases Z:k<s.size
  ·have hd:=drop_at Z;rw[<-HL.out]at hd;have hw:=hW.out;rw[hd,split]at hw;have hu:=UInt8.toNat_lt s[k];have j:=Ut s[k];have D:=fun wx=>Ub s[k].toNat hu wx;have x0:(0:Int)<=(k:Int):=mz;have x1:(k:Int)<(s.size:Int):=mz;cases hc:Ja s[k]
   ·rw[hc]at hw j;rw[Ab pI,EN,<-AJ]at hw;rw[<-j]at D;have D:=hid D;have z:=hid hw;have T:=hid (Qv base a wr bo w (w.heap.size+1) ws row vo vr mz mz H.out);have aq:=L5 row;clear hd hw j hu hc hW;go_wp2_with fail;refine(D.out _).mono ?_;rintro e w1 ⟨rfl,rfl⟩;go_wp2_with fail;refine T.out.mono ?_;rintro e w1 ⟨rfl,Q,aa,h'⟩;have H':=hid h';clear T D h' H;go_wp2_with fail;go_roundw
    case measure=>exact jo
    case rel=>go_light;exact⟨k+1,ws++(tell row).map atS,[],Q,aa,mz,jp,by show _<=_;rw[Aj,De,Bc];omega,z.out,H'.out⟩
   ·rw[hc]at hw j;rw[Ae rfl]at hw;rw[<-j]at D;obtain⟨A,c,rfl⟩:=bZ H.out.ro;have c0:=H.out.r.ia 0;have U:=NK s[k];have J:=fun w4 v4 o own4 hg=>H.out.row_app (w4:=w4) (v4:=v4) (o:=o) (GV (s[k]'Z)) own4 hg;have HA:=hid J;rw[<-U]at D;generalize GV s[k]=x at *;have D:=hid D;have z:=hid hw;have ar:=H.out.below.size;have N:=hid H.out.ro;have ac:=H.out.r;have G:=hid ac;clear hd hw j hu hc hW J U ac;generalize hn:row.length=n at *;have HN:=hid hn;clear hn;go_wp2_with fail;refine(D.out _).mono ?_;rintro e w1 ⟨rfl,rfl⟩;go_wp2_with(at_builtin;refine iZ rfl (.tmp 23) (.tmp 25) 28 rfl base 5 j0 _ 1 1 underlying28 aj ak ag ah rfl ip _ _ _ nc (N.out.alloc _) _ 1 1 [.int .u8 x.toNat] nc (Src.of_blk (Blk.made _ _ _) 1 1 1 rfl) mj qg mz pQ ?_;intro v4 w4 E M al;obtain⟨A4,k4,rfl⟩:=bZ E;have f4:w4.frozen? ⟨w.heap.size+1,0,none⟩=false:=(((G.out.alloc _).grown M (fun e=>gZ N.out G.out ip e.symm))).frozen 0;have c4:w4.cell? ⟨w.heap.size+1,0,none⟩=some (.slice A n c):=(((G.out.alloc _).grown M (fun e=>gZ N.out G.out ip e.symm))).cell 0);go_roundw
    case measure=>exact jo
    case rel=>exact jm
  ·obtain rfl:k=s.size:=by omega
   have hw:=hW.out;rw[Eb (by rw[ab.out];exact Aq _),split]at hw;have T:=hid (Qv base a wr bo w (w.heap.size+1) ws row vo vr mz mz H.out);have z:=hid hw;clear hw hW H;go_wp2_with fail;refine T.out.mono ?_;rintro e w1 ⟨rfl,Q,aa,h'⟩;have H':=hid h';clear T h';go_wp2_with fail;refine bodyPost_end (BN rfl _ _ _) rfl ?_;refine⟨rfl,H'.out.below,Q,H'.out.o,?_⟩;show World.ownsRow _ _ _ _ _ (h++(split [] l).map atS).length (Bh (h++(split [] l).map atS));rw[<-z.out];exact H'.out.oo
end Sift
end Go.Proofs.YtfgdoknipbpfhaaGreatDoor
