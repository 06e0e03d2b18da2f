/- Plain: words of a te -/
import Derived.Test.YtfgdoknipbpfhaaGreatDoorZTwoBack3
import Derived.Lib.IndexMore
import Derived.Laws.IdiomStrings
import Derived.Lib.SlBytesRow
import Derived.Deep.AppendLies
import Derived.Lib.MinMax
namespace Go.Proofs.YtfgdoknipbpfhaaGreatDoor
open Go.Proofs.Tryz
open Go.Lib (hid)
set_option maxHeartbeats 1000000
set_option maxRecDepth 100000
variable{c n:Nat}{o:Obj}{p:Addr}
def Hz(c:UInt8):UInt8:=if 97<=c.toNat/\c.toNat<=122∨48<=c.toNat/\c.toNat<=57 then c else if 65<=c.toNat/\c.toNat<=90 then c+32 else 0
def letB(c:UInt8):Bool:=Hz c != 0
def rest:List UInt8->List UInt8
 | []=> []
 |c :: t=>if letB c=true then rest t else c :: t
def tell(row:List UInt8):List (List UInt8):=if row= []then []else [row.take 24]
def Ae0:List UInt8->List UInt8->List (List UInt8)
 |row,[]=>tell row
 |row,c :: t=>if letB c=true then Ae0 (row++ [Hz c]) t else tell row++Ae0 [] t
def words(l:List UInt8):List (List UInt8):=Ae0 [] l
open Go.RowKit
def Lu(n:Nat):Bool:=decide ((97<=n/\n<=122)∨(65<=n/\n<=90)∨(48<=n/\n<=57))
def JQ(n:Nat):Nat:=if(97<=n/\n<=122)∨(48<=n/\n<=57)then n else if 65<=n/\n<=90 then n+32 else 0
theorem Pz(c:UInt8):(Hz c).toNat=JQ c.toNat:=by
 unfold Hz JQ;split
 ·rfl
 ·split
  ·rename_i h;rw[UInt8.toNat_add];show(c.toNat+32) % 256=_;omega
  ·rfl
theorem Vj(c:UInt8):letB c=Lu c.toNat:=by
 have h:letB c=decide ((Hz c).toNat≠0):=by
  unfold letB;rw[KL,bne_iff_ne,decide_eq_true_eq];constructor
  ·intro h h2;exact h (UInt8.toNat_inj.1 h2)
  ·intro h h2;exact h (by rw[h2];rfl)
 rw[h,Pz];unfold JQ Lu;rw[KL,decide_eq_true_eq,decide_eq_true_eq];split
 ·constructor<;>intro _<;>omega
 ·split
  ·constructor<;>intro _<;>omega
  ·constructor<;>intro _<;>omega
theorem kD(n:Nat):n<48∨(48<=n/\n<=57)∨(58<=n/\n<=64)∨(65<=n/\n<=90)∨(91<=n/\n<=96)∨(97<=n/\n<=122)∨123<=n:=nj
theorem Pn(h:(97<=n/\n<=122)∨(65<=n/\n<=90)∨(48<=n/\n<=57)):Lu n=true:=Bd h
theorem MO(h:¬((97<=n/\n<=122)∨(65<=n/\n<=90)∨(48<=n/\n<=57))):Lu n=false:=Be h
theorem U7(h:(97<=n/\n<=122)∨(48<=n/\n<=57)):JQ n=n:=Ab h
theorem nU(h:65<=n/\n<=90):JQ n=n+32:=(Aa nj).trans (Ab h)
theorem MW(h:¬((97<=n/\n<=122)∨(48<=n/\n<=57))/\¬(65<=n/\n<=90)):JQ n=0:=(Aa h.1).trans (Aa h.2)
theorem XG(n:Nat)(h:65<=n)(h':n<=90)(w:World):Calls prog 236 #[.int .u8 n] w fun e w'=>e= .returned (.tuple #[.int .u8 (n+32:Nat),true])/\w=w':=by have g0:decide ((97:Int)<=(n:Int))=false:=Be nj;have g1:decide ((65:Int)<=(n:Int))=true:=Bd nj;have g2:decide ((48:Int)<=(n:Int))=true:=Bd nj;have l0:decide ((n:Int)<=122)=true:=Bd nj;have l1:decide ((n:Int)<=90)=true:=Bd nj;have l2:decide ((n:Int)<=57)=false:=Be nj;go_enter func236,ntmps236;go_wp2_with fail;go_ret2;exact⟨ix,rfl⟩
theorem Xg(n:Nat)(h:97<=n)(h':n<=122)(w:World):Calls prog 236 #[.int .u8 n] w fun e w'=>e= .returned (.tuple #[.int .u8 (n:Nat),true])/\w=w':=by have g0:decide ((97:Int)<=(n:Int))=true:=Bd nj;have g1:decide ((65:Int)<=(n:Int))=true:=Bd nj;have g2:decide ((48:Int)<=(n:Int))=true:=Bd nj;have l0:decide ((n:Int)<=122)=true:=Bd nj;have l1:decide ((n:Int)<=90)=false:=Be nj;have l2:decide ((n:Int)<=57)=false:=Be nj;go_enter func236,ntmps236;go_wp2_with fail;go_ret2;exact⟨ix,rfl⟩
theorem qS(n:Nat)(h:48<=n)(h':n<=57)(w:World):Calls prog 236 #[.int .u8 n] w fun e w'=>e= .returned (.tuple #[.int .u8 (n:Nat),true])/\w=w':=by have g0:decide ((97:Int)<=(n:Int))=false:=Be nj;have g1:decide ((65:Int)<=(n:Int))=false:=Be nj;have g2:decide ((48:Int)<=(n:Int))=true:=Bd nj;have l0:decide ((n:Int)<=122)=true:=Bd nj;have l1:decide ((n:Int)<=90)=true:=Bd nj;have l2:decide ((n:Int)<=57)=true:=Bd nj;go_enter func236,ntmps236;go_wp2_with fail;go_ret2;exact⟨ix,rfl⟩
theorem Xd(n:Nat)(h:0<=n)(h':n<48)(w:World):Calls prog 236 #[.int .u8 n] w fun e w'=>e= .returned (.tuple #[.int .u8 (0:Nat),false])/\w=w':=by have g0:decide ((97:Int)<=(n:Int))=false:=Be nj;have g1:decide ((65:Int)<=(n:Int))=false:=Be nj;have g2:decide ((48:Int)<=(n:Int))=false:=Be nj;have l0:decide ((n:Int)<=122)=true:=Bd nj;have l1:decide ((n:Int)<=90)=true:=Bd nj;have l2:decide ((n:Int)<=57)=true:=Bd nj;go_enter func236,ntmps236;go_wp2_with fail;go_ret2;exact⟨ix,rfl⟩
theorem qP(n:Nat)(h:58<=n)(h':n<=64)(w:World):Calls prog 236 #[.int .u8 n] w fun e w'=>e= .returned (.tuple #[.int .u8 (0:Nat),false])/\w=w':=by have g0:decide ((97:Int)<=(n:Int))=false:=Be nj;have g1:decide ((65:Int)<=(n:Int))=false:=Be nj;have g2:decide ((48:Int)<=(n:Int))=true:=Bd nj;have l0:decide ((n:Int)<=122)=true:=Bd nj;have l1:decide ((n:Int)<=90)=true:=Bd nj;have l2:decide ((n:Int)<=57)=false:=Be nj;go_enter func236,ntmps236;go_wp2_with fail;go_ret2;exact⟨ix,rfl⟩
theorem pS(n:Nat)(h:91<=n)(h':n<=96)(w:World):Calls prog 236 #[.int .u8 n] w fun e w'=>e= .returned (.tuple #[.int .u8 (0:Nat),false])/\w=w':=by have g0:decide ((97:Int)<=(n:Int))=false:=Be nj;have g1:decide ((65:Int)<=(n:Int))=true:=Bd nj;have g2:decide ((48:Int)<=(n:Int))=true:=Bd nj;have l0:decide ((n:Int)<=122)=true:=Bd nj;have l1:decide ((n:Int)<=90)=false:=Be nj;have l2:decide ((n:Int)<=57)=false:=Be nj;go_enter func236,ntmps236;go_wp2_with fail;go_ret2;exact⟨ix,rfl⟩
theorem oU(n:Nat)(h:123<=n)(h':n<256)(w:World):Calls prog 236 #[.int .u8 n] w fun e w'=>e= .returned (.tuple #[.int .u8 (0:Nat),false])/\w=w':=by have g0:decide ((97:Int)<=(n:Int))=true:=Bd nj;have g1:decide ((65:Int)<=(n:Int))=true:=Bd nj;have g2:decide ((48:Int)<=(n:Int))=true:=Bd nj;have l0:decide ((n:Int)<=122)=false:=Be nj;have l1:decide ((n:Int)<=90)=false:=Be nj;have l2:decide ((n:Int)<=57)=false:=Be nj;go_enter func236,ntmps236;go_wp2_with fail;go_ret2;exact⟨ix,rfl⟩
theorem Rk(n:Nat)(hn:n<256)(w:World):Calls prog 236 #[.int .u8 n] w fun e w'=>e= .returned (.tuple #[.int .u8 (JQ n:Nat), .bool (Lu n)])/\w=w':=by
 rcases kD n with h|⟨h,h'⟩|⟨h,h'⟩|⟨h,h'⟩|⟨h,h'⟩|⟨h,h'⟩|h
 ·rw[MO nj,MW nj];exact Xd n nj h w
 ·rw[Pn nj,U7 nj];exact qS n h h' w
 ·rw[MO nj,MW nj];exact qP n h h' w
 ·rw[Pn nj,nU nj];exact XG n h h' w
 ·rw[MO nj,MW nj];exact pS n h h' w
 ·rw[Pn nj,U7 nj];exact Xg n h h' w
 ·rw[MO nj,MW nj];exact oU n h hn w
def bs(l:List UInt8):ByteArray:=⟨l.toArray⟩
theorem IM(l:List UInt8):(bs l).data.toList=l:=rfl
theorem Fb(l:List UInt8):(bs l).size=l.length:=by simp[bs,ByteArray.size]
theorem QM(l:List UInt8)(i:Nat)(h:i<(bs l).size):(bs l)[i]=l[i]'(by rw[Fb]at h;exact h):=by have h1:=byte_at' (bs l) i h (by rw[IM];rw[Fb]at h;exact h);exact h1.symm
theorem Ae9{s:ByteArray}{k:Nat}(h:k<s.size):s.data.toList.drop k=s[k] :: s.data.toList.drop (k+1):=by
 have h1:k<s.data.toList.length:=by rw[<-Lib.size_eq];exact h
 rw[Dl h1,byte_at' s k h h1]
theorem SL(s:ByteArray)(a b:Nat):(s.extract a b).data.toList=(s.data.toList.drop a).take (b-a):=by rw[<-Lib.extract_toList,GF]
def Br(ws:List (List UInt8)):List Value:=ws.map fun l=> .string (bs l)
theorem mY(ws:List (List UInt8))(x:List UInt8):Br (ws++ [x])=Br ws++ [.string (bs x)]:=by simp[Br]
def byL(l:List UInt8):List Value:=l.map fun c=> .int .u8 (c.toNat:Nat)
theorem Zb(l:List UInt8)(x:UInt8):byL (l++ [x])=byL l++ [.int .u8 (x.toNat:Nat)]:=by simp[byL]
theorem jL{l:List UInt8}{i:Nat}{c:UInt8}(h:l[i]? =some c):(byL l)[i]? =some (.int .u8 (c.toNat:Nat)):=by simp[byL,h]
theorem Qk:(prog.info? 9).map (fun i=>(i.zero,i.size,i.bytes))=some (some (.string ⟨#[]⟩),1,16):=my
section
variable {wx w4:World} {g base:Nat} {t e:TypeId} {s n:Nat} {v:Value} {xs cs}
theorem Aa5{row:Option Nat}(h:Blk wx g t cs)(hg:(wx.alloc o).grownBy w4 row)(hr:row≠some g)(hp:g≠p.block)(u:Value):Blk (w4.setCell p u) g t cs:=
 ((h.alloc o).grown hg (fun e=>hr e.symm)).far hp u
theorem UT{row:Option Nat}(h:wx.ownsRow base e s v n xs)(hg:(wx.alloc o).grownBy w4 row)(hr:∀g,v.ownBlock=some g->row≠some g/\g≠p.block)(u:Value):(w4.setCell p u).ownsRow base e s v n xs:=
 eZ h fun b hb=>by obtain⟨h1,h2⟩:=hr b hb;have h3:=(Aj h b hb).2;exact(AW w4 p u b h2).trans ((hg.block b sj (fun e=>h1 e.symm)).trans (EA wx o b h3))
theorem FQ(h:wx.ownsRow base e s v n xs)(hr:v.ownBlock≠some p.block)(u:Value):(wx.setCell p u).ownsRow base e s v n xs:=
 eZ h fun b hb=>AW wx p u b (fun e=>hr (e ▸ hb))
end
structure WSt (base:Nat) (a w:World) (bo bw br:Nat) (ws:List (List UInt8)) (row:List UInt8) (fv vo vr:Value):Prop where
 below:Below base a w
 o:Blk w bo 50 #[vo]
 f:Blk w bw 236 #[fv]
 r:Blk w br 28 #[vr]
 oo:w.ownsRow base 9 1 vo ws.length (Br ws)
 ro:w.ownsRow base 5 1 vr row.length (byL row)
 lo:base<=bo
 lr:base<=br
 la:base<=a.heap.size
section
variable {base:Nat} {a w w4:World} {bo bw br:Nat} {ws:List (List UInt8)} {row:List UInt8} {fv vo vr v4:Value}
theorem WSt.drew(h:WSt base a w bo bw br ws row fv vo vr):WSt base a w.drew bo bw br ws row fv vo vr:=⟨h.below.drew,h.o,h.f,h.r,h.oo,h.ro,h.lo,h.lr,h.la⟩
theorem WSt.row_app(h:WSt base a w bo bw br ws row fv vo vr)(c:UInt8)(i:w4.ownsRow base 5 1 v4 (row.length+1) (byL row++ [.int .u8 (c.toNat:Nat)]))(hg:(w.alloc o).grownBy w4 vr.ownBlock):
 WSt base a (w4.setCell ⟨br,0,none⟩ v4) bo bw br ws (row++ [c]) fv vo v4:=by
 have hz:=h.below.size;have j:Below base a w4:=(pZ (by have:=h.la;omega) h.below).grown hg (by simp;have:=h.la;omega) (fun y hy=>(Aj h.ro y hy).1);refine⟨j.setCell h.lr _,Aa5 h.o hg (gZ h.ro h.o ip) (Blk.apart h.o h.r ip) _,Aa5 h.f hg (gZ h.ro h.f ip) (Blk.apart h.f h.r ip) _,?_,UT h.oo hg (fun g hg2=>⟨?_,?_⟩) _,?_,h.lo,h.lr,h.la⟩
 ·exact(((h.r.alloc o).grown hg (fun e=>gZ h.ro h.r ip e.symm))).set 0 v4
 ·intro e;rcases FE h.oo h.ro ip with h1|h1
  ·rw[h1]at hg2;cases hg2
  ·exact h1 (hg2.trans e.symm)
 ·intro e;exact gZ h.oo h.r ip (hg2.trans (Aw some e))
 ·have hb:=(h.r.alloc o).grown hg (fun e=>gZ h.ro h.r ip e.symm);rw[Ag,Zb];exact FQ i (gZ i hb ip) _
theorem WSt.word_app(h:WSt base a w bo bw br ws row fv vo vr)(x:List UInt8)(i:w4.ownsRow base 9 1 v4 (ws.length+1) (Br ws++ [.string (bs x)]))(hg:(w.alloc o).grownBy w4 vo.ownBlock):
 WSt base a (w4.setCell ⟨bo,0,none⟩ v4) bo bw br (ws++ [x]) row fv v4 vr:=by
 have hz:=h.below.size;have j:Below base a w4:=(pZ (by have:=h.la;omega) h.below).grown hg (by simp;have:=h.la;omega) (fun y hy=>(Aj h.oo y hy).1);refine⟨j.setCell h.lo _,?_,Aa5 h.f hg (gZ h.oo h.f ip) (Blk.apart h.f h.o ip) _,Aa5 h.r hg (gZ h.oo h.r ip) (Blk.apart h.r h.o ip) _,?_,UT h.ro hg (fun g hg2=>⟨?_,?_⟩) _,h.lo,h.lr,h.la⟩
 ·exact(((h.o.alloc o).grown hg (fun e=>gZ h.oo h.o ip e.symm))).set 0 v4
 ·have hb:=(h.o.alloc o).grown hg (fun e=>gZ h.oo h.o ip e.symm);rw[Ag,mY];exact FQ i (gZ i hb ip) _
 ·intro e;rcases FE h.ro h.oo ip with h1|h1
  ·rw[h1]at hg2;cases hg2
  ·exact h1 (hg2.trans e.symm)
 ·intro e;exact gZ h.ro h.o ip (hg2.trans (Aw some e))
theorem WSt.row_cut{A:Option Addr}(h:WSt base a w bo bw br ws row fv vo (.slice A n c)):WSt base a (w.setCell ⟨br,0,none⟩ (.slice A 0 c)) bo bw br ws [] fv vo (.slice A 0 c):=by
 refine⟨h.below.setCell h.lr _,h.o.far (Blk.apart h.o h.r ip) _,h.f.far (Blk.apart h.f h.r ip) _,h.r.set 0 _,FQ h.oo (gZ h.oo h.r ip) _,?_,h.lo,h.lr,h.la⟩
 have h2:w.ownsRow base 5 1 (.slice A 0 c) 0 []:=by
  rcases h.ro.2 with ⟨hv,_⟩|⟨g,y,cur,hv,hg,hh,_,i,j,_⟩
  ·injection hv with e1 e2 e3;subst e1 e3;exact AI _ _ _ _
  ·injection hv with e1 e2 e3;subst e1 e3;exact⟨rX, .inr ⟨g,c,cur,rfl,hg,hh,Bf _,i,j,rX⟩⟩
 exact FQ h2 (gZ h2 h.r ip) _
end
theorem UD{P:Program}{t e:TypeId}{s:Nat}(ht:P.underlying t=some (.slice e))(hs:∀w,(sizeOf e).run P w= .ok s w)(g o len i:Nat)(kh:IntKind)(h:Int)(m:Nat)(hh:h=m)(hm:m<=i)(w:World):
 (Instr.slice t (.slice (some ⟨g,o,none⟩) len i) none (some (.int kh h)) none).run P w= .ok (.slice (some ⟨g,o,none⟩) m i) w:=by
 subst hh;have he:P.elem t=e:=sn
 rw[run_slice_h w t (some ⟨g,o,none⟩) len i rc kh (m:Int) nj nj,he,hs];simp[Result.andThen,sliced,Gj]
theorem MM{w:World}{base m:Nat}{g:Nat}{l:List UInt8}(h:w.ownsRow base 5 1 (.slice (some ⟨g,0,none⟩) n c) n (byL l))(hn:l.length=n)(hm:m<=n):
 ∀wx:World,wx.heap[g]? =w.heap[g]? ->(convert 28 9 (.slice (some ⟨g,0,none⟩) m c)).run prog wx= .ok (.string (bs (l.take m))) wx:=by
 intro wx hb;have hz:(bs (l.take m)).size=m:=by rw[Fb,AY];omega
 have j:Lib.Bytes wx g 0 (bs (l.take m)):=by
  intro i hi;rw[hz]at hi;have y:i<l.length:=nj
  rw[Ca,World.cell?_of_block (a:=⟨g,i,none⟩) hb,h.cellAt i nj,QM (l.take m) i (by rw[hz];exact hi),List.getElem_take];exact jL (Az y)
 have kd:=Lib.run_convert_whole (P:=prog) wx 28 5 9 underlying28 underlying5 underlying9 g 0 (bs (l.take m)) j c;rw[hz]at kd;exact kd
theorem Oe(row:List UInt8):(tell row).length<=row.length:=by
 unfold tell;split
 ·simp
 ·rename_i h;have:=Gm.2 h;simp;omega
abbrev Str:=List UInt8
theorem I2(a:Str):¬a<a:=List.lt_irrefl a
theorem MQ{a b c:Str}(h:a<b)(k:b<c):a<c:=List.lt_trans h k
theorem U9{a b:Str}(h:a<b):¬b<a:=fun k=>I2 a (MQ h k)
theorem Lk(a b:Str):a<b∨a=b∨b<a:=by
 by_cases h:a<b
 ·exact .inl h
 ·by_cases k:b<a
  ·exact .inr (.inr k)
  ·exact .inr (.inl (List.le_antisymm k h))
def Fx(l:List Str):Prop:=l.Pairwise (·< ·)
theorem Pq:∀ {a b:List Str},Fx a->Fx b->(∀s,s∈a↔s∈b)->a=b
 | [],[],_,_,_=>rfl
 | [],y :: b,_,_,h=>absurd ((h y).2 rX) rX
 |x :: a,[],_,_,h=>absurd ((h x).1 rX) rX
 |x :: a,y :: b,ha,hb,h=>by
  obtain⟨hx,i⟩:=Gk.1 ha;obtain⟨hy,j⟩:=Gk.1 hb
  have z:x=y:=by
   have h1:=(h x).1 rX;have h2:=(h y).2 rX;rw[AO]at h1 h2;rcases h1 with h1|h1
   ·exact h1
   ·rcases h2 with h2|h2
    ·exact h2.symm
    ·exact absurd (MQ (hy x h1) (hx y h2)) (I2 y)
  subst z;refine Aw (x :: ·) (Pq i j fun s=>⟨fun hs=> ?_,fun hs=> ?_⟩)
  ·rcases AO.1 ((h s).1 (Cn _ hs))with rfl|h'
   ·exact absurd (hx s hs) (I2 s)
   ·exact h'
  ·rcases AO.1 ((h s).2 (Cn _ hs))with rfl|h'
   ·exact absurd (hy s hs) (I2 s)
   ·exact h'
def FJ:List Str->Str->List Str
 | [],s=> [s]
 |x :: t,s=>if x<s then x :: FJ t s else if x=s then x :: t else s :: x :: t
theorem Qf(s u:Str):∀l,u∈FJ l s↔u∈l∨u=s
 | []=>by simp[FJ]
 |x :: t=>by
  rw[FJ];split
  ·rw[AO,Qf s u t,AO,or_assoc]
  ·split
   ·rename_i h;subst h;rw[AO];exact⟨.inl,fun h=>h.elim id (fun h=> .inl h)⟩
   ·rw[AO,or_comm]
theorem Rb(s:Str):∀ {l},Fx l->Fx (FJ l s)
 | [],_=>by simp[FJ,Fx]
 |x :: t,h=>by
  obtain⟨hx,ht⟩:=Gk.1 h;rw[FJ];split
  ·rename_i i;refine Gk.2 ⟨fun u hu=> ?_,Rb s ht⟩;rcases(Qf s u t).1 hu with h'|rfl
   ·exact hx u h'
   ·exact i
  ·split
   ·exact h
   ·rename_i h1 h2;have hs:s<x:=(Lk x s).elim (fun k=>absurd k h1) (fun k=>k.elim (fun k=>absurd k h2) id);refine Gk.2 ⟨fun u hu=> ?_,h⟩;rcases AO.1 hu with rfl|hu
    ·exact hs
    ·exact MQ hs (hx u hu)
def EZ(acc l:List Str):List Str:=l.foldl FJ acc
theorem ML(u:Str):∀ (l h:List Str),u∈EZ h l↔u∈h∨u∈l
 | [],h=>by simp[EZ]
 |x :: t,h=>by have ih:=ML u t (FJ h x);unfold EZ at ih ⊢;rw[List.foldl_cons,ih,Qf,AO,or_assoc]
theorem NV:∀ (l:List Str) {i:List Str},Fx i->Fx (EZ i l)
 | [],_,h=>h
 |x :: t,_,h=>NV t (Rb x h)
theorem mE{l:List Str}(h:l.Pairwise (·<= ·)):∀ {m:List Str},m.Sublist l->m.Pairwise (·≠ ·)->Fx m:=fun hs hn=>by
 refine(List.Pairwise.and (h.sublist hs) hn).imp fun{a b} hab=> ?_;rcases Lk a b with k|k|k
 ·exact k
 ·exact absurd k hab.2
 ·exact absurd k hab.1
def at64:UInt8:=64
def Iu(text source:List UInt8):List Str:=words text++(words source).map (at64 :: ·)
def Ih(text source:List UInt8):List Str:=EZ [] (Iu text source)
theorem fQ(t s:List UInt8):Fx (Ih t s):=NV _ List.Pairwise.nil
theorem lL(t s:List UInt8)(u:Str):u∈Ih t s↔u∈Iu t s:=by unfold Ih;rw[ML];simp
def AZ(ts:List (List Str)):List Str:=ts.foldl EZ []
theorem TJ(u:Str):∀ (ts:List (List Str)) (h:List Str),u∈ts.foldl EZ h↔u∈h∨∃t∈ts,u∈t
 | [],h=>rX
 |t :: ts,h=>by rw[List.foldl_cons,TJ u ts,ML,or_assoc];simp
theorem WR:∀ (ts:List (List Str)) {i:List Str},Fx i->Fx (ts.foldl EZ i)
 | [],_,h=>h
 |t :: ts,_,h=>WR ts (NV t h)
theorem Uf(u:Str)(ts:List (List Str)):u∈AZ ts↔∃t∈ts,u∈t:=by unfold AZ;rw[TJ];simp
theorem WN(ts:List (List Str)):Fx (AZ ts):=WR ts List.Pairwise.nil
def Cy(ts:List (List Str))(u:Str):List Nat:=(List.range ts.length).filter fun i=>(ts.getD i []).contains u
theorem kP(ts:List (List Str))(t:List Str)(u:Str):Cy (ts++ [t]) u=Cy ts u++(if t.contains u then [ts.length]else []):=by
 unfold Cy;rw[Ag,J2,Ib,List.filter_append];congr 1
 ·refine List.filter_congr fun i hi=> ?_;rw[Gl]at hi;simp only[List.getD_eq_getElem?_getD];rw[Ic hi]
 ·rw[List.filter_cons];simp
def JX(f:List UInt8->List UInt8)(ws0:List (List UInt8))(s:ByteArray)(base:Nat)(a:World)(bo:Nat)(e:Ending)(w':World):Prop:=
 e= .returned (.tuple #[])/\Below base a w'/\∃vo,Blk w' bo 50 #[vo]/\w'.ownsRow base 9 1 vo (ws0++(words s.data.toList).map f).length (Br (ws0++(words s.data.toList).map f))
theorem mO(x:List UInt8):(ByteArray.mk #[64])++bs x=bs (at64 :: x):=by
 apply ByteArray.ext
 rw[ByteArray.data_append];apply Array.ext';simp[bs,at64]
def idS(x:List UInt8):List UInt8:=x
def atS(x:List UInt8):List UInt8:=at64 :: x
theorem jH(base:Nat)(a w:World)(bo bw br:Nat)(ws:List (List UInt8))(row x:List UInt8)(fv vo vr:Value)(hl:ws.length<=100000)(h:WSt base a w bo bw br ws row fv vo vr):
 Calls prog 179 #[.string (bs x), .pointer (some ⟨bo,0,none⟩)] w fun e w'=>e= .returned (.tuple #[])/\∃vo',WSt base a w' bo bw br (ws++ [idS x]) row fv vo' vr:=by
 obtain⟨j1,E,z,y,G⟩:=info_parts Qk;obtain⟨A,c,rfl⟩:=bZ h.oo;have c0:=h.o.ia 0;have f0:=h.o.frozen 0;have hz:=h.below.size;have L:=h.la;have H:=hid h;generalize hn:ws.length=n at *;have HN:=hid hn;clear h hn;go_enter func179,ntmps179;go_wp2_with(at_builtin;refine iZ rfl (.tmp 3) (.tmp 5) 50 rfl base 9 j1 _ 1 16 underlying50 E z y G rfl ip _ _ _ nm ((HN.out ▸ H.out.oo).alloc _) _ 1 1 [.string (bs x)] nm (Src.of_blk (Blk.made _ _ _) 1 1 1 rfl) mp sS nj sj ?_;intro v4 w4 i j J;obtain⟨A4,k4,rfl⟩:=bZ i;have f4:w4.frozen? ⟨bo,0,none⟩=false:=(((H.out.o.alloc _).grown j (fun e=>gZ H.out.oo H.out.o ip e.symm))).frozen 0;have c4:w4.cell? ⟨bo,0,none⟩=some (.slice A n c):=(((H.out.o.alloc _).grown j (fun e=>gZ H.out.oo H.out.o ip e.symm))).cell 0);refine bodyPost_end (Cb rfl _ _ _) rfl ?_;exact⟨rfl,_,H.out.word_app (idS x) (HN.out ▸ i) j⟩
def He(bo:Nat):Value:= .func (.func 179) #[] #[.pointer (some ⟨bo,0,none⟩)]
theorem a1l{p:Prop}(h:p:=by obtain⟨A,c,rfl⟩:=bZ h.ro;have c0:=h.r.cell 0;have f0:=h.r.frozen 0;simp only[List.getElem?_toArray,List.getElem?_cons_zero,List.length_nil]at c0;have H:=hid h;clear h;go_enter func235,ntmps235;go_wp2_with fail;refine bodyPost_end (Cb rfl _ _ _) rfl ?_;exact⟨rfl,_,_,H.out.row_cut⟩):p:=h
theorem nA(base:Nat)(a w:World)(bo bw br:Nat)(ws:List (List UInt8))(vo vr:Value)
 (h:WSt base a w bo bw br ws [] (He bo) vo vr):
 Calls prog 235 #[.pointer (some ⟨br,0,none⟩), .pointer (some ⟨bw,0,none⟩)] w fun e w'=>e= .returned (.tuple #[])/\∃vo' vr',WSt base a w' bo bw br (ws++(tell []).map idS) [] (He bo) vo' vr':=by
 rw[show(tell []).map idS= [] from rfl,Cg];exact a1l
theorem a2d{p:Prop}(h:p:=by obtain⟨c2,c3,_⟩:=k0;have f2:=h'.r.frozen 0;have H':=hid h';clear h' D H c0 f0 c1;go_wp2_with fail;refine bodyPost_end (Cb rfl _ _ _) rfl ?_;exact⟨rfl,_,_,H'.out.row_cut⟩):p:=h
theorem a3k{p:Prop}(h:p:=by
  rw[hM];by_cases i:row.length<=24
  ·rw[Nat.min_eq_left i,Cf nj,Cf i]
  ·rw[Nat.min_eq_right nj]):p:=h
theorem pV(base:Nat)(a w:World)(bo bw br:Nat)(ws:List (List UInt8))(row:List UInt8)(vo vr:Value)(hl:ws.length<=100000)(hr:row.length<=100000)(h0:row≠ [])
 (h:WSt base a w bo bw br ws row (He bo) vo vr):
 Calls prog 235 #[.pointer (some ⟨br,0,none⟩), .pointer (some ⟨bw,0,none⟩)] w fun e w'=>e= .returned (.tuple #[])/\∃j vr',WSt base a w' bo bw br (ws++(tell row).map idS) [] (He bo) j vr':=by
 have ht:(tell row).map idS= [idS (row.take 24)]:=by rw[show tell row= [row.take 24] from Aa h0];rfl
 rw[ht];have z:0<row.length:=Gm.2 h0;obtain⟨g,c,rfl⟩:∃g c,vr= .slice (some ⟨g,0,none⟩) row.length c:=nc
 have c0:=h.r.ia 0;have f0:=h.r.frozen 0;have c1:=h.f.ia 0;have D:=jH base a w.drew bo bw br ws row (row.take 24) _ _ _ hl h.drew;obtain⟨M,hM⟩:=ii (min row.length 24);have kd:=MM (m:=M) h.ro rfl nj w.drew rfl;have KD:∀ (w':World) base a bo bw br ws fv vo,WSt base a w' bo bw br ws row fv vo (.slice (some ⟨g,0,none⟩) row.length c)->(convert 28 9 (.slice (some ⟨g,0,none⟩) M c)).run prog w'= .ok (.string (bs (row.take M))) w':=fun w' _ _ _ _ _ _ _ _ h'=>MM (m:=M) h'.ro rfl nj w' rfl
 have y:row.take M=row.take 24:=by
  exact a3k
 rw[y]at kd KD;have E:min (row.length:Int) 24=(M:Int):=nj
 have G:=(Et h.ro).2;have ks:=fun wx=>UD (P:=prog) (t:=28) (s:=1) underlying28 (fun _=>by kernel_rfl) g 0 row.length c .i64 (M:Int) M rfl nj wx;have H:=hid h;have D:=hid D;generalize hn:row.length=n at *;have g1:=ic (0<n)
 clear h hn h0 ht hM y;unfold He at c1;go_enter func235,ntmps235;go_upto_region 1 with fail;go_region_held3 (fun wx=>wx.cell? ⟨br,0,none⟩=some (.slice (some ⟨g,0,none⟩) n c)/\wx.cell? ⟨bw,0,none⟩=some (.func (.func 179) #[] #[.pointer (some ⟨bo,0,none⟩)])/\(convert 28 9 (.slice (some ⟨g,0,none⟩) M c)).run prog wx= .ok (.string (bs (row.take 24))) wx) (first|exact⟨c0,c1,kd⟩|exact k0) (first|(go_at_call 179;(with_reducible refine D.out.mono ?_);rintro e w' ⟨rfl,j,h'⟩;have k0:w'.cell? ⟨br,0,none⟩=some (.slice (some ⟨g,0,none⟩) n c)/\w'.cell? ⟨bw,0,none⟩=some (.func (.func 179) #[] #[.pointer (some ⟨bo,0,none⟩)])/\(convert 28 9 (.slice (some ⟨g,0,none⟩) M c)).run prog w'= .ok (.string (bs (row.take 24))) w':=⟨h'.r.cell 0,h'.f.cell 0,KD w' _ _ _ _ _ _ _ _ h'⟩));exact a2d
theorem TC(base:Nat)(a w:World)(bo bw br:Nat)(ws:List (List UInt8))(row:List UInt8)(vo vr:Value)(hl:ws.length<=100000)(hr:row.length<=100000)
 (h:WSt base a w bo bw br ws row (He bo) vo vr):
 Calls prog 235 #[.pointer (some ⟨br,0,none⟩), .pointer (some ⟨bw,0,none⟩)] w fun e w'=>e= .returned (.tuple #[])/\∃vo' vr',WSt base a w' bo bw br (ws++(tell row).map idS) [] (He bo) vo' vr':=by
 by_cases h0:row= []
 ·subst h0;exact nA base a w bo bw br ws vo vr h
 ·exact pV base a w bo bw br ws row vo vr hl hr h0 h
theorem a0q{p:Prop}(h:p:=by
  rw[hc]at hw j;rw[Ab rfl]at hw;rw[<-j]at D;obtain⟨A,c,rfl⟩:=bZ H.out.ro;have c0:=H.out.r.ia 0;have Z:=Pz s[k];have J:=fun w4 v4 o own4 hg=>H.out.row_app (w4:=w4) (v4:=v4) (o:=o) (Hz (s[k]'Y)) own4 hg;have HA:=hid J;rw[<-Z]at D;generalize Hz s[k]=x at *;have D:=hid D;have z:=hid hw;have al:=H.out.below.size;have M:=hid H.out.ro;have U:=H.out.r;have G:=hid U;clear hd hw j hu hc hW J Z U;generalize hn:row.length=n at *;have HN:=hid hn;clear hn;go_wp2_with fail;refine(D.out _).mono ?_;rintro e w1 ⟨rfl,rfl⟩;go_wp2_with(at_builtin;refine iZ rfl (.tmp 23) (.tmp 25) 28 rfl base 5 j0 _ 1 1 underlying28 aj ah ag ae rfl ip _ _ _ nm (M.out.alloc _) _ 1 1 [.int .u8 x.toNat] nm (Src.of_blk (Blk.made _ _ _) 1 1 1 rfl) mp sS nj sj ?_;intro v4 w4 y L ak;obtain⟨A4,k4,rfl⟩:=bZ y;have f4:w4.frozen? ⟨w.heap.size+1,0,none⟩=false:=(((G.out.alloc _).grown L (fun e=>gZ M.out G.out ip e.symm))).frozen 0;have c4:w4.cell? ⟨w.heap.size+1,0,none⟩=some (.slice A n c):=(((G.out.alloc _).grown L (fun e=>gZ M.out G.out ip e.symm))).cell 0);go_roundw
  case measure=>exact jq
  case rel=>exact jo):p:=h
theorem oX(base:Nat)(a w:World)(bo:Nat)(s:ByteArray)(h:List (List UInt8))(v0:Value)(hs:s.size<=100000)(h0:h.length<=50000)(an:s.size<=50000)(hb:Below base a w)(af:base<=a.heap.size)(ho:Blk w bo 50 #[v0])(Q:w.ownsRow base 9 1 v0 h.length (Br h))(ai:base<=bo):
 Calls prog 178 #[.string s,He bo] w (JX idS h s base a bo):=by
 obtain⟨j0,aj,ah,ag,ae⟩:=info_parts Dh;have E:=Lib.size_eq s;obtain⟨l,hl⟩:=ii s.data.toList;have HL:=hid hl;rw[<-hl]at E;have aa:=hid E;unfold JX words;rw[<-hl];have hz:=hb.size;have HB:=hid hb;have HO:=hid ho;have ac:=hid Q;clear hl E hb ho Q;unfold He;go_enter func178,ntmps178;go_wp2_with fail;go_loopw [12] (fun i wx=>∃ (k:Nat) (ws:List (List UInt8)) (row:List UInt8) (vo vr:Value),k<=s.size/\i= .int .i64 k/\Hid (ws.length+row.length<=h.length+k)/\Hid (ws++(Ae0 row (l.drop k)).map idS=h++(Ae0 [] l).map idS)/\Hid (WSt base a wx bo w (w.heap.size+1) ws row (He bo) vo vr)) (fun i _=>s.size-(intOf i).toNat)
 case atStart=>refine⟨0,h,[],v0, .slice none 0 0,nj,rfl,(by show _<=_;simp),rR,?_⟩;refine⟨pZ sj (pZ nj HB.out),(HO.out.alloc _).alloc _,(Blk.made _ _ _).alloc _,Blk.made_at _ _ _ rX,(ac.out.alloc _).alloc _,AI _ _ _ _,ai,nj,af⟩
 case round=>
  obtain⟨k,ws,row,vo,vr,hk,rfl,hq,hW,H⟩:=hrel;have am:=hq.out;by_cases Y:k<s.size
  ·have hd:=Ae9 Y;rw[<-HL.out]at hd;have hw:=hW.out;rw[hd,Ae0]at hw;have hu:=UInt8.toNat_lt s[k];have j:=Vj s[k];have D:=fun wx=>Rk s[k].toNat hu wx;have x0:(0:Int)<=(k:Int):=nj;have x1:(k:Int)<(s.size:Int):=nj;cases hc:letB s[k]
   ·rw[hc]at hw j;rw[Aa rX,FA,<-AE]at hw;rw[<-j]at D;have D:=hid D;have z:=hid hw;have T:=hid (TC base a wr bo w (w.heap.size+1) ws row vo vr nj nj H.out);have aq:=Oe row;clear hd hw j hu hc hW;go_wp2_with fail;refine(D.out _).mono ?_;rintro e w1 ⟨rfl,rfl⟩;go_wp2_with fail;refine T.out.mono ?_;rintro e w1 ⟨rfl,N,ab,h'⟩;have H':=hid h';clear T D h' H;go_wp2_with fail;go_roundw
    case measure=>exact jq
    case rel=>go_light;exact⟨k+1,ws++(tell row).map idS,[],N,ab,nj,jr,by show _<=_;rw[Ag,Dg,Bu];omega,z.out,H'.out⟩
   ·exact a0q
  ·obtain rfl:k=s.size:=by omega
   have hw:=hW.out;rw[El (by rw[aa.out];exact Ak _),Ae0]at hw;have T:=hid (TC base a wr bo w (w.heap.size+1) ws row vo vr nj nj H.out);have z:=hid hw;clear hw hW H;go_wp2_with fail;refine T.out.mono ?_;rintro e w1 ⟨rfl,N,ab,h'⟩;have H':=hid h';clear T h';go_wp2_with fail;refine bodyPost_end (Cb rfl _ _ _) rfl ?_;refine⟨rfl,H'.out.below,N,H'.out.o,?_⟩;show World.ownsRow _ _ _ _ _ (h++(Ae0 [] l).map idS).length (Br (h++(Ae0 [] l).map idS));rw[<-z.out];exact H'.out.oo
theorem iP(base:Nat)(a w:World)(bo bw br:Nat)(ws:List (List UInt8))(row x:List UInt8)(fv vo vr:Value)(hl:ws.length<=100000)(hx:x.length<=100000)(h:WSt base a w bo bw br ws row fv vo vr):
 Calls prog 180 #[.string (bs x), .pointer (some ⟨bo,0,none⟩)] w fun e w'=>e= .returned (.tuple #[])/\∃vo',WSt base a w' bo bw br (ws++ [atS x]) row fv vo' vr:=by
 obtain⟨j1,E,z,y,G⟩:=info_parts Qk;obtain⟨A,c,rfl⟩:=bZ h.oo;have c0:=h.o.ia 0;have f0:=h.o.frozen 0;have hz:=h.below.size;have M:=h.la;have H:=hid h;have kc:=mO x;have L:(bs x).size<=100000:=by rw[Fb];exact hx
 clear hx;generalize hn:ws.length=n at *;have HN:=hid hn;clear h hn;go_enter func180,ntmps180;go_wp2_with(at_builtin;refine iZ rfl (.tmp 3) (.tmp 6) 50 rfl base 9 j1 _ 1 16 underlying50 E z y G rfl ip _ _ _ nm ((HN.out ▸ H.out.oo).alloc _) _ 1 1 [.string (bs (at64 :: x))] nm (Src.of_blk (Blk.made _ _ _) 1 1 1 rfl) mp sS nj sj ?_;intro v4 w4 i j J;obtain⟨A4,k4,rfl⟩:=bZ i;have f4:w4.frozen? ⟨bo,0,none⟩=false:=(((H.out.o.alloc _).grown j (fun e=>gZ H.out.oo H.out.o ip e.symm))).frozen 0;have c4:w4.cell? ⟨bo,0,none⟩=some (.slice A n c):=(((H.out.o.alloc _).grown j (fun e=>gZ H.out.oo H.out.o ip e.symm))).cell 0);refine bodyPost_end (Cb rfl _ _ _) rfl ?_;exact⟨rfl,_,H.out.word_app (atS x) (HN.out ▸ i) j⟩
def Hd(bo:Nat):Value:= .func (.func 180) #[] #[.pointer (some ⟨bo,0,none⟩)]
theorem mI(base:Nat)(a w:World)(bo bw br:Nat)(ws:List (List UInt8))(vo vr:Value)
 (h:WSt base a w bo bw br ws [] (Hd bo) vo vr):
 Calls prog 235 #[.pointer (some ⟨br,0,none⟩), .pointer (some ⟨bw,0,none⟩)] w fun e w'=>e= .returned (.tuple #[])/\∃vo' vr',WSt base a w' bo bw br (ws++(tell []).map atS) [] (Hd bo) vo' vr':=by
 rw[show(tell []).map atS= [] from rfl,Cg];exact a1l
theorem n8(base:Nat)(a w:World)(bo bw br:Nat)(ws:List (List UInt8))(row:List UInt8)(vo vr:Value)(hl:ws.length<=100000)(hr:row.length<=100000)(h0:row≠ [])
 (h:WSt base a w bo bw br ws row (Hd bo) vo vr):
 Calls prog 235 #[.pointer (some ⟨br,0,none⟩), .pointer (some ⟨bw,0,none⟩)] w fun e w'=>e= .returned (.tuple #[])/\∃j vr',WSt base a w' bo bw br (ws++(tell row).map atS) [] (Hd bo) j vr':=by
 have ht:(tell row).map atS= [atS (row.take 24)]:=by rw[show tell row= [row.take 24] from Aa h0];rfl
 rw[ht];have z:0<row.length:=Gm.2 h0;obtain⟨g,c,rfl⟩:∃g c,vr= .slice (some ⟨g,0,none⟩) row.length c:=nc
 have c0:=h.r.ia 0;have f0:=h.r.frozen 0;have c1:=h.f.ia 0;have D:=iP base a w.drew bo bw br ws row (row.take 24) _ _ _ hl oj h.drew;obtain⟨M,hM⟩:=ii (min row.length 24);have kd:=MM (m:=M) h.ro rfl nj w.drew rfl;have KD:∀ (w':World) base a bo bw br ws fv vo,WSt base a w' bo bw br ws row fv vo (.slice (some ⟨g,0,none⟩) row.length c)->(convert 28 9 (.slice (some ⟨g,0,none⟩) M c)).run prog w'= .ok (.string (bs (row.take M))) w':=fun w' _ _ _ _ _ _ _ _ h'=>MM (m:=M) h'.ro rfl nj w' rfl
 have y:row.take M=row.take 24:=by
  exact a3k
 rw[y]at kd KD;have E:min (row.length:Int) 24=(M:Int):=nj
 have G:=(Et h.ro).2;have ks:=fun wx=>UD (P:=prog) (t:=28) (s:=1) underlying28 (fun _=>by kernel_rfl) g 0 row.length c .i64 (M:Int) M rfl nj wx;have H:=hid h;have D:=hid D;generalize hn:row.length=n at *;have g1:=ic (0<n)
 clear h hn h0 ht hM y;unfold Hd at c1;go_enter func235,ntmps235;go_upto_region 1 with fail;go_region_held3 (fun wx=>wx.cell? ⟨br,0,none⟩=some (.slice (some ⟨g,0,none⟩) n c)/\wx.cell? ⟨bw,0,none⟩=some (.func (.func 180) #[] #[.pointer (some ⟨bo,0,none⟩)])/\(convert 28 9 (.slice (some ⟨g,0,none⟩) M c)).run prog wx= .ok (.string (bs (row.take 24))) wx) (first|exact⟨c0,c1,kd⟩|exact k0) (first|(go_at_call 180;(with_reducible refine D.out.mono ?_);rintro e w' ⟨rfl,j,h'⟩;have k0:w'.cell? ⟨br,0,none⟩=some (.slice (some ⟨g,0,none⟩) n c)/\w'.cell? ⟨bw,0,none⟩=some (.func (.func 180) #[] #[.pointer (some ⟨bo,0,none⟩)])/\(convert 28 9 (.slice (some ⟨g,0,none⟩) M c)).run prog w'= .ok (.string (bs (row.take 24))) w':=⟨h'.r.cell 0,h'.f.cell 0,KD w' _ _ _ _ _ _ _ _ h'⟩));exact a2d
theorem To(base:Nat)(a w:World)(bo bw br:Nat)(ws:List (List UInt8))(row:List UInt8)(vo vr:Value)(hl:ws.length<=100000)(hr:row.length<=100000)
 (h:WSt base a w bo bw br ws row (Hd bo) vo vr):
 Calls prog 235 #[.pointer (some ⟨br,0,none⟩), .pointer (some ⟨bw,0,none⟩)] w fun e w'=>e= .returned (.tuple #[])/\∃vo' vr',WSt base a w' bo bw br (ws++(tell row).map atS) [] (Hd bo) vo' vr':=by
 by_cases h0:row= []
 ·subst h0;exact mI base a w bo bw br ws vo vr h
 ·exact n8 base a w bo bw br ws row vo vr hl hr h0 h
theorem nD(base:Nat)(a w:World)(bo:Nat)(s:ByteArray)(h:List (List UInt8))(v0:Value)(hs:s.size<=100000)(h0:h.length<=50000)(an:s.size<=50000)(hb:Below base a w)(af:base<=a.heap.size)(ho:Blk w bo 50 #[v0])(Q:w.ownsRow base 9 1 v0 h.length (Br h))(ai:base<=bo):
 Calls prog 178 #[.string s,Hd bo] w (JX atS h s base a bo):=by
 obtain⟨j0,aj,ah,ag,ae⟩:=info_parts Dh;have E:=Lib.size_eq s;obtain⟨l,hl⟩:=ii s.data.toList;have HL:=hid hl;rw[<-hl]at E;have aa:=hid E;unfold JX words;rw[<-hl];have hz:=hb.size;have HB:=hid hb;have HO:=hid ho;have ac:=hid Q;clear hl E hb ho Q;unfold Hd;go_enter func178,ntmps178;go_wp2_with fail;go_loopw [12] (fun i wx=>∃ (k:Nat) (ws:List (List UInt8)) (row:List UInt8) (vo vr:Value),k<=s.size/\i= .int .i64 k/\Hid (ws.length+row.length<=h.length+k)/\Hid (ws++(Ae0 row (l.drop k)).map atS=h++(Ae0 [] l).map atS)/\Hid (WSt base a wx bo w (w.heap.size+1) ws row (Hd bo) vo vr)) (fun i _=>s.size-(intOf i).toNat)
 case atStart=>refine⟨0,h,[],v0, .slice none 0 0,nj,rfl,(by show _<=_;simp),rR,?_⟩;refine⟨pZ sj (pZ nj HB.out),(HO.out.alloc _).alloc _,(Blk.made _ _ _).alloc _,Blk.made_at _ _ _ rX,(ac.out.alloc _).alloc _,AI _ _ _ _,ai,nj,af⟩
 case round=>
  obtain⟨k,ws,row,vo,vr,hk,rfl,hq,hW,H⟩:=hrel;have am:=hq.out;by_cases Y:k<s.size
  ·have hd:=Ae9 Y;rw[<-HL.out]at hd;have hw:=hW.out;rw[hd,Ae0]at hw;have hu:=UInt8.toNat_lt s[k];have j:=Vj s[k];have D:=fun wx=>Rk s[k].toNat hu wx;have x0:(0:Int)<=(k:Int):=nj;have x1:(k:Int)<(s.size:Int):=nj;cases hc:letB s[k]
   ·rw[hc]at hw j;rw[Aa rX,FA,<-AE]at hw;rw[<-j]at D;have D:=hid D;have z:=hid hw;have T:=hid (To base a wr bo w (w.heap.size+1) ws row vo vr nj nj H.out);have aq:=Oe row;clear hd hw j hu hc hW;go_wp2_with fail;refine(D.out _).mono ?_;rintro e w1 ⟨rfl,rfl⟩;go_wp2_with fail;refine T.out.mono ?_;rintro e w1 ⟨rfl,N,ab,h'⟩;have H':=hid h';clear T D h' H;go_wp2_with fail;go_roundw
    case measure=>exact jq
    case rel=>go_light;exact⟨k+1,ws++(tell row).map atS,[],N,ab,nj,jr,by show _<=_;rw[Ag,Dg,Bu];omega,z.out,H'.out⟩
   ·exact a0q
  ·obtain rfl:k=s.size:=by omega
   have hw:=hW.out;rw[El (by rw[aa.out];exact Ak _),Ae0]at hw;have T:=hid (To base a wr bo w (w.heap.size+1) ws row vo vr nj nj H.out);have z:=hid hw;clear hw hW H;go_wp2_with fail;refine T.out.mono ?_;rintro e w1 ⟨rfl,N,ab,h'⟩;have H':=hid h';clear T h';go_wp2_with fail;refine bodyPost_end (Cb rfl _ _ _) rfl ?_;refine⟨rfl,H'.out.below,N,H'.out.o,?_⟩;show World.ownsRow _ _ _ _ _ (h++(Ae0 [] l).map atS).length (Br (h++(Ae0 [] l).map atS));rw[<-z.out];exact H'.out.oo
end Go.Proofs.YtfgdoknipbpfhaaGreatDoor
