/- Plain: words of a te -/
import Derived.Test.YtbgoibedicbkjaaGreatDoorZBodyLogs1
import Derived.Lib.IndexMore
namespace Go.Proofs.YtbgoibedicbkjaaGreatDoor
set_option maxRecDepth 100000
namespace Sift
def Dk(c:UInt8):UInt8:=if 97<=c.toNat/\c.toNat<=122∨48<=c.toNat/\c.toNat<=57 then c else if 65<=c.toNat/\c.toNat<=90 then c+32 else 0
def Bz(c:UInt8):Bool:=Dk c != 0
def run:List UInt8->List UInt8
 | []=> []
 |c :: t=>if Bz c=true then Dk c :: run t else []
def rest:List UInt8->List UInt8
 | []=> []
 |c :: t=>if Bz c=true then rest t else c :: t
theorem Ml:∀l,(run l).length+(rest l).length=l.length
 | []=>rfl
 |c :: t=>by have:=Ml t;rw[run,rest];split<;>simp only[List.length_cons,List.length_nil]<;>omega
def tell(row:List UInt8):List (List UInt8):=if row= []then []else [row.take 24]
def split:List UInt8->List UInt8->List (List UInt8)
 |row,[]=>tell row
 |row,c :: t=>if Bz c=true then split (row++ [Dk c]) t else tell row++split [] t
def words(l:List UInt8):List (List UInt8):=split [] l
theorem OR:∀ (l row:List UInt8),split row l=tell (row++run l)++split [] (rest l)
 | [],row=>by simp[split,run,rest,tell]
 |c :: t,row=>by
  rw[split,run,rest];by_cases h:Bz c=true
  ·rw[Ab h,Ab h,Ab h,OR t (row++ [Dk c])];simp
  ·rw[Aa h,Aa h,Aa h,split,Aa h];simp[tell]
def Eu:Bool->List UInt8->List (List UInt8)
 |_,[]=> []
 |p,c :: t=>(if Bz c=true/\p=false then [(run (c :: t)).take 24]else [])++Eu (Bz c) t
theorem PU:∀l,Eu true l=Eu false (rest l)
 | []=>rfl
 |c :: t=>by
  rw[Eu,rest];by_cases h:Bz c=true
  ·rw[Ab h,Aa (by simp),h,PU t];rfl
  ·rw[Aa h,Aa (by simp),Eu,Aa (by simp[h])]
theorem XJ(l:List UInt8):Eu false l=words l:=by
 unfold words;obtain⟨n,hn⟩:∃n,n=l.length:=⟨_,rfl⟩
 induction n using Nat.strongRecOn generalizing l with
 |ind n ih=>
  match l with
  | []=>simp[Eu,split,tell]
  |c :: t=>
   have j:=Ml t;simp only[List.length_cons]at hn;rw[OR,Gb,Eu];by_cases h:Bz c=true
   ·have i:run (c :: t)≠ []:=(by rw[run,Ab h];simp);rw[Ab ⟨h,rfl⟩,h,PU,ih (rest t).length (by omega) (rest t) rfl];unfold tell;rw[Aa i];congr 2;rw[rest,Ab h]
   ·have hr:run (c :: t)= []:=(by rw[run,Aa h]);have hf:Bz c=false:=(by cases hc:Bz c<;>simp_all);rw[Aa (by simp[hf]),hr,hf,ih t.length (by omega) t rfl,rest,Aa h,split,Aa h];simp[tell]
end Sift
namespace Sift
open Go.RowKit Mem
def Hz(n:Nat):Bool:=decide ((97<=n/\n<=122)∨(65<=n/\n<=90)∨(48<=n/\n<=57))
def CK(n:Nat):Nat:=if(97<=n/\n<=122)∨(48<=n/\n<=57)then n else if 65<=n/\n<=90 then n+32 else 0
theorem Jz(c:UInt8):(Dk c).toNat=CK c.toNat:=by
 unfold Dk CK;split
 ·rfl
 ·split
  ·rename_i h;rw[UInt8.toNat_add];show(c.toNat+32) % 256=_;omega
  ·rfl
theorem Fp(c:UInt8):Bz c=Hz c.toNat:=by
 have h:Bz c=decide ((Dk c).toNat≠0):=by
  unfold Bz;rw[ID,bne_iff_ne,decide_eq_true_eq];constructor
  ·intro h h2;exact h (UInt8.toNat_inj.1 h2)
  ·intro h h2;exact h (by rw[h2];rfl)
 rw[h,Jz];unfold CK Hz;rw[ID,decide_eq_true_eq,decide_eq_true_eq];split
 ·constructor<;>intro _<;>omega
 ·split
  ·constructor<;>intro _<;>omega
  ·constructor<;>intro _<;>omega
theorem OC(n:Nat):n<48∨(48<=n/\n<=57)∨(58<=n/\n<=64)∨(65<=n/\n<=90)∨(91<=n/\n<=96)∨(97<=n/\n<=122)∨123<=n:=by omega
theorem LY{n:Nat}(h:(97<=n/\n<=122)∨(65<=n/\n<=90)∨(48<=n/\n<=57)):Hz n=true:=Aw h
theorem Kc{n:Nat}(h:¬((97<=n/\n<=122)∨(65<=n/\n<=90)∨(48<=n/\n<=57))):Hz n=false:=Az h
theorem J8{n:Nat}(h:(97<=n/\n<=122)∨(48<=n/\n<=57)):CK n=n:=Ab h
theorem OF{n:Nat}(h:65<=n/\n<=90):CK n=n+32:=(Aa (by omega)).trans (Ab h)
theorem He{n:Nat}(h:¬((97<=n/\n<=122)∨(48<=n/\n<=57))/\¬(65<=n/\n<=90)):CK n=0:=(Aa h.1).trans (Aa h.2)
theorem TV(n:Nat)(h:65<=n)(h':n<=90)(w:World):Calls Tryz.prog 201 #[.int .u8 n] w fun e w'=>e= .returned (.tuple #[.int .u8 (n+32:Nat), .bool true])/\w=w':=by have g0:decide ((97:Int)<=(n:Int))=false:=Az (by omega);have g1:decide ((65:Int)<=(n:Int))=true:=Aw (by omega);have g2:decide ((48:Int)<=(n:Int))=true:=Aw (by omega);have l0:decide ((n:Int)<=122)=true:=Aw (by omega);have l1:decide ((n:Int)<=90)=true:=Aw (by omega);have l2:decide ((n:Int)<=57)=false:=Az (by omega);go_enter Tryz.func201,Tryz.ntmps201;go_wp2_with fail;go_ret2;exact⟨by first|rfl|go_num|(congr 1;omega),rfl⟩
theorem TH(n:Nat)(h:97<=n)(h':n<=122)(w:World):Calls Tryz.prog 201 #[.int .u8 n] w fun e w'=>e= .returned (.tuple #[.int .u8 (n:Nat), .bool true])/\w=w':=by have g0:decide ((97:Int)<=(n:Int))=true:=Aw (by omega);have g1:decide ((65:Int)<=(n:Int))=true:=Aw (by omega);have g2:decide ((48:Int)<=(n:Int))=true:=Aw (by omega);have l0:decide ((n:Int)<=122)=true:=Aw (by omega);have l1:decide ((n:Int)<=90)=false:=Az (by omega);have l2:decide ((n:Int)<=57)=false:=Az (by omega);go_enter Tryz.func201,Tryz.ntmps201;go_wp2_with fail;go_ret2;exact⟨by first|rfl|go_num|(congr 1;omega),rfl⟩
theorem Tu(n:Nat)(h:48<=n)(h':n<=57)(w:World):Calls Tryz.prog 201 #[.int .u8 n] w fun e w'=>e= .returned (.tuple #[.int .u8 (n:Nat), .bool true])/\w=w':=by have g0:decide ((97:Int)<=(n:Int))=false:=Az (by omega);have g1:decide ((65:Int)<=(n:Int))=false:=Az (by omega);have g2:decide ((48:Int)<=(n:Int))=true:=Aw (by omega);have l0:decide ((n:Int)<=122)=true:=Aw (by omega);have l1:decide ((n:Int)<=90)=true:=Aw (by omega);have l2:decide ((n:Int)<=57)=true:=Aw (by omega);go_enter Tryz.func201,Tryz.ntmps201;go_wp2_with fail;go_ret2;exact⟨by first|rfl|go_num|(congr 1;omega),rfl⟩
theorem V6(n:Nat)(h:0<=n)(h':n<48)(w:World):Calls Tryz.prog 201 #[.int .u8 n] w fun e w'=>e= .returned (.tuple #[.int .u8 (0:Nat), .bool false])/\w=w':=by have g0:decide ((97:Int)<=(n:Int))=false:=Az (by omega);have g1:decide ((65:Int)<=(n:Int))=false:=Az (by omega);have g2:decide ((48:Int)<=(n:Int))=false:=Az (by omega);have l0:decide ((n:Int)<=122)=true:=Aw (by omega);have l1:decide ((n:Int)<=90)=true:=Aw (by omega);have l2:decide ((n:Int)<=57)=true:=Aw (by omega);go_enter Tryz.func201,Tryz.ntmps201;go_wp2_with fail;go_ret2;exact⟨by first|rfl|go_num|(congr 1;omega),rfl⟩
theorem VP(n:Nat)(h:58<=n)(h':n<=64)(w:World):Calls Tryz.prog 201 #[.int .u8 n] w fun e w'=>e= .returned (.tuple #[.int .u8 (0:Nat), .bool false])/\w=w':=by have g0:decide ((97:Int)<=(n:Int))=false:=Az (by omega);have g1:decide ((65:Int)<=(n:Int))=false:=Az (by omega);have g2:decide ((48:Int)<=(n:Int))=true:=Aw (by omega);have l0:decide ((n:Int)<=122)=true:=Aw (by omega);have l1:decide ((n:Int)<=90)=true:=Aw (by omega);have l2:decide ((n:Int)<=57)=false:=Az (by omega);go_enter Tryz.func201,Tryz.ntmps201;go_wp2_with fail;go_ret2;exact⟨by first|rfl|go_num|(congr 1;omega),rfl⟩
theorem Vz(n:Nat)(h:91<=n)(h':n<=96)(w:World):Calls Tryz.prog 201 #[.int .u8 n] w fun e w'=>e= .returned (.tuple #[.int .u8 (0:Nat), .bool false])/\w=w':=by have g0:decide ((97:Int)<=(n:Int))=false:=Az (by omega);have g1:decide ((65:Int)<=(n:Int))=true:=Aw (by omega);have g2:decide ((48:Int)<=(n:Int))=true:=Aw (by omega);have l0:decide ((n:Int)<=122)=true:=Aw (by omega);have l1:decide ((n:Int)<=90)=false:=Az (by omega);have l2:decide ((n:Int)<=57)=false:=Az (by omega);go_enter Tryz.func201,Tryz.ntmps201;go_wp2_with fail;go_ret2;exact⟨by first|rfl|go_num|(congr 1;omega),rfl⟩
theorem Vi(n:Nat)(h:123<=n)(h':n<256)(w:World):Calls Tryz.prog 201 #[.int .u8 n] w fun e w'=>e= .returned (.tuple #[.int .u8 (0:Nat), .bool false])/\w=w':=by have g0:decide ((97:Int)<=(n:Int))=true:=Aw (by omega);have g1:decide ((65:Int)<=(n:Int))=true:=Aw (by omega);have g2:decide ((48:Int)<=(n:Int))=true:=Aw (by omega);have l0:decide ((n:Int)<=122)=false:=Az (by omega);have l1:decide ((n:Int)<=90)=false:=Az (by omega);have l2:decide ((n:Int)<=57)=false:=Az (by omega);go_enter Tryz.func201,Tryz.ntmps201;go_wp2_with fail;go_ret2;exact⟨by first|rfl|go_num|(congr 1;omega),rfl⟩
theorem PF(n:Nat)(hn:n<256)(w:World):Calls Tryz.prog 201 #[.int .u8 n] w fun e w'=>e= .returned (.tuple #[.int .u8 (CK n:Nat), .bool (Hz n)])/\w=w':=by
 rcases OC n with h|⟨h,h'⟩|⟨h,h'⟩|⟨h,h'⟩|⟨h,h'⟩|⟨h,h'⟩|h
 ·rw[Kc (by omega),He (by omega)];exact V6 n (by omega) h w
 ·rw[LY (by omega),J8 (by omega)];exact Tu n h h' w
 ·rw[Kc (by omega),He (by omega)];exact VP n h h' w
 ·rw[LY (by omega),OF (by omega)];exact TV n h h' w
 ·rw[Kc (by omega),He (by omega)];exact Vz n h h' w
 ·rw[LY (by omega),J8 (by omega)];exact TH n h h' w
 ·rw[Kc (by omega),He (by omega)];exact Vi n h hn w
theorem U1(n:Nat)(h:65<=n)(h':n<=90)(w:World):Calls Tryz.prog 216 #[.int .u8 n] w fun e w'=>e= .returned (.int .u8 (n+32:Nat))/\w=w':=by have g0:decide ((97:Int)<=(n:Int))=false:=Az (by omega);have g1:decide ((65:Int)<=(n:Int))=true:=Aw (by omega);have g2:decide ((48:Int)<=(n:Int))=true:=Aw (by omega);have l0:decide ((n:Int)<=122)=true:=Aw (by omega);have l1:decide ((n:Int)<=90)=true:=Aw (by omega);have l2:decide ((n:Int)<=57)=false:=Az (by omega);go_enter Tryz.func216,Tryz.ntmps216;go_wp2_with fail;go_ret;exact⟨by first|rfl|go_num|(congr 1;omega),rfl⟩
theorem UI(n:Nat)(h:97<=n)(h':n<=122)(w:World):Calls Tryz.prog 216 #[.int .u8 n] w fun e w'=>e= .returned (.int .u8 (n:Nat))/\w=w':=by have g0:decide ((97:Int)<=(n:Int))=true:=Aw (by omega);have g1:decide ((65:Int)<=(n:Int))=true:=Aw (by omega);have g2:decide ((48:Int)<=(n:Int))=true:=Aw (by omega);have l0:decide ((n:Int)<=122)=true:=Aw (by omega);have l1:decide ((n:Int)<=90)=false:=Az (by omega);have l2:decide ((n:Int)<=57)=false:=Az (by omega);go_enter Tryz.func216,Tryz.ntmps216;go_wp2_with fail;go_ret;exact⟨by first|rfl|go_num|(congr 1;omega),rfl⟩
theorem Uq(n:Nat)(h:48<=n)(h':n<=57)(w:World):Calls Tryz.prog 216 #[.int .u8 n] w fun e w'=>e= .returned (.int .u8 (n:Nat))/\w=w':=by have g0:decide ((97:Int)<=(n:Int))=false:=Az (by omega);have g1:decide ((65:Int)<=(n:Int))=false:=Az (by omega);have g2:decide ((48:Int)<=(n:Int))=true:=Aw (by omega);have l0:decide ((n:Int)<=122)=true:=Aw (by omega);have l1:decide ((n:Int)<=90)=true:=Aw (by omega);have l2:decide ((n:Int)<=57)=true:=Aw (by omega);go_enter Tryz.func216,Tryz.ntmps216;go_wp2_with fail;go_ret;exact⟨by first|rfl|go_num|(congr 1;omega),rfl⟩
theorem SR(n:Nat)(h:0<=n)(h':n<48)(w:World):Calls Tryz.prog 216 #[.int .u8 n] w fun e w'=>e= .returned (.int .u8 (0:Nat))/\w=w':=by have g0:decide ((97:Int)<=(n:Int))=false:=Az (by omega);have g1:decide ((65:Int)<=(n:Int))=false:=Az (by omega);have g2:decide ((48:Int)<=(n:Int))=false:=Az (by omega);have l0:decide ((n:Int)<=122)=true:=Aw (by omega);have l1:decide ((n:Int)<=90)=true:=Aw (by omega);have l2:decide ((n:Int)<=57)=true:=Aw (by omega);go_enter Tryz.func216,Tryz.ntmps216;go_wp2_with fail;go_ret;exact⟨by first|rfl|go_num|(congr 1;omega),rfl⟩
theorem SE(n:Nat)(h:58<=n)(h':n<=64)(w:World):Calls Tryz.prog 216 #[.int .u8 n] w fun e w'=>e= .returned (.int .u8 (0:Nat))/\w=w':=by have g0:decide ((97:Int)<=(n:Int))=false:=Az (by omega);have g1:decide ((65:Int)<=(n:Int))=false:=Az (by omega);have g2:decide ((48:Int)<=(n:Int))=true:=Aw (by omega);have l0:decide ((n:Int)<=122)=true:=Aw (by omega);have l1:decide ((n:Int)<=90)=true:=Aw (by omega);have l2:decide ((n:Int)<=57)=false:=Az (by omega);go_enter Tryz.func216,Tryz.ntmps216;go_wp2_with fail;go_ret;exact⟨by first|rfl|go_num|(congr 1;omega),rfl⟩
theorem Y5(n:Nat)(h:91<=n)(h':n<=96)(w:World):Calls Tryz.prog 216 #[.int .u8 n] w fun e w'=>e= .returned (.int .u8 (0:Nat))/\w=w':=by have g0:decide ((97:Int)<=(n:Int))=false:=Az (by omega);have g1:decide ((65:Int)<=(n:Int))=true:=Aw (by omega);have g2:decide ((48:Int)<=(n:Int))=true:=Aw (by omega);have l0:decide ((n:Int)<=122)=true:=Aw (by omega);have l1:decide ((n:Int)<=90)=false:=Az (by omega);have l2:decide ((n:Int)<=57)=false:=Az (by omega);go_enter Tryz.func216,Tryz.ntmps216;go_wp2_with fail;go_ret;exact⟨by first|rfl|go_num|(congr 1;omega),rfl⟩
theorem YR(n:Nat)(h:123<=n)(h':n<256)(w:World):Calls Tryz.prog 216 #[.int .u8 n] w fun e w'=>e= .returned (.int .u8 (0:Nat))/\w=w':=by have g0:decide ((97:Int)<=(n:Int))=true:=Aw (by omega);have g1:decide ((65:Int)<=(n:Int))=true:=Aw (by omega);have g2:decide ((48:Int)<=(n:Int))=true:=Aw (by omega);have l0:decide ((n:Int)<=122)=false:=Az (by omega);have l1:decide ((n:Int)<=90)=false:=Az (by omega);have l2:decide ((n:Int)<=57)=false:=Az (by omega);go_enter Tryz.func216,Tryz.ntmps216;go_wp2_with fail;go_ret;exact⟨by first|rfl|go_num|(congr 1;omega),rfl⟩
theorem Io(n:Nat)(hn:n<256)(w:World):Calls Tryz.prog 216 #[.int .u8 n] w fun e w'=>e= .returned (.int .u8 (CK n:Nat))/\w=w':=by
 rcases OC n with h|⟨h,h'⟩|⟨h,h'⟩|⟨h,h'⟩|⟨h,h'⟩|⟨h,h'⟩|h
 ·rw[He (by omega)];exact SR n (by omega) h w
 ·rw[J8 (by omega)];exact Uq n h h' w
 ·rw[He (by omega)];exact SE n h h' w
 ·rw[OF (by omega)];exact U1 n h h' w
 ·rw[He (by omega)];exact Y5 n h h' w
 ·rw[J8 (by omega)];exact UI n h h' w
 ·rw[He (by omega)];exact YR n h hn w
end Sift
namespace Idx
open Go.Proofs.YtbgoibedicbkjaaGreatDoor.Sift (words)
abbrev Str:=List UInt8
theorem Gg(a:Str):¬a<a:=List.lt_irrefl a
theorem KJ{a b c:Str}(h:a<b)(k:b<c):a<c:=List.lt_trans h k
theorem KG{a b:Str}(h:a<b):¬b<a:=fun k=>Gg a (KJ h k)
theorem Jg(a b:Str):a<b∨a=b∨b<a:=by
 by_cases h:a<b
 ·exact .inl h
 ·by_cases k:b<a
  ·exact .inr (.inr k)
  ·exact .inr (.inl (List.le_antisymm k h))
def DJ(l:List Str):Prop:=l.Pairwise (·< ·)
theorem Nk:∀ {a b:List Str},DJ a->DJ b->(∀s,s∈a↔s∈b)->a=b
 | [],[],_,_,_=>rfl
 | [],y :: b,_,_,h=>absurd ((h y).2 (by simp)) (by simp)
 |x :: a,[],_,_,h=>absurd ((h x).1 (by simp)) (by simp)
 |x :: a,y :: b,ha,hb,h=>by
  obtain⟨hx,z⟩:=Ho.1 ha;obtain⟨hy,i⟩:=Ho.1 hb
  have j:x=y:=by
   have h1:=(h x).1 (by simp);have h2:=(h y).2 (by simp);rw[BZ]at h1 h2;rcases h1 with h1|h1
   ·exact h1
   ·rcases h2 with h2|h2
    ·exact h2.symm
    ·exact absurd (KJ (hy x h1) (hx y h2)) (Gg y)
  subst j;refine AJ (x :: ·) (Nk z i fun s=>⟨fun hs=> ?_,fun hs=> ?_⟩)
  ·rcases BZ.1 ((h s).1 (EW _ hs))with rfl|h'
   ·exact absurd (hx s hs) (Gg s)
   ·exact h'
  ·rcases BZ.1 ((h s).2 (EW _ hs))with rfl|h'
   ·exact absurd (hy s hs) (Gg s)
   ·exact h'
def CN:List Str->Str->List Str
 | [],s=> [s]
 |x :: t,s=>if x<s then x :: CN t s else if x=s then x :: t else s :: x :: t
theorem Mz(s u:Str):∀l,u∈CN l s↔u∈l∨u=s
 | []=>by simp[CN]
 |x :: t=>by
  rw[CN];split
  ·rw[BZ,Mz s u t,BZ,or_assoc]
  ·split
   ·rename_i h;subst h;rw[BZ];exact⟨.inl,fun h=>h.elim id (fun h=> .inl h)⟩
   ·rw[BZ,or_comm]
theorem Ps(s:Str):∀ {l},DJ l->DJ (CN l s)
 | [],_=>by simp[CN,DJ]
 |x :: t,h=>by
  obtain⟨hx,ht⟩:=Ho.1 h;rw[CN];split
  ·rename_i i;refine Ho.2 ⟨fun u hu=> ?_,Ps s ht⟩;rcases(Mz s u t).1 hu with h'|rfl
   ·exact hx u h'
   ·exact i
  ·split
   ·exact h
   ·rename_i h1 h2;have hs:s<x:=(Jg x s).elim (fun k=>absurd k h1) (fun k=>k.elim (fun k=>absurd k h2) id);refine Ho.2 ⟨fun u hu=> ?_,h⟩;rcases BZ.1 hu with rfl|hu
    ·exact hs
    ·exact KJ hs (hx u hu)
theorem Om(s:Str):∀ (l:List Str) (k:Nat),k<=l.length->(∀i,(h:i<k)->(h':i<l.length)->l[i]<s)->(∀x,l[k]? =some x->¬x<s)->CN l s=if l[k]? =some s then l else l.take k++s :: l.drop k
 | [],k,hk,_,_=>by
  obtain rfl:k=0:=by simpa using hk
  simp[CN]
 |x :: t,0,_,_,h2=>by have:=h2 x rfl;rw[CN,Aa this];simp
 |x :: t,k+1,hk,h1,h2=>by have hx:x<s:=h1 0 (by omega) (by simp);have ih:=Om s t k (by simpa using hk) (fun i hi hi'=>h1 (i+1) (by omega) (by simpa using hi')) (fun y hy=>h2 y (by simpa using hy));rw[CN,Ab hx,ih,List.getElem?_cons_succ];split<;>simp
def yZ(acc l:List Str):List Str:=l.foldl CN acc
theorem Ku(u:Str):∀ (l h:List Str),u∈yZ h l↔u∈h∨u∈l
 | [],h=>by simp[yZ]
 |x :: t,h=>by have ih:=Ku u t (CN h x);unfold yZ at ih ⊢;rw[List.foldl_cons,ih,Mz,BZ,or_assoc]
theorem KK:∀ (l:List Str) {i:List Str},DJ i->DJ (yZ i l)
 | [],_,h=>h
 |x :: t,_,h=>KK t (Ps x h)
theorem Tf(h l:List Str)(x:Str):yZ h (l++ [x])=CN (yZ h l) x:=by unfold yZ;rw[List.foldl_append];rfl
theorem V9(h a b:List Str):yZ h (a++b)=yZ (yZ h a) b:=by unfold yZ;rw[List.foldl_append]
theorem YD{l:List Str}(h:l.Pairwise (·<= ·)):∀ {m:List Str},m.Sublist l->m.Pairwise (·≠ ·)->DJ m:=fun hs hn=>by
 refine(List.Pairwise.and (h.sublist hs) hn).imp fun{a b} hab=> ?_;rcases Jg a b with k|k|k
 ·exact k
 ·exact absurd k hab.2
 ·exact absurd k hab.1
def Dc:UInt8:=64
def GL(text source:List UInt8):List Str:=words text++(words source).map (Dc :: ·)
def FB(text source:List UInt8):List Str:=yZ [] (GL text source)
theorem Xq(t s:List UInt8):DJ (FB t s):=KK _ List.Pairwise.nil
theorem Yn(t s:List UInt8)(u:Str):u∈FB t s↔u∈GL t s:=by unfold FB;rw[Ku];simp
def AM(ts:List (List Str)):List Str:=ts.foldl yZ []
theorem X7(ts:List (List Str))(t:List Str):AM (ts++ [t])=yZ (AM ts) t:=by unfold AM;rw[List.foldl_append];rfl
theorem PH(u:Str):∀ (ts:List (List Str)) (h:List Str),u∈ts.foldl yZ h↔u∈h∨∃t∈ts,u∈t
 | [],h=>by simp
 |t :: ts,h=>by rw[List.foldl_cons,PH u ts,Ku,or_assoc];simp
theorem Q9:∀ (ts:List (List Str)) {i:List Str},DJ i->DJ (ts.foldl yZ i)
 | [],_,h=>h
 |t :: ts,_,h=>Q9 ts (KK t h)
theorem QV(u:Str)(ts:List (List Str)):u∈AM ts↔∃t∈ts,u∈t:=by unfold AM;rw[PH];simp
theorem Pg(ts:List (List Str)):DJ (AM ts):=Q9 ts List.Pairwise.nil
def Bo(ts:List (List Str))(u:Str):List Nat:=(List.range ts.length).filter fun i=>(ts.getD i []).contains u
theorem XS(ts:List (List Str))(t:List Str)(u:Str):Bo (ts++ [t]) u=Bo ts u++(if t.contains u then [ts.length]else []):=by
 unfold Bo;rw[Ai,J2,Hn,List.filter_append];congr 1
 ·refine List.filter_congr fun i hi=> ?_;rw[Eo]at hi;simp only[List.getD_eq_getElem?_getD];rw[GT hi]
 ·rw[List.filter_cons];simp
end Idx
namespace Recs
open Go.RowKit Mem
structure Rec where
 time:Int
 level:Int
 source:ByteArray
 text:ByteArray
def FC:Rec:=⟨0,0, .empty, .empty⟩
def Db(l:List Rec):Nat->Nat->Value:=fun i j=>match j with
 |0=> .int .u64 (l.getD i FC).time
 |1=> .int .u8 (l.getD i FC).level
 |2=> .string (l.getD i FC).source
 |_=> .string (l.getD i FC).text
def G4(a b:Rec):Bool:=a.time==b.time&&(a.level==b.level&&(a.source.toList==b.source.toList&&a.text.toList==b.text.toList))
theorem Ot{a b:ByteArray}(h:a.toList=b.toList):a=b:=by
 have h':a.data.toList=b.data.toList:=by rw[<-FG,<-FG];exact h
 cases a;cases b
 simp at h';rw[h']
theorem KB(a b:Rec):G4 a b=true↔a=b:=by
 constructor
 ·intro h;simp only[G4,Bool.and_eq_true,beq_iff_eq]at h;obtain⟨h1,h2,h3,h4⟩:=h;cases a;cases b;simp only at h1 h2 h3 h4;rw[h1,h2,Ot h3,Ot h4]
 ·intro h;subst h;simp[G4]
theorem SW(a b:Rec):G4 a b=false↔a≠b:=by rw[<-Bool.not_eq_true,KB]
instance:DecidableEq Rec:=fun a b=>if h:G4 a b=true then .isTrue ((KB a b).1 h)else .isFalse fun e=>h ((KB a b).2 e)
def Gz(a b:List Rec):Bool:=decide (a=b)
def FM(r:Rec):Int:=16+r.source.size+r.text.size
def Ck(l:List Rec):Int:=(l.map FM).foldl (·+ ·) 0
theorem Oc(l:List Int):∀a:Int,l.foldl (·+ ·) a=a+l.foldl (·+ ·) 0:=by
 induction l with
 |nil=>intro a;simp
 |cons x l ih=>intro a;simp only[List.foldl_cons];rw[ih (a+x),ih (0+x)];omega
theorem SI(l:List Rec)(r:Rec):Ck (l++ [r])=Ck l+FM r:=by simp[Ck]
theorem Nb:Ck []=0:=rfl
end Recs
namespace Toks
open Go.RowKit
def lg(v:Int):Int:=((Nat.log2 v.toNat:Nat):Int)
def pw(b:Int):Int:=((2 ^ b.toNat:Nat):Int)
theorem Q8(b:Int):1<=pw b:=by unfold pw;have:0<2 ^ b.toNat:=Ga _;omega
theorem XN(b:Int)(h:0<=b):pw (b+1)=2*pw b:=by unfold pw;rw[show(b+1).toNat=b.toNat+1 from by omega,En];omega
theorem Mo(a b:Int)(h:a<=b):pw a<=pw b:=by unfold pw;have:=Bu (n:=2) (by omega) (show a.toNat<=b.toNat by omega);omega
def By(lit len dist:Int):Bool:=
 if len=0 then decide (dist=0)else decide (lit=0/\3<=len/\len<=257/\1<=dist/\dist<=4095)
structure Pc where
 sym:Int
 len:Int
 dist:Int
 far:Int
structure Tk where
 lit:Int
 len:Int
 dist:Int
def Pc.val(p:Pc):Value:= .agg #[.int .i64 p.sym, .int .i64 p.len, .int .i64 p.dist, .int .i64 p.far]
def Tk.val(t:Tk):Value:= .agg #[.int .u8 t.lit, .int .i64 t.len, .int .i64 t.dist]
def Fl(t:Tk):Pc:=
 if By t.lit t.len t.dist=true then
  if t.len=0 then⟨t.lit,0,0,0⟩else⟨257+lg (t.len-2),t.len-2-pw (lg (t.len-2)),lg t.dist,t.dist-pw (lg t.dist)⟩
 else⟨0,0,0,0⟩
def GW(p:Pc):Bool:=decide (0<=p.sym/\p.sym<256/\p.len=0/\p.dist=0/\p.far=0)
def IZ(p:Pc):Bool:=
 decide (257<=p.sym/\p.sym<265/\0<=p.dist/\p.dist<12/\0<=p.len/\p.len<pw (p.sym-257)/\0<=p.far/\p.far<pw p.dist)
def Cq(p:Pc):Tk:=
 if GW p=true then⟨p.sym,0,0⟩else if IZ p=true then⟨0,2+pw (p.sym-257)+p.len,pw p.dist+p.far⟩else⟨0,0,0⟩
def CT(p:Pc):Int:=if GW p=true then 0 else if IZ p=true then 0 else 7
theorem S0:pw 12=4096:=by decide
end Toks
namespace Toks
def bump(l:List Int)(i:Nat):List Int:=l.set i (l.getD i 0+1)
def N7(st:List Int×List Int)(t:Tk):List Int×List Int:=
 (bump st.1 (Fl t).sym.toNat,if t.len=0 then st.2 else bump st.2 (Fl t).dist.toNat)
def cnts(ts:List Tk):List Int×List Int:=ts.foldl N7 (List.replicate 265 0,List.replicate 12 0)
def symsOf(ts:List Tk):List Int:=bump (cnts ts).1 256
def Sv(ts:List Tk):List Int:=(cnts ts).2
def Og(ts:List Tk):Bool:=ts.all fun t=>By t.lit t.len t.dist
end Toks
namespace Lz
open Go.Proofs.YtbgoibedicbkjaaGreatDoor.Toks (Tk By)
def Q2(l:List Nat)(p at_:Nat):Nat->Nat->Nat
 |0,n=>n
 |f+1,n=>if n<257/\at_+n<l.length/\l.getD (p+n) 0=l.getD (at_+n) 0 then Q2 l p at_ f (n+1)else n
def alike(l:List Nat)(p at_:Nat):Nat:=Q2 l p at_ 257 0
def SJ(l:List Nat)(at_:Nat)(nd:Nat×Nat)(d:Nat):Nat×Nat:=if nd.1<alike l (at_-d) at_ then(alike l (at_-d) at_,d)else nd
def N4(l:List Nat)(at_:Nat):Nat->Nat×Nat
 |0=>(0,0)
 |d+1=>SJ l at_ (N4 l at_ d) (d+1)
def Ky(l:List Nat)(at_:Nat):Nat×Nat:=N4 l at_ (min 4095 at_)
def Mx(l:List Nat)(at_:Nat):List Tk:=
 if at_<l.length then
  if 3<=(Ky l at_).1 then⟨0,((Ky l at_).1:Nat),((Ky l at_).2:Nat)⟩ :: Mx l (at_+(Ky l at_).1)
  else⟨(l.getD at_ 0:Nat),0,0⟩ :: Mx l (at_+1)
 else []
termination_by l.length-at_
def find(l:List Nat):List Tk:=Mx l 0
def Bi(out:List Nat):Nat->Nat->List Nat
 |0,_=>out
 |n+1,d=>Bi (out++ [out.getD (out.length-d) 0]) n d
theorem G3:∀ (n d:Nat) (out:List Nat),(Bi out n d).length=out.length+n
 |0,_,out=>rfl
 |n+1,d,out=>by rw[Bi,G3 n d];simp;omega
def Gw(most:Int)(out:List Nat)(t:Tk):Int:=
 if By t.lit t.len t.dist=true then if(out.length:Int)<t.dist then 8 else if most-(out.length:Int)<max 1 t.len then 6 else 0 else 7
def Dg(most:Int):List Nat->List Tk->List Nat×Int
 |out,[]=>(out,0)
 |out,t :: ts=>if Gw most out t=0 then Dg most (if t.len=0 then out++ [t.lit.toNat]else Bi out t.len.toNat t.dist.toNat) ts else([],Gw most out t)
def El(ts:List Tk)(most:Int):List Nat×Int:=if most<0 then([],13)else Dg most [] ts
end Lz
end Go.Proofs.YtbgoibedicbkjaaGreatDoor
