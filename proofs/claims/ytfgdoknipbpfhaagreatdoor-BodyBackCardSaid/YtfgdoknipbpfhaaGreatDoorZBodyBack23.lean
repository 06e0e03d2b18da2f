/- Plain: words of a te -/
import Derived.Test.YtfgdoknipbpfhaaGreatDoorZBodyBack1
import Derived.Lib.IndexMore
namespace Go.Proofs.YtfgdoknipbpfhaaGreatDoor
open Go.Proofs.Tryz
set_option maxRecDepth 100000
variable{n:Nat}
namespace Sift
def Ez(c:UInt8):UInt8:=if 97<=c.toNat/\c.toNat<=122∨48<=c.toNat/\c.toNat<=57 then c else if 65<=c.toNat/\c.toNat<=90 then c+32 else 0
def Cg(c:UInt8):Bool:=Ez c != 0
def run:List UInt8->List UInt8
 | []=> []
 |c :: t=>if Cg c=true then Ez c :: run t else []
def rest:List UInt8->List UInt8
 | []=> []
 |c :: t=>if Cg c=true then rest t else c :: t
theorem Ob:∀l,(run l).length+(rest l).length=l.length
 | []=>rfl
 |c :: t=>by have:=Ob t;rw[run,rest];split<;>simp only[List.length_cons,List.length_nil]<;>omega
def tell(row:List UInt8):List (List UInt8):=if row= []then []else [row.take 24]
def split:List UInt8->List UInt8->List (List UInt8)
 |row,[]=>tell row
 |row,c :: t=>if Cg c=true then split (row++ [Ez c]) t else tell row++split [] t
def words(l:List UInt8):List (List UInt8):=split [] l
theorem UF:∀ (l row:List UInt8),split row l=tell (row++run l)++split [] (rest l)
 | [],row=>by simp[split,run,rest,tell]
 |c :: t,row=>by
  rw[split,run,rest];by_cases h:Cg c=true
  ·rw[Ab h,Ab h,Ab h,UF t (row++ [Ez c])];simp
  ·rw[Aa h,Aa h,Aa h,split,Aa h];simp[tell]
def Fy:Bool->List UInt8->List (List UInt8)
 |_,[]=> []
 |p,c :: t=>(if Cg c=true/\p=false then [(run (c :: t)).take 24]else [])++Fy (Cg c) t
theorem Uw:∀l,Fy true l=Fy false (rest l)
 | []=>rfl
 |c :: t=>by
  rw[Fy,rest];by_cases h:Cg c=true
  ·rw[Ab h,Aa qT,h,Uw t];rfl
  ·rw[Aa h,Aa qT,Fy,Aa rn]
theorem cM(l:List UInt8):Fy false l=words l:=by
 unfold words;obtain⟨n,hn⟩:=ii l.length
 induction n using Nat.strongRecOn generalizing l with
 |ind n ih=>
  match l with
  | []=>simp[Fy,split,tell]
  |c :: t=>
   have j:=Ob t;simp only[List.length_cons]at hn;rw[UF,EF,Fy];by_cases h:Cg c=true
   ·have i:run (c :: t)≠ []:=(by rw[run,Ab h];simp);rw[Ab ⟨h,rfl⟩,h,Uw,ih (rest t).length nj (rest t) rfl];unfold tell;rw[Aa i];congr 2;rw[rest,Ab h]
   ·have hr:run (c :: t)= []:=(by rw[run,Aa h]);have hf:Cg c=false:=(by cases hc:Cg c<;>simp_all);rw[Aa (by simp[hf]),hr,hf,ih t.length nj t rfl,rest,Aa h,split,Aa h];simp[tell]
end Sift
namespace Sift
open Go.RowKit Mem
def Ju(n:Nat):Bool:=decide ((97<=n/\n<=122)∨(65<=n/\n<=90)∨(48<=n/\n<=57))
def Dw(n:Nat):Nat:=if(97<=n/\n<=122)∨(48<=n/\n<=57)then n else if 65<=n/\n<=90 then n+32 else 0
theorem KK(c:UInt8):(Ez c).toNat=Dw c.toNat:=by
 unfold Ez Dw;split
 ·rfl
 ·split
  ·rename_i h;rw[UInt8.toNat_add];show(c.toNat+32) % 256=_;omega
  ·rfl
theorem GR(c:UInt8):Cg c=Ju c.toNat:=by
 have h:Cg c=decide ((Ez c).toNat≠0):=by
  unfold Cg;rw[KE,bne_iff_ne,decide_eq_true_eq];constructor
  ·intro h h2;exact h (UInt8.toNat_inj.1 h2)
  ·intro h h2;exact h (by rw[h2];rfl)
 rw[h,KK];unfold Dw Ju;rw[KE,decide_eq_true_eq,decide_eq_true_eq];split
 ·constructor<;>intro _<;>omega
 ·split
  ·constructor<;>intro _<;>omega
  ·constructor<;>intro _<;>omega
theorem zV(n:Nat):n<48∨(48<=n/\n<=57)∨(58<=n/\n<=64)∨(65<=n/\n<=90)∨(91<=n/\n<=96)∨(97<=n/\n<=122)∨123<=n:=nj
theorem N5(h:(97<=n/\n<=122)∨(65<=n/\n<=90)∨(48<=n/\n<=57)):Ju n=true:=AK h
theorem Me(h:¬((97<=n/\n<=122)∨(65<=n/\n<=90)∨(48<=n/\n<=57))):Ju n=false:=AU h
theorem Mb(h:(97<=n/\n<=122)∨(48<=n/\n<=57)):Dw n=n:=Ab h
theorem Ur(h:65<=n/\n<=90):Dw n=n+32:=(Aa nj).trans (Ab h)
theorem I0(h:¬((97<=n/\n<=122)∨(48<=n/\n<=57))/\¬(65<=n/\n<=90)):Dw n=0:=(Aa h.1).trans (Aa h.2)
theorem mP(n:Nat)(h:65<=n)(h':n<=90)(w:World):Calls prog 236 #[.int .u8 n] w fun e w'=>e= .returned (.tuple #[.int .u8 (n+32:Nat),true])/\w=w':=by have g0:decide ((97:Int)<=(n:Int))=false:=AU nj;have g1:decide ((65:Int)<=(n:Int))=true:=AK nj;have g2:decide ((48:Int)<=(n:Int))=true:=AK nj;have l0:decide ((n:Int)<=122)=true:=AK nj;have l1:decide ((n:Int)<=90)=true:=AK nj;have l2:decide ((n:Int)<=57)=false:=AU nj;go_enter func236,ntmps236;go_wp2_with fail;go_ret2;exact⟨iy,rfl⟩
theorem lU(n:Nat)(h:97<=n)(h':n<=122)(w:World):Calls prog 236 #[.int .u8 n] w fun e w'=>e= .returned (.tuple #[.int .u8 (n:Nat),true])/\w=w':=by have g0:decide ((97:Int)<=(n:Int))=true:=AK nj;have g1:decide ((65:Int)<=(n:Int))=true:=AK nj;have g2:decide ((48:Int)<=(n:Int))=true:=AK nj;have l0:decide ((n:Int)<=122)=true:=AK nj;have l1:decide ((n:Int)<=90)=false:=AU nj;have l2:decide ((n:Int)<=57)=false:=AU nj;go_enter func236,ntmps236;go_wp2_with fail;go_ret2;exact⟨iy,rfl⟩
theorem kX(n:Nat)(h:48<=n)(h':n<=57)(w:World):Calls prog 236 #[.int .u8 n] w fun e w'=>e= .returned (.tuple #[.int .u8 (n:Nat),true])/\w=w':=by have g0:decide ((97:Int)<=(n:Int))=false:=AU nj;have g1:decide ((65:Int)<=(n:Int))=false:=AU nj;have g2:decide ((48:Int)<=(n:Int))=true:=AK nj;have l0:decide ((n:Int)<=122)=true:=AK nj;have l1:decide ((n:Int)<=90)=true:=AK nj;have l2:decide ((n:Int)<=57)=true:=AK nj;go_enter func236,ntmps236;go_wp2_with fail;go_ret2;exact⟨iy,rfl⟩
theorem mM(n:Nat)(h:0<=n)(h':n<48)(w:World):Calls prog 236 #[.int .u8 n] w fun e w'=>e= .returned (.tuple #[.int .u8 (0:Nat),false])/\w=w':=by have g0:decide ((97:Int)<=(n:Int))=false:=AU nj;have g1:decide ((65:Int)<=(n:Int))=false:=AU nj;have g2:decide ((48:Int)<=(n:Int))=false:=AU nj;have l0:decide ((n:Int)<=122)=true:=AK nj;have l1:decide ((n:Int)<=90)=true:=AK nj;have l2:decide ((n:Int)<=57)=true:=AK nj;go_enter func236,ntmps236;go_wp2_with fail;go_ret2;exact⟨iy,rfl⟩
theorem lR(n:Nat)(h:58<=n)(h':n<=64)(w:World):Calls prog 236 #[.int .u8 n] w fun e w'=>e= .returned (.tuple #[.int .u8 (0:Nat),false])/\w=w':=by have g0:decide ((97:Int)<=(n:Int))=false:=AU nj;have g1:decide ((65:Int)<=(n:Int))=false:=AU nj;have g2:decide ((48:Int)<=(n:Int))=true:=AK nj;have l0:decide ((n:Int)<=122)=true:=AK nj;have l1:decide ((n:Int)<=90)=true:=AK nj;have l2:decide ((n:Int)<=57)=false:=AU nj;go_enter func236,ntmps236;go_wp2_with fail;go_ret2;exact⟨iy,rfl⟩
theorem kU(n:Nat)(h:91<=n)(h':n<=96)(w:World):Calls prog 236 #[.int .u8 n] w fun e w'=>e= .returned (.tuple #[.int .u8 (0:Nat),false])/\w=w':=by have g0:decide ((97:Int)<=(n:Int))=false:=AU nj;have g1:decide ((65:Int)<=(n:Int))=true:=AK nj;have g2:decide ((48:Int)<=(n:Int))=true:=AK nj;have l0:decide ((n:Int)<=122)=true:=AK nj;have l1:decide ((n:Int)<=90)=false:=AU nj;have l2:decide ((n:Int)<=57)=false:=AU nj;go_enter func236,ntmps236;go_wp2_with fail;go_ret2;exact⟨iy,rfl⟩
theorem j4(n:Nat)(h:123<=n)(h':n<256)(w:World):Calls prog 236 #[.int .u8 n] w fun e w'=>e= .returned (.tuple #[.int .u8 (0:Nat),false])/\w=w':=by have g0:decide ((97:Int)<=(n:Int))=true:=AK nj;have g1:decide ((65:Int)<=(n:Int))=true:=AK nj;have g2:decide ((48:Int)<=(n:Int))=true:=AK nj;have l0:decide ((n:Int)<=122)=false:=AU nj;have l1:decide ((n:Int)<=90)=false:=AU nj;have l2:decide ((n:Int)<=57)=false:=AU nj;go_enter func236,ntmps236;go_wp2_with fail;go_ret2;exact⟨iy,rfl⟩
theorem Uj(n:Nat)(hn:n<256)(w:World):Calls prog 236 #[.int .u8 n] w fun e w'=>e= .returned (.tuple #[.int .u8 (Dw n:Nat), .bool (Ju n)])/\w=w':=by
 rcases zV n with h|⟨h,h'⟩|⟨h,h'⟩|⟨h,h'⟩|⟨h,h'⟩|⟨h,h'⟩|h
 ·rw[Me nj,I0 nj];exact mM n nj h w
 ·rw[N5 nj,Mb nj];exact kX n h h' w
 ·rw[Me nj,I0 nj];exact lR n h h' w
 ·rw[N5 nj,Ur nj];exact mP n h h' w
 ·rw[Me nj,I0 nj];exact kU n h h' w
 ·rw[N5 nj,Mb nj];exact lU n h h' w
 ·rw[Me nj,I0 nj];exact j4 n h hn w
theorem jD(n:Nat)(h:65<=n)(h':n<=90)(w:World):Calls prog 202 #[.int .u8 n] w fun e w'=>e= .returned (.int .u8 (n+32:Nat))/\w=w':=by have g0:decide ((97:Int)<=(n:Int))=false:=AU nj;have g1:decide ((65:Int)<=(n:Int))=true:=AK nj;have g2:decide ((48:Int)<=(n:Int))=true:=AK nj;have l0:decide ((n:Int)<=122)=true:=AK nj;have l1:decide ((n:Int)<=90)=true:=AK nj;have l2:decide ((n:Int)<=57)=false:=AU nj;go_enter func202,ntmps202;go_wp2_with fail;go_ret;exact⟨iy,rfl⟩
theorem iN(n:Nat)(h:97<=n)(h':n<=122)(w:World):Calls prog 202 #[.int .u8 n] w fun e w'=>e= .returned (.int .u8 (n:Nat))/\w=w':=by have g0:decide ((97:Int)<=(n:Int))=true:=AK nj;have g1:decide ((65:Int)<=(n:Int))=true:=AK nj;have g2:decide ((48:Int)<=(n:Int))=true:=AK nj;have l0:decide ((n:Int)<=122)=true:=AK nj;have l1:decide ((n:Int)<=90)=false:=AU nj;have l2:decide ((n:Int)<=57)=false:=AU nj;go_enter func202,ntmps202;go_wp2_with fail;go_ret;exact⟨iy,rfl⟩
theorem gO(n:Nat)(h:48<=n)(h':n<=57)(w:World):Calls prog 202 #[.int .u8 n] w fun e w'=>e= .returned (.int .u8 (n:Nat))/\w=w':=by have g0:decide ((97:Int)<=(n:Int))=false:=AU nj;have g1:decide ((65:Int)<=(n:Int))=false:=AU nj;have g2:decide ((48:Int)<=(n:Int))=true:=AK nj;have l0:decide ((n:Int)<=122)=true:=AK nj;have l1:decide ((n:Int)<=90)=true:=AK nj;have l2:decide ((n:Int)<=57)=true:=AK nj;go_enter func202,ntmps202;go_wp2_with fail;go_ret;exact⟨iy,rfl⟩
theorem jV(n:Nat)(h:0<=n)(h':n<48)(w:World):Calls prog 202 #[.int .u8 n] w fun e w'=>e= .returned (.int .u8 (0:Nat))/\w=w':=by have g0:decide ((97:Int)<=(n:Int))=false:=AU nj;have g1:decide ((65:Int)<=(n:Int))=false:=AU nj;have g2:decide ((48:Int)<=(n:Int))=false:=AU nj;have l0:decide ((n:Int)<=122)=true:=AK nj;have l1:decide ((n:Int)<=90)=true:=AK nj;have l2:decide ((n:Int)<=57)=true:=AK nj;go_enter func202,ntmps202;go_wp2_with fail;go_ret;exact⟨iy,rfl⟩
theorem jA(n:Nat)(h:58<=n)(h':n<=64)(w:World):Calls prog 202 #[.int .u8 n] w fun e w'=>e= .returned (.int .u8 (0:Nat))/\w=w':=by have g0:decide ((97:Int)<=(n:Int))=false:=AU nj;have g1:decide ((65:Int)<=(n:Int))=false:=AU nj;have g2:decide ((48:Int)<=(n:Int))=true:=AK nj;have l0:decide ((n:Int)<=122)=true:=AK nj;have l1:decide ((n:Int)<=90)=true:=AK nj;have l2:decide ((n:Int)<=57)=false:=AU nj;go_enter func202,ntmps202;go_wp2_with fail;go_ret;exact⟨iy,rfl⟩
theorem iJ(n:Nat)(h:91<=n)(h':n<=96)(w:World):Calls prog 202 #[.int .u8 n] w fun e w'=>e= .returned (.int .u8 (0:Nat))/\w=w':=by have g0:decide ((97:Int)<=(n:Int))=false:=AU nj;have g1:decide ((65:Int)<=(n:Int))=true:=AK nj;have g2:decide ((48:Int)<=(n:Int))=true:=AK nj;have l0:decide ((n:Int)<=122)=true:=AK nj;have l1:decide ((n:Int)<=90)=false:=AU nj;have l2:decide ((n:Int)<=57)=false:=AU nj;go_enter func202,ntmps202;go_wp2_with fail;go_ret;exact⟨iy,rfl⟩
theorem gK(n:Nat)(h:123<=n)(h':n<256)(w:World):Calls prog 202 #[.int .u8 n] w fun e w'=>e= .returned (.int .u8 (0:Nat))/\w=w':=by have g0:decide ((97:Int)<=(n:Int))=true:=AK nj;have g1:decide ((65:Int)<=(n:Int))=true:=AK nj;have g2:decide ((48:Int)<=(n:Int))=true:=AK nj;have l0:decide ((n:Int)<=122)=false:=AU nj;have l1:decide ((n:Int)<=90)=false:=AU nj;have l2:decide ((n:Int)<=57)=false:=AU nj;go_enter func202,ntmps202;go_wp2_with fail;go_ret;exact⟨iy,rfl⟩
theorem JC(n:Nat)(hn:n<256)(w:World):Calls prog 202 #[.int .u8 n] w fun e w'=>e= .returned (.int .u8 (Dw n:Nat))/\w=w':=by
 rcases zV n with h|⟨h,h'⟩|⟨h,h'⟩|⟨h,h'⟩|⟨h,h'⟩|⟨h,h'⟩|h
 ·rw[I0 nj];exact jV n nj h w
 ·rw[Mb nj];exact gO n h h' w
 ·rw[I0 nj];exact jA n h h' w
 ·rw[Ur nj];exact jD n h h' w
 ·rw[I0 nj];exact iJ n h h' w
 ·rw[Mb nj];exact iN n h h' w
 ·rw[I0 nj];exact gK n h hn w
end Sift
namespace Idx
open Sift (words)
abbrev Str:=List UInt8
theorem Iq(a:Str):¬a<a:=List.lt_irrefl a
theorem Mg{a b c:Str}(h:a<b)(k:b<c):a<c:=List.lt_trans h k
theorem Uf{a b:Str}(h:a<b):¬b<a:=fun k=>Iq a (Mg h k)
theorem LH(a b:Str):a<b∨a=b∨b<a:=by
 by_cases h:a<b
 ·exact .inl h
 ·by_cases k:b<a
  ·exact .inr (.inr k)
  ·exact .inr (.inl (List.le_antisymm k h))
def Fa(l:List Str):Prop:=l.Pairwise (·< ·)
theorem Og:∀ {a b:List Str},Fa a->Fa b->(∀s,s∈a↔s∈b)->a=b
 | [],[],_,_,_=>rfl
 | [],y :: b,_,_,h=>absurd ((h y).2 qT) qT
 |x :: a,[],_,_,h=>absurd ((h x).1 qT) qT
 |x :: a,y :: b,ha,hb,h=>by
  obtain⟨hx,z⟩:=FM.1 ha;obtain⟨hy,j⟩:=FM.1 hb
  have i:x=y:=by
   have h1:=(h x).1 qT;have h2:=(h y).2 qT;rw[AV]at h1 h2;rcases h1 with h1|h1
   ·exact h1
   ·rcases h2 with h2|h2
    ·exact h2.symm
    ·exact absurd (Mg (hy x h1) (hx y h2)) (Iq y)
  subst i;refine Az (x :: ·) (Og z j fun s=>⟨fun hs=> ?_,fun hs=> ?_⟩)
  ·rcases AV.1 ((h s).1 (Ce _ hs))with rfl|h'
   ·exact absurd (hx s hs) (Iq s)
   ·exact h'
  ·rcases AV.1 ((h s).2 (Ce _ hs))with rfl|h'
   ·exact absurd (hy s hs) (Iq s)
   ·exact h'
def C9:List Str->Str->List Str
 | [],s=> [s]
 |x :: t,s=>if x<s then x :: C9 t s else if x=s then x :: t else s :: x :: t
theorem Ot(s u:Str):∀l,u∈C9 l s↔u∈l∨u=s
 | []=>by simp[C9]
 |x :: t=>by
  rw[C9];split
  ·rw[AV,Ot s u t,AV,or_assoc]
  ·split
   ·rename_i h;subst h;rw[AV];exact⟨.inl,fun h=>h.elim id (fun h=> .inl h)⟩
   ·rw[AV,or_comm]
theorem T9(s:Str):∀ {l},Fa l->Fa (C9 l s)
 | [],_=>by simp[C9,Fa]
 |x :: t,h=>by
  obtain⟨hx,ht⟩:=FM.1 h;rw[C9];split
  ·rename_i i;refine FM.2 ⟨fun u hu=> ?_,T9 s ht⟩;rcases(Ot s u t).1 hu with h'|rfl
   ·exact hx u h'
   ·exact i
  ·split
   ·exact h
   ·rename_i h1 h2;have hs:s<x:=(LH x s).elim (fun k=>absurd k h1) (fun k=>k.elim (fun k=>absurd k h2) id);refine FM.2 ⟨fun u hu=> ?_,h⟩;rcases AV.1 hu with rfl|hu
    ·exact hs
    ·exact Mg hs (hx u hu)
theorem SC(s:Str):∀ (l:List Str) (k:Nat),k<=l.length->(∀i,(h:i<k)->(h':i<l.length)->l[i]<s)->(∀x,l[k]? =some x->¬x<s)->C9 l s=if l[k]? =some s then l else l.take k++s :: l.drop k
 | [],k,hk,_,_=>by
  obtain rfl:k=0:=by simpa using hk
  simp[C9]
 |x :: t,0,_,_,h2=>by have:=h2 x rfl;rw[C9,Aa this];simp
 |x :: t,k+1,hk,h1,h2=>by have hx:x<s:=h1 0 nj qT;have ih:=SC s t k (by simpa using hk) (fun i hi hi'=>h1 (i+1) nj (by simpa using hi')) (fun y hy=>h2 y (by simpa using hy));rw[C9,Ab hx,ih,List.getElem?_cons_succ];split<;>simp
def xZ(acc l:List Str):List Str:=l.foldl C9 acc
theorem L1(u:Str):∀ (l h:List Str),u∈xZ h l↔u∈h∨u∈l
 | [],h=>by simp[xZ]
 |x :: t,h=>by have ih:=L1 u t (C9 h x);unfold xZ at ih ⊢;rw[List.foldl_cons,ih,Ot,AV,or_assoc]
theorem MD:∀ (l:List Str) {i:List Str},Fa i->Fa (xZ i l)
 | [],_,h=>h
 |x :: t,_,h=>MD t (T9 x h)
theorem j7(h l:List Str)(x:Str):xZ h (l++ [x])=C9 (xZ h l) x:=by unfold xZ;rw[List.foldl_append];rfl
theorem lB(h a b:List Str):xZ h (a++b)=xZ (xZ h a) b:=by unfold xZ;rw[List.foldl_append]
theorem fL{l:List Str}(h:l.Pairwise (·<= ·)):∀ {m:List Str},m.Sublist l->m.Pairwise (·≠ ·)->Fa m:=fun hs hn=>by
 refine(List.Pairwise.and (h.sublist hs) hn).imp fun{a b} hab=> ?_;rcases LH a b with k|k|k
 ·exact k
 ·exact absurd k hab.2
 ·exact absurd k hab.1
def Er:UInt8:=64
def GY(text source:List UInt8):List Str:=words text++(words source).map (Er :: ·)
def FV(text source:List UInt8):List Str:=xZ [] (GY text source)
theorem bH(t s:List UInt8):Fa (FV t s):=MD _ List.Pairwise.nil
theorem eD(t s:List UInt8)(u:Str):u∈FV t s↔u∈GY t s:=by unfold FV;rw[L1];simp
def AQ(ts:List (List Str)):List Str:=ts.foldl xZ []
theorem dH(ts:List (List Str))(t:List Str):AQ (ts++ [t])=xZ (AQ ts) t:=by unfold AQ;rw[List.foldl_append];rfl
theorem Rv(u:Str):∀ (ts:List (List Str)) (h:List Str),u∈ts.foldl xZ h↔u∈h∨∃t∈ts,u∈t
 | [],h=>qT
 |t :: ts,h=>by rw[List.foldl_cons,Rv u ts,L1,or_assoc];simp
theorem Vy:∀ (ts:List (List Str)) {i:List Str},Fa i->Fa (ts.foldl xZ i)
 | [],_,h=>h
 |t :: ts,_,h=>Vy ts (MD t h)
theorem Ty(u:Str)(ts:List (List Str)):u∈AQ ts↔∃t∈ts,u∈t:=by unfold AQ;rw[Rv];simp
theorem TU(ts:List (List Str)):Fa (AQ ts):=Vy ts List.Pairwise.nil
def BK(ts:List (List Str))(u:Str):List Nat:=(List.range ts.length).filter fun i=>(ts.getD i []).contains u
theorem bV(ts:List (List Str))(t:List Str)(u:Str):BK (ts++ [t]) u=BK ts u++(if t.contains u then [ts.length]else []):=by
 unfold BK;rw[Ag,JM,GV,List.filter_append];congr 1
 ·refine List.filter_congr fun i hi=> ?_;rw[FN]at hi;simp only[List.getD_eq_getElem?_getD];rw[GW hi]
 ·rw[List.filter_cons];simp
end Idx
end Go.Proofs.YtfgdoknipbpfhaaGreatDoor
