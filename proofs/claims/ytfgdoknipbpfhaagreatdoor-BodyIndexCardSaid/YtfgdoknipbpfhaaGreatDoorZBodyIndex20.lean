/- Plain: words of a te -/
import Derived.Test.YtfgdoknipbpfhaaGreatDoorZBodyIndex1
import Derived.Lib.IndexMore
namespace Go.Proofs.YtfgdoknipbpfhaaGreatDoor
open Go.Proofs.Tryz
set_option maxRecDepth 100000
variable{n:Nat}
namespace Sift
def EM(c:UInt8):UInt8:=if 97<=c.toNat/\c.toNat<=122∨48<=c.toNat/\c.toNat<=57 then c else if 65<=c.toNat/\c.toNat<=90 then c+32 else 0
def Co(c:UInt8):Bool:=EM c != 0
def run:List UInt8->List UInt8
 | []=> []
 |c :: t=>if Co c=true then EM c :: run t else []
def rest:List UInt8->List UInt8
 | []=> []
 |c :: t=>if Co c=true then rest t else c :: t
theorem NW:∀l,(run l).length+(rest l).length=l.length
 | []=>rfl
 |c :: t=>by have:=NW t;rw[run,rest];split<;>simp only[List.length_cons,List.length_nil]<;>omega
def tell(row:List UInt8):List (List UInt8):=if row= []then []else [row.take 24]
def split:List UInt8->List UInt8->List (List UInt8)
 |row,[]=>tell row
 |row,c :: t=>if Co c=true then split (row++ [EM c]) t else tell row++split [] t
def words(l:List UInt8):List (List UInt8):=split [] l
theorem S3:∀ (l row:List UInt8),split row l=tell (row++run l)++split [] (rest l)
 | [],row=>by simp[split,run,rest,tell]
 |c :: t,row=>by
  rw[split,run,rest];by_cases h:Co c=true
  ·rw[Ag h,Ag h,Ag h,S3 t (row++ [EM c])];simp
  ·rw[Ae h,Ae h,Ae h,split,Ae h];simp[tell]
def FE:Bool->List UInt8->List (List UInt8)
 |_,[]=> []
 |p,c :: t=>(if Co c=true/\p=false then [(run (c :: t)).take 24]else [])++FE (Co c) t
theorem Rl:∀l,FE true l=FE false (rest l)
 | []=>rfl
 |c :: t=>by
  rw[FE,rest];by_cases h:Co c=true
  ·rw[Ag h,Ae pR,h,Rl t];rfl
  ·rw[Ae h,Ae pR,FE,Ae p8]
theorem aM(l:List UInt8):FE false l=words l:=by
 unfold words;obtain⟨n,hn⟩:=jc l.length
 induction n using Nat.strongRecOn generalizing l with
 |ind n ih=>
  match l with
  | []=>simp[FE,split,tell]
  |c :: t=>
   have j:=NW t;simp only[List.length_cons]at hn;rw[S3,Ey,FE];by_cases h:Co c=true
   ·have i:run (c :: t)≠ []:=(by rw[run,Ag h];simp);rw[Ag ⟨h,rfl⟩,h,Rl,ih (rest t).length nB (rest t) rfl];unfold tell;rw[Ae i];congr 2;rw[rest,Ag h]
   ·have hr:run (c :: t)= []:=(by rw[run,Ae h]);have hf:Co c=false:=(by cases hc:Co c<;>simp_all);rw[Ae (by simp[hf]),hr,hf,ih t.length nB t rfl,rest,Ae h,split,Ae h];simp[tell]
end Sift
namespace Sift
open Go.RowKit Mem
def Jq(n:Nat):Bool:=decide ((97<=n/\n<=122)∨(65<=n/\n<=90)∨(48<=n/\n<=57))
def El(n:Nat):Nat:=if(97<=n/\n<=122)∨(48<=n/\n<=57)then n else if 65<=n/\n<=90 then n+32 else 0
theorem Kz(c:UInt8):(EM c).toNat=El c.toNat:=by
 unfold EM El;split
 ·rfl
 ·split
  ·rename_i h;rw[UInt8.toNat_add];show(c.toNat+32) % 256=_;omega
  ·rfl
theorem GU(c:UInt8):Co c=Jq c.toNat:=by
 have h:Co c=decide ((EM c).toNat≠0):=by
  unfold Co;rw[JI,bne_iff_ne,decide_eq_true_eq];constructor
  ·intro h h2;exact h (UInt8.toNat_inj.1 h2)
  ·intro h h2;exact h (by rw[h2];rfl)
 rw[h,Kz];unfold El Jq;rw[JI,decide_eq_true_eq,decide_eq_true_eq];split
 ·constructor<;>intro _<;>omega
 ·split
  ·constructor<;>intro _<;>omega
  ·constructor<;>intro _<;>omega
theorem UA(n:Nat):n<48∨(48<=n/\n<=57)∨(58<=n/\n<=64)∨(65<=n/\n<=90)∨(91<=n/\n<=96)∨(97<=n/\n<=122)∨123<=n:=nB
theorem O4(h:(97<=n/\n<=122)∨(65<=n/\n<=90)∨(48<=n/\n<=57)):Jq n=true:=AQ h
theorem MR(h:¬((97<=n/\n<=122)∨(65<=n/\n<=90)∨(48<=n/\n<=57))):Jq n=false:=AV h
theorem MN(h:(97<=n/\n<=122)∨(48<=n/\n<=57)):El n=n:=Ag h
theorem SL(h:65<=n/\n<=90):El n=n+32:=(Ae nB).trans (Ag h)
theorem IY(h:¬((97<=n/\n<=122)∨(48<=n/\n<=57))/\¬(65<=n/\n<=90)):El n=0:=(Ae h.1).trans (Ae h.2)
theorem kU(n:Nat)(h:65<=n)(h':n<=90)(w:World):Calls prog 236 #[.int .u8 n] w fun e w'=>e= .returned (.tuple #[.int .u8 (n+32:Nat),true])/\w=w':=by have g0:decide ((97:Int)<=(n:Int))=false:=AV nB;have g1:decide ((65:Int)<=(n:Int))=true:=AQ nB;have g2:decide ((48:Int)<=(n:Int))=true:=AQ nB;have l0:decide ((n:Int)<=122)=true:=AQ nB;have l1:decide ((n:Int)<=90)=true:=AQ nB;have l2:decide ((n:Int)<=57)=false:=AV nB;go_enter func236,ntmps236;go_wp2_with fail;go_ret2;exact⟨jl,rfl⟩
theorem j4(n:Nat)(h:97<=n)(h':n<=122)(w:World):Calls prog 236 #[.int .u8 n] w fun e w'=>e= .returned (.tuple #[.int .u8 (n:Nat),true])/\w=w':=by have g0:decide ((97:Int)<=(n:Int))=true:=AQ nB;have g1:decide ((65:Int)<=(n:Int))=true:=AQ nB;have g2:decide ((48:Int)<=(n:Int))=true:=AQ nB;have l0:decide ((n:Int)<=122)=true:=AQ nB;have l1:decide ((n:Int)<=90)=false:=AV nB;have l2:decide ((n:Int)<=57)=false:=AV nB;go_enter func236,ntmps236;go_wp2_with fail;go_ret2;exact⟨jl,rfl⟩
theorem jF(n:Nat)(h:48<=n)(h':n<=57)(w:World):Calls prog 236 #[.int .u8 n] w fun e w'=>e= .returned (.tuple #[.int .u8 (n:Nat),true])/\w=w':=by have g0:decide ((97:Int)<=(n:Int))=false:=AV nB;have g1:decide ((65:Int)<=(n:Int))=false:=AV nB;have g2:decide ((48:Int)<=(n:Int))=true:=AQ nB;have l0:decide ((n:Int)<=122)=true:=AQ nB;have l1:decide ((n:Int)<=90)=true:=AQ nB;have l2:decide ((n:Int)<=57)=true:=AQ nB;go_enter func236,ntmps236;go_wp2_with fail;go_ret2;exact⟨jl,rfl⟩
theorem eY(n:Nat)(h:0<=n)(h':n<48)(w:World):Calls prog 236 #[.int .u8 n] w fun e w'=>e= .returned (.tuple #[.int .u8 (0:Nat),false])/\w=w':=by have g0:decide ((97:Int)<=(n:Int))=false:=AV nB;have g1:decide ((65:Int)<=(n:Int))=false:=AV nB;have g2:decide ((48:Int)<=(n:Int))=false:=AV nB;have l0:decide ((n:Int)<=122)=true:=AQ nB;have l1:decide ((n:Int)<=90)=true:=AQ nB;have l2:decide ((n:Int)<=57)=true:=AQ nB;go_enter func236,ntmps236;go_wp2_with fail;go_ret2;exact⟨jl,rfl⟩
theorem dW(n:Nat)(h:58<=n)(h':n<=64)(w:World):Calls prog 236 #[.int .u8 n] w fun e w'=>e= .returned (.tuple #[.int .u8 (0:Nat),false])/\w=w':=by have g0:decide ((97:Int)<=(n:Int))=false:=AV nB;have g1:decide ((65:Int)<=(n:Int))=false:=AV nB;have g2:decide ((48:Int)<=(n:Int))=true:=AQ nB;have l0:decide ((n:Int)<=122)=true:=AQ nB;have l1:decide ((n:Int)<=90)=true:=AQ nB;have l2:decide ((n:Int)<=57)=false:=AV nB;go_enter func236,ntmps236;go_wp2_with fail;go_ret2;exact⟨jl,rfl⟩
theorem cR(n:Nat)(h:91<=n)(h':n<=96)(w:World):Calls prog 236 #[.int .u8 n] w fun e w'=>e= .returned (.tuple #[.int .u8 (0:Nat),false])/\w=w':=by have g0:decide ((97:Int)<=(n:Int))=false:=AV nB;have g1:decide ((65:Int)<=(n:Int))=true:=AQ nB;have g2:decide ((48:Int)<=(n:Int))=true:=AQ nB;have l0:decide ((n:Int)<=122)=true:=AQ nB;have l1:decide ((n:Int)<=90)=false:=AV nB;have l2:decide ((n:Int)<=57)=false:=AV nB;go_enter func236,ntmps236;go_wp2_with fail;go_ret2;exact⟨jl,rfl⟩
theorem bA(n:Nat)(h:123<=n)(h':n<256)(w:World):Calls prog 236 #[.int .u8 n] w fun e w'=>e= .returned (.tuple #[.int .u8 (0:Nat),false])/\w=w':=by have g0:decide ((97:Int)<=(n:Int))=true:=AQ nB;have g1:decide ((65:Int)<=(n:Int))=true:=AQ nB;have g2:decide ((48:Int)<=(n:Int))=true:=AQ nB;have l0:decide ((n:Int)<=122)=false:=AV nB;have l1:decide ((n:Int)<=90)=false:=AV nB;have l2:decide ((n:Int)<=57)=false:=AV nB;go_enter func236,ntmps236;go_wp2_with fail;go_ret2;exact⟨jl,rfl⟩
theorem Q6(n:Nat)(hn:n<256)(w:World):Calls prog 236 #[.int .u8 n] w fun e w'=>e= .returned (.tuple #[.int .u8 (El n:Nat), .bool (Jq n)])/\w=w':=by
 rcases UA n with h|⟨h,h'⟩|⟨h,h'⟩|⟨h,h'⟩|⟨h,h'⟩|⟨h,h'⟩|h
 ·rw[MR nB,IY nB];exact eY n nB h w
 ·rw[O4 nB,MN nB];exact jF n h h' w
 ·rw[MR nB,IY nB];exact dW n h h' w
 ·rw[O4 nB,SL nB];exact kU n h h' w
 ·rw[MR nB,IY nB];exact cR n h h' w
 ·rw[O4 nB,MN nB];exact j4 n h h' w
 ·rw[MR nB,IY nB];exact bA n h hn w
theorem aI(n:Nat)(h:65<=n)(h':n<=90)(w:World):Calls prog 202 #[.int .u8 n] w fun e w'=>e= .returned (.int .u8 (n+32:Nat))/\w=w':=by have g0:decide ((97:Int)<=(n:Int))=false:=AV nB;have g1:decide ((65:Int)<=(n:Int))=true:=AQ nB;have g2:decide ((48:Int)<=(n:Int))=true:=AQ nB;have l0:decide ((n:Int)<=122)=true:=AQ nB;have l1:decide ((n:Int)<=90)=true:=AQ nB;have l2:decide ((n:Int)<=57)=false:=AV nB;go_enter func202,ntmps202;go_wp2_with fail;go_ret;exact⟨jl,rfl⟩
theorem ZX(n:Nat)(h:97<=n)(h':n<=122)(w:World):Calls prog 202 #[.int .u8 n] w fun e w'=>e= .returned (.int .u8 (n:Nat))/\w=w':=by have g0:decide ((97:Int)<=(n:Int))=true:=AQ nB;have g1:decide ((65:Int)<=(n:Int))=true:=AQ nB;have g2:decide ((48:Int)<=(n:Int))=true:=AQ nB;have l0:decide ((n:Int)<=122)=true:=AQ nB;have l1:decide ((n:Int)<=90)=false:=AV nB;have l2:decide ((n:Int)<=57)=false:=AV nB;go_enter func202,ntmps202;go_wp2_with fail;go_ret;exact⟨jl,rfl⟩
theorem ZE(n:Nat)(h:48<=n)(h':n<=57)(w:World):Calls prog 202 #[.int .u8 n] w fun e w'=>e= .returned (.int .u8 (n:Nat))/\w=w':=by have g0:decide ((97:Int)<=(n:Int))=false:=AV nB;have g1:decide ((65:Int)<=(n:Int))=false:=AV nB;have g2:decide ((48:Int)<=(n:Int))=true:=AQ nB;have l0:decide ((n:Int)<=122)=true:=AQ nB;have l1:decide ((n:Int)<=90)=true:=AQ nB;have l2:decide ((n:Int)<=57)=true:=AQ nB;go_enter func202,ntmps202;go_wp2_with fail;go_ret;exact⟨jl,rfl⟩
theorem jT(n:Nat)(h:0<=n)(h':n<48)(w:World):Calls prog 202 #[.int .u8 n] w fun e w'=>e= .returned (.int .u8 (0:Nat))/\w=w':=by have g0:decide ((97:Int)<=(n:Int))=false:=AV nB;have g1:decide ((65:Int)<=(n:Int))=false:=AV nB;have g2:decide ((48:Int)<=(n:Int))=false:=AV nB;have l0:decide ((n:Int)<=122)=true:=AQ nB;have l1:decide ((n:Int)<=90)=true:=AQ nB;have l2:decide ((n:Int)<=57)=true:=AQ nB;go_enter func202,ntmps202;go_wp2_with fail;go_ret;exact⟨jl,rfl⟩
theorem i9(n:Nat)(h:58<=n)(h':n<=64)(w:World):Calls prog 202 #[.int .u8 n] w fun e w'=>e= .returned (.int .u8 (0:Nat))/\w=w':=by have g0:decide ((97:Int)<=(n:Int))=false:=AV nB;have g1:decide ((65:Int)<=(n:Int))=false:=AV nB;have g2:decide ((48:Int)<=(n:Int))=true:=AQ nB;have l0:decide ((n:Int)<=122)=true:=AQ nB;have l1:decide ((n:Int)<=90)=true:=AQ nB;have l2:decide ((n:Int)<=57)=false:=AV nB;go_enter func202,ntmps202;go_wp2_with fail;go_ret;exact⟨jl,rfl⟩
theorem iJ(n:Nat)(h:91<=n)(h':n<=96)(w:World):Calls prog 202 #[.int .u8 n] w fun e w'=>e= .returned (.int .u8 (0:Nat))/\w=w':=by have g0:decide ((97:Int)<=(n:Int))=false:=AV nB;have g1:decide ((65:Int)<=(n:Int))=true:=AQ nB;have g2:decide ((48:Int)<=(n:Int))=true:=AQ nB;have l0:decide ((n:Int)<=122)=true:=AQ nB;have l1:decide ((n:Int)<=90)=false:=AV nB;have l2:decide ((n:Int)<=57)=false:=AV nB;go_enter func202,ntmps202;go_wp2_with fail;go_ret;exact⟨jl,rfl⟩
theorem gQ(n:Nat)(h:123<=n)(h':n<256)(w:World):Calls prog 202 #[.int .u8 n] w fun e w'=>e= .returned (.int .u8 (0:Nat))/\w=w':=by have g0:decide ((97:Int)<=(n:Int))=true:=AQ nB;have g1:decide ((65:Int)<=(n:Int))=true:=AQ nB;have g2:decide ((48:Int)<=(n:Int))=true:=AQ nB;have l0:decide ((n:Int)<=122)=false:=AV nB;have l1:decide ((n:Int)<=90)=false:=AV nB;have l2:decide ((n:Int)<=57)=false:=AV nB;go_enter func202,ntmps202;go_wp2_with fail;go_ret;exact⟨jl,rfl⟩
theorem Jt(n:Nat)(hn:n<256)(w:World):Calls prog 202 #[.int .u8 n] w fun e w'=>e= .returned (.int .u8 (El n:Nat))/\w=w':=by
 rcases UA n with h|⟨h,h'⟩|⟨h,h'⟩|⟨h,h'⟩|⟨h,h'⟩|⟨h,h'⟩|h
 ·rw[IY nB];exact jT n nB h w
 ·rw[MN nB];exact ZE n h h' w
 ·rw[IY nB];exact i9 n h h' w
 ·rw[SL nB];exact aI n h h' w
 ·rw[IY nB];exact iJ n h h' w
 ·rw[MN nB];exact ZX n h h' w
 ·rw[IY nB];exact gQ n h hn w
end Sift
namespace Idx
open Sift (words)
abbrev Str:=List UInt8
theorem Hg(a:Str):¬a<a:=List.lt_irrefl a
theorem L3{a b c:Str}(h:a<b)(k:b<c):a<c:=List.lt_trans h k
theorem LW{a b:Str}(h:a<b):¬b<a:=fun k=>Hg a (L3 h k)
theorem J8(a b:Str):a<b∨a=b∨b<a:=by
 by_cases h:a<b
 ·exact .inl h
 ·by_cases k:b<a
  ·exact .inr (.inr k)
  ·exact .inr (.inl (List.le_antisymm k h))
def Fj(l:List Str):Prop:=l.Pairwise (·< ·)
theorem OM:∀ {a b:List Str},Fj a->Fj b->(∀s,s∈a↔s∈b)->a=b
 | [],[],_,_,_=>rfl
 | [],y :: b,_,_,h=>absurd ((h y).2 pR) pR
 |x :: a,[],_,_,h=>absurd ((h x).1 pR) pR
 |x :: a,y :: b,ha,hb,h=>by
  obtain⟨hx,E⟩:=FN.1 ha;obtain⟨hy,i⟩:=FN.1 hb
  have j:x=y:=by
   have h1:=(h x).1 pR;have h2:=(h y).2 pR;rw[BK]at h1 h2;rcases h1 with h1|h1
   ·exact h1
   ·rcases h2 with h2|h2
    ·exact h2.symm
    ·exact absurd (L3 (hy x h1) (hx y h2)) (Hg y)
  subst j;refine AM (x :: ·) (OM E i fun s=>⟨fun hs=> ?_,fun hs=> ?_⟩)
  ·rcases BK.1 ((h s).1 (Cm _ hs))with rfl|h'
   ·exact absurd (hx s hs) (Hg s)
   ·exact h'
  ·rcases BK.1 ((h s).2 (Cm _ hs))with rfl|h'
   ·exact absurd (hy s hs) (Hg s)
   ·exact h'
def Dw:List Str->Str->List Str
 | [],s=> [s]
 |x :: t,s=>if x<s then x :: Dw t s else if x=s then x :: t else s :: x :: t
theorem NN(s u:Str):∀l,u∈Dw l s↔u∈l∨u=s
 | []=>by simp[Dw]
 |x :: t=>by
  rw[Dw];split
  ·rw[BK,NN s u t,BK,or_assoc]
  ·split
   ·rename_i h;subst h;rw[BK];exact⟨.inl,fun h=>h.elim id (fun h=> .inl h)⟩
   ·rw[BK,or_comm]
theorem QT(s:Str):∀ {l},Fj l->Fj (Dw l s)
 | [],_=>by simp[Dw,Fj]
 |x :: t,h=>by
  obtain⟨hx,ht⟩:=FN.1 h;rw[Dw];split
  ·rename_i i;refine FN.2 ⟨fun u hu=> ?_,QT s ht⟩;rcases(NN s u t).1 hu with h'|rfl
   ·exact hx u h'
   ·exact i
  ·split
   ·exact h
   ·rename_i h1 h2;have hs:s<x:=(J8 x s).elim (fun k=>absurd k h1) (fun k=>k.elim (fun k=>absurd k h2) id);refine FN.2 ⟨fun u hu=> ?_,h⟩;rcases BK.1 hu with rfl|hu
    ·exact hs
    ·exact L3 hs (hx u hu)
theorem Un(s:Str):∀ (l:List Str) (k:Nat),k<=l.length->(∀i,(h:i<k)->(h':i<l.length)->l[i]<s)->(∀x,l[k]? =some x->¬x<s)->Dw l s=if l[k]? =some s then l else l.take k++s :: l.drop k
 | [],k,hk,_,_=>by
  obtain rfl:k=0:=by simpa using hk
  simp[Dw]
 |x :: t,0,_,_,h2=>by have:=h2 x rfl;rw[Dw,Ae this];simp
 |x :: t,k+1,hk,h1,h2=>by have hx:x<s:=h1 0 nB pR;have ih:=Un s t k (by simpa using hk) (fun i hi hi'=>h1 (i+1) nB (by simpa using hi')) (fun y hy=>h2 y (by simpa using hy));rw[Dw,Ag hx,ih,List.getElem?_cons_succ];split<;>simp
def Bg(acc l:List Str):List Str:=l.foldl Dw acc
theorem Mn(u:Str):∀ (l h:List Str),u∈Bg h l↔u∈h∨u∈l
 | [],h=>by simp[Bg]
 |x :: t,h=>by have ih:=Mn u t (Dw h x);unfold Bg at ih ⊢;rw[List.foldl_cons,ih,NN,BK,or_assoc]
theorem ML:∀ (l:List Str) {i:List Str},Fj i->Fj (Bg i l)
 | [],_,h=>h
 |x :: t,_,h=>ML t (QT x h)
theorem iP(h l:List Str)(x:Str):Bg h (l++ [x])=Dw (Bg h l) x:=by unfold Bg;rw[List.foldl_append];rfl
theorem bJ(h a b:List Str):Bg h (a++b)=Bg (Bg h a) b:=by unfold Bg;rw[List.foldl_append]
theorem fR{l:List Str}(h:l.Pairwise (·<= ·)):∀ {m:List Str},m.Sublist l->m.Pairwise (·≠ ·)->Fj m:=fun hs hn=>by
 refine(List.Pairwise.and (h.sublist hs) hn).imp fun{a b} hab=> ?_;rcases J8 a b with k|k|k
 ·exact k
 ·exact absurd k hab.2
 ·exact absurd k hab.1
def EE:UInt8:=64
def G2(text source:List UInt8):List Str:=words text++(words source).map (EE :: ·)
def Gc(text source:List UInt8):List Str:=Bg [] (G2 text source)
theorem Z1(t s:List UInt8):Fj (Gc t s):=ML _ List.Pairwise.nil
theorem eR(t s:List UInt8)(u:Str):u∈Gc t s↔u∈G2 t s:=by unfold Gc;rw[Mn];simp
def AW(ts:List (List Str)):List Str:=ts.foldl Bg []
theorem dS(ts:List (List Str))(t:List Str):AW (ts++ [t])=Bg (AW ts) t:=by unfold AW;rw[List.foldl_append];rfl
theorem Qj(u:Str):∀ (ts:List (List Str)) (h:List Str),u∈ts.foldl Bg h↔u∈h∨∃t∈ts,u∈t
 | [],h=>pR
 |t :: ts,h=>by rw[List.foldl_cons,Qj u ts,Mn,or_assoc];simp
theorem Uo:∀ (ts:List (List Str)) {i:List Str},Fj i->Fj (ts.foldl Bg i)
 | [],_,h=>h
 |t :: ts,_,h=>Uo ts (ML t h)
theorem SX(u:Str)(ts:List (List Str)):u∈AW ts↔∃t∈ts,u∈t:=by unfold AW;rw[Qj];simp
theorem QH(ts:List (List Str)):Fj (AW ts):=Uo ts List.Pairwise.nil
def BP(ts:List (List Str))(u:Str):List Nat:=(List.range ts.length).filter fun i=>(ts.getD i []).contains u
theorem cM(ts:List (List Str))(t:List Str)(u:Str):BP (ts++ [t]) u=BP ts u++(if t.contains u then [ts.length]else []):=by
 unfold BP;rw[Aj,JG,Hi,List.filter_append];congr 1
 ·refine List.filter_congr fun i hi=> ?_;rw[FA]at hi;simp only[List.getD_eq_getElem?_getD];rw[Hk hi]
 ·rw[List.filter_cons];simp
end Idx
end Go.Proofs.YtfgdoknipbpfhaaGreatDoor
