/- Plain: words of a te -/
import Derived.Test.YtfgdoknipbpfhaaGreatDoorZTwoUnpacks1
import Derived.Lib.IndexMore
namespace Go.Proofs.YtfgdoknipbpfhaaGreatDoor
open Go.Proofs.Tryz
set_option maxRecDepth 100000
variable{n:Nat}
namespace Sift
def Ej(c:UInt8):UInt8:=if 97<=c.toNat/\c.toNat<=122∨48<=c.toNat/\c.toNat<=57 then c else if 65<=c.toNat/\c.toNat<=90 then c+32 else 0
def BW(c:UInt8):Bool:=Ej c != 0
def run:List UInt8->List UInt8
 | []=> []
 |c :: t=>if BW c=true then Ej c :: run t else []
def rest:List UInt8->List UInt8
 | []=> []
 |c :: t=>if BW c=true then rest t else c :: t
theorem Nl:∀l,(run l).length+(rest l).length=l.length
 | []=>rfl
 |c :: t=>by have:=Nl t;rw[run,rest];split<;>simp only[List.length_cons,List.length_nil]<;>omega
def tell(row:List UInt8):List (List UInt8):=if row= []then []else [row.take 24]
def split:List UInt8->List UInt8->List (List UInt8)
 |row,[]=>tell row
 |row,c :: t=>if BW c=true then split (row++ [Ej c]) t else tell row++split [] t
def words(l:List UInt8):List (List UInt8):=split [] l
theorem QU:∀ (l row:List UInt8),split row l=tell (row++run l)++split [] (rest l)
 | [],row=>by simp[split,run,rest,tell]
 |c :: t,row=>by
  rw[split,run,rest];by_cases h:BW c=true
  ·rw[Ab h,Ab h,Ab h,QU t (row++ [Ej c])];simp
  ·rw[Aa h,Aa h,Aa h,split,Aa h];simp[tell]
def EY:Bool->List UInt8->List (List UInt8)
 |_,[]=> []
 |p,c :: t=>(if BW c=true/\p=false then [(run (c :: t)).take 24]else [])++EY (BW c) t
theorem Pj:∀l,EY true l=EY false (rest l)
 | []=>rfl
 |c :: t=>by
  rw[EY,rest];by_cases h:BW c=true
  ·rw[Ab h,Aa mY,h,Pj t];rfl
  ·rw[Aa h,Aa mY,EY,Aa nm]
theorem ZP(l:List UInt8):EY false l=words l:=by
 unfold words;obtain⟨n,hn⟩:=iS l.length
 induction n using Nat.strongRecOn generalizing l with
 |ind n ih=>
  match l with
  | []=>simp[EY,split,tell]
  |c :: t=>
   have j:=Nl t;simp only[List.length_cons]at hn;rw[QU,GF,EY];by_cases h:BW c=true
   ·have i:run (c :: t)≠ []:=(by rw[run,Ab h];simp);rw[Ab ⟨h,rfl⟩,h,Pj,ih (rest t).length kR (rest t) rfl];unfold tell;rw[Aa i];congr 2;rw[rest,Ab h]
   ·have hr:run (c :: t)= []:=(by rw[run,Aa h]);have hf:BW c=false:=(by cases hc:BW c<;>simp_all);rw[Aa (by simp[hf]),hr,hf,ih t.length kR t rfl,rest,Aa h,split,Aa h];simp[tell]
end Sift
namespace Sift
open Go.RowKit Mem
def IC(n:Nat):Bool:=decide ((97<=n/\n<=122)∨(65<=n/\n<=90)∨(48<=n/\n<=57))
def Dc(n:Nat):Nat:=if(97<=n/\n<=122)∨(48<=n/\n<=57)then n else if 65<=n/\n<=90 then n+32 else 0
theorem Kf(c:UInt8):(Ej c).toNat=Dc c.toNat:=by
 unfold Ej Dc;split
 ·rfl
 ·split
  ·rename_i h;rw[UInt8.toNat_add];show(c.toNat+32) % 256=_;omega
  ·rfl
theorem Gd(c:UInt8):BW c=IC c.toNat:=by
 have h:BW c=decide ((Ej c).toNat≠0):=by
  unfold BW;rw[I9,bne_iff_ne,decide_eq_true_eq];constructor
  ·intro h h2;exact h (UInt8.toNat_inj.1 h2)
  ·intro h h2;exact h (by rw[h2];rfl)
 rw[h,Kf];unfold Dc IC;rw[I9,decide_eq_true_eq,decide_eq_true_eq];split
 ·constructor<;>intro _<;>omega
 ·split
  ·constructor<;>intro _<;>omega
  ·constructor<;>intro _<;>omega
theorem Qy(n:Nat):n<48∨(48<=n/\n<=57)∨(58<=n/\n<=64)∨(65<=n/\n<=90)∨(91<=n/\n<=96)∨(97<=n/\n<=122)∨123<=n:=kR
theorem ME(h:(97<=n/\n<=122)∨(65<=n/\n<=90)∨(48<=n/\n<=57)):IC n=true:=Aw h
theorem Me(h:¬((97<=n/\n<=122)∨(65<=n/\n<=90)∨(48<=n/\n<=57))):IC n=false:=Az h
theorem Md(h:(97<=n/\n<=122)∨(48<=n/\n<=57)):Dc n=n:=Ab h
theorem QK(h:65<=n/\n<=90):Dc n=n+32:=(Aa kR).trans (Ab h)
theorem If(h:¬((97<=n/\n<=122)∨(48<=n/\n<=57))/\¬(65<=n/\n<=90)):Dc n=0:=(Aa h.1).trans (Aa h.2)
theorem VS(n:Nat)(h:65<=n)(h':n<=90)(w:World):Calls prog 236 #[.int .u8 n] w fun e w'=>e= .returned (.tuple #[.int .u8 (n+32:Nat),true])/\w=w':=by have g0:decide ((97:Int)<=(n:Int))=false:=Az kR;have g1:decide ((65:Int)<=(n:Int))=true:=Aw kR;have g2:decide ((48:Int)<=(n:Int))=true:=Aw kR;have l0:decide ((n:Int)<=122)=true:=Aw kR;have l1:decide ((n:Int)<=90)=true:=Aw kR;have l2:decide ((n:Int)<=57)=false:=Az kR;go_enter func236,ntmps236;go_wp2_with fail;go_ret2;exact⟨i6,rfl⟩
theorem VC(n:Nat)(h:97<=n)(h':n<=122)(w:World):Calls prog 236 #[.int .u8 n] w fun e w'=>e= .returned (.tuple #[.int .u8 (n:Nat),true])/\w=w':=by have g0:decide ((97:Int)<=(n:Int))=true:=Aw kR;have g1:decide ((65:Int)<=(n:Int))=true:=Aw kR;have g2:decide ((48:Int)<=(n:Int))=true:=Aw kR;have l0:decide ((n:Int)<=122)=true:=Aw kR;have l1:decide ((n:Int)<=90)=false:=Az kR;have l2:decide ((n:Int)<=57)=false:=Az kR;go_enter func236,ntmps236;go_wp2_with fail;go_ret2;exact⟨i6,rfl⟩
theorem Vo(n:Nat)(h:48<=n)(h':n<=57)(w:World):Calls prog 236 #[.int .u8 n] w fun e w'=>e= .returned (.tuple #[.int .u8 (n:Nat),true])/\w=w':=by have g0:decide ((97:Int)<=(n:Int))=false:=Az kR;have g1:decide ((65:Int)<=(n:Int))=false:=Az kR;have g2:decide ((48:Int)<=(n:Int))=true:=Aw kR;have l0:decide ((n:Int)<=122)=true:=Aw kR;have l1:decide ((n:Int)<=90)=true:=Aw kR;have l2:decide ((n:Int)<=57)=true:=Aw kR;go_enter func236,ntmps236;go_wp2_with fail;go_ret2;exact⟨i6,rfl⟩
theorem Xu(n:Nat)(h:0<=n)(h':n<48)(w:World):Calls prog 236 #[.int .u8 n] w fun e w'=>e= .returned (.tuple #[.int .u8 (0:Nat),false])/\w=w':=by have g0:decide ((97:Int)<=(n:Int))=false:=Az kR;have g1:decide ((65:Int)<=(n:Int))=false:=Az kR;have g2:decide ((48:Int)<=(n:Int))=false:=Az kR;have l0:decide ((n:Int)<=122)=true:=Aw kR;have l1:decide ((n:Int)<=90)=true:=Aw kR;have l2:decide ((n:Int)<=57)=true:=Aw kR;go_enter func236,ntmps236;go_wp2_with fail;go_ret2;exact⟨i6,rfl⟩
theorem Xd(n:Nat)(h:58<=n)(h':n<=64)(w:World):Calls prog 236 #[.int .u8 n] w fun e w'=>e= .returned (.tuple #[.int .u8 (0:Nat),false])/\w=w':=by have g0:decide ((97:Int)<=(n:Int))=false:=Az kR;have g1:decide ((65:Int)<=(n:Int))=false:=Az kR;have g2:decide ((48:Int)<=(n:Int))=true:=Aw kR;have l0:decide ((n:Int)<=122)=true:=Aw kR;have l1:decide ((n:Int)<=90)=true:=Aw kR;have l2:decide ((n:Int)<=57)=false:=Az kR;go_enter func236,ntmps236;go_wp2_with fail;go_ret2;exact⟨i6,rfl⟩
theorem WT(n:Nat)(h:91<=n)(h':n<=96)(w:World):Calls prog 236 #[.int .u8 n] w fun e w'=>e= .returned (.tuple #[.int .u8 (0:Nat),false])/\w=w':=by have g0:decide ((97:Int)<=(n:Int))=false:=Az kR;have g1:decide ((65:Int)<=(n:Int))=true:=Aw kR;have g2:decide ((48:Int)<=(n:Int))=true:=Aw kR;have l0:decide ((n:Int)<=122)=true:=Aw kR;have l1:decide ((n:Int)<=90)=false:=Az kR;have l2:decide ((n:Int)<=57)=false:=Az kR;go_enter func236,ntmps236;go_wp2_with fail;go_ret2;exact⟨i6,rfl⟩
theorem WC(n:Nat)(h:123<=n)(h':n<256)(w:World):Calls prog 236 #[.int .u8 n] w fun e w'=>e= .returned (.tuple #[.int .u8 (0:Nat),false])/\w=w':=by have g0:decide ((97:Int)<=(n:Int))=true:=Aw kR;have g1:decide ((65:Int)<=(n:Int))=true:=Aw kR;have g2:decide ((48:Int)<=(n:Int))=true:=Aw kR;have l0:decide ((n:Int)<=122)=false:=Az kR;have l1:decide ((n:Int)<=90)=false:=Az kR;have l2:decide ((n:Int)<=57)=false:=Az kR;go_enter func236,ntmps236;go_wp2_with fail;go_ret2;exact⟨i6,rfl⟩
theorem O3(n:Nat)(hn:n<256)(w:World):Calls prog 236 #[.int .u8 n] w fun e w'=>e= .returned (.tuple #[.int .u8 (Dc n:Nat), .bool (IC n)])/\w=w':=by
 rcases Qy n with h|⟨h,h'⟩|⟨h,h'⟩|⟨h,h'⟩|⟨h,h'⟩|⟨h,h'⟩|h
 ·rw[Me kR,If kR];exact Xu n kR h w
 ·rw[ME kR,Md kR];exact Vo n h h' w
 ·rw[Me kR,If kR];exact Xd n h h' w
 ·rw[ME kR,QK kR];exact VS n h h' w
 ·rw[Me kR,If kR];exact WT n h h' w
 ·rw[ME kR,Md kR];exact VC n h h' w
 ·rw[Me kR,If kR];exact WC n h hn w
theorem Wl(n:Nat)(h:65<=n)(h':n<=90)(w:World):Calls prog 202 #[.int .u8 n] w fun e w'=>e= .returned (.int .u8 (n+32:Nat))/\w=w':=by have g0:decide ((97:Int)<=(n:Int))=false:=Az kR;have g1:decide ((65:Int)<=(n:Int))=true:=Aw kR;have g2:decide ((48:Int)<=(n:Int))=true:=Aw kR;have l0:decide ((n:Int)<=122)=true:=Aw kR;have l1:decide ((n:Int)<=90)=true:=Aw kR;have l2:decide ((n:Int)<=57)=false:=Az kR;go_enter func202,ntmps202;go_wp2_with fail;go_ret;exact⟨i6,rfl⟩
theorem V4(n:Nat)(h:97<=n)(h':n<=122)(w:World):Calls prog 202 #[.int .u8 n] w fun e w'=>e= .returned (.int .u8 (n:Nat))/\w=w':=by have g0:decide ((97:Int)<=(n:Int))=true:=Aw kR;have g1:decide ((65:Int)<=(n:Int))=true:=Aw kR;have g2:decide ((48:Int)<=(n:Int))=true:=Aw kR;have l0:decide ((n:Int)<=122)=true:=Aw kR;have l1:decide ((n:Int)<=90)=false:=Az kR;have l2:decide ((n:Int)<=57)=false:=Az kR;go_enter func202,ntmps202;go_wp2_with fail;go_ret;exact⟨i6,rfl⟩
theorem VQ(n:Nat)(h:48<=n)(h':n<=57)(w:World):Calls prog 202 #[.int .u8 n] w fun e w'=>e= .returned (.int .u8 (n:Nat))/\w=w':=by have g0:decide ((97:Int)<=(n:Int))=false:=Az kR;have g1:decide ((65:Int)<=(n:Int))=false:=Az kR;have g2:decide ((48:Int)<=(n:Int))=true:=Aw kR;have l0:decide ((n:Int)<=122)=true:=Aw kR;have l1:decide ((n:Int)<=90)=true:=Aw kR;have l2:decide ((n:Int)<=57)=true:=Aw kR;go_enter func202,ntmps202;go_wp2_with fail;go_ret;exact⟨i6,rfl⟩
theorem T5(n:Nat)(h:0<=n)(h':n<48)(w:World):Calls prog 202 #[.int .u8 n] w fun e w'=>e= .returned (.int .u8 (0:Nat))/\w=w':=by have g0:decide ((97:Int)<=(n:Int))=false:=Az kR;have g1:decide ((65:Int)<=(n:Int))=false:=Az kR;have g2:decide ((48:Int)<=(n:Int))=false:=Az kR;have l0:decide ((n:Int)<=122)=true:=Aw kR;have l1:decide ((n:Int)<=90)=true:=Aw kR;have l2:decide ((n:Int)<=57)=true:=Aw kR;go_enter func202,ntmps202;go_wp2_with fail;go_ret;exact⟨i6,rfl⟩
theorem TN(n:Nat)(h:58<=n)(h':n<=64)(w:World):Calls prog 202 #[.int .u8 n] w fun e w'=>e= .returned (.int .u8 (0:Nat))/\w=w':=by have g0:decide ((97:Int)<=(n:Int))=false:=Az kR;have g1:decide ((65:Int)<=(n:Int))=false:=Az kR;have g2:decide ((48:Int)<=(n:Int))=true:=Aw kR;have l0:decide ((n:Int)<=122)=true:=Aw kR;have l1:decide ((n:Int)<=90)=true:=Aw kR;have l2:decide ((n:Int)<=57)=false:=Az kR;go_enter func202,ntmps202;go_wp2_with fail;go_ret;exact⟨i6,rfl⟩
theorem aI(n:Nat)(h:91<=n)(h':n<=96)(w:World):Calls prog 202 #[.int .u8 n] w fun e w'=>e= .returned (.int .u8 (0:Nat))/\w=w':=by have g0:decide ((97:Int)<=(n:Int))=false:=Az kR;have g1:decide ((65:Int)<=(n:Int))=true:=Aw kR;have g2:decide ((48:Int)<=(n:Int))=true:=Aw kR;have l0:decide ((n:Int)<=122)=true:=Aw kR;have l1:decide ((n:Int)<=90)=false:=Az kR;have l2:decide ((n:Int)<=57)=false:=Az kR;go_enter func202,ntmps202;go_wp2_with fail;go_ret;exact⟨i6,rfl⟩
theorem Z0(n:Nat)(h:123<=n)(h':n<256)(w:World):Calls prog 202 #[.int .u8 n] w fun e w'=>e= .returned (.int .u8 (0:Nat))/\w=w':=by have g0:decide ((97:Int)<=(n:Int))=true:=Aw kR;have g1:decide ((65:Int)<=(n:Int))=true:=Aw kR;have g2:decide ((48:Int)<=(n:Int))=true:=Aw kR;have l0:decide ((n:Int)<=122)=false:=Az kR;have l1:decide ((n:Int)<=90)=false:=Az kR;have l2:decide ((n:Int)<=57)=false:=Az kR;go_enter func202,ntmps202;go_wp2_with fail;go_ret;exact⟨i6,rfl⟩
theorem IW(n:Nat)(hn:n<256)(w:World):Calls prog 202 #[.int .u8 n] w fun e w'=>e= .returned (.int .u8 (Dc n:Nat))/\w=w':=by
 rcases Qy n with h|⟨h,h'⟩|⟨h,h'⟩|⟨h,h'⟩|⟨h,h'⟩|⟨h,h'⟩|h
 ·rw[If kR];exact T5 n kR h w
 ·rw[Md kR];exact VQ n h h' w
 ·rw[If kR];exact TN n h h' w
 ·rw[QK kR];exact Wl n h h' w
 ·rw[If kR];exact aI n h h' w
 ·rw[Md kR];exact V4 n h h' w
 ·rw[If kR];exact Z0 n h hn w
end Sift
namespace Idx
open Sift (words)
abbrev Str:=List UInt8
theorem GS(a:Str):¬a<a:=List.lt_irrefl a
theorem LM{a b c:Str}(h:a<b)(k:b<c):a<c:=List.lt_trans h k
theorem LI{a b:Str}(h:a<b):¬b<a:=fun k=>GS a (LM h k)
theorem Ja(a b:Str):a<b∨a=b∨b<a:=by
 by_cases h:a<b
 ·exact .inl h
 ·by_cases k:b<a
  ·exact .inr (.inr k)
  ·exact .inr (.inl (List.le_antisymm k h))
def Er(l:List Str):Prop:=l.Pairwise (·< ·)
theorem N4:∀ {a b:List Str},Er a->Er b->(∀s,s∈a↔s∈b)->a=b
 | [],[],_,_,_=>rfl
 | [],y :: b,_,_,h=>absurd ((h y).2 mY) mY
 |x :: a,[],_,_,h=>absurd ((h x).1 mY) mY
 |x :: a,y :: b,ha,hb,h=>by
  obtain⟨hx,j⟩:=Ir.1 ha;obtain⟨hy,z⟩:=Ir.1 hb
  have i:x=y:=by
   have h1:=(h x).1 mY;have h2:=(h y).2 mY;rw[BK]at h1 h2;rcases h1 with h1|h1
   ·exact h1
   ·rcases h2 with h2|h2
    ·exact h2.symm
    ·exact absurd (LM (hy x h1) (hx y h2)) (GS y)
  subst i;refine AI (x :: ·) (N4 j z fun s=>⟨fun hs=> ?_,fun hs=> ?_⟩)
  ·rcases BK.1 ((h s).1 (Fv _ hs))with rfl|h'
   ·exact absurd (hx s hs) (GS s)
   ·exact h'
  ·rcases BK.1 ((h s).2 (Fv _ hs))with rfl|h'
   ·exact absurd (hy s hs) (GS s)
   ·exact h'
def Dm:List Str->Str->List Str
 | [],s=> [s]
 |x :: t,s=>if x<s then x :: Dm t s else if x=s then x :: t else s :: x :: t
theorem MC(s u:Str):∀l,u∈Dm l s↔u∈l∨u=s
 | []=>by simp[Dm]
 |x :: t=>by
  rw[Dm];split
  ·rw[BK,MC s u t,BK,or_assoc]
  ·split
   ·rename_i h;subst h;rw[BK];exact⟨.inl,fun h=>h.elim id (fun h=> .inl h)⟩
   ·rw[BK,or_comm]
theorem OR(s:Str):∀ {l},Er l->Er (Dm l s)
 | [],_=>by simp[Dm,Er]
 |x :: t,h=>by
  obtain⟨hx,ht⟩:=Ir.1 h;rw[Dm];split
  ·rename_i i;refine Ir.2 ⟨fun u hu=> ?_,OR s ht⟩;rcases(MC s u t).1 hu with h'|rfl
   ·exact hx u h'
   ·exact i
  ·split
   ·exact h
   ·rename_i h1 h2;have hs:s<x:=(Ja x s).elim (fun k=>absurd k h1) (fun k=>k.elim (fun k=>absurd k h2) id);refine Ir.2 ⟨fun u hu=> ?_,h⟩;rcases BK.1 hu with rfl|hu
    ·exact hs
    ·exact LM hs (hx u hu)
theorem Qn(s:Str):∀ (l:List Str) (k:Nat),k<=l.length->(∀i,(h:i<k)->(h':i<l.length)->l[i]<s)->(∀x,l[k]? =some x->¬x<s)->Dm l s=if l[k]? =some s then l else l.take k++s :: l.drop k
 | [],k,hk,_,_=>by
  obtain rfl:k=0:=by simpa using hk
  simp[Dm]
 |x :: t,0,_,_,h2=>by have:=h2 x rfl;rw[Dm,Aa this];simp
 |x :: t,k+1,hk,h1,h2=>by have hx:x<s:=h1 0 kR mY;have ih:=Qn s t k (by simpa using hk) (fun i hi hi'=>h1 (i+1) kR (by simpa using hi')) (fun y hy=>h2 y (by simpa using hy));rw[Dm,Ab hx,ih,List.getElem?_cons_succ];split<;>simp
def Bk(acc l:List Str):List Str:=l.foldl Dm acc
theorem LC(u:Str):∀ (l h:List Str),u∈Bk h l↔u∈h∨u∈l
 | [],h=>by simp[Bk]
 |x :: t,h=>by have ih:=LC u t (Dm h x);unfold Bk at ih ⊢;rw[List.foldl_cons,ih,MC,BK,or_assoc]
theorem LD:∀ (l:List Str) {i:List Str},Er i->Er (Bk i l)
 | [],_,h=>h
 |x :: t,_,h=>LD t (OR x h)
theorem U9(h l:List Str)(x:Str):Bk h (l++ [x])=Dm (Bk h l) x:=by unfold Bk;rw[List.foldl_append];rfl
theorem YB(h a b:List Str):Bk h (a++b)=Bk (Bk h a) b:=by unfold Bk;rw[List.foldl_append]
theorem ZK{l:List Str}(h:l.Pairwise (·<= ·)):∀ {m:List Str},m.Sublist l->m.Pairwise (·≠ ·)->Er m:=fun hs hn=>by
 refine(List.Pairwise.and (h.sublist hs) hn).imp fun{a b} hab=> ?_;rcases Ja a b with k|k|k
 ·exact k
 ·exact absurd k hab.2
 ·exact absurd k hab.1
def Dx:UInt8:=64
def He(text source:List UInt8):List Str:=words text++(words source).map (Dx :: ·)
def FX(text source:List UInt8):List Str:=Bk [] (He text source)
theorem Zz(t s:List UInt8):Er (FX t s):=LD _ List.Pairwise.nil
theorem Zt(t s:List UInt8)(u:Str):u∈FX t s↔u∈He t s:=by unfold FX;rw[LC];simp
def AQ(ts:List (List Str)):List Str:=ts.foldl Bk []
theorem Zd(ts:List (List Str))(t:List Str):AQ (ts++ [t])=Bk (AQ ts) t:=by unfold AQ;rw[List.foldl_append];rfl
theorem Sh(u:Str):∀ (ts:List (List Str)) (h:List Str),u∈ts.foldl Bk h↔u∈h∨∃t∈ts,u∈t
 | [],h=>mY
 |t :: ts,h=>by rw[List.foldl_cons,Sh u ts,LC,or_assoc];simp
theorem Tj:∀ (ts:List (List Str)) {i:List Str},Er i->Er (ts.foldl Bk i)
 | [],_,h=>h
 |t :: ts,_,h=>Tj ts (LD t h)
theorem SP(u:Str)(ts:List (List Str)):u∈AQ ts↔∃t∈ts,u∈t:=by unfold AQ;rw[Sh];simp
theorem OF(ts:List (List Str)):Er (AQ ts):=Tj ts List.Pairwise.nil
def BI(ts:List (List Str))(u:Str):List Nat:=(List.range ts.length).filter fun i=>(ts.getD i []).contains u
theorem YY(ts:List (List Str))(t:List Str)(u:Str):BI (ts++ [t]) u=BI ts u++(if t.contains u then [ts.length]else []):=by
 unfold BI;rw[Aj,KE,Iq,List.filter_append];congr 1
 ·refine List.filter_congr fun i hi=> ?_;rw[ES]at hi;simp only[List.getD_eq_getElem?_getD];rw[Hj hi]
 ·rw[List.filter_cons];simp
end Idx
namespace Recs
open Go.RowKit Mem
structure Rec where
 time:Int
 level:Int
 source:ByteArray
 text:ByteArray
def Gf:Rec:=⟨0,0, .empty, .empty⟩
def Dt(l:List Rec):Nat->Nat->Value:=fun i j=>match j with
 |0=> .int .u64 (l.getD i Gf).time
 |1=> .int .u8 (l.getD i Gf).level
 |2=> .string (l.getD i Gf).source
 |_=> .string (l.getD i Gf).text
def H4(a b:Rec):Bool:=a.time==b.time&&(a.level==b.level&&(a.source.toList==b.source.toList&&a.text.toList==b.text.toList))
theorem QC{a b:ByteArray}(h:a.toList=b.toList):a=b:=by
 have h':a.data.toList=b.data.toList:=by rw[<-Fw,<-Fw];exact h
 cases a;cases b
 simp at h';rw[h']
theorem LB(a b:Rec):H4 a b=true↔a=b:=by
 constructor
 ·intro h;simp only[H4,Bool.and_eq_true,beq_iff_eq]at h;obtain⟨h1,h2,h3,h4⟩:=h;cases a;cases b;simp only at h1 h2 h3 h4;rw[h1,h2,QC h3,QC h4]
 ·intro h;subst h;simp[H4]
theorem US(a b:Rec):H4 a b=false↔a≠b:=by rw[<-Bool.not_eq_true,LB]
instance:DecidableEq Rec:=fun a b=>if h:H4 a b=true then .isTrue ((LB a b).1 h)else .isFalse fun e=>h ((LB a b).2 e)
def IZ(a b:List Rec):Bool:=decide (a=b)
def Gy(r:Rec):Int:=16+r.source.size+r.text.size
def CC(l:List Rec):Int:=(l.map Gy).foldl (·+ ·) 0
theorem Qr(l:List Int):∀a:Int,l.foldl (·+ ·) a=a+l.foldl (·+ ·) 0:=by
 induction l with
 |nil=>intro a;simp
 |cons x l ih=>intro a;simp only[List.foldl_cons];rw[ih (a+x),ih (0+x)];omega
theorem UD(l:List Rec)(r:Rec):CC (l++ [r])=CC l+Gy r:=by simp[CC]
theorem NO:CC []=0:=rfl
end Recs
namespace Toks
open Go.RowKit
def lg(v:Int):Int:=((Nat.log2 v.toNat:Nat):Int)
def pw(b:Int):Int:=((2 ^ b.toNat:Nat):Int)
theorem Si(b:Int):1<=pw b:=by unfold pw;have:0<2 ^ b.toNat:=GE _;omega
theorem Wr(b:Int)(h:0<=b):pw (b+1)=2*pw b:=by unfold pw;rw[show(b+1).toNat=b.toNat+1 from by omega,ER];omega
theorem NS(a b:Int)(h:a<=b):pw a<=pw b:=by unfold pw;have:=BQ (n:=2) kR (show a.toNat<=b.toNat by omega);omega
def BS(lit len dist:Int):Bool:=
 if len=0 then decide (dist=0)else decide (lit=0/\3<=len/\len<=257/\1<=dist/\dist<=4095)
structure Pc where
 sym:Int
 len:Int
 dist:Int
 far:Int
structure Tk where
 lit:Int
 len:Int
 dist:Int
def Pc.val(p:Pc):Value:= .agg #[p.sym,p.len,p.dist,p.far]
def Tk.val(t:Tk):Value:= .agg #[.int .u8 t.lit,t.len,t.dist]
def FT(t:Tk):Pc:=
 if BS t.lit t.len t.dist=true then
  if t.len=0 then⟨t.lit,0,0,0⟩else⟨257+lg (t.len-2),t.len-2-pw (lg (t.len-2)),lg t.dist,t.dist-pw (lg t.dist)⟩
 else⟨0,0,0,0⟩
def Hm(p:Pc):Bool:=decide (0<=p.sym/\p.sym<256/\p.len=0/\p.dist=0/\p.far=0)
def Js(p:Pc):Bool:=
 decide (257<=p.sym/\p.sym<265/\0<=p.dist/\p.dist<12/\0<=p.len/\p.len<pw (p.sym-257)/\0<=p.far/\p.far<pw p.dist)
def CH(p:Pc):Tk:=
 if Hm p=true then⟨p.sym,0,0⟩else if Js p=true then⟨0,2+pw (p.sym-257)+p.len,pw p.dist+p.far⟩else⟨0,0,0⟩
def Dv(p:Pc):Int:=if Hm p=true then 0 else if Js p=true then 0 else 7
theorem Zj:pw 12=4096:=iX
end Toks
namespace Toks
def bump(l:List Int)(i:Nat):List Int:=l.set i (l.getD i 0+1)
def Qc(st:List Int×List Int)(t:Tk):List Int×List Int:=
 (bump st.1 (FT t).sym.toNat,if t.len=0 then st.2 else bump st.2 (FT t).dist.toNat)
def cnts(ts:List Tk):List Int×List Int:=ts.foldl Qc (List.replicate 265 0,List.replicate 12 0)
def symsOf(ts:List Tk):List Int:=bump (cnts ts).1 256
def Y5(ts:List Tk):List Int:=(cnts ts).2
def SJ(ts:List Tk):Bool:=ts.all fun t=>BS t.lit t.len t.dist
end Toks
namespace Lz
open Toks (Tk BS)
def R5(l:List Nat)(p at_:Nat):Nat->Nat->Nat
 |0,n=>n
 |f+1,n=>if n<257/\at_+n<l.length/\l.getD (p+n) 0=l.getD (at_+n) 0 then R5 l p at_ f (n+1)else n
def alike(l:List Nat)(p at_:Nat):Nat:=R5 l p at_ 257 0
def Y4(l:List Nat)(at_:Nat)(nd:Nat×Nat)(d:Nat):Nat×Nat:=if nd.1<alike l (at_-d) at_ then(alike l (at_-d) at_,d)else nd
def Ss(l:List Nat)(at_:Nat):Nat->Nat×Nat
 |0=>(0,0)
 |d+1=>Y4 l at_ (Ss l at_ d) (d+1)
def Ly(l:List Nat)(at_:Nat):Nat×Nat:=Ss l at_ (min 4095 at_)
def My(l:List Nat)(at_:Nat):List Tk:=
 if at_<l.length then
  if 3<=(Ly l at_).1 then⟨0,((Ly l at_).1:Nat),((Ly l at_).2:Nat)⟩ :: My l (at_+(Ly l at_).1)
  else⟨(l.getD at_ 0:Nat),0,0⟩ :: My l (at_+1)
 else []
termination_by l.length-at_
def find(l:List Nat):List Tk:=My l 0
def Bw(out:List Nat):Nat->Nat->List Nat
 |0,_=>out
 |n+1,d=>Bw (out++ [out.getD (out.length-d) 0]) n d
theorem Ik:∀ (n d:Nat) (out:List Nat),(Bw out n d).length=out.length+n
 |0,_,out=>rfl
 |n+1,d,out=>by rw[Bw,Ik n d];simp;omega
def G5(most:Int)(out:List Nat)(t:Tk):Int:=
 if BS t.lit t.len t.dist=true then if(out.length:Int)<t.dist then 8 else if most-(out.length:Int)<max 1 t.len then 6 else 0 else 7
def Ei(most:Int):List Nat->List Tk->List Nat×Int
 |out,[]=>(out,0)
 |out,t :: ts=>if G5 most out t=0 then Ei most (if t.len=0 then out++ [t.lit.toNat]else Bw out t.len.toNat t.dist.toNat) ts else([],G5 most out t)
def EN(ts:List Tk)(most:Int):List Nat×Int:=if most<0 then([],13)else Ei most [] ts
end Lz
end Go.Proofs.YtfgdoknipbpfhaaGreatDoor
