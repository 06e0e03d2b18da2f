/- Plain: rising texts  -/
import Derived.Test.YtfgdoknipbpfhaaGreatDoorZBodyBlocks11
import Derived.Test.YtfgdoknipbpfhaaGreatDoorZBodyBlocks24
namespace Go.Proofs.YtfgdoknipbpfhaaGreatDoor
open Go.Proofs.Tryz
open Go.Lib (hid)
set_option maxHeartbeats 1000000
set_option maxRecDepth 100000
variable{j k x:Nat}{ls:List Nat}
namespace Idx
open NumPut (fZ)
def GY(s:Str):List Nat:=s.map UInt8.toNat
def CX(s:Str):List Nat:=fZ s.length++GY s
def Bj:Str->Str->Nat
 |a :: s,b :: t=>if a=b then Bj s t+1 else 0
 |_,_=>0
theorem KU:∀a b,Bj a b<=a.length/\Bj a b<=b.length
 | [],b=>by simp[Bj]
 |a :: s,[]=>by simp[Bj]
 |a :: s,b :: t=>by have:=KU s t;rw[Bj];split<;>simp<;>omega
def DY:Str->List Str->List Nat
 |_,[]=> []
 |was,x :: t=>fZ (Bj was x)++CX (x.drop (Bj was x))++DY x t
def rZ:List Str->List Nat
 | []=> []
 |x :: t=>CX x++DY x t
theorem Sa:∀ (t:List Str) (h x:Str),DY h (t++ [x])=DY h t++(fZ (Bj (t.getLast?.getD h) x)++CX (x.drop (Bj (t.getLast?.getD h) x)))
 | [],h,x=>by simp[DY]
 |y :: t,h,x=>by
  rw[DH,DY,Sa t y x,DY]
  have e:((y :: t).getLast?.getD h)=t.getLast?.getD y:=by
   cases t with
   |nil=>rfl
   |cons z s=>simp[List.getLast?_cons]
  rw[e];simp only[List.append_assoc]
theorem mC{l:List Str}(h:l≠ [])(x i:Str)(hw:l.getLast?=some i):rZ (l++ [x])=rZ l++(fZ (Bj i x)++CX (x.drop (Bj i x))):=by
 cases l with
 |nil=>exact absurd rfl h
 |cons y t=>
  rw[DH,rZ,Sa,rZ]
  have e:t.getLast?.getD y=i:=by
   cases t with
   |nil=>simpa using hw
   |cons z s=>simp[List.getLast?_cons]at hw ⊢;exact hw
  rw[e,AE]
def Df(size:Nat):Nat->List Str->List (List Str)
 |0,_=> []
 |f+1,l=>if l= []then []else l.take size :: Df size f (l.drop size)
def Gw(size:Nat)(l:List Str):List (List Str):=Df size l.length l
def C8(size:Nat)(l:List Str):List Nat:=
 fZ l.length++(Gw size l).flatMap (fun c=>fZ (rZ c).length)++(Gw size l).flatMap rZ
end Idx
namespace Idx
open Go.RowKit Mem Own Canon Sift
def Ec(was s:Str):Bool:=decide (1<=s.length)&&(decide (s.length<=25)&&decide (was<s))
theorem Ve(s:Str)(h:s≠ []):((bs s).toList==({data:=#[] }:ByteArray).toList)=false/\((bs s).toList== [])=false/\(bs s).toList.isEmpty=false/\¬(bs s).toList= []:=by
 have e:(bs s).toList=s:=by rw[Gy,Hm]
 have e2:({data:=#[] }:ByteArray).toList= []:=by rw[Gy]
 rw[e,e2];cases s with
 |nil=>exact absurd rfl h
 |cons x t=>exact⟨rfl,rfl,rfl,oK⟩
theorem QC:((bs []).toList==({data:=#[] }:ByteArray).toList)=true/\((bs []).toList== [])=true/\(bs []).toList.isEmpty=true/\(bs []).toList= []:=by
 have e:(bs []).toList= []:=by rw[Gy,Hm]
 have e2:({data:=#[] }:ByteArray).toList= []:=by rw[Gy]
 rw[e,e2];exact⟨rfl,rfl,rfl,rfl⟩
theorem bF(P:Program)(t:TypeId)(a b:Str)(w:World):(binOp .gtr t (.string (bs a)) (.string (bs b))).run P w= .ok (.bool (decide (b<a))) w:=by
 have h:(binOp .gtr t (.string (bs a)) (.string (bs b))).run P w= .ok (.bool (!(Op.bytesLess (bs a).toList (bs b).toList || (bs a).toList==(bs b).toList))) w:=rfl;rw[h,eR,str_eq];rcases KY a b with h|h|h
 ·simp[h,US h]
 ·subst h;simp[Ig]
 ·have h1:¬a<b:=US h;have h2:a≠b:=fun e=>Ig b (by rw[e]at h;exact h);simp[h,h1,h2]
theorem Ut(w:World)(h s:Str):Calls prog 230 #[.string (bs h), .string (bs s)] w fun e w'=>e= .returned (.bool (Ec h s))/\w'=w:=by
 have hz:=Ev s;by_cases h0:s= []
 ·subst h0;have hr:Ec h []=false:=rfl;rw[hr];obtain⟨a1,a2,a3,a4⟩:=QC;go_enter func230,ntmps230;go_wp2_with fail;go_ret;exact⟨rfl,rfl⟩
 ·obtain⟨a1,a2,a3,a4⟩:=Ve s h0;have h1:1<=s.length:=Fv.2 h0;have hg:=fun wx=>bF prog 9 s h wx;have hr:Ec h s=(decide (s.length<=25)&&decide (h<s)):=by simp[Ec,h1]
  rw[hr];generalize decide (h<s)=D at *;generalize bs s=S at *;generalize bs h=W at *;clear hr h0;by_cases h2:s.length<=25
  ·have z2:=ic ((s.length:Int)<=25);have z3:decide (s.length<=25)=true:=pg;rw[z3];go_enter func230,ntmps230;go_wp2_with fail;go_ret;exact⟨oK,rfl⟩
  ·have z2:=ig ((s.length:Int)<=25);have z3:decide (s.length<=25)=false:=pg;rw[z3];go_enter func230,ntmps230;go_wp2_with fail;go_ret;exact⟨oK,rfl⟩
def CY:Str->List Str->Bool
 |_,[]=>true
 |was,s :: t=>Ec was s&&CY s t
def FM(l:List Str):Bool:=CY [] l&&decide (l.length<=1048576)
theorem bY{u t:Str}{l:List Str}(h:l[k]? =some t):CY u (l.drop k)=(Ec u t&&CY t (l.drop (k+1))):=by obtain⟨hk,e⟩:=Cv.1 h;rw[Dj hk,CY,e]
theorem a7(w:World)(A:Option Addr)(n c:Nat)(ls:List Str)(hn:ls.length=n)(hN:n<=3000000000)(ha:Row w w A n 1 (GE ls)):
 Calls prog 169 #[.slice A n c] w fun e w'=>e= .returned (.bool (FM ls))/\w'=w:=by
 have HN:=hid hn;obtain⟨R,hR⟩:=ii (FM ls);have HR:Hid (R=(CY [] ls&&decide (n<=1048576))):=by show R=_;rw[hR,<-hn];rfl
 rw[<-hR];clear hn hR;go_enter func169,ntmps169;go_wp2_with fail;go_loopw [3,8] (fun uv iv wx=>∃ (k:Nat) (u:Str),k<=n/\iv= .int .i64 k/\uv= .string (bs u)/\Hid (CY [] ls=CY u (ls.drop k))/\wx=w) (fun _ iv _=>n-(intOf iv).toNat)
 case atStart=>exact⟨0,[],mw,rfl,rfl,rfl,rfl⟩
 case round=>
  obtain⟨k,u,hk,rfl,rfl,HS,rfl⟩:=hrel;by_cases j:k<n
  ·have gk:=ic ((k:Int)<n);have y:=ic (k<n);have x0:(0:Int)<=(k:Int):=mw;have x1:(k:Int)<(n:Int):=mw;obtain⟨b,E,t,rfl,_,ht,ck⟩:=Row.str ha HN.out j;have i:=bY (u:=u) ht;have D:=hid (Ut wr u t);by_cases hm:Ec u t=true
   ·rw[hm,Bool.true_and]at i;rw[hm]at D;have z:Hid (CY [] ls=CY t (ls.drop (k+1))):=HS.out.trans i;clear HS i hm ht;go_wp2_with(refine D.out.mono ?_;rintro e w' ⟨rfl,rfl⟩);go_roundw
    case measure=>exact jo
    case rel=>go_light;exact⟨k+1,t,mw,iu,rfl,z.out,ix⟩
   ·have hm:Ec u t=false:=(by simpa using hm);rw[hm,J6]at i;rw[hm]at D;have hr:R=false:=(by rw[HR.out,HS.out,i];rfl);subst hr;clear HS i hm ht HR;go_wp2_with(refine D.out.mono ?_;rintro e w' ⟨rfl,rfl⟩);go_ret;exact⟨rfl,rfl⟩
  ·obtain rfl:k=n:=by omega
   have gk:=ig ((k:Int)<k);have y:=ig (k<k);have hr:R=decide (k<=1048576):=(by have h:=HS.out;rw[EB nm]at h;rw[HR.out,h];simp[CY]);by_cases hz:k<=1048576
   ·have z1:=ic ((k:Int)<=1048576);rw[Bc hz]at hr;subst hr;clear HS HR j;go_wp2_with fail;go_ret;exact⟨rfl,rfl⟩
   ·have z1:=ig ((k:Int)<=1048576);rw[Bt hz]at hr;subst hr;clear HS HR j;go_wp2_with fail;go_ret;exact⟨rfl,rfl⟩
end Idx
namespace Ef
open Go.RowKit Mem Own Canon
def Hh(bound:Nat)(u:Option Nat)(x:Nat):Bool:=decide (x<bound)&&(match u with|none=>true|some y=>decide (y<x))
def BX(bound:Nat):Option Nat->List Nat->Bool
 |_,[]=>true
 |u,x :: t=>Hh bound u x&&BX bound (some x) t
def I4:Option Nat->Int
 |none=> -1
 |some y=>y
theorem We{bound:Nat}{u:Option Nat}{l:List Nat}(h:l[k]? =some x):BX bound u (l.drop k)=(Hh bound u x&&BX bound (some x) (l.drop (k+1))):=by obtain⟨hk,e⟩:=Cv.1 h;rw[Dj hk,BX,e]
theorem aJ(bound:Nat)(u:Option Nat)(x:Nat):Hh bound u x=(decide ((x:Int)<(bound:Int))&&decide (I4 u<(x:Int))):=by
 unfold Hh;cases u with
 |none=>have:decide (I4 none<(x:Int))=true:=Bc (by show(-1:Int)<_;omega);rw[this];congr 1;exact decide_eq_decide.2 mw
 |some y=>
  congr 1
  ·exact decide_eq_decide.2 mw
  ·exact decide_eq_decide.2 (by simp only[I4];omega)
theorem aC(w:World)(bound:Nat)(A:Option Addr)(n c:Nat)(ls:List Nat)(hn:ls.length=n)(hN:n<=3000000000)(ha:Row w w A n 1 (jZ .i64 ls)):
 Calls prog 172 #[bound, .slice A n c] w fun e w'=>e= .returned (.bool (BX bound none ls))/\w'=w:=by
 have HN:=hid hn;obtain⟨R,hR⟩:=ii (BX bound none ls);have HR:Hid (R=BX bound none (ls.drop 0)):=hR;rw[<-hR];clear hn hR;go_enter func172,ntmps172;go_wp2_with fail;go_loopw [5,10] (fun uv iv wx=>∃ (k:Nat) (u:Option Nat),k<=n/\iv= .int .i64 k/\uv= .int .i64 (I4 u)/\Hid (R=BX bound u (ls.drop k))/\wx=w) (fun _ iv _=>n-(intOf iv).toNat)
 case atStart=>exact⟨0,none,mw,rfl,rfl,HR.out,rfl⟩
 case round=>
  obtain⟨k,u,hk,rfl,rfl,HS,rfl⟩:=hrel;by_cases i:k<n
  ·have gk:=ic ((k:Int)<n);have z:=ic (k<n);have x0:(0:Int)<=(k:Int):=mw;have x1:(k:Int)<(n:Int):=mw;obtain⟨b,E,x,rfl,_,hx,ck⟩:=Cx ha HN.out i;have h:=We (bound:=bound) (u:=u) hx;rw[aJ]at h;have hw:Hid (I4 (some x)=(x:Int)):=rfl;have HW:Hid (Value.int .i64 (x:Nat)= .int .i64 (I4 (some x))):=rfl;generalize I4 u=V at *;by_cases h1:(x:Int)<=V
   ·have y1:decide ((x:Int)<=V)=true:=Bc h1;rw[Bt (by omega:¬V<(x:Int)),Bool.and_false,J6]at h;have hr:R=false:=HS.out.trans h;subst hr;clear HS h hx HW h1 hw;go_wp2_with fail;go_ret;exact⟨rfl,rfl⟩
   ·have y1:decide ((x:Int)<=V)=false:=Bt h1;rw[Bc (by omega:V<(x:Int)),Bool.and_true]at h;by_cases h2:(x:Int)<(bound:Int)
    ·have y2:decide ((bound:Int)<=(x:Int))=false:=Bt mw;have j:decide (bound<=x)=false:=Bt mw;rw[Bc h2,Bool.true_and]at h;have y:Hid (R=BX bound (some x) (ls.drop (k+1))):=HS.out.trans h;clear HS h hx h1 h2 hw;go_wp2_with fail;go_roundw
     case measure=>exact jo
     case rel=>go_light;exact⟨k+1,some x,mw,iu,HW.out,y.out,ix⟩
    ·have y2:decide ((bound:Int)<=(x:Int))=true:=Bc mw;have j:decide (bound<=x)=true:=Bc mw;rw[Bt h2,J6]at h;have hr:R=false:=HS.out.trans h;subst hr;clear HS h hx HW h1 h2 hw;go_wp2_with fail;go_ret;exact⟨rfl,rfl⟩
  ·obtain rfl:k=n:=by omega
   have gk:=ig ((k:Int)<k);have z:=ig (k<k);have hr:R=true:=(by rw[HS.out,EB nm];rfl);subst hr;clear HS HR i;go_wp2_with fail;go_ret;exact⟨rfl,rfl⟩
end Ef
namespace Ef
open Huff (msb pZ bytesOf)
theorem G0:∀ (bound:Nat) (l:List Nat) (u:Option Nat),BX bound u l=true->∀x∈l,x<bound
 |bound,[],_,_,x,hx=>by cases hx
 |bound,y :: t,u,h,x,hx=>by
  rw[BX,BV]at h;rcases AM.1 hx with rfl|hx
  ·have h1:=h.1;unfold Hh at h1;rw[BV,decide_eq_true_iff]at h1;exact h1.1
  ·exact G0 bound t (some y) h.2 x hx
theorem LJ:∀ (bound:Nat) (l:List Nat) (u:Option Nat),BX bound u l=true->∀ (k x y:Nat),l[k]? =some x->l[k+1]? =some y->x<y
 |bound,[],_,_,k,x,y,hx,_=>oM
 |bound,a :: t,u,h,k,x,y,hx,hy=>by
  rw[BX,BV]at h;cases k with
  |zero=>
   simp only[List.getElem?_cons_zero,Option.some.injEq]at hx;subst hx;rw[List.getElem?_cons_succ]at hy;cases t with
   |nil=>simp at hy
   |cons b s=>simp only[List.getElem?_cons_zero,Option.some.injEq]at hy;subst hy;have h2:=h.2;rw[BX,BV]at h2;have h3:=h2.1;unfold Hh at h3;rw[BV]at h3;simpa using h3.2
  |succ k=>rw[List.getElem?_cons_succ]at hx hy;exact LJ bound t (some a) h.2 k x y hx hy
theorem NK:∀ (bound:Nat) (l:List Nat) (u:Option Nat),(∀x∈l,x<bound)->l.Pairwise (·< ·)->(∀y,u=some y->∀x∈l,y<x)->BX bound u l=true
 |_,[],_,_,_,_=>rfl
 |bound,x :: t,u,h1,h2,h3=>by
  rw[BX,BV];rw[Fp]at h2;refine⟨?_,NK bound t (some x) (fun y hy=>h1 y (BR _ hy)) h2.2 (fun y hy z hz=>by injection hy with hy;rw[<-hy];exact h2.1 z hz)⟩;unfold Hh;rw[BV];refine⟨Bc (h1 x Cu),?_⟩;cases u with
  |none=>rfl
  |some y=>exact Bc (h3 y rfl x Cu)
theorem G7(w:Nat):∀l:List Nat,(Da w l).length=l.length*w
 | []=>by simp[Da]
 |x :: t=>by have h:=G7 w t;unfold Da at h ⊢;rw[Cm,Ae,h,pZ,AD,Ez];omega
theorem aN(P:Nat){ls:List Nat}{j x:Nat}(hx:ls[j]? =some x)(hr:∀ (k x y:Nat),ls[k]? =some x->ls[k+1]? =some y->x<y):((ls.take j).map (·/ P)).getLast?.getD 0<=x / P:=by
 cases j with
 |zero=>simp
 |succ i=>obtain⟨hl,_⟩:=Cv.1 hx;have hy:ls[i]? =some ls[i]:=Az mw;rw[Cj,hy];simp only[Option.toList_some,List.map_append,List.map_cons,List.map_nil,List.getLast?_append];exact Nat.div_le_div_right (Nat.le_of_lt (hr i _ _ hy hx))
theorem VW(P:Nat)(hx:ls[j]? =some x):((ls.take (j+1)).map (·/ P)).getLast?.getD 0=x / P:=by rw[Cj,hx];simp
theorem ZP(P:Nat)(hx:ls[j]? =some x):DQ 0 ((ls.take (j+1)).map (·/ P))=DQ 0 ((ls.take j).map (·/ P))++unary (x / P-((ls.take j).map (·/ P)).getLast?.getD 0):=by rw[Cj,hx,Option.toList_some,EP,Cl,Fu];exact RG _ 0 (x / P)
end Ef
namespace Idx
open Go.RowKit Mem Own Canon Sift
theorem Zr{a b:Str}(ha:k<a.length)(hb:k<b.length):Bj (a.drop k) (b.drop k)=if a[k]=b[k]then Bj (a.drop (k+1)) (b.drop (k+1))+1 else 0:=by rw[Dj ha,Dj hb,Bj]
theorem RS{a b:Str}(h:a.length<=k∨b.length<=k):Bj (a.drop k) (b.drop k)=0:=by
 rcases h with h|h
 ·rw[EB h];cases b.drop k<;>rfl
 ·rw[EB h];cases a.drop k<;>rfl
theorem ZV{a b:Str}(ha:k<(bs a).size)(hb:k<(bs b).size)(i:k<a.length)(j:k<b.length):((((bs a)[k]'ha).toNat:Int)==(((bs b)[k]'hb).toNat:Int))=decide (a[k]'i=b[k]'j):=by
 have e1:(bs a)[k]'ha=a[k]'i:=ND a k ha;have e2:(bs b)[k]'hb=b[k]'j:=ND b k hb;rw[e1,e2];refine Ll.2 ?_;rw[beq_iff_eq,decide_eq_true_iff];constructor
 ·intro h;exact UInt8.toNat_inj.1 mw
 ·intro h;rw[h]
theorem RF(w:World)(a b:Str)(J:a.length<=1000000)(L:b.length<=1000000):
 Calls prog 232 #[.string (bs a), .string (bs b)] w fun e w'=>e= .returned (.int .i64 (Bj a b:Nat))/\∃q,w'=w.drewN q:=by
 have j:=Ev a;have z:=Ev b;obtain⟨R,hR⟩:=ii (Bj a b);have H0:Hid (R=0+Bj (a.drop 0) (b.drop 0)):=by show R=_;rw[hR,Hd,Hd,Cb]
 rw[<-hR];clear hR;go_enter func232,ntmps232;go_wp2_with fail;go_loopw [5] (fun iv wx=>∃k:Nat,k<=a.length/\k<=b.length/\iv= .int .i64 k/\Hid (R=k+Bj (a.drop k) (b.drop k))/\Hid (∃q,wx=w.drewN q)) (fun iv _=>a.length-(intOf iv).toNat)
 case atStart=>exact⟨0,mw,mw,rfl,H0.out,0,rfl⟩
 case round=>
  obtain⟨k,G,Q,rfl,HS,HQ⟩:=hrel;have h:Hid (∀nq,∃q,wr.drewN nq=w.drewN q):=fun nq=>by obtain⟨q,hq⟩:=HQ.out;exact⟨_,by rw[hq];exact Ij _ _ _⟩
  have x0:(0:Int)<=(k:Int):=mw
  by_cases h1:k<a.length
  ·have g1:=ic ((k:Int)<a.length);have i:=ic (k<a.length);have x1:(k:Int)<((bs a).size:Int):=mw;have N:(k:Int)<(a.length:Int):=mw;by_cases h2:k<b.length
   ·have g2:=ic ((k:Int)<b.length);have y:=ic (k<b.length);have x2:(k:Int)<((bs b).size:Int):=mw;have M:(k:Int)<(b.length:Int):=mw;have he:=ZV (by rw[j];exact h1) (by rw[z];exact h2) h1 h2;have hs:=Zr h1 h2;by_cases h3:a[k]=b[k]
    ·rw[Bc h3]at he;rw[Ab h3]at hs;have E:Hid (R=(k+1)+Bj (a.drop (k+1)) (b.drop (k+1))):=(by show R=_;rw[HS.out,hs];omega);clear hs HS h3 HQ;go_wp2_with fail;go_quiet (fail);go_wp2_with fail;go_roundw
     case measure=>exact jo
     case rel=>go_light;exact⟨k+1,mw,mw,iu,E.out,h.out _⟩
    ·rw[Bt h3]at he;rw[Aa h3]at hs;have hr:R=k:=(by rw[HS.out,hs];omega);subst hr;clear hs HS h3 HQ;go_wp2_with fail;go_quiet (fail);go_wp2_with fail;go_ret;exact⟨rfl,h.out _⟩
   ·have g2:=ig ((k:Int)<b.length);have y:=ig (k<b.length);have hr:R=k:=(by rw[HS.out,RS (.inr mw)];omega);subst hr;clear HS HQ;go_wp2_with fail;go_quiet (fail);go_wp2_with fail;go_ret;exact⟨rfl,h.out _⟩
  ·have g1:=ig ((k:Int)<a.length);have i:=ig (k<a.length);have hr:R=k:=(by rw[HS.out,RS (.inl mw)];omega);subst hr;clear HS HQ;go_wp2_with fail;go_quiet (fail);go_wp2_with fail;go_ret;exact⟨rfl,h.out _⟩
end Idx
namespace Ef
open Go.RowKit Mem Own Canon Toks
theorem Uf(w:World)(bound n:Nat)(h1:1<=n)(h2:n<=bound)(hb:bound<=1000000):
 Calls prog 173 #[bound,n] w fun e w'=>e= .returned (.int .i64 (efW bound n:Nat))/\w'=w:=by
 have hq:1<=bound / n:=(Nat.one_le_div_iff mw).2 h2;have h:bound / n<=bound:=Hc _ _;have D:=RO ((bound / n:Nat):Int) w mw mw;have hl:lg ((bound / n:Nat):Int)=(efW bound n:Nat):=rfl;rw[hl]at D;have j:efW bound n<=bound:=by unfold efW;have:=Nat.log2_le_self (bound / n);omega
 have y:¬(n:Int)=0:=mw
 have i:((n:Int)==0)=false:=by simpa using (by omega:¬n=0)
 have u1:IntKind.u64.wrap ((bound / n:Nat):Int)=((bound / n:Nat):Int):=m9
 have u2:IntKind.i64.wrap ((bound / n:Nat):Int)=((bound / n:Nat):Int):=Aq _ mw;have u3:IntKind.i64.wrap ((efW bound n:Int)+1-1)=((efW bound n:Nat):Int):=m8
 have ud:Int.tdiv (bound:Int) (n:Int)=((bound / n:Nat):Int):=by rw[Int.tdiv_eq_ediv_of_nonneg mw];rfl
 have DD:=hid D;clear D hl;go_enter func173,ntmps173;go_wp2_with fail;refine DD.out.mono ?_;rintro e w' ⟨rfl,rfl⟩;go_wp2_with fail;go_ret;exact⟨rfl,rfl⟩
end Ef
end Go.Proofs.YtfgdoknipbpfhaaGreatDoor
