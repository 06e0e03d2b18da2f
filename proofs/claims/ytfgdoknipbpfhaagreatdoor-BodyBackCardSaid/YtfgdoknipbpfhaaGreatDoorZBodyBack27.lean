/- Plain: rising texts  -/
import Derived.Test.YtfgdoknipbpfhaaGreatDoorZBodyBack11
import Derived.Test.YtfgdoknipbpfhaaGreatDoorZBodyBack26
namespace Go.Proofs.YtfgdoknipbpfhaaGreatDoor
open Go.Proofs.Tryz
open Go.Lib (hid)
set_option maxHeartbeats 1000000
set_option maxRecDepth 100000
variable{j k x:Nat}{ls:List Nat}
namespace Idx
open NumPut (gZ)
def Hn(s:Str):List Nat:=s.map UInt8.toNat
def De(s:Str):List Nat:=gZ s.length++Hn s
def Bq:Str->Str->Nat
 |a :: s,b :: t=>if a=b then Bq s t+1 else 0
 |_,_=>0
theorem LG:∀a b,Bq a b<=a.length/\Bq a b<=b.length
 | [],b=>by simp[Bq]
 |a :: s,[]=>by simp[Bq]
 |a :: s,b :: t=>by have:=LG s t;rw[Bq];split<;>simp<;>omega
def El:Str->List Str->List Nat
 |_,[]=> []
 |was,x :: t=>gZ (Bq was x)++De (x.drop (Bq was x))++El x t
def tZ:List Str->List Nat
 | []=> []
 |x :: t=>De x++El x t
theorem Wa:∀ (t:List Str) (h x:Str),El h (t++ [x])=El h t++(gZ (Bq (t.getLast?.getD h) x)++De (x.drop (Bq (t.getLast?.getD h) x)))
 | [],h,x=>by simp[El]
 |y :: t,h,x=>by
  rw[Ei,El,Wa t y x,El]
  have e:((y :: t).getLast?.getD h)=t.getLast?.getD y:=by
   cases t with
   |nil=>rfl
   |cons z s=>simp[List.getLast?_cons]
  rw[e];simp only[List.append_assoc]
theorem pJ{l:List Str}(h:l≠ [])(x i:Str)(hw:l.getLast?=some i):tZ (l++ [x])=tZ l++(gZ (Bq i x)++De (x.drop (Bq i x))):=by
 cases l with
 |nil=>exact absurd rfl h
 |cons y t=>
  rw[Ei,tZ,Wa,tZ]
  have e:t.getLast?.getD y=i:=by
   cases t with
   |nil=>simpa using hw
   |cons z s=>simp[List.getLast?_cons]at hw ⊢;exact hw
  rw[e,AI]
def Dq(size:Nat):Nat->List Str->List (List Str)
 |0,_=> []
 |f+1,l=>if l= []then []else l.take size :: Dq size f (l.drop size)
def GQ(size:Nat)(l:List Str):List (List Str):=Dq size l.length l
def Dh(size:Nat)(l:List Str):List Nat:=
 gZ l.length++(GQ size l).flatMap (fun c=>gZ (tZ c).length)++(GQ size l).flatMap tZ
end Idx
namespace Idx
open Go.RowKit Mem Own Canon Sift
def Eo(was s:Str):Bool:=decide (1<=s.length)&&(decide (s.length<=25)&&decide (was<s))
theorem Wk(s:Str)(h:s≠ []):((bs s).toList==({data:=#[] }:ByteArray).toList)=false/\((bs s).toList== [])=false/\(bs s).toList.isEmpty=false/\¬(bs s).toList= []:=by
 have e:(bs s).toList=s:=by rw[GX,IF]
 have e2:({data:=#[] }:ByteArray).toList= []:=by rw[GX]
 rw[e,e2];cases s with
 |nil=>exact absurd rfl h
 |cons x t=>exact⟨rfl,rfl,rfl,qT⟩
theorem Tw:((bs []).toList==({data:=#[] }:ByteArray).toList)=true/\((bs []).toList== [])=true/\(bs []).toList.isEmpty=true/\(bs []).toList= []:=by
 have e:(bs []).toList= []:=by rw[GX,IF]
 have e2:({data:=#[] }:ByteArray).toList= []:=by rw[GX]
 rw[e,e2];exact⟨rfl,rfl,rfl,rfl⟩
theorem pN(P:Program)(t:TypeId)(a b:Str)(w:World):(binOp .gtr t (.string (bs a)) (.string (bs b))).run P w= .ok (.bool (decide (b<a))) w:=by
 have h:(binOp .gtr t (.string (bs a)) (.string (bs b))).run P w= .ok (.bool (!(Op.bytesLess (bs a).toList (bs b).toList || (bs a).toList==(bs b).toList))) w:=rfl;rw[h,Oc,str_eq];rcases LH a b with h|h|h
 ·simp[h,Uf h]
 ·subst h;simp[Iq]
 ·have h1:¬a<b:=Uf h;have h2:a≠b:=fun e=>Iq b (by rw[e]at h;exact h);simp[h,h1,h2]
theorem Tc(w:World)(h s:Str):Calls prog 230 #[.string (bs h), .string (bs s)] w fun e w'=>e= .returned (.bool (Eo h s))/\w'=w:=by
 have hz:=Eh s;by_cases h0:s= []
 ·subst h0;have hr:Eo h []=false:=rfl;rw[hr];obtain⟨a1,a2,a3,a4⟩:=Tw;go_enter func230,ntmps230;go_wp2_with fail;go_ret;exact⟨rfl,rfl⟩
 ·obtain⟨a1,a2,a3,a4⟩:=Wk s h0;have h1:1<=s.length:=FP.2 h0;have hg:=fun wx=>pN prog 9 s h wx;have hr:Eo h s=(decide (s.length<=25)&&decide (h<s)):=by simp[Eo,h1]
  rw[hr];generalize decide (h<s)=D at *;generalize bs s=S at *;generalize bs h=W at *;clear hr h0;by_cases h2:s.length<=25
  ·have z2:=ic ((s.length:Int)<=25);have z3:decide (s.length<=25)=true:=ry;rw[z3];go_enter func230,ntmps230;go_wp2_with fail;go_ret;exact⟨qT,rfl⟩
  ·have z2:=ig ((s.length:Int)<=25);have z3:decide (s.length<=25)=false:=ry;rw[z3];go_enter func230,ntmps230;go_wp2_with fail;go_ret;exact⟨qT,rfl⟩
def Dd:Str->List Str->Bool
 |_,[]=>true
 |was,s :: t=>Eo was s&&Dd s t
def Gn(l:List Str):Bool:=Dd [] l&&decide (l.length<=1048576)
theorem aK{u t:Str}{l:List Str}(h:l[k]? =some t):Dd u (l.drop k)=(Eo u t&&Dd t (l.drop (k+1))):=by obtain⟨hk,e⟩:=BW.1 h;rw[Dg hk,Dd,e]
theorem Z0(w:World)(A:Option Addr)(n c:Nat)(ls:List Str)(hn:ls.length=n)(hN:n<=3000000000)(ha:Row w w A n 1 (Ee ls)):
 Calls prog 169 #[.slice A n c] w fun e w'=>e= .returned (.bool (Gn ls))/\w'=w:=by
 have HN:=hid hn;obtain⟨R,hR⟩:=ii (Gn ls);have HR:Hid (R=(Dd [] ls&&decide (n<=1048576))):=by show R=_;rw[hR,<-hn];rfl
 rw[<-hR];clear hn hR;go_enter func169,ntmps169;go_wp2_with fail;go_loopw [3,8] (fun uv iv wx=>∃ (k:Nat) (u:Str),k<=n/\iv= .int .i64 k/\uv= .string (bs u)/\Hid (Dd [] ls=Dd u (ls.drop k))/\wx=w) (fun _ iv _=>n-(intOf iv).toNat)
 case atStart=>exact⟨0,[],nj,rfl,rfl,rfl,rfl⟩
 case round=>
  obtain⟨k,u,hk,rfl,rfl,HS,rfl⟩:=hrel;by_cases j:k<n
  ·have gk:=ic ((k:Int)<n);have y:=ic (k<n);have x0:(0:Int)<=(k:Int):=nj;have x1:(k:Int)<(n:Int):=nj;obtain⟨b,E,t,rfl,_,ht,ck⟩:=Row.str ha HN.out j;have i:=aK (u:=u) ht;have D:=hid (Tc wr u t);by_cases hm:Eo u t=true
   ·rw[hm,Bool.true_and]at i;rw[hm]at D;have z:Hid (Dd [] ls=Dd t (ls.drop (k+1))):=HS.out.trans i;clear HS i hm ht;go_wp2_with(refine D.out.mono ?_;rintro e w' ⟨rfl,rfl⟩);go_roundw
    case measure=>exact jq
    case rel=>go_light;exact⟨k+1,t,nj,iw,rfl,z.out,iz⟩
   ·have hm:Eo u t=false:=(by simpa using hm);rw[hm,Jj]at i;rw[hm]at D;have hr:R=false:=(by rw[HR.out,HS.out,i];rfl);subst hr;clear HS i hm ht HR;go_wp2_with(refine D.out.mono ?_;rintro e w' ⟨rfl,rfl⟩);go_ret;exact⟨rfl,rfl⟩
  ·obtain rfl:k=n:=by omega
   have gk:=ig ((k:Int)<k);have y:=ig (k<k);have hr:R=decide (k<=1048576):=(by have h:=HS.out;rw[DV pu]at h;rw[HR.out,h];simp[Dd]);by_cases hz:k<=1048576
   ·have z1:=ic ((k:Int)<=1048576);rw[AK hz]at hr;subst hr;clear HS HR j;go_wp2_with fail;go_ret;exact⟨rfl,rfl⟩
   ·have z1:=ig ((k:Int)<=1048576);rw[AU hz]at hr;subst hr;clear HS HR j;go_wp2_with fail;go_ret;exact⟨rfl,rfl⟩
end Idx
namespace Ef
open Go.RowKit Mem Own Canon
def Hy(bound:Nat)(u:Option Nat)(x:Nat):Bool:=decide (x<bound)&&(match u with|none=>true|some y=>decide (y<x))
def Cj(bound:Nat):Option Nat->List Nat->Bool
 |_,[]=>true
 |u,x :: t=>Hy bound u x&&Cj bound (some x) t
def Jl:Option Nat->Int
 |none=> -1
 |some y=>y
theorem ZS{bound:Nat}{u:Option Nat}{l:List Nat}(h:l[k]? =some x):Cj bound u (l.drop k)=(Hy bound u x&&Cj bound (some x) (l.drop (k+1))):=by obtain⟨hk,e⟩:=BW.1 h;rw[Dg hk,Cj,e]
theorem oR(bound:Nat)(u:Option Nat)(x:Nat):Hy bound u x=(decide ((x:Int)<(bound:Int))&&decide (Jl u<(x:Int))):=by
 unfold Hy;cases u with
 |none=>have:decide (Jl none<(x:Int))=true:=AK (by show(-1:Int)<_;omega);rw[this];congr 1;exact decide_eq_decide.2 nj
 |some y=>
  congr 1
  ·exact decide_eq_decide.2 nj
  ·exact decide_eq_decide.2 (by simp only[Jl];omega)
theorem ZF(w:World)(bound:Nat)(A:Option Addr)(n c:Nat)(ls:List Nat)(hn:ls.length=n)(hN:n<=3000000000)(ha:Row w w A n 1 (jZ .i64 ls)):
 Calls prog 172 #[bound, .slice A n c] w fun e w'=>e= .returned (.bool (Cj bound none ls))/\w'=w:=by
 have HN:=hid hn;obtain⟨R,hR⟩:=ii (Cj bound none ls);have HR:Hid (R=Cj bound none (ls.drop 0)):=hR;rw[<-hR];clear hn hR;go_enter func172,ntmps172;go_wp2_with fail;go_loopw [5,10] (fun uv iv wx=>∃ (k:Nat) (u:Option Nat),k<=n/\iv= .int .i64 k/\uv= .int .i64 (Jl u)/\Hid (R=Cj bound u (ls.drop k))/\wx=w) (fun _ iv _=>n-(intOf iv).toNat)
 case atStart=>exact⟨0,none,nj,rfl,rfl,HR.out,rfl⟩
 case round=>
  obtain⟨k,u,hk,rfl,rfl,HS,rfl⟩:=hrel;by_cases i:k<n
  ·have gk:=ic ((k:Int)<n);have y:=ic (k<n);have x0:(0:Int)<=(k:Int):=nj;have x1:(k:Int)<(n:Int):=nj;obtain⟨b,E,x,rfl,_,hx,ck⟩:=CH ha HN.out i;have h:=ZS (bound:=bound) (u:=u) hx;rw[oR]at h;have hw:Hid (Jl (some x)=(x:Int)):=rfl;have HW:Hid (Value.int .i64 (x:Nat)= .int .i64 (Jl (some x))):=rfl;generalize Jl u=V at *;by_cases h1:(x:Int)<=V
   ·have y1:decide ((x:Int)<=V)=true:=AK h1;rw[AU (by omega:¬V<(x:Int)),Bool.and_false,Jj]at h;have hr:R=false:=HS.out.trans h;subst hr;clear HS h hx HW h1 hw;go_wp2_with fail;go_ret;exact⟨rfl,rfl⟩
   ·have y1:decide ((x:Int)<=V)=false:=AU h1;rw[AK (by omega:V<(x:Int)),Bool.and_true]at h;by_cases h2:(x:Int)<(bound:Int)
    ·have y2:decide ((bound:Int)<=(x:Int))=false:=AU nj;have z:decide (bound<=x)=false:=AU nj;rw[AK h2,Bool.true_and]at h;have j:Hid (R=Cj bound (some x) (ls.drop (k+1))):=HS.out.trans h;clear HS h hx h1 h2 hw;go_wp2_with fail;go_roundw
     case measure=>exact jq
     case rel=>go_light;exact⟨k+1,some x,nj,iw,HW.out,j.out,iz⟩
    ·have y2:decide ((bound:Int)<=(x:Int))=true:=AK nj;have z:decide (bound<=x)=true:=AK nj;rw[AU h2,Jj]at h;have hr:R=false:=HS.out.trans h;subst hr;clear HS h hx HW h1 h2 hw;go_wp2_with fail;go_ret;exact⟨rfl,rfl⟩
  ·obtain rfl:k=n:=by omega
   have gk:=ig ((k:Int)<k);have y:=ig (k<k);have hr:R=true:=(by rw[HS.out,DV pu];rfl);subst hr;clear HS HR i;go_wp2_with fail;go_ret;exact⟨rfl,rfl⟩
end Ef
namespace Ef
open Huff (msb rZ bytesOf)
theorem Hs:∀ (bound:Nat) (l:List Nat) (u:Option Nat),Cj bound u l=true->∀x∈l,x<bound
 |bound,[],_,_,x,hx=>by cases hx
 |bound,y :: t,u,h,x,hx=>by
  rw[Cj,Cf]at h;rcases AV.1 hx with rfl|hx
  ·have h1:=h.1;unfold Hy at h1;rw[Cf,decide_eq_true_iff]at h1;exact h1.1
  ·exact Hs bound t (some y) h.2 x hx
theorem L7:∀ (bound:Nat) (l:List Nat) (u:Option Nat),Cj bound u l=true->∀ (k x y:Nat),l[k]? =some x->l[k+1]? =some y->x<y
 |bound,[],_,_,k,x,y,hx,_=>qV
 |bound,a :: t,u,h,k,x,y,hx,hy=>by
  rw[Cj,Cf]at h;cases k with
  |zero=>
   simp only[List.getElem?_cons_zero,Option.some.injEq]at hx;subst hx;rw[List.getElem?_cons_succ]at hy;cases t with
   |nil=>simp at hy
   |cons b s=>simp only[List.getElem?_cons_zero,Option.some.injEq]at hy;subst hy;have h2:=h.2;rw[Cj,Cf]at h2;have h3:=h2.1;unfold Hy at h3;rw[Cf]at h3;simpa using h3.2
  |succ k=>rw[List.getElem?_cons_succ]at hx hy;exact L7 bound t (some a) h.2 k x y hx hy
theorem N6:∀ (bound:Nat) (l:List Nat) (u:Option Nat),(∀x∈l,x<bound)->l.Pairwise (·< ·)->(∀y,u=some y->∀x∈l,y<x)->Cj bound u l=true
 |_,[],_,_,_,_=>rfl
 |bound,x :: t,u,h1,h2,h3=>by
  rw[Cj,Cf];rw[FM]at h2;refine⟨?_,N6 bound t (some x) (fun y hy=>h1 y (Ce _ hy)) h2.2 (fun y hy z hz=>by injection hy with hy;rw[<-hy];exact h2.1 z hz)⟩;unfold Hy;rw[Cf];refine⟨AK (h1 x CG),?_⟩;cases u with
  |none=>rfl
  |some y=>exact AK (h3 y rfl x CG)
theorem Hh(w:Nat):∀l:List Nat,(Dj w l).length=l.length*w
 | []=>by simp[Dj]
 |x :: t=>by have h:=Hh w t;unfold Dj at h ⊢;rw[Cu,Ag,h,rZ,AD,EU];omega
theorem Xs(P:Nat){ls:List Nat}{j x:Nat}(hx:ls[j]? =some x)(hr:∀ (k x y:Nat),ls[k]? =some x->ls[k+1]? =some y->x<y):((ls.take j).map (·/ P)).getLast?.getD 0<=x / P:=by
 cases j with
 |zero=>simp
 |succ i=>obtain⟨hl,_⟩:=BW.1 hx;have hy:ls[i]? =some ls[i]:=Aw nj;rw[BN,hy];simp only[Option.toList_some,List.map_append,List.map_cons,List.map_nil,List.getLast?_append];exact Nat.div_le_div_right (Nat.le_of_lt (hr i _ _ hy hx))
theorem Zy(P:Nat)(hx:ls[j]? =some x):((ls.take (j+1)).map (·/ P)).getLast?.getD 0=x / P:=by rw[BN,hx];simp
theorem Zl(P:Nat)(hx:ls[j]? =some x):Ew 0 ((ls.take (j+1)).map (·/ P))=Ew 0 ((ls.take j).map (·/ P))++unary (x / P-((ls.take j).map (·/ P)).getLast?.getD 0):=by rw[BN,hx,Option.toList_some,EW,Cp,FO];exact VR _ 0 (x / P)
end Ef
namespace Idx
open Go.RowKit Mem Own Canon Sift
theorem Y1{a b:Str}(ha:k<a.length)(hb:k<b.length):Bq (a.drop k) (b.drop k)=if a[k]=b[k]then Bq (a.drop (k+1)) (b.drop (k+1))+1 else 0:=by rw[Dg ha,Dg hb,Bq]
theorem V0{a b:Str}(h:a.length<=k∨b.length<=k):Bq (a.drop k) (b.drop k)=0:=by
 rcases h with h|h
 ·rw[DV h];cases b.drop k<;>rfl
 ·rw[DV h];cases a.drop k<;>rfl
theorem nS{a b:Str}(ha:k<(bs a).size)(hb:k<(bs b).size)(i:k<a.length)(j:k<b.length):((((bs a)[k]'ha).toNat:Int)==(((bs b)[k]'hb).toNat:Int))=decide (a[k]'i=b[k]'j):=by
 have e1:(bs a)[k]'ha=a[k]'i:=M9 a k ha;have e2:(bs b)[k]'hb=b[k]'j:=M9 b k hb;rw[e1,e2];refine KE.2 ?_;rw[beq_iff_eq,decide_eq_true_iff];constructor
 ·intro h;exact UInt8.toNat_inj.1 nj
 ·intro h;rw[h]
theorem VQ(w:World)(a b:Str)(M:a.length<=1000000)(G:b.length<=1000000):
 Calls prog 232 #[.string (bs a), .string (bs b)] w fun e w'=>e= .returned (.int .i64 (Bq a b:Nat))/\∃q,w'=w.drewN q:=by
 have z:=Eh a;have E:=Eh b;obtain⟨R,hR⟩:=ii (Bq a b);have H0:Hid (R=0+Bq (a.drop 0) (b.drop 0)):=by show R=_;rw[hR,IK,IK,BP]
 rw[<-hR];clear hR;go_enter func232,ntmps232;go_wp2_with fail;go_loopw [5] (fun iv wx=>∃k:Nat,k<=a.length/\k<=b.length/\iv= .int .i64 k/\Hid (R=k+Bq (a.drop k) (b.drop k))/\Hid (∃q,wx=w.drewN q)) (fun iv _=>a.length-(intOf iv).toNat)
 case atStart=>exact⟨0,nj,nj,rfl,H0.out,0,rfl⟩
 case round=>
  obtain⟨k,N,L,rfl,HS,HQ⟩:=hrel;have h:Hid (∀nq,∃q,wr.drewN nq=w.drewN q):=fun nq=>ni
  have x0:(0:Int)<=(k:Int):=nj
  by_cases h1:k<a.length
  ·have g1:=ic ((k:Int)<a.length);have j:=ic (k<a.length);have x1:(k:Int)<((bs a).size:Int):=nj;have J:(k:Int)<(a.length:Int):=nj;by_cases h2:k<b.length
   ·have g2:=ic ((k:Int)<b.length);have y:=ic (k<b.length);have x2:(k:Int)<((bs b).size:Int):=nj;have Q:(k:Int)<(b.length:Int):=nj;have he:=nS (by rw[z];exact h1) (by rw[E];exact h2) h1 h2;have hs:=Y1 h1 h2;by_cases h3:a[k]=b[k]
    ·rw[AK h3]at he;rw[Ab h3]at hs;have i:Hid (R=(k+1)+Bq (a.drop (k+1)) (b.drop (k+1))):=(by show R=_;rw[HS.out,hs];omega);clear hs HS h3 HQ;go_wp2_with fail;go_quiet (fail);go_wp2_with fail;go_roundw
     case measure=>exact jq
     case rel=>go_light;exact⟨k+1,nj,nj,iw,i.out,h.out _⟩
    ·rw[AU h3]at he;rw[Aa h3]at hs;have hr:R=k:=(by rw[HS.out,hs];omega);subst hr;clear hs HS h3 HQ;go_wp2_with fail;go_quiet (fail);go_wp2_with fail;go_ret;exact⟨rfl,h.out _⟩
   ·have g2:=ig ((k:Int)<b.length);have y:=ig (k<b.length);have hr:R=k:=(by rw[HS.out,V0 (.inr nj)];omega);subst hr;clear HS HQ;go_wp2_with fail;go_quiet (fail);go_wp2_with fail;go_ret;exact⟨rfl,h.out _⟩
  ·have g1:=ig ((k:Int)<a.length);have j:=ig (k<a.length);have hr:R=k:=(by rw[HS.out,V0 (.inl nj)];omega);subst hr;clear HS HQ;go_wp2_with fail;go_quiet (fail);go_wp2_with fail;go_ret;exact⟨rfl,h.out _⟩
end Idx
namespace Ef
open Go.RowKit Mem Own Canon Toks
theorem SK(w:World)(bound n:Nat)(h1:1<=n)(h2:n<=bound)(hb:bound<=1000000):
 Calls prog 173 #[bound,n] w fun e w'=>e= .returned (.int .i64 (efW bound n:Nat))/\w'=w:=by
 have hq:1<=bound / n:=(Nat.one_le_div_iff nj).2 h2;have i:bound / n<=bound:=Hw _ _;have D:=UO ((bound / n:Nat):Int) w nj nj;have hl:lg ((bound / n:Nat):Int)=(efW bound n:Nat):=rfl;rw[hl]at D;have y:efW bound n<=bound:=by unfold efW;have:=Nat.log2_le_self (bound / n);omega
 have j:¬(n:Int)=0:=nj
 have h:((n:Int)==0)=false:=by simpa using (by omega:¬n=0)
 have u1:IntKind.u64.wrap ((bound / n:Nat):Int)=((bound / n:Nat):Int):=pk
 have u2:IntKind.i64.wrap ((bound / n:Nat):Int)=((bound / n:Nat):Int):=Ar _ nj;have u3:IntKind.i64.wrap ((efW bound n:Int)+1-1)=((efW bound n:Nat):Int):=pi
 have ud:Int.tdiv (bound:Int) (n:Int)=((bound / n:Nat):Int):=by rw[Int.tdiv_eq_ediv_of_nonneg nj];rfl
 have DD:=hid D;clear D hl;go_enter func173,ntmps173;go_wp2_with fail;refine DD.out.mono ?_;rintro e w' ⟨rfl,rfl⟩;go_wp2_with fail;go_ret;exact⟨rfl,rfl⟩
end Ef
end Go.Proofs.YtfgdoknipbpfhaaGreatDoor
