/- Plain: rising texts  -/
import Derived.Test.YtfgdoknipbpfhaaGreatDoorZBodyOpened11
import Derived.Test.YtfgdoknipbpfhaaGreatDoorZBodyOpened24
namespace Go.Proofs.YtfgdoknipbpfhaaGreatDoor
open Go.Proofs.Tryz
open Go.Lib (hid)
set_option maxHeartbeats 1000000
set_option maxRecDepth 100000
variable{j k x:Nat}{ls:List Nat}
namespace Idx
open NumPut (fZ)
def G9(s:Str):List Nat:=s.map UInt8.toNat
def Dc(s:Str):List Nat:=fZ s.length++G9 s
def Bt:Str->Str->Nat
 |a :: s,b :: t=>if a=b then Bt s t+1 else 0
 |_,_=>0
theorem KM:∀a b,Bt a b<=a.length/\Bt a b<=b.length
 | [],b=>by simp[Bt]
 |a :: s,[]=>by simp[Bt]
 |a :: s,b :: t=>by have:=KM s t;rw[Bt];split<;>simp<;>omega
def Eg:Str->List Str->List Nat
 |_,[]=> []
 |was,x :: t=>fZ (Bt was x)++Dc (x.drop (Bt was x))++Eg x t
def tZ:List Str->List Nat
 | []=> []
 |x :: t=>Dc x++Eg x t
theorem VW:∀ (t:List Str) (h x:Str),Eg h (t++ [x])=Eg h t++(fZ (Bt (t.getLast?.getD h) x)++Dc (x.drop (Bt (t.getLast?.getD h) x)))
 | [],h,x=>by simp[Eg]
 |y :: t,h,x=>by
  rw[Ec,Eg,VW t y x,Eg]
  have e:((y :: t).getLast?.getD h)=t.getLast?.getD y:=by
   cases t with
   |nil=>rfl
   |cons z s=>simp[List.getLast?_cons]
  rw[e];simp only[List.append_assoc]
theorem Zc{l:List Str}(h:l≠ [])(x i:Str)(hw:l.getLast?=some i):tZ (l++ [x])=tZ l++(fZ (Bt i x)++Dc (x.drop (Bt i x))):=by
 cases l with
 |nil=>exact absurd rfl h
 |cons y t=>
  rw[Ec,tZ,VW,tZ]
  have e:t.getLast?.getD y=i:=by
   cases t with
   |nil=>simpa using hw
   |cons z s=>simp[List.getLast?_cons]at hw ⊢;exact hw
  rw[e,AJ]
def Dn(size:Nat):Nat->List Str->List (List Str)
 |0,_=> []
 |f+1,l=>if l= []then []else l.take size :: Dn size f (l.drop size)
def GF(size:Nat)(l:List Str):List (List Str):=Dn size l.length l
def Dg(size:Nat)(l:List Str):List Nat:=
 fZ l.length++(GF size l).flatMap (fun c=>fZ (tZ c).length)++(GF size l).flatMap tZ
end Idx
namespace Idx
open Go.RowKit Mem Own Canon Sift
def El(was s:Str):Bool:=decide (1<=s.length)&&(decide (s.length<=25)&&decide (was<s))
theorem So(s:Str)(h:s≠ []):((bs s).toList==({data:=#[] }:ByteArray).toList)=false/\((bs s).toList== [])=false/\(bs s).toList.isEmpty=false/\¬(bs s).toList= []:=by
 have e:(bs s).toList=s:=by rw[GK,Ht]
 have e2:({data:=#[] }:ByteArray).toList= []:=by rw[GK]
 rw[e,e2];cases s with
 |nil=>exact absurd rfl h
 |cons x t=>exact⟨rfl,rfl,rfl,pI⟩
theorem Q0:((bs []).toList==({data:=#[] }:ByteArray).toList)=true/\((bs []).toList== [])=true/\(bs []).toList.isEmpty=true/\(bs []).toList= []:=by
 have e:(bs []).toList= []:=by rw[GK,Ht]
 have e2:({data:=#[] }:ByteArray).toList= []:=by rw[GK]
 rw[e,e2];exact⟨rfl,rfl,rfl,rfl⟩
theorem jW(P:Program)(t:TypeId)(a b:Str)(w:World):(binOp .gtr t (.string (bs a)) (.string (bs b))).run P w= .ok (.bool (decide (b<a))) w:=by
 have h:(binOp .gtr t (.string (bs a)) (.string (bs b))).run P w= .ok (.bool (!(Op.bytesLess (bs a).toList (bs b).toList || (bs a).toList==(bs b).toList))) w:=rfl;rw[h,mM,str_eq];rcases K8 a b with h|h|h
 ·simp[h,TR h]
 ·subst h;simp[Ir]
 ·have h1:¬a<b:=TR h;have h2:a≠b:=fun e=>Ir b (by rw[e]at h;exact h);simp[h,h1,h2]
theorem Tt(w:World)(h s:Str):Calls prog 230 #[.string (bs h), .string (bs s)] w fun e w'=>e= .returned (.bool (El h s))/\w'=w:=by
 have hz:=EE s;by_cases h0:s= []
 ·subst h0;have hr:El h []=false:=rfl;rw[hr];obtain⟨a1,a2,a3,a4⟩:=Q0;go_enter func230,ntmps230;go_wp2_with fail;go_ret;exact⟨rfl,rfl⟩
 ·obtain⟨a1,a2,a3,a4⟩:=So s h0;have h1:1<=s.length:=FD.2 h0;have hg:=fun wx=>jW prog 9 s h wx;have hr:El h s=(decide (s.length<=25)&&decide (h<s)):=by simp[El,h1]
  rw[hr];generalize decide (h<s)=D at *;generalize bs s=S at *;generalize bs h=W at *;clear hr h0;by_cases h2:s.length<=25
  ·have z2:=ic ((s.length:Int)<=25);have z3:decide (s.length<=25)=true:=p6;rw[z3];go_enter func230,ntmps230;go_wp2_with fail;go_ret;exact⟨pI,rfl⟩
  ·have z2:=ig ((s.length:Int)<=25);have z3:decide (s.length<=25)=false:=p6;rw[z3];go_enter func230,ntmps230;go_wp2_with fail;go_ret;exact⟨pI,rfl⟩
def Dd:Str->List Str->Bool
 |_,[]=>true
 |was,s :: t=>El was s&&Dd s t
def Gl(l:List Str):Bool:=Dd [] l&&decide (l.length<=1048576)
theorem kL{u t:Str}{l:List Str}(h:l[k]? =some t):Dd u (l.drop k)=(El u t&&Dd t (l.drop (k+1))):=by obtain⟨hk,e⟩:=CE.1 h;rw[Df hk,Dd,e]
theorem jP(w:World)(A:Option Addr)(n c:Nat)(ls:List Str)(hn:ls.length=n)(hN:n<=3000000000)(ha:Row w w A n 1 (Fu ls)):
 Calls prog 169 #[.slice A n c] w fun e w'=>e= .returned (.bool (Gl ls))/\w'=w:=by
 have HN:=hid hn;obtain⟨R,hR⟩:=ii (Gl ls);have HR:Hid (R=(Dd [] ls&&decide (n<=1048576))):=by show R=_;rw[hR,<-hn];rfl
 rw[<-hR];clear hn hR;go_enter func169,ntmps169;go_wp2_with fail;go_loopw [3,8] (fun uv iv wx=>∃ (k:Nat) (u:Str),k<=n/\iv= .int .i64 k/\uv= .string (bs u)/\Hid (Dd [] ls=Dd u (ls.drop k))/\wx=w) (fun _ iv _=>n-(intOf iv).toNat)
 case atStart=>exact⟨0,[],mz,rfl,rfl,rfl,rfl⟩
 case round=>
  obtain⟨k,u,hk,rfl,rfl,HS,rfl⟩:=hrel;by_cases j:k<n
  ·have gk:=ic ((k:Int)<n);have z:=ic (k<n);have x0:(0:Int)<=(k:Int):=mz;have x1:(k:Int)<(n:Int):=mz;obtain⟨b,E,t,rfl,_,ht,ck⟩:=Row.str ha HN.out j;have i:=kL (u:=u) ht;have D:=hid (Tt wr u t);by_cases hm:El u t=true
   ·rw[hm,Bool.true_and]at i;rw[hm]at D;have y:Hid (Dd [] ls=Dd t (ls.drop (k+1))):=HS.out.trans i;clear HS i hm ht;go_wp2_with(refine D.out.mono ?_;rintro e w' ⟨rfl,rfl⟩);go_roundw
    case measure=>exact jo
    case rel=>go_light;exact⟨k+1,t,mz,iu,rfl,y.out,iy⟩
   ·have hm:El u t=false:=(by simpa using hm);rw[hm,I7]at i;rw[hm]at D;have hr:R=false:=(by rw[HR.out,HS.out,i];rfl);subst hr;clear HS i hm ht HR;go_wp2_with(refine D.out.mono ?_;rintro e w' ⟨rfl,rfl⟩);go_ret;exact⟨rfl,rfl⟩
  ·obtain rfl:k=n:=by omega
   have gk:=ig ((k:Int)<k);have z:=ig (k<k);have hr:R=decide (k<=1048576):=(by have h:=HS.out;rw[Eb oq]at h;rw[HR.out,h];simp[Dd]);by_cases hz:k<=1048576
   ·have z1:=ic ((k:Int)<=1048576);rw[Be hz]at hr;subst hr;clear HS HR j;go_wp2_with fail;go_ret;exact⟨rfl,rfl⟩
   ·have z1:=ig ((k:Int)<=1048576);rw[Bi hz]at hr;subst hr;clear HS HR j;go_wp2_with fail;go_ret;exact⟨rfl,rfl⟩
end Idx
namespace Ef
open Go.RowKit Mem Own Canon
def Iq(bound:Nat)(u:Option Nat)(x:Nat):Bool:=decide (x<bound)&&(match u with|none=>true|some y=>decide (y<x))
def Ca(bound:Nat):Option Nat->List Nat->Bool
 |_,[]=>true
 |u,x :: t=>Iq bound u x&&Ca bound (some x) t
def I8:Option Nat->Int
 |none=> -1
 |some y=>y
theorem WM{bound:Nat}{u:Option Nat}{l:List Nat}(h:l[k]? =some x):Ca bound u (l.drop k)=(Iq bound u x&&Ca bound (some x) (l.drop (k+1))):=by obtain⟨hk,e⟩:=CE.1 h;rw[Df hk,Ca,e]
theorem jB(bound:Nat)(u:Option Nat)(x:Nat):Iq bound u x=(decide ((x:Int)<(bound:Int))&&decide (I8 u<(x:Int))):=by
 unfold Iq;cases u with
 |none=>have:decide (I8 none<(x:Int))=true:=Be (by show(-1:Int)<_;omega);rw[this];congr 1;exact decide_eq_decide.2 mz
 |some y=>
  congr 1
  ·exact decide_eq_decide.2 mz
  ·exact decide_eq_decide.2 (by simp only[I8];omega)
theorem i5(w:World)(bound:Nat)(A:Option Addr)(n c:Nat)(ls:List Nat)(hn:ls.length=n)(hN:n<=3000000000)(ha:Row w w A n 1 (jZ .i64 ls)):
 Calls prog 172 #[bound, .slice A n c] w fun e w'=>e= .returned (.bool (Ca bound none ls))/\w'=w:=by
 have HN:=hid hn;obtain⟨R,hR⟩:=ii (Ca bound none ls);have HR:Hid (R=Ca bound none (ls.drop 0)):=hR;rw[<-hR];clear hn hR;go_enter func172,ntmps172;go_wp2_with fail;go_loopw [5,10] (fun uv iv wx=>∃ (k:Nat) (u:Option Nat),k<=n/\iv= .int .i64 k/\uv= .int .i64 (I8 u)/\Hid (R=Ca bound u (ls.drop k))/\wx=w) (fun _ iv _=>n-(intOf iv).toNat)
 case atStart=>exact⟨0,none,mz,rfl,rfl,HR.out,rfl⟩
 case round=>
  obtain⟨k,u,hk,rfl,rfl,HS,rfl⟩:=hrel;by_cases i:k<n
  ·have gk:=ic ((k:Int)<n);have y:=ic (k<n);have x0:(0:Int)<=(k:Int):=mz;have x1:(k:Int)<(n:Int):=mz;obtain⟨b,E,x,rfl,_,hx,ck⟩:=CF ha HN.out i;have h:=WM (bound:=bound) (u:=u) hx;rw[jB]at h;have hw:Hid (I8 (some x)=(x:Int)):=rfl;have HW:Hid (Value.int .i64 (x:Nat)= .int .i64 (I8 (some x))):=rfl;generalize I8 u=V at *;by_cases h1:(x:Int)<=V
   ·have y1:decide ((x:Int)<=V)=true:=Be h1;rw[Bi (by omega:¬V<(x:Int)),Bool.and_false,I7]at h;have hr:R=false:=HS.out.trans h;subst hr;clear HS h hx HW h1 hw;go_wp2_with fail;go_ret;exact⟨rfl,rfl⟩
   ·have y1:decide ((x:Int)<=V)=false:=Bi h1;rw[Be (by omega:V<(x:Int)),Bool.and_true]at h;by_cases h2:(x:Int)<(bound:Int)
    ·have y2:decide ((bound:Int)<=(x:Int))=false:=Bi mz;have z:decide (bound<=x)=false:=Bi mz;rw[Be h2,Bool.true_and]at h;have j:Hid (R=Ca bound (some x) (ls.drop (k+1))):=HS.out.trans h;clear HS h hx h1 h2 hw;go_wp2_with fail;go_roundw
     case measure=>exact jo
     case rel=>go_light;exact⟨k+1,some x,mz,iu,HW.out,j.out,iy⟩
    ·have y2:decide ((bound:Int)<=(x:Int))=true:=Be mz;have z:decide (bound<=x)=true:=Be mz;rw[Bi h2,I7]at h;have hr:R=false:=HS.out.trans h;subst hr;clear HS h hx HW h1 h2 hw;go_wp2_with fail;go_ret;exact⟨rfl,rfl⟩
  ·obtain rfl:k=n:=by omega
   have gk:=ig ((k:Int)<k);have y:=ig (k<k);have hr:R=true:=(by rw[HS.out,Eb oq];rfl);subst hr;clear HS HR i;go_wp2_with fail;go_ret;exact⟨rfl,rfl⟩
end Ef
namespace Ef
open Huff (msb pZ bytesOf)
theorem Ha:∀ (bound:Nat) (l:List Nat) (u:Option Nat),Ca bound u l=true->∀x∈l,x<bound
 |bound,[],_,_,x,hx=>by cases hx
 |bound,y :: t,u,h,x,hx=>by
  rw[Ca,BX]at h;rcases AQ.1 hx with rfl|hx
  ·have h1:=h.1;unfold Iq at h1;rw[BX,decide_eq_true_iff]at h1;exact h1.1
  ·exact Ha bound t (some y) h.2 x hx
theorem ND:∀ (bound:Nat) (l:List Nat) (u:Option Nat),Ca bound u l=true->∀ (k x y:Nat),l[k]? =some x->l[k+1]? =some y->x<y
 |bound,[],_,_,k,x,y,hx,_=>pK
 |bound,a :: t,u,h,k,x,y,hx,hy=>by
  rw[Ca,BX]at h;cases k with
  |zero=>
   simp only[List.getElem?_cons_zero,Option.some.injEq]at hx;subst hx;rw[List.getElem?_cons_succ]at hy;cases t with
   |nil=>simp at hy
   |cons b s=>simp only[List.getElem?_cons_zero,Option.some.injEq]at hy;subst hy;have h2:=h.2;rw[Ca,BX]at h2;have h3:=h2.1;unfold Iq at h3;rw[BX]at h3;simpa using h3.2
  |succ k=>rw[List.getElem?_cons_succ]at hx hy;exact ND bound t (some a) h.2 k x y hx hy
theorem Qb:∀ (bound:Nat) (l:List Nat) (u:Option Nat),(∀x∈l,x<bound)->l.Pairwise (·< ·)->(∀y,u=some y->∀x∈l,y<x)->Ca bound u l=true
 |_,[],_,_,_,_=>rfl
 |bound,x :: t,u,h1,h2,h3=>by
  rw[Ca,BX];rw[Fz]at h2;refine⟨?_,Qb bound t (some x) (fun y hy=>h1 y (BW _ hy)) h2.2 (fun y hy z hz=>by injection hy with hy;rw[<-hy];exact h2.1 z hz)⟩;unfold Iq;rw[BX];refine⟨Be (h1 x CD),?_⟩;cases u with
  |none=>rfl
  |some y=>exact Be (h3 y rfl x CD)
theorem Hk(w:Nat):∀l:List Nat,(Di w l).length=l.length*w
 | []=>by simp[Di]
 |x :: t=>by have h:=Hk w t;unfold Di at h ⊢;rw[Ct,Aj,h,pZ,AI,EL];omega
theorem j6(P:Nat){ls:List Nat}{j x:Nat}(hx:ls[j]? =some x)(hr:∀ (k x y:Nat),ls[k]? =some x->ls[k+1]? =some y->x<y):((ls.take j).map (·/ P)).getLast?.getD 0<=x / P:=by
 cases j with
 |zero=>simp
 |succ i=>obtain⟨hl,_⟩:=CE.1 hx;have hy:ls[i]? =some ls[i]:=AD mz;rw[Cm,hy];simp only[Option.toList_some,List.map_append,List.map_cons,List.map_nil,List.getLast?_append];exact Nat.div_le_div_right (Nat.le_of_lt (hr i _ _ hy hx))
theorem Ws(P:Nat)(hx:ls[j]? =some x):((ls.take (j+1)).map (·/ P)).getLast?.getD 0=x / P:=by rw[Cm,hx];simp
theorem iG(P:Nat)(hx:ls[j]? =some x):Es 0 ((ls.take (j+1)).map (·/ P))=Es 0 ((ls.take j).map (·/ P))++unary (x / P-((ls.take j).map (·/ P)).getLast?.getD 0):=by rw[Cm,hx,Option.toList_some,EN,Cs,FC];exact Vp _ 0 (x / P)
end Ef
namespace Idx
open Go.RowKit Mem Own Canon Sift
theorem gH{a b:Str}(ha:k<a.length)(hb:k<b.length):Bt (a.drop k) (b.drop k)=if a[k]=b[k]then Bt (a.drop (k+1)) (b.drop (k+1))+1 else 0:=by rw[Df ha,Df hb,Bt]
theorem VK{a b:Str}(h:a.length<=k∨b.length<=k):Bt (a.drop k) (b.drop k)=0:=by
 rcases h with h|h
 ·rw[Eb h];cases b.drop k<;>rfl
 ·rw[Eb h];cases a.drop k<;>rfl
theorem iL{a b:Str}(ha:k<(bs a).size)(hb:k<(bs b).size)(j:k<a.length)(i:k<b.length):((((bs a)[k]'ha).toNat:Int)==(((bs b)[k]'hb).toNat:Int))=decide (a[k]'j=b[k]'i):=by
 have e1:(bs a)[k]'ha=a[k]'j:=Oz a k ha;have e2:(bs b)[k]'hb=b[k]'i:=Oz b k hb;rw[e1,e2];refine Kh.2 ?_;rw[beq_iff_eq,decide_eq_true_iff];constructor
 ·intro h;exact UInt8.toNat_inj.1 mz
 ·intro h;rw[h]
theorem Vy(w:World)(a b:Str)(J:a.length<=1000000)(M:b.length<=1000000):
 Calls prog 232 #[.string (bs a), .string (bs b)] w fun e w'=>e= .returned (.int .i64 (Bt a b:Nat))/\∃q,w'=w.drewN q:=by
 have j:=EE a;have y:=EE b;obtain⟨R,hR⟩:=ii (Bt a b);have H0:Hid (R=0+Bt (a.drop 0) (b.drop 0)):=by show R=_;rw[hR,Iy,Iy,Ck]
 rw[<-hR];clear hR;go_enter func232,ntmps232;go_wp2_with fail;go_loopw [5] (fun iv wx=>∃k:Nat,k<=a.length/\k<=b.length/\iv= .int .i64 k/\Hid (R=k+Bt (a.drop k) (b.drop k))/\Hid (∃q,wx=w.drewN q)) (fun iv _=>a.length-(intOf iv).toNat)
 case atStart=>exact⟨0,mz,mz,rfl,H0.out,0,rfl⟩
 case round=>
  obtain⟨k,Q,U,rfl,HS,HQ⟩:=hrel;have h:Hid (∀nq,∃q,wr.drewN nq=w.drewN q):=fun nq=>my
  have x0:(0:Int)<=(k:Int):=mz
  by_cases h1:k<a.length
  ·have g1:=ic ((k:Int)<a.length);have z:=ic (k<a.length);have x1:(k:Int)<((bs a).size:Int):=mz;have N:(k:Int)<(a.length:Int):=mz;by_cases h2:k<b.length
   ·have g2:=ic ((k:Int)<b.length);have E:=ic (k<b.length);have x2:(k:Int)<((bs b).size:Int):=mz;have G:(k:Int)<(b.length:Int):=mz;have he:=iL (by rw[j];exact h1) (by rw[y];exact h2) h1 h2;have hs:=gH h1 h2;by_cases h3:a[k]=b[k]
    ·rw[Be h3]at he;rw[Ae h3]at hs;have i:Hid (R=(k+1)+Bt (a.drop (k+1)) (b.drop (k+1))):=(by show R=_;rw[HS.out,hs];omega);clear hs HS h3 HQ;go_wp2_with fail;go_quiet (fail);go_wp2_with fail;go_roundw
     case measure=>exact jo
     case rel=>go_light;exact⟨k+1,mz,mz,iu,i.out,h.out _⟩
    ·rw[Bi h3]at he;rw[Ab h3]at hs;have hr:R=k:=(by rw[HS.out,hs];omega);subst hr;clear hs HS h3 HQ;go_wp2_with fail;go_quiet (fail);go_wp2_with fail;go_ret;exact⟨rfl,h.out _⟩
   ·have g2:=ig ((k:Int)<b.length);have E:=ig (k<b.length);have hr:R=k:=(by rw[HS.out,VK (.inr mz)];omega);subst hr;clear HS HQ;go_wp2_with fail;go_quiet (fail);go_wp2_with fail;go_ret;exact⟨rfl,h.out _⟩
  ·have g1:=ig ((k:Int)<a.length);have z:=ig (k<a.length);have hr:R=k:=(by rw[HS.out,VK (.inl mz)];omega);subst hr;clear HS HQ;go_wp2_with fail;go_quiet (fail);go_wp2_with fail;go_ret;exact⟨rfl,h.out _⟩
end Idx
namespace Ef
open Go.RowKit Mem Own Canon Toks
theorem Tf(w:World)(bound n:Nat)(h1:1<=n)(h2:n<=bound)(hb:bound<=1000000):
 Calls prog 173 #[bound,n] w fun e w'=>e= .returned (.int .i64 (efW bound n:Nat))/\w'=w:=by
 have hq:1<=bound / n:=(Nat.one_le_div_iff mz).2 h2;have j:bound / n<=bound:=Ho _ _;have D:=Vb ((bound / n:Nat):Int) w mz mz;have hl:lg ((bound / n:Nat):Int)=(efW bound n:Nat):=rfl;rw[hl]at D;have h:efW bound n<=bound:=by unfold efW;have:=Nat.log2_le_self (bound / n);omega
 have i:¬(n:Int)=0:=mz
 have y:((n:Int)==0)=false:=by simpa using (by omega:¬n=0)
 have u1:IntKind.u64.wrap ((bound / n:Nat):Int)=((bound / n:Nat):Int):=n5
 have u2:IntKind.i64.wrap ((bound / n:Nat):Int)=((bound / n:Nat):Int):=Aw _ mz;have u3:IntKind.i64.wrap ((efW bound n:Int)+1-1)=((efW bound n:Nat):Int):=nW
 have ud:Int.tdiv (bound:Int) (n:Int)=((bound / n:Nat):Int):=by rw[Int.tdiv_eq_ediv_of_nonneg mz];rfl
 have DD:=hid D;clear D hl;go_enter func173,ntmps173;go_wp2_with fail;refine DD.out.mono ?_;rintro e w' ⟨rfl,rfl⟩;go_wp2_with fail;go_ret;exact⟨rfl,rfl⟩
end Ef
end Go.Proofs.YtfgdoknipbpfhaaGreatDoor
