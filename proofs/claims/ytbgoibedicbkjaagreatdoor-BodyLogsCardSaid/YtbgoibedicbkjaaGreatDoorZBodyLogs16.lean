/- Plain: rising texts  -/
import Derived.Test.YtbgoibedicbkjaaGreatDoorZBodyLogs10
import Derived.Test.YtbgoibedicbkjaaGreatDoorZBodyLogs15
namespace Go.Proofs.YtbgoibedicbkjaaGreatDoor
open Go.Lib (hid)
set_option maxHeartbeats 1000000
set_option maxRecDepth 100000
namespace Idx
open Go.Proofs.YtbgoibedicbkjaaGreatDoor.NumPut (pZ)
def natS(s:Str):List Nat:=s.map UInt8.toNat
def Iu(s:Str):List Nat:=pZ s.length++natS s
def Bj:Str->Str->Nat
 |a :: s,b :: t=>if a=b then Bj s t+1 else 0
 |_,_=>0
theorem R9:∀a b,Bj a b<=a.length/\Bj a b<=b.length
 | [],b=>by simp[Bj]
 |a :: s,[]=>by simp[Bj]
 |a :: s,b :: t=>by have:=R9 s t;rw[Bj];split<;>simp<;>omega
def G0:Str->List Str->List Nat
 |_,[]=> []
 |was,x :: t=>pZ (Bj was x)++Iu (x.drop (Bj was x))++G0 x t
def Ej:List Str->List Nat
 | []=> []
 |x :: t=>Iu x++G0 x t
def Jy(size:Nat):Nat->List Str->List (List Str)
 |0,_=> []
 |f+1,l=>if l= []then []else l.take size :: Jy size f (l.drop size)
def Kk(size:Nat)(l:List Str):List (List Str):=Jy size l.length l
def ET(size:Nat)(l:List Str):List Nat:=
 pZ l.length++(Kk size l).flatMap (fun c=>pZ (Ej c).length)++(Kk size l).flatMap Ej
end Idx
namespace Idx
open Go.RowKit Mem Own Canon Sift
def Bm(was s:Str):Bool:=decide (1<=s.length)&&(decide (s.length<=25)&&decide (was<s))
theorem Mi(s:Str)(h:s≠ []):((bs s).toList==({data:=#[] }:ByteArray).toList)=false/\((bs s).toList== [])=false/\(bs s).toList.isEmpty=false/\¬(bs s).toList= []:=by
 have e:(bs s).toList=s:=by rw[FG,Hk]
 have e2:({data:=#[] }:ByteArray).toList= []:=by rw[FG]
 rw[e,e2];cases s with
 |nil=>exact absurd rfl h
 |cons x t=>exact⟨rfl,rfl,rfl,by simp⟩
theorem Ma:((bs []).toList==({data:=#[] }:ByteArray).toList)=true/\((bs []).toList== [])=true/\(bs []).toList.isEmpty=true/\(bs []).toList= []:=by
 have e:(bs []).toList= []:=by rw[FG,Hk]
 have e2:({data:=#[] }:ByteArray).toList= []:=by rw[FG]
 rw[e,e2];exact⟨rfl,rfl,rfl,rfl⟩
theorem WG(P:Program)(t:TypeId)(a b:Str)(w:World):(binOp .gtr t (.string (bs a)) (.string (bs b))).run P w= .ok (.bool (decide (b<a))) w:=by
 have h:(binOp .gtr t (.string (bs a)) (.string (bs b))).run P w= .ok (.bool (!(Op.bytesLess (bs a).toList (bs b).toList || (bs a).toList==(bs b).toList))) w:=rfl;rw[h,KE,str_eq];rcases Jg a b with h|h|h
 ·simp[h,KG h]
 ·subst h;simp[Gg]
 ·have h1:¬a<b:=KG h;have h2:a≠b:=fun e=>Gg b (by rw[e]at h;exact h);simp[h,h1,h2]
theorem Sq(P:Program)(t:TypeId)(a b:Str)(w:World):(binOp .leq t (.string (bs a)) (.string (bs b))).run P w= .ok (.bool (!decide (b<a))) w:=by
 have h:(binOp .leq t (.string (bs a)) (.string (bs b))).run P w= .ok (.bool (Op.bytesLess (bs a).toList (bs b).toList || (bs a).toList==(bs b).toList)) w:=rfl;rw[h,KE,str_eq];rcases Jg a b with h|h|h
 ·simp[h,KG h]
 ·subst h;simp[Gg]
 ·have h1:¬a<b:=KG h;have h2:a≠b:=fun e=>Gg b (by rw[e]at h;exact h);simp[h,h1,h2]
theorem RV(w:World)(h s:Str):Calls Tryz.prog 195 #[.string (bs h), .string (bs s)] w fun e w'=>e= .returned (.bool (Bm h s))/\w'=w:=by
 have hz:=Cy s;by_cases h0:s= []
 ·subst h0;have hr:Bm h []=false:=rfl;rw[hr];obtain⟨a1,a2,a3,a4⟩:=Ma;go_enter Tryz.func195,Tryz.ntmps195;go_wp2_with fail;go_ret;exact⟨rfl,rfl⟩
 ·obtain⟨a1,a2,a3,a4⟩:=Mi s h0;have h1:1<=s.length:=Hq.2 h0;have hg:=fun wx=>WG Tryz.prog 9 s h wx;have hr:Bm h s=(decide (s.length<=25)&&decide (h<s)):=by simp[Bm,h1]
  rw[hr];generalize decide (h<s)=D at *;generalize bs s=S at *;generalize bs h=W at *;clear hr h0;by_cases h2:s.length<=25
  ·have z2:decide ((s.length:Int)<=25)=true:=(by simp;omega);have z3:decide (s.length<=25)=true:=(by simpa using h2);rw[z3];go_enter Tryz.func195,Tryz.ntmps195;go_wp2_with fail;go_ret;exact⟨by simp,rfl⟩
  ·have z2:decide ((s.length:Int)<=25)=false:=(by simp;omega);have z3:decide (s.length<=25)=false:=(by simpa using h2);rw[z3];go_enter Tryz.func195,Tryz.ntmps195;go_wp2_with fail;go_ret;exact⟨by simp,rfl⟩
def EH:Str->List Str->Bool
 |_,[]=>true
 |was,s :: t=>Bm was s&&EH s t
def GF(l:List Str):Bool:=EH [] l&&decide (l.length<=1048576)
theorem Xa{u t:Str}{l:List Str}{k:Nat}(h:l[k]? =some t):EH u (l.drop k)=(Bm u t&&EH t (l.drop (k+1))):=by obtain⟨hk,e⟩:=BO.1 h;rw[CC hk,EH,e]
theorem WR(w:World)(A:Option Addr)(n c:Nat)(ls:List Str)(hn:ls.length=n)(hN:n<=3000000000)(ha:Row w w.heap.size A n 1 (Ec ls)):
 Calls Tryz.prog 147 #[.slice A n c] w fun e w'=>e= .returned (.bool (GF ls))/\w'=w:=by
 have HN:=hid hn;obtain⟨R,hR⟩:∃R,R=GF ls:=⟨_,rfl⟩;have HR:Hid (R=(EH [] ls&&decide (n<=1048576))):=by show R=_;rw[hR,<-hn];rfl
 rw[<-hR];clear hn hR;go_enter Tryz.func147,Tryz.ntmps147;go_wp2_with fail;go_loopw [3,8] (fun uv iv wx=>∃ (k:Nat) (u:Str),k<=n/\iv= .int .i64 k/\uv= .string (bs u)/\Hid (EH [] ls=EH u (ls.drop k))/\wx=w) (fun _ iv _=>n-(intOf iv).toNat)
 case atStart=>exact⟨0,[],by omega,rfl,rfl,rfl,rfl⟩
 case round=>
  obtain⟨k,u,hk,rfl,rfl,HS,rfl⟩:=hrel;by_cases j:k<n
  ·have gk:decide ((k:Int)<(n:Int))=true:=(by simp;omega);have y:decide (k<n)=true:=(by simp;omega);have x0:(0:Int)<=(k:Int):=(by omega);have x1:(k:Int)<(n:Int):=(by omega);obtain⟨b,E,t,rfl,_,ht,ck⟩:=Row.str ha HN.out j;have i:=Xa (u:=u) ht;have D:=hid (RV wr u t);by_cases hm:Bm u t=true
   ·rw[hm,Bool.true_and]at i;rw[hm]at D;have z:Hid (EH [] ls=EH t (ls.drop (k+1))):=HS.out.trans i;clear HS i hm ht;go_wp2_with(refine D.out.mono ?_;rintro e w' ⟨rfl,rfl⟩);go_roundw
    case measure=>go_light;simp[intOf];omega
    case rel=>go_light;exact⟨k+1,t,by omega,by first|rfl|go_num,rfl,z.out,by first|rfl|trivial⟩
   ·have hm:Bm u t=false:=(by simpa using hm);rw[hm,Hw]at i;rw[hm]at D;have hr:R=false:=(by rw[HR.out,HS.out,i];rfl);subst hr;clear HS i hm ht HR;go_wp2_with(refine D.out.mono ?_;rintro e w' ⟨rfl,rfl⟩);go_ret;exact⟨rfl,rfl⟩
  ·obtain rfl:k=n:=by omega
   have gk:decide ((k:Int)<(k:Int))=false:=(by simp);have y:decide (k<k)=false:=(by simp);have hr:R=decide (k<=1048576):=(by have h:=HS.out;rw[Ce (by rw[HN.out];exact Aj _)]at h;rw[HR.out,h];simp[EH]);by_cases hz:k<=1048576
   ·have z1:decide ((k:Int)<=1048576)=true:=(by simp;omega);rw[Aw hz]at hr;subst hr;clear HS HR j;go_wp2_with fail;go_ret;exact⟨rfl,rfl⟩
   ·have z1:decide ((k:Int)<=1048576)=false:=(by simp;omega);rw[Az hz]at hr;subst hr;clear HS HR j;go_wp2_with fail;go_ret;exact⟨rfl,rfl⟩
end Idx
namespace Ef
open Go.RowKit Mem Own Canon
def mayO(bound:Nat)(u:Option Nat)(x:Nat):Bool:=decide (x<bound)&&(match u with|none=>true|some y=>decide (y<x))
def Dp(bound:Nat):Option Nat->List Nat->Bool
 |_,[]=>true
 |u,x :: t=>mayO bound u x&&Dp bound (some x) t
end Ef
namespace Ef
open Go.Proofs.YtbgoibedicbkjaaGreatDoor.Huff (msb Qu bytesOf)
theorem Jb:∀ (bound:Nat) (l:List Nat) (u:Option Nat),Dp bound u l=true->∀x∈l,x<bound
 |bound,[],_,_,x,hx=>by cases hx
 |bound,y :: t,u,h,x,hx=>by
  rw[Dp,CD]at h;rcases BZ.1 hx with rfl|hx
  ·have h1:=h.1;unfold mayO at h1;rw[CD,decide_eq_true_iff]at h1;exact h1.1
  ·exact Jb bound t (some y) h.2 x hx
theorem Me:∀ (bound:Nat) (l:List Nat) (u:Option Nat),(∀x∈l,x<bound)->l.Pairwise (·< ·)->(∀y,u=some y->∀x∈l,y<x)->Dp bound u l=true
 |_,[],_,_,_,_=>rfl
 |bound,x :: t,u,h1,h2,h3=>by
  rw[Dp,CD];rw[Ho]at h2;refine⟨?_,Me bound t (some x) (fun y hy=>h1 y (EW _ hy)) h2.2 (fun y hy z hz=>by injection hy with hy;rw[<-hy];exact h2.1 z hz)⟩;unfold mayO;rw[CD];refine⟨Aw (h1 x EV),?_⟩;cases u with
  |none=>rfl
  |some y=>exact Aw (h3 y rfl x EV)
theorem JQ(w:Nat):∀l:List Nat,(JJ w l).length=l.length*w
 | []=>by simp[JJ]
 |x :: t=>by have h:=JQ w t;unfold JJ at h ⊢;rw[IB,Ai,h,Qu,Bh,EC];omega
end Ef
namespace Idx
open Go.RowKit Mem Own Canon Sift
theorem O5{a b:Str}{k:Nat}(ha:k<a.length)(hb:k<b.length):Bj (a.drop k) (b.drop k)=if a[k]=b[k]then Bj (a.drop (k+1)) (b.drop (k+1))+1 else 0:=by rw[CC ha,CC hb,Bj]
theorem J9{a b:Str}{k:Nat}(h:a.length<=k∨b.length<=k):Bj (a.drop k) (b.drop k)=0:=by
 rcases h with h|h
 ·rw[Ce h];cases b.drop k<;>rfl
 ·rw[Ce h];cases a.drop k<;>rfl
theorem Se{a b:Str}{k:Nat}(ha:k<(bs a).size)(hb:k<(bs b).size)(j:k<a.length)(i:k<b.length):((((bs a)[k]'ha).toNat:Int)==(((bs b)[k]'hb).toNat:Int))=decide (a[k]'j=b[k]'i):=by
 have e1:(bs a)[k]'ha=a[k]'j:=Kv a k ha;have e2:(bs b)[k]'hb=b[k]'i:=Kv b k hb;rw[e1,e2];refine ID.2 ?_;rw[beq_iff_eq,decide_eq_true_iff];constructor
 ·intro h;exact UInt8.toNat_inj.1 (by omega)
 ·intro h;rw[h]
theorem SU(w:World)(a b:Str)(J:a.length<=1000000)(Q:b.length<=1000000):
 Calls Tryz.prog 197 #[.string (bs a), .string (bs b)] w fun e w'=>e= .returned (.int .i64 (Bj a b:Nat))/\∃q,w'=w.drewN q:=by
 have z:=Cy a;have i:=Cy b;obtain⟨R,hR⟩:∃R,R=Bj a b:=⟨_,rfl⟩;have H0:Hid (R=0+Bj (a.drop 0) (b.drop 0)):=by show R=_;rw[hR,GU,GU,Bq]
 rw[<-hR];clear hR;go_enter Tryz.func197,Tryz.ntmps197;go_wp2_with fail;go_loopw [5] (fun iv wx=>∃k:Nat,k<=a.length/\k<=b.length/\iv= .int .i64 k/\Hid (R=k+Bj (a.drop k) (b.drop k))/\Hid (∃q,wx=w.drewN q)) (fun iv _=>a.length-(intOf iv).toNat)
 case atStart=>exact⟨0,by omega,by omega,rfl,H0.out,0,rfl⟩
 case round=>
  obtain⟨k,M,G,rfl,HS,HQ⟩:=hrel;have h:Hid (∀nq,∃q,wr.drewN nq=w.drewN q):=fun nq=>by obtain⟨q,hq⟩:=HQ.out;exact⟨_,by rw[hq];exact CL _ _ _⟩
  have x0:(0:Int)<=(k:Int):=by omega
  by_cases h1:k<a.length
  ·have g1:decide ((k:Int)<(a.length:Int))=true:=(by simp;omega);have y:decide (k<a.length)=true:=(by simp;omega);have x1:(k:Int)<((bs a).size:Int):=(by omega);have L:(k:Int)<(a.length:Int):=(by omega);by_cases h2:k<b.length
   ·have g2:decide ((k:Int)<(b.length:Int))=true:=(by simp;omega);have j:decide (k<b.length)=true:=(by simp;omega);have x2:(k:Int)<((bs b).size:Int):=(by omega);have N:(k:Int)<(b.length:Int):=(by omega);have he:=Se (by rw[z];exact h1) (by rw[i];exact h2) h1 h2;have hs:=O5 h1 h2;by_cases h3:a[k]=b[k]
    ·rw[Aw h3]at he;rw[Ab h3]at hs;have E:Hid (R=(k+1)+Bj (a.drop (k+1)) (b.drop (k+1))):=(by show R=_;rw[HS.out,hs];omega);clear hs HS h3 HQ;go_wp2_with fail;go_quiet (fail);go_wp2_with fail;go_roundw
     case measure=>go_light;simp[intOf];omega
     case rel=>go_light;exact⟨k+1,by omega,by omega,by first|rfl|go_num,E.out,h.out _⟩
    ·rw[Az h3]at he;rw[Aa h3]at hs;have hr:R=k:=(by rw[HS.out,hs];omega);subst hr;clear hs HS h3 HQ;go_wp2_with fail;go_quiet (fail);go_wp2_with fail;go_ret;exact⟨rfl,h.out _⟩
   ·have g2:decide ((k:Int)<(b.length:Int))=false:=(by simp;omega);have j:decide (k<b.length)=false:=(by simp;omega);have hr:R=k:=(by rw[HS.out,J9 (.inr (by omega))];omega);subst hr;clear HS HQ;go_wp2_with fail;go_quiet (fail);go_wp2_with fail;go_ret;exact⟨rfl,h.out _⟩
  ·have g1:decide ((k:Int)<(a.length:Int))=false:=(by simp;omega);have y:decide (k<a.length)=false:=(by simp;omega);have hr:R=k:=(by rw[HS.out,J9 (.inl (by omega))];omega);subst hr;clear HS HQ;go_wp2_with fail;go_quiet (fail);go_wp2_with fail;go_ret;exact⟨rfl,h.out _⟩
theorem SG(w:World)(a b:Str)(J:a.length<=1000000)(Q:b.length<=1000000):
 Calls Tryz.prog 174 #[.string (bs a), .string (bs b)] w fun e w'=>e= .returned (.int .i64 (Bj a b:Nat))/\∃q,w'=w.drewN q:=by
 have z:=Cy a;have i:=Cy b;obtain⟨R,hR⟩:∃R,R=Bj a b:=⟨_,rfl⟩;have H0:Hid (R=0+Bj (a.drop 0) (b.drop 0)):=by show R=_;rw[hR,GU,GU,Bq]
 rw[<-hR];clear hR;go_enter Tryz.func174,Tryz.ntmps174;go_wp2_with fail;go_loopw [5] (fun iv wx=>∃k:Nat,k<=a.length/\k<=b.length/\iv= .int .i64 k/\Hid (R=k+Bj (a.drop k) (b.drop k))/\Hid (∃q,wx=w.drewN q)) (fun iv _=>a.length-(intOf iv).toNat)
 case atStart=>exact⟨0,by omega,by omega,rfl,H0.out,0,rfl⟩
 case round=>
  obtain⟨k,M,G,rfl,HS,HQ⟩:=hrel;have h:Hid (∀nq,∃q,wr.drewN nq=w.drewN q):=fun nq=>by obtain⟨q,hq⟩:=HQ.out;exact⟨_,by rw[hq];exact CL _ _ _⟩
  have x0:(0:Int)<=(k:Int):=by omega
  by_cases h1:k<a.length
  ·have g1:decide ((k:Int)<(a.length:Int))=true:=(by simp;omega);have y:decide (k<a.length)=true:=(by simp;omega);have x1:(k:Int)<((bs a).size:Int):=(by omega);have L:(k:Int)<(a.length:Int):=(by omega);by_cases h2:k<b.length
   ·have g2:decide ((b.length:Int)<=(k:Int))=false:=(by simp;omega);have j:decide (b.length<=k)=false:=(by simp;omega);have x2:(k:Int)<((bs b).size:Int):=(by omega);have N:(k:Int)<(b.length:Int):=(by omega);have he:=Se (by rw[z];exact h1) (by rw[i];exact h2) h1 h2;have hs:=O5 h1 h2;by_cases h3:a[k]=b[k]
    ·rw[Aw h3]at he;rw[Ab h3]at hs;have E:Hid (R=(k+1)+Bj (a.drop (k+1)) (b.drop (k+1))):=(by show R=_;rw[HS.out,hs];omega);clear hs HS h3 HQ;go_wp2_with fail;go_quiet (fail);go_wp2_with fail;go_roundw
     case measure=>go_light;simp[intOf];omega
     case rel=>go_light;exact⟨k+1,by omega,by omega,by first|rfl|go_num,E.out,h.out _⟩
    ·rw[Az h3]at he;rw[Aa h3]at hs;have hr:R=k:=(by rw[HS.out,hs];omega);subst hr;clear hs HS h3 HQ;go_wp2_with fail;go_quiet (fail);go_wp2_with fail;go_ret;exact⟨rfl,h.out _⟩
   ·have g2:decide ((b.length:Int)<=(k:Int))=true:=(by simp;omega);have j:decide (b.length<=k)=true:=(by simp;omega);have hr:R=k:=(by rw[HS.out,J9 (.inr (by omega))];omega);subst hr;clear HS HQ;go_wp2_with fail;go_quiet (fail);go_wp2_with fail;go_ret;exact⟨rfl,h.out _⟩
  ·have g1:decide ((k:Int)<(a.length:Int))=false:=(by simp;omega);have y:decide (k<a.length)=false:=(by simp;omega);have hr:R=k:=(by rw[HS.out,J9 (.inl (by omega))];omega);obtain rfl:a.length=k:=(by omega);subst hr;clear HS;go_wp2_with fail;go_ret;exact⟨rfl,HQ.out⟩
end Idx
namespace Ef
open Go.RowKit Mem Own Canon Toks
theorem Wr{q w:Nat}(h1:2 ^ w<=q)(h2:q<2*2 ^ w):Nat.log2 q=w:=by
 have hq:q≠0:=by have:=Ga w;omega
 have h3:=Kq hq;have h4:=X0 q;rw[En]at h4;rcases Nat.lt_trichotomy (Nat.log2 q) w with h|h|h
 ·exfalso;have:2 ^ (Nat.log2 q+1)<=2 ^ w:=Bu (by omega) h;rw[En]at this;omega
 ·exact h
 ·exfalso;have:2 ^ (w+1)<=2 ^ Nat.log2 q:=Bu (by omega) h;rw[En]at this;omega
theorem Y7(w:World)(q:Nat)(h1:1<=q)(hq:q<=1000000):
 Calls Tryz.prog 175 #[.int .i64 q] w fun e w'=>e= .returned (.tuple #[.int .i64 (Nat.log2 q:Nat), .int .i64 (2 ^ Nat.log2 q:Nat)])/\w'=w:=by
 have HE:Hid (∀k p:Nat,p=2 ^ k->p<=q->q<2*p->Nat.log2 q=k/\2 ^ Nat.log2 q=p):=fun k p hp ha hb=>by subst hp;have:=Wr ha hb;rw[this];exact⟨rfl,rfl⟩
 generalize Nat.log2 q=L at *;generalize 2 ^ L=PL at *;go_enter Tryz.func175,Tryz.ntmps175;go_wp2_with fail;go_loopw [4,5] (fun kv pv wr=>∃k p:Nat,k<p/\p<=q/\kv= .int .i64 k/\pv= .int .i64 p/\Hid (p=2 ^ k)/\wr=w) (fun _ pv _=>q-(intOf pv).toNat)
 case atStart=>exact⟨0,1,by omega,by omega,rfl,rfl,rfl,rfl⟩
 case round=>
  obtain⟨k,p,hk,hp,rfl,rfl,HP,rfl⟩:=hrel;have s1:IntKind.i64.wrap (2*(p:Int))=((2*p:Nat):Int):=by rw[Ak _ (by omega)];omega
  have s2:IntKind.i64.wrap ((k:Int)+1)=((k+1:Nat):Int):=by rw[Ak _ (by omega)];omega
  by_cases i:2*p<=q
  ·have g:decide (((2*p:Nat):Int)<=(q:Int))=true:=Aw (by omega);have g':decide (2*(p:Int)<=(q:Int))=true:=Aw (by omega);have h:Hid (2*p=2 ^ (k+1)):=(by show _=_;rw[HP.out,En];omega);have f1:k+1<2*p:=(by omega);have f2:p<2*p:=(by omega);generalize 2*p=p2 at *;clear HP;go_wp2_with fail;go_roundw
   case measure=>go_light;simp[intOf];omega
   case rel=>go_light;exact⟨k+1,p2,by omega,by omega,by first|rfl|go_num,by first|rfl|go_num,h.out,by first|rfl|trivial⟩
  ·have g:decide (((2*p:Nat):Int)<=(q:Int))=false:=Az (by omega);have g':decide (2*(p:Int)<=(q:Int))=false:=Az (by omega);obtain⟨e1,e2⟩:=HE.out k p HP.out hp (by omega);generalize 2*p=p2 at *;subst e1 e2;clear HE HP;go_wp2_with fail;go_ret2;exact⟨rfl,rfl⟩
theorem V3(w:World)(bound n:Nat)(h1:1<=n)(h2:n<=bound)(hb:bound<=1000000):
 Calls Tryz.prog 151 #[.int .i64 bound, .int .i64 n] w fun e w'=>e= .returned (.int .i64 (efW bound n:Nat))/\w'=w:=by
 have hq:1<=bound / n:=(Nat.one_le_div_iff (by omega)).2 h2;have h:bound / n<=bound:=GQ _ _;have D:=UT ((bound / n:Nat):Int) w (by omega) (by omega);have hl:lg ((bound / n:Nat):Int)=(efW bound n:Nat):=rfl;rw[hl]at D;have i:efW bound n<=bound:=by unfold efW;have:=Nat.log2_le_self (bound / n);omega
 have j:¬(n:Int)=0:=by omega
 have y:((n:Int)==0)=false:=by simpa using (by omega:¬n=0)
 have u1:IntKind.u64.wrap ((bound / n:Nat):Int)=((bound / n:Nat):Int):=by rw[Br];omega
 have u2:IntKind.i64.wrap ((bound / n:Nat):Int)=((bound / n:Nat):Int):=Ak _ (by omega);have u3:IntKind.i64.wrap ((efW bound n:Int)+1-1)=((efW bound n:Nat):Int):=by rw[Ak _ (by omega)];omega
 have ud:Int.tdiv (bound:Int) (n:Int)=((bound / n:Nat):Int):=by rw[Int.tdiv_eq_ediv_of_nonneg (by omega)];rfl
 have DD:=hid D;clear D hl;go_enter Tryz.func151,Tryz.ntmps151;go_wp2_with fail;refine DD.out.mono ?_;rintro e w' ⟨rfl,rfl⟩;go_wp2_with fail;go_ret;exact⟨rfl,rfl⟩
end Ef
end Go.Proofs.YtbgoibedicbkjaaGreatDoor
