/- Plain: rising texts  -/
import Derived.Test.YtfgdoknipbpfhaaGreatDoorZTwoUnpacks10
import Derived.Test.YtfgdoknipbpfhaaGreatDoorZTwoUnpacks15
namespace Go.Proofs.YtfgdoknipbpfhaaGreatDoor
open Go.Proofs.Tryz
open Go.Lib (hid)
set_option maxHeartbeats 1000000
set_option maxRecDepth 100000
variable{k:Nat}
namespace Idx
open NumPut (tZ)
def natS(s:Str):List Nat:=s.map UInt8.toNat
def I1(s:Str):List Nat:=tZ s.length++natS s
def Bz:Str->Str->Nat
 |a :: s,b :: t=>if a=b then Bz s t+1 else 0
 |_,_=>0
theorem O1:∀a b,Bz a b<=a.length/\Bz a b<=b.length
 | [],b=>by simp[Bz]
 |a :: s,[]=>by simp[Bz]
 |a :: s,b :: t=>by have:=O1 s t;rw[Bz];split<;>simp<;>omega
def Hw:Str->List Str->List Nat
 |_,[]=> []
 |was,x :: t=>tZ (Bz was x)++I1 (x.drop (Bz was x))++Hw x t
def EO:List Str->List Nat
 | []=> []
 |x :: t=>I1 x++Hw x t
def Ki(size:Nat):Nat->List Str->List (List Str)
 |0,_=> []
 |f+1,l=>if l= []then []else l.take size :: Ki size f (l.drop size)
def L8(size:Nat)(l:List Str):List (List Str):=Ki size l.length l
def Fs(size:Nat)(l:List Str):List Nat:=
 tZ l.length++(L8 size l).flatMap (fun c=>tZ (EO c).length)++(L8 size l).flatMap EO
end Idx
namespace Idx
open Go.RowKit Mem Own Canon Sift
def BH(was s:Str):Bool:=decide (1<=s.length)&&(decide (s.length<=25)&&decide (was<s))
theorem N7(s:Str)(h:s≠ []):((bs s).toList==({data:=#[] }:ByteArray).toList)=false/\((bs s).toList== [])=false/\(bs s).toList.isEmpty=false/\¬(bs s).toList= []:=by
 have e:(bs s).toList=s:=by rw[Fw,Io]
 have e2:({data:=#[] }:ByteArray).toList= []:=by rw[Fw]
 rw[e,e2];cases s with
 |nil=>exact absurd rfl h
 |cons x t=>exact⟨rfl,rfl,rfl,mY⟩
theorem M7:((bs []).toList==({data:=#[] }:ByteArray).toList)=true/\((bs []).toList== [])=true/\(bs []).toList.isEmpty=true/\(bs []).toList= []:=by
 have e:(bs []).toList= []:=by rw[Fw,Io]
 have e2:({data:=#[] }:ByteArray).toList= []:=by rw[Fw]
 rw[e,e2];exact⟨rfl,rfl,rfl,rfl⟩
theorem Vs(P:Program)(t:TypeId)(a b:Str)(w:World):(binOp .gtr t (.string (bs a)) (.string (bs b))).run P w= .ok (.bool (decide (b<a))) w:=by
 have h:(binOp .gtr t (.string (bs a)) (.string (bs b))).run P w= .ok (.bool (!(Op.bytesLess (bs a).toList (bs b).toList || (bs a).toList==(bs b).toList))) w:=rfl;rw[h,LZ,str_eq];rcases Ja a b with h|h|h
 ·simp[h,LI h]
 ·subst h;simp[GS]
 ·have h1:¬a<b:=LI h;have h2:a≠b:=fun e=>GS b (by rw[e]at h;exact h);simp[h,h1,h2]
theorem O8(P:Program)(t:TypeId)(a b:Str)(w:World):(binOp .leq t (.string (bs a)) (.string (bs b))).run P w= .ok (.bool (!decide (b<a))) w:=by
 have h:(binOp .leq t (.string (bs a)) (.string (bs b))).run P w= .ok (.bool (Op.bytesLess (bs a).toList (bs b).toList || (bs a).toList==(bs b).toList)) w:=rfl;rw[h,LZ,str_eq];rcases Ja a b with h|h|h
 ·simp[h,LI h]
 ·subst h;simp[GS]
 ·have h1:¬a<b:=LI h;have h2:a≠b:=fun e=>GS b (by rw[e]at h;exact h);simp[h,h1,h2]
theorem OO(w:World)(h s:Str):Calls prog 230 #[.string (bs h), .string (bs s)] w fun e w'=>e= .returned (.bool (BH h s))/\w'=w:=by
 have hz:=CO s;by_cases h0:s= []
 ·subst h0;have hr:BH h []=false:=rfl;rw[hr];obtain⟨a1,a2,a3,a4⟩:=M7;go_enter func230,ntmps230;go_wp2_with fail;go_ret;exact⟨rfl,rfl⟩
 ·obtain⟨a1,a2,a3,a4⟩:=N7 s h0;have h1:1<=s.length:=Iu.2 h0;have hg:=fun wx=>Vs prog 9 s h wx;have hr:BH h s=(decide (s.length<=25)&&decide (h<s)):=by simp[BH,h1]
  rw[hr];generalize decide (h<s)=D at *;generalize bs s=S at *;generalize bs h=W at *;clear hr h0;by_cases h2:s.length<=25
  ·have z2:=iQ ((s.length:Int)<=25);have z3:decide (s.length<=25)=true:=nA;rw[z3];go_enter func230,ntmps230;go_wp2_with fail;go_ret;exact⟨mY,rfl⟩
  ·have z2:=iR ((s.length:Int)<=25);have z3:decide (s.length<=25)=false:=nA;rw[z3];go_enter func230,ntmps230;go_wp2_with fail;go_ret;exact⟨mY,rfl⟩
def Ff:Str->List Str->Bool
 |_,[]=>true
 |was,s :: t=>BH was s&&Ff s t
def Hc(l:List Str):Bool:=Ff [] l&&decide (l.length<=1048576)
theorem Y2{u t:Str}{l:List Str}(h:l[k]? =some t):Ff u (l.drop k)=(BH u t&&Ff t (l.drop (k+1))):=by obtain⟨hk,e⟩:=Ch.1 h;rw[CU hk,Ff,e]
theorem YP(w:World)(A:Option Addr)(n c:Nat)(ls:List Str)(hn:ls.length=n)(hN:n<=3000000000)(ha:Row w w A n 1 (Eo ls)):
 Calls prog 169 #[.slice A n c] w fun e w'=>e= .returned (.bool (Hc ls))/\w'=w:=by
 have HN:=hid hn;obtain⟨R,hR⟩:=iS (Hc ls);have HR:Hid (R=(Ff [] ls&&decide (n<=1048576))):=by show R=_;rw[hR,<-hn];rfl
 rw[<-hR];clear hn hR;go_enter func169,ntmps169;go_wp2_with fail;go_loopw [3,8] (fun uv iv wx=>∃ (k:Nat) (u:Str),k<=n/\iv= .int .i64 k/\uv= .string (bs u)/\Hid (Ff [] ls=Ff u (ls.drop k))/\wx=w) (fun _ iv _=>n-(intOf iv).toNat)
 case atStart=>exact⟨0,[],kR,rfl,rfl,rfl,rfl⟩
 case round=>
  obtain⟨k,u,hk,rfl,rfl,HS,rfl⟩:=hrel;by_cases j:k<n
  ·have gk:=iQ ((k:Int)<n);have y:=iQ (k<n);have x0:(0:Int)<=(k:Int):=kR;have x1:(k:Int)<(n:Int):=kR;obtain⟨b,E,t,rfl,_,ht,ck⟩:=Row.str ha HN.out j;have i:=Y2 (u:=u) ht;have D:=hid (OO wr u t);by_cases hm:BH u t=true
   ·rw[hm,Bool.true_and]at i;rw[hm]at D;have z:Hid (Ff [] ls=Ff t (ls.drop (k+1))):=HS.out.trans i;clear HS i hm ht;go_wp2_with(refine D.out.mono ?_;rintro e w' ⟨rfl,rfl⟩);go_roundw
    case measure=>exact jw
    case rel=>go_light;exact⟨k+1,t,kR,i5,rfl,z.out,i7⟩
   ·have hm:BH u t=false:=(by simpa using hm);rw[hm,IB]at i;rw[hm]at D;have hr:R=false:=(by rw[HR.out,HS.out,i];rfl);subst hr;clear HS i hm ht HR;go_wp2_with(refine D.out.mono ?_;rintro e w' ⟨rfl,rfl⟩);go_ret;exact⟨rfl,rfl⟩
  ·obtain rfl:k=n:=by omega
   have gk:=iR ((k:Int)<k);have y:=iR (k<k);have hr:R=decide (k<=1048576):=(by have h:=HS.out;rw[Cw lQ]at h;rw[HR.out,h];simp[Ff]);by_cases hz:k<=1048576
   ·have z1:=iQ ((k:Int)<=1048576);rw[Aw hz]at hr;subst hr;clear HS HR j;go_wp2_with fail;go_ret;exact⟨rfl,rfl⟩
   ·have z1:=iR ((k:Int)<=1048576);rw[Az hz]at hr;subst hr;clear HS HR j;go_wp2_with fail;go_ret;exact⟨rfl,rfl⟩
end Idx
namespace Ef
open Go.RowKit Mem Own Canon
def mayO(bound:Nat)(u:Option Nat)(x:Nat):Bool:=decide (x<bound)&&(match u with|none=>true|some y=>decide (y<x))
def Eg(bound:Nat):Option Nat->List Nat->Bool
 |_,[]=>true
 |u,x :: t=>mayO bound u x&&Eg bound (some x) t
end Ef
namespace Ef
open Huff (msb Og bytesOf)
theorem JP:∀ (bound:Nat) (l:List Nat) (u:Option Nat),Eg bound u l=true->∀x∈l,x<bound
 |bound,[],_,_,x,hx=>by cases hx
 |bound,y :: t,u,h,x,hx=>by
  rw[Eg,CV]at h;rcases BK.1 hx with rfl|hx
  ·have h1:=h.1;unfold mayO at h1;rw[CV,decide_eq_true_iff]at h1;exact h1.1
  ·exact JP bound t (some y) h.2 x hx
theorem Nk:∀ (bound:Nat) (l:List Nat) (u:Option Nat),(∀x∈l,x<bound)->l.Pairwise (·< ·)->(∀y,u=some y->∀x∈l,y<x)->Eg bound u l=true
 |_,[],_,_,_,_=>rfl
 |bound,x :: t,u,h1,h2,h3=>by
  rw[Eg,CV];rw[Ir]at h2;refine⟨?_,Nk bound t (some x) (fun y hy=>h1 y (Fv _ hy)) h2.2 (fun y hy z hz=>by injection hy with hy;rw[<-hy];exact h2.1 z hz)⟩;unfold mayO;rw[CV];refine⟨Aw (h1 x Fu),?_⟩;cases u with
  |none=>rfl
  |some y=>exact Aw (h3 y rfl x Fu)
theorem Ky(w:Nat):∀l:List Nat,(Kw w l).length=l.length*w
 | []=>by simp[Kw]
 |x :: t=>by have h:=Ky w t;unfold Kw at h ⊢;rw[Iw,Aj,h,Og,Bu,Fc];omega
end Ef
namespace Idx
open Go.RowKit Mem Own Canon Sift
theorem Ov{a b:Str}(ha:k<a.length)(hb:k<b.length):Bz (a.drop k) (b.drop k)=if a[k]=b[k]then Bz (a.drop (k+1)) (b.drop (k+1))+1 else 0:=by rw[CU ha,CU hb,Bz]
theorem Ln{a b:Str}(h:a.length<=k∨b.length<=k):Bz (a.drop k) (b.drop k)=0:=by
 rcases h with h|h
 ·rw[Cw h];cases b.drop k<;>rfl
 ·rw[Cw h];cases a.drop k<;>rfl
theorem OW{a b:Str}(ha:k<(bs a).size)(hb:k<(bs b).size)(i:k<a.length)(j:k<b.length):((((bs a)[k]'ha).toNat:Int)==(((bs b)[k]'hb).toNat:Int))=decide (a[k]'i=b[k]'j):=by
 have e1:(bs a)[k]'ha=a[k]'i:=Lv a k ha;have e2:(bs b)[k]'hb=b[k]'j:=Lv b k hb;rw[e1,e2];refine I9.2 ?_;rw[beq_iff_eq,decide_eq_true_iff];constructor
 ·intro h;exact UInt8.toNat_inj.1 kR
 ·intro h;rw[h]
theorem Um(w:World)(a b:Str)(M:a.length<=1000000)(N:b.length<=1000000):
 Calls prog 232 #[.string (bs a), .string (bs b)] w fun e w'=>e= .returned (.int .i64 (Bz a b:Nat))/\∃q,w'=w.drewN q:=by
 have y:=CO a;have i:=CO b;obtain⟨R,hR⟩:=iS (Bz a b);have H0:Hid (R=0+Bz (a.drop 0) (b.drop 0)):=by show R=_;rw[hR,Hk,Hk,BF]
 rw[<-hR];clear hR;go_enter func232,ntmps232;go_wp2_with fail;go_loopw [5] (fun iv wx=>∃k:Nat,k<=a.length/\k<=b.length/\iv= .int .i64 k/\Hid (R=k+Bz (a.drop k) (b.drop k))/\Hid (∃q,wx=w.drewN q)) (fun iv _=>a.length-(intOf iv).toNat)
 case atStart=>exact⟨0,kR,kR,rfl,H0.out,0,rfl⟩
 case round=>
  obtain⟨k,G,J,rfl,HS,HQ⟩:=hrel;have h:Hid (∀nq,∃q,wr.drewN nq=w.drewN q):=fun nq=>kO
  have x0:(0:Int)<=(k:Int):=kR
  by_cases h1:k<a.length
  ·have g1:=iQ ((k:Int)<a.length);have j:=iQ (k<a.length);have x1:(k:Int)<((bs a).size:Int):=kR;have L:(k:Int)<(a.length:Int):=kR;by_cases h2:k<b.length
   ·have g2:=iQ ((k:Int)<b.length);have E:=iQ (k<b.length);have x2:(k:Int)<((bs b).size:Int):=kR;have Q:(k:Int)<(b.length:Int):=kR;have he:=OW (by rw[y];exact h1) (by rw[i];exact h2) h1 h2;have hs:=Ov h1 h2;by_cases h3:a[k]=b[k]
    ·rw[Aw h3]at he;rw[Ab h3]at hs;have z:Hid (R=(k+1)+Bz (a.drop (k+1)) (b.drop (k+1))):=(by show R=_;rw[HS.out,hs];omega);clear hs HS h3 HQ;go_wp2_with fail;go_quiet (fail);go_wp2_with fail;go_roundw
     case measure=>exact jw
     case rel=>exact jm
    ·rw[Az h3]at he;rw[Aa h3]at hs;have hr:R=k:=(by rw[HS.out,hs];omega);subst hr;clear hs HS h3 HQ;go_wp2_with fail;go_quiet (fail);go_wp2_with fail;go_ret;exact⟨rfl,h.out _⟩
   ·have g2:=iR ((k:Int)<b.length);have E:=iR (k<b.length);have hr:R=k:=(by rw[HS.out,Ln (.inr kR)];omega);subst hr;clear HS HQ;go_wp2_with fail;go_quiet (fail);go_wp2_with fail;go_ret;exact⟨rfl,h.out _⟩
  ·have g1:=iR ((k:Int)<a.length);have j:=iR (k<a.length);have hr:R=k:=(by rw[HS.out,Ln (.inl kR)];omega);subst hr;clear HS HQ;go_wp2_with fail;go_quiet (fail);go_wp2_with fail;go_ret;exact⟨rfl,h.out _⟩
theorem T7(w:World)(a b:Str)(M:a.length<=1000000)(N:b.length<=1000000):
 Calls prog 132 #[.string (bs a), .string (bs b)] w fun e w'=>e= .returned (.int .i64 (Bz a b:Nat))/\∃q,w'=w.drewN q:=by
 have y:=CO a;have i:=CO b;obtain⟨R,hR⟩:=iS (Bz a b);have H0:Hid (R=0+Bz (a.drop 0) (b.drop 0)):=by show R=_;rw[hR,Hk,Hk,BF]
 rw[<-hR];clear hR;go_enter func132,ntmps132;go_wp2_with fail;go_loopw [5] (fun iv wx=>∃k:Nat,k<=a.length/\k<=b.length/\iv= .int .i64 k/\Hid (R=k+Bz (a.drop k) (b.drop k))/\Hid (∃q,wx=w.drewN q)) (fun iv _=>a.length-(intOf iv).toNat)
 case atStart=>exact⟨0,kR,kR,rfl,H0.out,0,rfl⟩
 case round=>
  obtain⟨k,G,J,rfl,HS,HQ⟩:=hrel;have h:Hid (∀nq,∃q,wr.drewN nq=w.drewN q):=fun nq=>kO
  have x0:(0:Int)<=(k:Int):=kR
  by_cases h1:k<a.length
  ·have g1:=iQ ((k:Int)<a.length);have j:=iQ (k<a.length);have x1:(k:Int)<((bs a).size:Int):=kR;have L:(k:Int)<(a.length:Int):=kR;by_cases h2:k<b.length
   ·have g2:=iR ((b.length:Int)<=k);have E:=iR (b.length<=k);have x2:(k:Int)<((bs b).size:Int):=kR;have Q:(k:Int)<(b.length:Int):=kR;have he:=OW (by rw[y];exact h1) (by rw[i];exact h2) h1 h2;have hs:=Ov h1 h2;by_cases h3:a[k]=b[k]
    ·rw[Aw h3]at he;rw[Ab h3]at hs;have z:Hid (R=(k+1)+Bz (a.drop (k+1)) (b.drop (k+1))):=(by show R=_;rw[HS.out,hs];omega);clear hs HS h3 HQ;go_wp2_with fail;go_quiet (fail);go_wp2_with fail;go_roundw
     case measure=>exact jw
     case rel=>exact jm
    ·rw[Az h3]at he;rw[Aa h3]at hs;have hr:R=k:=(by rw[HS.out,hs];omega);subst hr;clear hs HS h3 HQ;go_wp2_with fail;go_quiet (fail);go_wp2_with fail;go_ret;exact⟨rfl,h.out _⟩
   ·have g2:=iQ ((b.length:Int)<=k);have E:=iQ (b.length<=k);have hr:R=k:=(by rw[HS.out,Ln (.inr kR)];omega);subst hr;clear HS HQ;go_wp2_with fail;go_quiet (fail);go_wp2_with fail;go_ret;exact⟨rfl,h.out _⟩
  ·have g1:=iR ((k:Int)<a.length);have j:=iR (k<a.length);have hr:R=k:=(by rw[HS.out,Ln (.inl kR)];omega);obtain rfl:a.length=k:=kR;subst hr;clear HS;go_wp2_with fail;go_ret;exact⟨rfl,HQ.out⟩
end Idx
namespace Ef
open Go.RowKit Mem Own Canon Toks
theorem Vd{q w:Nat}(h1:2 ^ w<=q)(h2:q<2*2 ^ w):Nat.log2 q=w:=by
 have hq:q≠0:=by have:=GE w;omega
 have h3:=Mb hq;have h4:=WH q;rw[ER]at h4;rcases Nat.lt_trichotomy (Nat.log2 q) w with h|h|h
 ·exfalso;have:2 ^ (Nat.log2 q+1)<=2 ^ w:=BQ kR h;rw[ER]at this;omega
 ·exact h
 ·exfalso;have:2 ^ (w+1)<=2 ^ Nat.log2 q:=BQ kR h;rw[ER]at this;omega
theorem TP(w:World)(q:Nat)(h1:1<=q)(hq:q<=1000000):
 Calls prog 133 #[q] w fun e w'=>e= .returned (.tuple #[.int .i64 (Nat.log2 q:Nat), .int .i64 (2 ^ Nat.log2 q:Nat)])/\w'=w:=by
 have HE:Hid (∀k p:Nat,p=2 ^ k->p<=q->q<2*p->Nat.log2 q=k/\2 ^ Nat.log2 q=p):=fun k p hp ha hb=>by subst hp;have:=Vd ha hb;rw[this];exact⟨rfl,rfl⟩
 generalize Nat.log2 q=L at *;generalize 2 ^ L=PL at *;go_enter func133,ntmps133;go_wp2_with fail;go_loopw [4,5] (fun kv pv wr=>∃k p:Nat,k<p/\p<=q/\kv= .int .i64 k/\pv= .int .i64 p/\Hid (p=2 ^ k)/\wr=w) (fun _ pv _=>q-(intOf pv).toNat)
 case atStart=>exact⟨0,1,kR,kR,rfl,rfl,rfl,rfl⟩
 case round=>
  obtain⟨k,p,hk,hp,rfl,rfl,HP,rfl⟩:=hrel;have s1:IntKind.i64.wrap (2*(p:Int))=((2*p:Nat):Int):=lD
  have s2:IntKind.i64.wrap ((k:Int)+1)=((k+1:Nat):Int):=lD
  by_cases i:2*p<=q
  ·have g:decide (((2*p:Nat):Int)<=(q:Int))=true:=Aw kR;have g':decide (2*(p:Int)<=(q:Int))=true:=Aw kR;have h:Hid (2*p=2 ^ (k+1)):=(by show _=_;rw[HP.out,ER];omega);have f1:k+1<2*p:=kR;have f2:p<2*p:=kR;generalize 2*p=p2 at *;clear HP;go_wp2_with fail;go_roundw
   case measure=>exact jw
   case rel=>go_light;exact⟨k+1,p2,kR,kR,i5,i5,h.out,i7⟩
  ·have g:decide (((2*p:Nat):Int)<=(q:Int))=false:=Az kR;have g':decide (2*(p:Int)<=(q:Int))=false:=Az kR;obtain⟨e1,e2⟩:=HE.out k p HP.out hp kR;generalize 2*p=p2 at *;subst e1 e2;clear HE HP;go_wp2_with fail;go_ret2;exact⟨rfl,rfl⟩
theorem Xa(w:World)(bound n:Nat)(h1:1<=n)(h2:n<=bound)(hb:bound<=1000000):
 Calls prog 173 #[bound,n] w fun e w'=>e= .returned (.int .i64 (efW bound n:Nat))/\w'=w:=by
 have hq:1<=bound / n:=(Nat.one_le_div_iff kR).2 h2;have y:bound / n<=bound:=Hh _ _;have D:=T1 ((bound / n:Nat):Int) w kR kR;have hl:lg ((bound / n:Nat):Int)=(efW bound n:Nat):=rfl;rw[hl]at D;have i:efW bound n<=bound:=by unfold efW;have:=Nat.log2_le_self (bound / n);omega
 have h:¬(n:Int)=0:=kR
 have j:((n:Int)==0)=false:=by simpa using (by omega:¬n=0)
 have u1:IntKind.u64.wrap ((bound / n:Nat):Int)=((bound / n:Nat):Int):=lG
 have u2:IntKind.i64.wrap ((bound / n:Nat):Int)=((bound / n:Nat):Int):=Am _ kR;have u3:IntKind.i64.wrap ((efW bound n:Int)+1-1)=((efW bound n:Nat):Int):=lD
 have ud:Int.tdiv (bound:Int) (n:Int)=((bound / n:Nat):Int):=by rw[Int.tdiv_eq_ediv_of_nonneg kR];rfl
 have DD:=hid D;clear D hl;go_enter func173,ntmps173;go_wp2_with fail;refine DD.out.mono ?_;rintro e w' ⟨rfl,rfl⟩;go_wp2_with fail;go_ret;exact⟨rfl,rfl⟩
end Ef
end Go.Proofs.YtfgdoknipbpfhaaGreatDoor
