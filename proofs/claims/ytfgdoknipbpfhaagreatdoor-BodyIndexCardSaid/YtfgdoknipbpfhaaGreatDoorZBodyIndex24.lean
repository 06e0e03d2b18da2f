/- Plain: rising texts  -/
import Derived.Test.YtfgdoknipbpfhaaGreatDoorZBodyIndex11
import Derived.Test.YtfgdoknipbpfhaaGreatDoorZBodyIndex23
namespace Go.Proofs.YtfgdoknipbpfhaaGreatDoor
open Go.Proofs.Tryz
open Go.Lib (hid)
set_option maxHeartbeats 1000000
set_option maxRecDepth 100000
variable{j k x:Nat}{ls:List Nat}
namespace Idx
open NumPut (gZ)
def H3(s:Str):List Nat:=s.map UInt8.toNat
def Dt(s:Str):List Nat:=gZ s.length++H3 s
def Bl:Str->Str->Nat
 |a :: s,b :: t=>if a=b then Bl s t+1 else 0
 |_,_=>0
theorem Lx:∀a b,Bl a b<=a.length/\Bl a b<=b.length
 | [],b=>by simp[Bl]
 |a :: s,[]=>by simp[Bl]
 |a :: s,b :: t=>by have:=Lx s t;rw[Bl];split<;>simp<;>omega
def EF:Str->List Str->List Nat
 |_,[]=> []
 |was,x :: t=>gZ (Bl was x)++Dt (x.drop (Bl was x))++EF x t
def vZ:List Str->List Nat
 | []=> []
 |x :: t=>Dt x++EF x t
theorem Vj:∀ (t:List Str) (h x:Str),EF h (t++ [x])=EF h t++(gZ (Bl (t.getLast?.getD h) x)++Dt (x.drop (Bl (t.getLast?.getD h) x)))
 | [],h,x=>by simp[EF]
 |y :: t,h,x=>by
  rw[En,EF,Vj t y x,EF]
  have e:((y :: t).getLast?.getD h)=t.getLast?.getD y:=by
   cases t with
   |nil=>rfl
   |cons z s=>simp[List.getLast?_cons]
  rw[e];simp only[List.append_assoc]
theorem WR{l:List Str}(h:l≠ [])(x i:Str)(hw:l.getLast?=some i):vZ (l++ [x])=vZ l++(gZ (Bl i x)++Dt (x.drop (Bl i x))):=by
 cases l with
 |nil=>exact absurd rfl h
 |cons y t=>
  rw[En,vZ,Vj,vZ]
  have e:t.getLast?.getD y=i:=by
   cases t with
   |nil=>simpa using hw
   |cons z s=>simp[List.getLast?_cons]at hw ⊢;exact hw
  rw[e,AK]
def Ee(size:Nat):Nat->List Str->List (List Str)
 |0,_=> []
 |f+1,l=>if l= []then []else l.take size :: Ee size f (l.drop size)
def GR(size:Nat)(l:List Str):List (List Str):=Ee size l.length l
def CO(size:Nat)(l:List Str):List Nat:=
 gZ l.length++(GR size l).flatMap (fun c=>gZ (vZ c).length)++(GR size l).flatMap vZ
end Idx
namespace Idx
open Go.RowKit Mem Own Canon Sift
def Dh(was s:Str):Bool:=decide (1<=s.length)&&(decide (s.length<=25)&&decide (was<s))
theorem QA(s:Str)(h:s≠ []):((bs s).toList==({data:=#[] }:ByteArray).toList)=false/\((bs s).toList== [])=false/\(bs s).toList.isEmpty=false/\¬(bs s).toList= []:=by
 have e:(bs s).toList=s:=by rw[GZ,IB]
 have e2:({data:=#[] }:ByteArray).toList= []:=by rw[GZ]
 rw[e,e2];cases s with
 |nil=>exact absurd rfl h
 |cons x t=>exact⟨rfl,rfl,rfl,pR⟩
theorem Tj:((bs []).toList==({data:=#[] }:ByteArray).toList)=true/\((bs []).toList== [])=true/\(bs []).toList.isEmpty=true/\(bs []).toList= []:=by
 have e:(bs []).toList= []:=by rw[GZ,IB]
 have e2:({data:=#[] }:ByteArray).toList= []:=by rw[GZ]
 rw[e,e2];exact⟨rfl,rfl,rfl,rfl⟩
theorem dI(P:Program)(t:TypeId)(a b:Str)(w:World):(binOp .gtr t (.string (bs a)) (.string (bs b))).run P w= .ok (.bool (decide (b<a))) w:=by
 have h:(binOp .gtr t (.string (bs a)) (.string (bs b))).run P w= .ok (.bool (!(Op.bytesLess (bs a).toList (bs b).toList || (bs a).toList==(bs b).toList))) w:=rfl;rw[h,Nu,str_eq];rcases J8 a b with h|h|h
 ·simp[h,LW h]
 ·subst h;simp[Hg]
 ·have h1:¬a<b:=LW h;have h2:a≠b:=fun e=>Hg b (by rw[e]at h;exact h);simp[h,h1,h2]
theorem bP(P:Program)(t:TypeId)(a b:Str)(w:World):(binOp .leq t (.string (bs a)) (.string (bs b))).run P w= .ok (.bool (!decide (b<a))) w:=by
 have h:(binOp .leq t (.string (bs a)) (.string (bs b))).run P w= .ok (.bool (Op.bytesLess (bs a).toList (bs b).toList || (bs a).toList==(bs b).toList)) w:=rfl;rw[h,Nu,str_eq];rcases J8 a b with h|h|h
 ·simp[h,LW h]
 ·subst h;simp[Hg]
 ·have h1:¬a<b:=LW h;have h2:a≠b:=fun e=>Hg b (by rw[e]at h;exact h);simp[h,h1,h2]
theorem Rw(w:World)(h s:Str):Calls prog 230 #[.string (bs h), .string (bs s)] w fun e w'=>e= .returned (.bool (Dh h s))/\w'=w:=by
 have hz:=Dr s;by_cases h0:s= []
 ·subst h0;have hr:Dh h []=false:=rfl;rw[hr];obtain⟨a1,a2,a3,a4⟩:=Tj;go_enter func230,ntmps230;go_wp2_with fail;go_ret;exact⟨rfl,rfl⟩
 ·obtain⟨a1,a2,a3,a4⟩:=QA s h0;have h1:1<=s.length:=FW.2 h0;have hg:=fun wx=>dI prog 9 s h wx;have hr:Dh h s=(decide (s.length<=25)&&decide (h<s)):=by simp[Dh,h1]
  rw[hr];generalize decide (h<s)=D at *;generalize bs s=S at *;generalize bs h=W at *;clear hr h0;by_cases h2:s.length<=25
  ·have z2:=ja ((s.length:Int)<=25);have z3:decide (s.length<=25)=true:=qi;rw[z3];go_enter func230,ntmps230;go_wp2_with fail;go_ret;exact⟨pR,rfl⟩
  ·have z2:=jb ((s.length:Int)<=25);have z3:decide (s.length<=25)=false:=qi;rw[z3];go_enter func230,ntmps230;go_wp2_with fail;go_ret;exact⟨pR,rfl⟩
def Cv:Str->List Str->Bool
 |_,[]=>true
 |was,s :: t=>Dh was s&&Cv s t
def EC(l:List Str):Bool:=Cv [] l&&decide (l.length<=1048576)
theorem Qu{u t:Str}{l:List Str}(h:l[k]? =some t):Cv u (l.drop k)=(Dh u t&&Cv t (l.drop (k+1))):=by obtain⟨hk,e⟩:=BS.1 h;rw[Dx hk,Cv,e]
theorem ZG(w:World)(A:Option Addr)(n c:Nat)(ls:List Str)(hn:ls.length=n)(hN:n<=3000000000)(ha:Row w w A n 1 (Ei ls)):
 Calls prog 169 #[.slice A n c] w fun e w'=>e= .returned (.bool (EC ls))/\w'=w:=by
 have HN:=hid hn;obtain⟨R,hR⟩:=jc (EC ls);have HR:Hid (R=(Cv [] ls&&decide (n<=1048576))):=by show R=_;rw[hR,<-hn];rfl
 rw[<-hR];clear hn hR;go_enter func169,ntmps169;go_wp2_with fail;go_loopw [3,8] (fun uv iv wx=>∃ (k:Nat) (u:Str),k<=n/\iv= .int .i64 k/\uv= .string (bs u)/\Hid (Cv [] ls=Cv u (ls.drop k))/\wx=w) (fun _ iv _=>n-(intOf iv).toNat)
 case atStart=>exact⟨0,[],nB,rfl,rfl,rfl,rfl⟩
 case round=>
  obtain⟨k,u,hk,rfl,rfl,HS,rfl⟩:=hrel;by_cases j:k<n
  ·have gk:=ja ((k:Int)<n);have E:=ja (k<n);have x0:(0:Int)<=(k:Int):=nB;have x1:(k:Int)<(n:Int):=nB;obtain⟨b,J,t,rfl,_,ht,ck⟩:=Row.str ha HN.out j;have i:=Qu (u:=u) ht;have D:=hid (Rw wr u t);by_cases hm:Dh u t=true
   ·rw[hm,Bool.true_and]at i;rw[hm]at D;have G:Hid (Cv [] ls=Cv t (ls.drop (k+1))):=HS.out.trans i;clear HS i hm ht;go_wp2_with(refine D.out.mono ?_;rintro e w' ⟨rfl,rfl⟩);go_roundw
    case measure=>exact ld
    case rel=>go_light;exact⟨k+1,t,nB,jk,rfl,G.out,jm⟩
   ·have hm:Dh u t=false:=(by simpa using hm);rw[hm,G0]at i;rw[hm]at D;have hr:R=false:=(by rw[HR.out,HS.out,i];rfl);subst hr;clear HS i hm ht HR;go_wp2_with(refine D.out.mono ?_;rintro e w' ⟨rfl,rfl⟩);go_ret;exact⟨rfl,rfl⟩
  ·obtain rfl:k=n:=by omega
   have gk:=jb ((k:Int)<k);have E:=jb (k<k);have hr:R=decide (k<=1048576):=(by have h:=HS.out;rw[CF oz]at h;rw[HR.out,h];simp[Cv]);by_cases hz:k<=1048576
   ·have z1:=ja ((k:Int)<=1048576);rw[AQ hz]at hr;subst hr;clear HS HR j;go_wp2_with fail;go_ret;exact⟨rfl,rfl⟩
   ·have z1:=jb ((k:Int)<=1048576);rw[AV hz]at hr;subst hr;clear HS HR j;go_wp2_with fail;go_ret;exact⟨rfl,rfl⟩
theorem U6(w:World)(A:Option Addr)(n c:Nat)(ls:List Str)(hn:ls.length=n)(hN:n<=3000000000)(ha:Row w w A n 1 (Ei ls)):
 Calls prog 129 #[.slice A n c] w fun e w'=>e= .returned (.bool (EC ls))/\∃q,w'=w.drewN q:=by
 have HN:=hid hn;obtain⟨R,hR⟩:=jc (EC ls);have HR:Hid (R=(Cv [] ls&&decide (n<=1048576))):=by show R=_;rw[hR,<-hn];rfl
 rw[<-hR];clear hn hR;by_cases hz:n<=1048576
 ·have z1:=jb ((1048576:Int)<n)
  have ae:=jb (1048576<n)
  have j:Hid (R=Cv [] ls):=by show R=_;rw[HR.out,AQ hz,Bool.and_true]
  clear HR;go_enter func129,ntmps129;go_wp2_with fail;go_loopw [3] (fun iv wx=>∃k:Nat,k<=n/\iv= .int .i64 k/\Hid (Cv [] ls=Cv (if k=0 then []else ls.getD (k-1) []) (ls.drop k))/\Hid (∃q,wx=w.drewN q)) (fun iv _=>n-(intOf iv).toNat)
  case atStart=>exact⟨0,nB,rfl,rfl,0,rfl⟩
  case round=>
   obtain⟨k,hk,rfl,HS,HQ⟩:=hrel;by_cases Y:k<n
   ·have gk:=ja ((k:Int)<n);have ac:=ja (k<n);have x0:(0:Int)<=(k:Int):=nB;have x1:(k:Int)<(n:Int):=nB;have Z:Row wr w A n 1 (Ei ls):=nw;obtain⟨b,ag,t,rfl,_,ht,ck⟩:=Row.str Z HN.out Y;have i:=Qu (u:=if k=0 then []else ls.getD (k-1) []) ht;have ak:=Dr t;have J:Hid (∀nq,∃q,wr.drewN nq=w.drewN q):=fun nq=>by obtain⟨q,hq⟩:=HQ.out;exact⟨_,ph⟩
    by_cases h1:1<=t.length/\t.length<=25
    ·have y1:=jb ((t.length:Int)<1);have y2:=jb ((25:Int)<t.length);have ab:=jb (25<t.length);by_cases h0:k=0
     ·have g0:=jb ((0:Int)<k);have aa:=jb (0<k)
      have hm:Dh [] t=true:=by
       have h2:([]:Str)<t:=by
        cases t with
        |nil=>simp at h1
        |cons a u=>exact List.Lex.nil
       simp[Dh,h1,h2]
      rw[Ag h0,hm,Bool.true_and]at i;have G:Hid (Cv [] ls=Cv (if k+1=0 then []else ls.getD (k+1-1) []) (ls.drop (k+1))):=(by have h:=HS.out;rw[Ag h0,i]at h;show _=_;rw[Ae nB,Nat.add_sub_cancel,show ls.getD k []=t by rw[Aq,ht];rfl];exact h);clear HS i hm ht h1 HQ h0;go_wp2_with fail;go_quiet (fail);go_wp2_with fail;go_roundw
      case measure=>exact ld
      case rel=>go_light;exact⟨k+1,nB,jk,G.out,J.out _⟩
     ·obtain⟨k1,Q⟩:∃k1,k=k1+1:=⟨k-1,nB⟩;obtain⟨p,hp⟩:∃p,ls[k1]? =some p:=⟨_,AD mR⟩;have aj:wr.cell? ⟨b,ag+k1,none⟩=some (.string (bs p)):=(by obtain⟨b',ah,p',hA,_,L,d⟩:=Row.str Z HN.out (k:=k1) nB;injection hA with hA;injection hA with e1 e2;subst e1 e2;rw[hp]at L;injection L with L;subst L;exact d);have N:ls.getD (k-1) []=p:=(by rw[Q,Nat.add_sub_cancel,Aq,hp];rfl);have s3:IntKind.i64.wrap ((k:Int)-1)=(k1:Int):=nX;have x2:(0:Int)<=(k1:Int):=nB;have x3:(k1:Int)<(n:Int):=nB;have g0:=ja ((0:Int)<k);have aa:=ja (0<k);have ai:=fun wx=>bP prog 9 t p wx;rw[Ae h0,N]at i;have U:Dh p t=decide (p<t):=(by simp[Dh,h1]);rw[U]at i;have E:=HS.out;rw[Ae h0,N,i]at E;have G:Hid (decide (p<t)=true->Cv [] ls=Cv (if k+1=0 then []else ls.getD (k+1-1) []) (ls.drop (k+1))):=fun hd=>by rw[hd,Bool.true_and]at E;rw[Ae nB,Nat.add_sub_cancel,show ls.getD k []=t by rw[Aq,ht];rfl];exact E
      have M:Hid (decide (p<t)=false->R=false):=fun hd=>by rw[hd,G0]at E;rw[j.out,E]
      generalize decide (p<t)=D at *;clear i U E HS N hp ht h1 HQ Q h0;cases D with
      |true=>
       have af:=hid (G.out rfl);clear G M;go_wp2_with fail;go_quiet (fail);go_wp2_with fail;go_roundw
       case measure=>exact ld
       case rel=>go_light;exact⟨k+1,nB,jk,af.out,J.out _⟩
      |false=>obtain rfl:=M.out rfl;clear G M j;go_wp2_with fail;go_quiet (fail);go_wp2_with fail;go_ret;exact⟨rfl,J.out _⟩
    ·have hm:∀u,Dh u t=false:=fun u=>by rw[IF];intro h;simp[Dh]at h;omega
     rw[hm,G0]at i;have hr:R=false:=(by rw[j.out,HS.out,i]);subst hr;by_cases h2:1<=t.length
     ·have y1:=jb ((t.length:Int)<1);have y2:=ja ((25:Int)<t.length);have ab:=ja (25<t.length);clear HS i hm ht h1 h2 j HQ;go_wp2_with fail;go_quiet (fail);go_wp2_with fail;go_ret;exact⟨rfl,J.out _⟩
     ·have y1:=ja ((t.length:Int)<1);clear HS i hm ht h1 h2 j HQ;go_wp2_with fail;go_quiet (fail);go_wp2_with fail;go_ret;exact⟨rfl,J.out _⟩
   ·obtain rfl:k=n:=by omega
    have gk:=jb ((k:Int)<k);have ac:=jb (k<k);have hr:R=true:=(by have h:=HS.out;rw[CF oz,Cv]at h;rw[j.out,h]);subst hr;clear HS j Y;go_wp2_with fail;go_ret;exact⟨rfl,HQ.out⟩
 ·have z1:=ja ((1048576:Int)<n)
  have ae:=ja (1048576<n)
  have hr:R=false:=by rw[HR.out,AV hz,Bool.and_false]
  subst hr;clear HR;go_enter func129,ntmps129;go_wp2_with fail;go_ret;exact⟨rfl,0,rfl⟩
end Idx
namespace Ef
open Go.RowKit Mem Own Canon
def Gw(bound:Nat)(u:Option Nat)(x:Nat):Bool:=decide (x<bound)&&(match u with|none=>true|some y=>decide (y<x))
def Cd(bound:Nat):Option Nat->List Nat->Bool
 |_,[]=>true
 |u,x :: t=>Gw bound u x&&Cd bound (some x) t
theorem ZU{bound:Nat}{u:Option Nat}{l:List Nat}(h:l[k]? =some x):Cd bound u (l.drop k)=(Gw bound u x&&Cd bound (some x) (l.drop (k+1))):=by obtain⟨hk,e⟩:=BS.1 h;rw[Dx hk,Cd,e]
theorem OA(w:World)(bound:Nat)(A:Option Addr)(n c:Nat)(ls:List Nat)(hn:ls.length=n)(hN:n<=3000000000)(ha:Row w w A n 1 (kZ .i64 ls)):
 Calls prog 130 #[bound, .slice A n c] w fun e w'=>e= .returned (.bool (Cd bound none ls))/\∃q,w'=w.drewN q:=by
 have HN:=hid hn;obtain⟨R,hR⟩:=jc (Cd bound none ls);have HR:Hid (R=Cd bound none (ls.drop 0)):=hR;rw[<-hR];clear hn hR;go_enter func130,ntmps130;go_wp2_with fail;go_loopw [5] (fun iv wx=>∃k:Nat,k<=n/\iv= .int .i64 k/\Hid (R=Cd bound (if k=0 then none else some (ls.getD (k-1) 0)) (ls.drop k))/\Hid (∃q,wx=w.drewN q)) (fun iv _=>n-(intOf iv).toNat)
 case atStart=>exact⟨0,nB,rfl,HR.out,0,rfl⟩
 case round=>
  obtain⟨k,hk,rfl,HS,HQ⟩:=hrel;clear HR;by_cases U:k<n
  ·have gk:=ja ((k:Int)<n);have ac:=ja (k<n);have x0:(0:Int)<=(k:Int):=nB;have x1:(k:Int)<(n:Int):=nB;have Y:Row wr w A n 1 (kZ .i64 ls):=nw;obtain⟨b,ae,x,rfl,_,hx,ck⟩:=Dg Y HN.out U;have M:=ZU (bound:=bound) (u:=if k=0 then none else some (ls.getD (k-1) 0)) hx;have Q:ls.getD k 0=x:=(by rw[Aq,hx];rfl);have E:Hid (∀nq,∃q,wr.drewN nq=w.drewN q):=fun nq=>by obtain⟨q,hq⟩:=HQ.out;exact⟨_,ph⟩
   have y0:=jb ((x:Int)<0);have j:Hid (Gw bound (if k=0 then none else some (ls.getD (k-1) 0)) x=false->R=false):=fun hd=>by rw[HS.out,M,hd,G0]
   have h:Hid (Gw bound (if k=0 then none else some (ls.getD (k-1) 0)) x=true->R=Cd bound (if k+1=0 then none else some (ls.getD (k+1-1) 0)) (ls.drop (k+1))):=fun hd=>by rw[Ae nB,Nat.add_sub_cancel,Q,HS.out,M,hd,Bool.true_and]
   clear M Q HS;by_cases h2:x<bound
   ·have y2:decide ((bound:Int)<=(x:Int))=false:=AV nB;have ab:decide (bound<=x)=false:=AV nB;by_cases h0:k=0
    ·have g0:=jb ((0:Int)<k);have aa:=jb (0<k);have N:=hid (h.out (by rw[Ag h0];simp[Gw,h2]));clear h j hx HQ h0 h2;go_wp2_with fail;go_quiet (fail);go_wp2_with fail;go_roundw
     case measure=>exact ld
     case rel=>exact ki
    ·obtain⟨k1,J⟩:∃k1,k=k1+1:=⟨k-1,nB⟩;obtain⟨p,hp⟩:∃p,ls[k1]? =some p:=⟨_,AD mR⟩;have ag:wr.cell? ⟨b,ae+k1,none⟩=some (.int .i64 (p:Nat)):=(by obtain⟨b',af,p',hA,_,G,d⟩:=Dg Y HN.out (i:=k1) nB;injection hA with hA;injection hA with e1 e2;subst e1 e2;rw[hp]at G;injection G with G;subst G;exact d);have L:ls.getD (k-1) 0=p:=(by rw[J,Nat.add_sub_cancel,Aq,hp];rfl);rw[Ae h0,L]at h j;have s3:IntKind.i64.wrap ((k:Int)-1)=(k1:Int):=nX;have x2:(0:Int)<=(k1:Int):=nB;have x3:(k1:Int)<(n:Int):=nB;have g0:=ja ((0:Int)<k);have aa:=ja (0<k);by_cases h3:p<x
     ·have y3:decide ((x:Int)<=(p:Int))=false:=AV nB;have Z:decide (x<=p)=false:=AV nB;have N:=hid (h.out (by simp[Gw,h2,h3]));clear h j hx HQ h0 h2 h3 J hp L;go_wp2_with fail;go_quiet (fail);go_wp2_with fail;go_roundw
      case measure=>exact ld
      case rel=>exact ki
     ·have y3:decide ((x:Int)<=(p:Int))=true:=AQ nB;have Z:decide (x<=p)=true:=AQ nB;have hr:R=false:=j.out (by simp[Gw,h3]);subst hr;clear h j hx HQ h0 h2 h3 J hp L;go_wp2_with fail;go_quiet (fail);go_wp2_with fail;go_ret;exact⟨rfl,E.out _⟩
   ·have y2:decide ((bound:Int)<=(x:Int))=true:=AQ nB;have ab:decide (bound<=x)=true:=AQ nB;have hr:R=false:=j.out (by simp[Gw,h2]);subst hr;clear h j hx HQ h2;go_wp2_with fail;go_quiet (fail);go_wp2_with fail;go_ret;exact⟨rfl,E.out _⟩
  ·obtain rfl:k=n:=by omega
   have gk:=jb ((k:Int)<k);have ac:=jb (k<k);have hr:R=true:=(by rw[HS.out,CF oz];rfl);subst hr;clear HS U;go_wp2_with fail;go_ret;exact⟨rfl,HQ.out⟩
end Ef
namespace Ef
open Huff (msb uZ bytesOf)
theorem Ho:∀ (bound:Nat) (l:List Nat) (u:Option Nat),Cd bound u l=true->∀x∈l,x<bound
 |bound,[],_,_,x,hx=>by cases hx
 |bound,y :: t,u,h,x,hx=>by
  rw[Cd,Ch]at h;rcases BK.1 hx with rfl|hx
  ·have h1:=h.1;unfold Gw at h1;rw[Ch,decide_eq_true_iff]at h1;exact h1.1
  ·exact Ho bound t (some y) h.2 x hx
theorem ND:∀ (bound:Nat) (l:List Nat) (u:Option Nat),Cd bound u l=true->∀ (k x y:Nat),l[k]? =some x->l[k+1]? =some y->x<y
 |bound,[],_,_,k,x,y,hx,_=>pT
 |bound,a :: t,u,h,k,x,y,hx,hy=>by
  rw[Cd,Ch]at h;cases k with
  |zero=>
   simp only[List.getElem?_cons_zero,Option.some.injEq]at hx;subst hx;rw[List.getElem?_cons_succ]at hy;cases t with
   |nil=>simp at hy
   |cons b s=>simp only[List.getElem?_cons_zero,Option.some.injEq]at hy;subst hy;have h2:=h.2;rw[Cd,Ch]at h2;have h3:=h2.1;unfold Gw at h3;rw[Ch]at h3;simpa using h3.2
  |succ k=>rw[List.getElem?_cons_succ]at hx hy;exact ND bound t (some a) h.2 k x y hx hy
theorem P0:∀ (bound:Nat) (l:List Nat) (u:Option Nat),(∀x∈l,x<bound)->l.Pairwise (·< ·)->(∀y,u=some y->∀x∈l,y<x)->Cd bound u l=true
 |_,[],_,_,_,_=>rfl
 |bound,x :: t,u,h1,h2,h3=>by
  rw[Cd,Ch];rw[FN]at h2;refine⟨?_,P0 bound t (some x) (fun y hy=>h1 y (Cm _ hy)) h2.2 (fun y hy z hz=>by injection hy with hy;rw[<-hy];exact h2.1 z hz)⟩;unfold Gw;rw[Ch];refine⟨AQ (h1 x CP),?_⟩;cases u with
  |none=>rfl
  |some y=>exact AQ (h3 y rfl x CP)
theorem Ht(w:Nat):∀l:List Nat,(Dj w l).length=l.length*w
 | []=>by simp[Dj]
 |x :: t=>by have h:=Ht w t;unfold Dj at h ⊢;rw[Dm,Aj,h,uZ,AI,Ex];omega
theorem Yh(P:Nat){ls:List Nat}{j x:Nat}(hx:ls[j]? =some x)(hr:∀ (k x y:Nat),ls[k]? =some x->ls[k+1]? =some y->x<y):((ls.take j).map (·/ P)).getLast?.getD 0<=x / P:=by
 cases j with
 |zero=>simp
 |succ i=>obtain⟨hl,_⟩:=BS.1 hx;have hy:ls[i]? =some ls[i]:=AD nB;rw[Ca,hy];simp only[Option.toList_some,List.map_append,List.map_cons,List.map_nil,List.getLast?_append];exact Nat.div_le_div_right (Nat.le_of_lt (hr i _ _ hy hx))
theorem ZB(P:Nat)(hx:ls[j]? =some x):((ls.take (j+1)).map (·/ P)).getLast?.getD 0=x / P:=by rw[Ca,hx];simp
theorem Zm(P:Nat)(hx:ls[j]? =some x):Dz 0 ((ls.take (j+1)).map (·/ P))=Dz 0 ((ls.take j).map (·/ P))++unary (x / P-((ls.take j).map (·/ P)).getLast?.getD 0):=by rw[Ca,hx,Option.toList_some,DY,CE,Gm];exact Tv _ 0 (x / P)
end Ef
namespace Idx
open Go.RowKit Mem Own Canon Sift
theorem Qg{a b:Str}(ha:k<a.length)(hb:k<b.length):Bl (a.drop k) (b.drop k)=if a[k]=b[k]then Bl (a.drop (k+1)) (b.drop (k+1))+1 else 0:=by rw[Dx ha,Dx hb,Bl]
theorem L7{a b:Str}(h:a.length<=k∨b.length<=k):Bl (a.drop k) (b.drop k)=0:=by
 rcases h with h|h
 ·rw[CF h];cases b.drop k<;>rfl
 ·rw[CF h];cases a.drop k<;>rfl
theorem TJ{a b:Str}(ha:k<(bs a).size)(hb:k<(bs b).size)(i:k<a.length)(j:k<b.length):((((bs a)[k]'ha).toNat:Int)==(((bs b)[k]'hb).toNat:Int))=decide (a[k]'i=b[k]'j):=by
 have e1:(bs a)[k]'ha=a[k]'i:=My a k ha;have e2:(bs b)[k]'hb=b[k]'j:=My b k hb;rw[e1,e2];refine JI.2 ?_;rw[beq_iff_eq,decide_eq_true_iff];constructor
 ·intro h;exact UInt8.toNat_inj.1 nB
 ·intro h;rw[h]
theorem X7(w:World)(a b:Str)(L:a.length<=1000000)(N:b.length<=1000000):
 Calls prog 232 #[.string (bs a), .string (bs b)] w fun e w'=>e= .returned (.int .i64 (Bl a b:Nat))/\∃q,w'=w.drewN q:=by
 have G:=Dr a;have J:=Dr b;obtain⟨R,hR⟩:=jc (Bl a b);have H0:Hid (R=0+Bl (a.drop 0) (b.drop 0)):=by show R=_;rw[hR,Ie,Ie,B0]
 rw[<-hR];clear hR;go_enter func232,ntmps232;go_wp2_with fail;go_loopw [5] (fun iv wx=>∃k:Nat,k<=a.length/\k<=b.length/\iv= .int .i64 k/\Hid (R=k+Bl (a.drop k) (b.drop k))/\Hid (∃q,wx=w.drewN q)) (fun iv _=>a.length-(intOf iv).toNat)
 case atStart=>exact⟨0,nB,nB,rfl,H0.out,0,rfl⟩
 case round=>
  obtain⟨k,Y,U,rfl,HS,HQ⟩:=hrel;have h:Hid (∀nq,∃q,wr.drewN nq=w.drewN q):=fun nq=>nu
  have x0:(0:Int)<=(k:Int):=nB
  by_cases h1:k<a.length
  ·have g1:=ja ((k:Int)<a.length);have j:=ja (k<a.length);have x1:(k:Int)<((bs a).size:Int):=nB;have Q:(k:Int)<(a.length:Int):=nB;by_cases h2:k<b.length
   ·have g2:=ja ((k:Int)<b.length);have E:=ja (k<b.length);have x2:(k:Int)<((bs b).size:Int):=nB;have M:(k:Int)<(b.length:Int):=nB;have he:=TJ (by rw[G];exact h1) (by rw[J];exact h2) h1 h2;have hs:=Qg h1 h2;by_cases h3:a[k]=b[k]
    ·rw[AQ h3]at he;rw[Ag h3]at hs;have i:Hid (R=(k+1)+Bl (a.drop (k+1)) (b.drop (k+1))):=(by show R=_;rw[HS.out,hs];omega);clear hs HS h3 HQ;go_wp2_with fail;go_quiet (fail);go_wp2_with fail;go_roundw
     case measure=>exact ld
     case rel=>exact ko
    ·rw[AV h3]at he;rw[Ae h3]at hs;have hr:R=k:=(by rw[HS.out,hs];omega);subst hr;clear hs HS h3 HQ;go_wp2_with fail;go_quiet (fail);go_wp2_with fail;go_ret;exact⟨rfl,h.out _⟩
   ·have g2:=jb ((k:Int)<b.length);have E:=jb (k<b.length);have hr:R=k:=(by rw[HS.out,L7 (.inr nB)];omega);subst hr;clear HS HQ;go_wp2_with fail;go_quiet (fail);go_wp2_with fail;go_ret;exact⟨rfl,h.out _⟩
  ·have g1:=jb ((k:Int)<a.length);have j:=jb (k<a.length);have hr:R=k:=(by rw[HS.out,L7 (.inl nB)];omega);subst hr;clear HS HQ;go_wp2_with fail;go_quiet (fail);go_wp2_with fail;go_ret;exact⟨rfl,h.out _⟩
theorem XL(w:World)(a b:Str)(L:a.length<=1000000)(N:b.length<=1000000):
 Calls prog 132 #[.string (bs a), .string (bs b)] w fun e w'=>e= .returned (.int .i64 (Bl a b:Nat))/\∃q,w'=w.drewN q:=by
 have G:=Dr a;have J:=Dr b;obtain⟨R,hR⟩:=jc (Bl a b);have H0:Hid (R=0+Bl (a.drop 0) (b.drop 0)):=by show R=_;rw[hR,Ie,Ie,B0]
 rw[<-hR];clear hR;go_enter func132,ntmps132;go_wp2_with fail;go_loopw [5] (fun iv wx=>∃k:Nat,k<=a.length/\k<=b.length/\iv= .int .i64 k/\Hid (R=k+Bl (a.drop k) (b.drop k))/\Hid (∃q,wx=w.drewN q)) (fun iv _=>a.length-(intOf iv).toNat)
 case atStart=>exact⟨0,nB,nB,rfl,H0.out,0,rfl⟩
 case round=>
  obtain⟨k,Y,U,rfl,HS,HQ⟩:=hrel;have h:Hid (∀nq,∃q,wr.drewN nq=w.drewN q):=fun nq=>nu
  have x0:(0:Int)<=(k:Int):=nB
  by_cases h1:k<a.length
  ·have g1:=ja ((k:Int)<a.length);have j:=ja (k<a.length);have x1:(k:Int)<((bs a).size:Int):=nB;have Q:(k:Int)<(a.length:Int):=nB;by_cases h2:k<b.length
   ·have g2:=jb ((b.length:Int)<=k);have E:=jb (b.length<=k);have x2:(k:Int)<((bs b).size:Int):=nB;have M:(k:Int)<(b.length:Int):=nB;have he:=TJ (by rw[G];exact h1) (by rw[J];exact h2) h1 h2;have hs:=Qg h1 h2;by_cases h3:a[k]=b[k]
    ·rw[AQ h3]at he;rw[Ag h3]at hs;have i:Hid (R=(k+1)+Bl (a.drop (k+1)) (b.drop (k+1))):=(by show R=_;rw[HS.out,hs];omega);clear hs HS h3 HQ;go_wp2_with fail;go_quiet (fail);go_wp2_with fail;go_roundw
     case measure=>exact ld
     case rel=>exact ko
    ·rw[AV h3]at he;rw[Ae h3]at hs;have hr:R=k:=(by rw[HS.out,hs];omega);subst hr;clear hs HS h3 HQ;go_wp2_with fail;go_quiet (fail);go_wp2_with fail;go_ret;exact⟨rfl,h.out _⟩
   ·have g2:=ja ((b.length:Int)<=k);have E:=ja (b.length<=k);have hr:R=k:=(by rw[HS.out,L7 (.inr nB)];omega);subst hr;clear HS HQ;go_wp2_with fail;go_quiet (fail);go_wp2_with fail;go_ret;exact⟨rfl,h.out _⟩
  ·have g1:=jb ((k:Int)<a.length);have j:=jb (k<a.length);have hr:R=k:=(by rw[HS.out,L7 (.inl nB)];omega);obtain rfl:a.length=k:=nB;subst hr;clear HS;go_wp2_with fail;go_ret;exact⟨rfl,HQ.out⟩
end Idx
namespace Ef
open Go.RowKit Mem Own Canon Toks
theorem aQ{q w:Nat}(h1:2 ^ w<=q)(h2:q<2*2 ^ w):Nat.log2 q=w:=by
 have hq:q≠0:=by have:=Gk w;omega
 have h3:=Kb hq;have h4:=Zt q;rw[Dl]at h4;rcases Nat.lt_trichotomy (Nat.log2 q) w with h|h|h
 ·exfalso;have:2 ^ (Nat.log2 q+1)<=2 ^ w:=Cf nB h;rw[Dl]at this;omega
 ·exact h
 ·exfalso;have:2 ^ (w+1)<=2 ^ Nat.log2 q:=Cf nB h;rw[Dl]at this;omega
theorem Xt(w:World)(q:Nat)(h1:1<=q)(hq:q<=1000000):
 Calls prog 133 #[q] w fun e w'=>e= .returned (.tuple #[.int .i64 (Nat.log2 q:Nat), .int .i64 (2 ^ Nat.log2 q:Nat)])/\w'=w:=by
 have HE:Hid (∀k p:Nat,p=2 ^ k->p<=q->q<2*p->Nat.log2 q=k/\2 ^ Nat.log2 q=p):=fun k p hp ha hb=>by subst hp;have:=aQ ha hb;rw[this];exact⟨rfl,rfl⟩
 generalize Nat.log2 q=L at *;generalize 2 ^ L=PL at *;go_enter func133,ntmps133;go_wp2_with fail;go_loopw [4,5] (fun kv pv wr=>∃k p:Nat,k<p/\p<=q/\kv= .int .i64 k/\pv= .int .i64 p/\Hid (p=2 ^ k)/\wr=w) (fun _ pv _=>q-(intOf pv).toNat)
 case atStart=>exact⟨0,1,nB,nB,rfl,rfl,rfl,rfl⟩
 case round=>
  obtain⟨k,p,hk,hp,rfl,rfl,HP,rfl⟩:=hrel;have s1:IntKind.i64.wrap (2*(p:Int))=((2*p:Nat):Int):=nX
  have s2:IntKind.i64.wrap ((k:Int)+1)=((k+1:Nat):Int):=nX
  by_cases i:2*p<=q
  ·have g:decide (((2*p:Nat):Int)<=(q:Int))=true:=AQ nB;have g':decide (2*(p:Int)<=(q:Int))=true:=AQ nB;have h:Hid (2*p=2 ^ (k+1)):=(by show _=_;rw[HP.out,Dl];omega);have f1:k+1<2*p:=nB;have f2:p<2*p:=nB;generalize 2*p=p2 at *;clear HP;go_wp2_with fail;go_roundw
   case measure=>exact ld
   case rel=>go_light;exact⟨k+1,p2,nB,nB,jk,jk,h.out,jm⟩
  ·have g:decide (((2*p:Nat):Int)<=(q:Int))=false:=AV nB;have g':decide (2*(p:Int)<=(q:Int))=false:=AV nB;obtain⟨e1,e2⟩:=HE.out k p HP.out hp nB;generalize 2*p=p2 at *;subst e1 e2;clear HE HP;go_wp2_with fail;go_ret2;exact⟨rfl,rfl⟩
theorem Zi(w:World)(bound n:Nat)(h1:1<=n)(h2:n<=bound)(hb:bound<=1000000):
 Calls prog 173 #[bound,n] w fun e w'=>e= .returned (.int .i64 (efW bound n:Nat))/\w'=w:=by
 have hq:1<=bound / n:=(Nat.one_le_div_iff nB).2 h2;have i:bound / n<=bound:=ID _ _;have D:=iF ((bound / n:Nat):Int) w nB nB;have hl:lg ((bound / n:Nat):Int)=(efW bound n:Nat):=rfl;rw[hl]at D;have j:efW bound n<=bound:=by unfold efW;have:=Nat.log2_le_self (bound / n);omega
 have E:¬(n:Int)=0:=nB
 have h:((n:Int)==0)=false:=by simpa using (by omega:¬n=0)
 have u1:IntKind.u64.wrap ((bound / n:Nat):Int)=((bound / n:Nat):Int):=n4
 have u2:IntKind.i64.wrap ((bound / n:Nat):Int)=((bound / n:Nat):Int):=Az _ nB;have u3:IntKind.i64.wrap ((efW bound n:Int)+1-1)=((efW bound n:Nat):Int):=nX
 have ud:Int.tdiv (bound:Int) (n:Int)=((bound / n:Nat):Int):=by rw[Int.tdiv_eq_ediv_of_nonneg nB];rfl
 have DD:=hid D;clear D hl;go_enter func173,ntmps173;go_wp2_with fail;refine DD.out.mono ?_;rintro e w' ⟨rfl,rfl⟩;go_wp2_with fail;go_ret;exact⟨rfl,rfl⟩
end Ef
end Go.Proofs.YtfgdoknipbpfhaaGreatDoor
