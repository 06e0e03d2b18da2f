/- append onto a row of -/
import Derived.Test.YtfgdoknipbpfhaaGreatDoorZTwoUnpacks1
import Derived.Laws.AppendOwnNone
namespace Go.Proofs.YtfgdoknipbpfhaaGreatDoor
open Go.Proofs.Tryz
open Go.Lib (hid)
set_option maxHeartbeats 1000000
set_option maxRecDepth 100000
variable{e t:TypeId}{B base c g i j l n s x:Nat}{w:World}{A:Option Addr}{ls:List Nat}{arr:Array Value}{xs:List Value}
namespace Mem
open Go.RowKit
def xZ(A:Option Addr)(l cap s:Nat):Option Addr:=if cap=l then A else A.map (·.add (l*s))
theorem EM{P:Program}(ht:P.underlying t=some (.slice e))(hs:∀w,(sizeOf e).run P w= .ok s w)(A:Option Addr)(len h:Nat)(kl:IntKind)(l:Int)(k:Nat)(hl:l=k)(hk:k<=len)(w:World):
 (Instr.slice t (.slice A len h) (some (.int kl l)) none none).run P w= .ok (.slice (xZ A k h s) (len-k) (h-k)) w:=by
 subst hl;have he:P.elem t=e:=nj
 rw[run_slice_l w t A len h mh kl (k:Int) kR kR,he,hs];rfl
theorem Hy{P:Program}(ht:P.underlying t=some (.slice e))(hs:∀w,(sizeOf e).run P w= .ok s w)(A:Option Addr)(len i:Nat)(kl kh:IntKind)(l h:Int)(k m:Nat)(hl:l=k)(hh:h=m)(hk:k<=m)(hm:m<=i)(w:World):
 (Instr.slice t (.slice A len i) (some (.int kl l)) (some (.int kh h)) none).run P w= .ok (.slice (xZ A k i s) (m-k) (i-k)) w:=by
 subst hl hh;have he:P.elem t=e:=nj
 rw[run_slice_lh w t A len i mh kl kh (k:Int) (m:Int) kR kR kR,he,hs];rfl
theorem Fp(b h i:Nat):(⟨b,h,none⟩:Addr).add i=⟨b,h+i,none⟩:=by
 unfold Addr.add;split
 ·simp_all
 ·rfl
theorem Row.cut{f g:Nat->Nat->Value}(h:Row w B A n s f)(k m:Nat)(hk:k+m<=n)(hc:n<=c)(hg:∀i j,i<m->j<s->f (k+i) j=g i j):Row w B (xZ A k c s) m s g:=fun hn=>by obtain⟨b,z,rfl,hb,y⟩:=h kR;unfold xZ;rw[Aa kR];refine⟨b,z+k*s,by simp[Fp],hb,fun i j hi hj=> ?_⟩;have:=y (k+i) j kR hj;rw[hg i j hi hj]at this;rw[<-this,Fc];congr 2;omega
def Src(w:World)(A:Option Addr)(m c size:Nat)(news:List Value):Prop:=
 news.length=m*size/\((A=none/\m=0/\c=0)∨∃ad,A=some ad/\∀j u,news[j]? =some u->w.cell? (ad.add j)=some u)
theorem add_none(b h i:Nat):(⟨b,h,none⟩:Addr).add i=⟨b,h+i,none⟩:=by
 unfold Addr.add;split
 ·simp_all
 ·rfl
theorem Src.of_blk{cs:Array Value}(h:Blk w g t cs)(m c size:Nat)(hs:cs.size=m*size):Src w (some ⟨g,0,none⟩) m c size cs.toList:=
 ⟨by simpa using hs, .inr ⟨_,rfl,fun j u hu=>by rw[add_none,BF,h.cell];simpa using hu⟩⟩
section
variable {P:Program}
theorem LX(w:World)(base:Nat)(t ty e:TypeId)(i:TypeInfo)(z:Value)(size bytes:Nat)(ht:P.underlying t=some (.slice e))(hi:P.info? e=some i)(hz:i.zero=some z)
 (E:i.size=size)(Q:i.bytes=bytes)(N:z.cells.size=size)(M:0<size)
 (v:Value)(n:Nat)(xs:List Value)(j:w.ownsRow base e size v n xs)
 (A:Option Addr)(m c:Nat)(h:List Value)(J:Src w A m c size h)(h1:∀u∈h,u.oneCell'=true)
 (L:n+m<=maxLen)(y:(n+m)*bytes<=140737488355328)(G:base<=w.heap.size):
 ∃v' w',(Builtin.append_ #[t,t] ty #[v, .slice A m c]).run P w= .ok v' w'/\w'.ownsRow base e size v' (n+m) (xs++h)/\w.grownBy w' v.ownBlock/\
  (v'.ownBlock=v.ownBlock∨v'.ownBlock=some w.heap.size):=by
 obtain⟨hl,hA⟩:=J;rcases hA with ⟨rfl,rfl,rfl⟩|⟨ad,rfl,hc⟩
 ·have hn:h= []:=FK (by simpa using hl);subst hn;exact⟨v,w,run_append_owned_none (P:=P) (w:=w) base t ty e i size ht hi v n xs j,nD,⟨rfl,rfl,rfl,Ai _,fun _ _ _=>rfl⟩, .inl rfl⟩
 ·obtain⟨v',w',hr,h2,h3,_,h5⟩:=run_append_own_at (P:=P) w base t ty e i z size bytes ht hi hz E Q N M v n xs j ad m c h hl hc h1 L y G;exact⟨v',w',hr,h2,h3,h5⟩
theorem gZ{j:Array Oper}{rest:List Oper}{o:Oper}{a:Act}{Q:Exit->Act->World->Prop}(y:o.guard=none)(s x:Operand)(t:TypeId)
 (ho:o.op= .call {callee:= .builtin .append,args:=#[s,x],argTypes:=#[t,t] })
 (base:Nat)(e:TypeId)(i:TypeInfo)(z:Value)(size bytes:Nat)(ht:P.underlying t=some (.slice e))(hi:P.info? e=some i)(hz:i.zero=some z)
 (hsize:i.size=size)(hby:i.bytes=bytes)(hzs:z.cells.size=size)(hsz:0<size)
 (v:Value)(n:Nat)(xs:List Value)(hs:a.eval s=v)(hown:w.ownsRow base e size v n xs)
 (A:Option Addr)(m c:Nat)(news:List Value)(hx:a.eval x= .slice A m c)(hsrc:Src w A m c size news)(h1:∀u∈news,u.oneCell'=true)
 (h63:n+m<=maxLen)(hbytes:(n+m)*bytes<=140737488355328)(hbase:base<=w.heap.size)
 (h:∀v' w',w'.ownsRow base e size v' (n+m) (xs++news)->w.grownBy w' v.ownBlock->(v'.ownBlock=v.ownBlock∨v'.ownBlock=some w.heap.size)->wpList P j Q rest (a.put o.dst v') w'):wpList P j Q (o :: rest) a w:=by
 refine wpList_plain y fun K hK=> ?_;obtain⟨v',w',hr,h2,h3,h5⟩:=LX (P:=P) w base t o.type e i z size bytes ht hi hz hsize hby hzs hsz v n xs hown A m c news hsrc h1 h63 hbytes hbase;unfold Oper.wp execOp;simp only[ho,resolve,invoke,builtin,Sem.run_bind,Sem.run_pure,Result.andThen_ok,List.map_toArray,List.map_cons,List.map_nil,hs,hx,hr];exact hK _ _ (h v' w' h2 h3 h5)
end
end Mem
namespace Canon
open Go.RowKit Mem
theorem Z2(ls:List Nat)(x:Nat):EC (ls++ [x])=EC ls+if x=0 then 0 else 2 ^ (15-x):=by unfold EC;simp
theorem Tz(ls:List Nat):EC ls<=ls.length*32768:=by
 induction ls with
 |nil=>simp[EC]
 |cons x ls ih=>have h3:2 ^ (15-x)<=2 ^ 15:=BQ kR kR;unfold EC at ih ⊢;rw[DV,GU,Bu,Fc];split<;>omega
theorem T4(ls:List Nat)(x:Nat):used (ls++ [x])=used ls+if x=0 then 0 else 1:=by unfold used;rw[List.countP_append];by_cases h:x=0<;>simp[h]
theorem Zl(ls:List Nat):used ls<=ls.length:=List.countP_le_length
theorem X6{k:Nat}(hx:ls[k]? =some x)(h:15<x):Ce ls=false:=by
 unfold Ce;have:ls.all (fun x=>decide (x<=15))=false:=by rw[List.all_eq_false];exact⟨x,BP hx,nz⟩
 rw[this,Bool.and_false]
theorem XD(h1:ls.length<=300)(h2:∀x∈ls,x<=15):Ce ls=true:=by unfold Ce;rw[CV,Iy];exact⟨by simpa using h1,fun x hx=>by simpa using h2 x hx⟩
theorem Xn(h:300<ls.length):Ce ls=false:=by
 unfold Ce;have:decide (ls.length<=300)=false:=ni
 rw[this,IB]
def Gx(ls:List Nat):Nat:=if Ce ls=true then EC ls else 0
def Gv(ls:List Nat):Int:=if Ce ls=true then 0 else 13
theorem Z6(w:World)(A:Option Addr)(n c:Nat)(ls:List Nat)(hn:ls.length=n)(hN:n<=9223372036854775807)(ha:Row w w A n 1 (jZ .u8 ls)):
 Calls prog 302 #[.slice A n c] w fun e w'=>e= .returned (.tuple #[.int .i64 (Gx ls:Nat), .int .i64 (Gv ls)])/\w=w':=by
 have HN:=hid hn;clear hn;by_cases Q:300<n
 ·have hb:Ce ls=false:=Xn (by rw[HN.out];exact Q);have HV:Hid (Gx ls=0):=by show _=_;unfold Gx;rw[hb];rfl
  have HE:Hid (Gv ls=13):=by show _=_;unfold Gv;rw[hb];rfl
  clear hb;go_enter func302,ntmps302;go_wp2_with fail;go_ret2;exact⟨by rw[HV.out,HE.out];rfl,rfl⟩
 ·go_enter func302,ntmps302;go_wp2_with fail
  go_loop [4,5] (fun s i=>∃ (k S:Nat),k<=n/\i= .int .i64 k/\s= .int .i64 S/\Hid (S=EC (ls.take k))/\S<=9830400/\Hid (∀x∈ls.take k,x<=15)) (fun _ i=>n-(intOf i).toNat)
  case atStart=>exact⟨0,0,kR,rfl,rfl,rfl,kR,fun x hx=>by simp at hx⟩
  case round=>
   obtain⟨k,S,hk,rfl,rfl,hS,bS,Z⟩:=hrel;by_cases ac:k<n
   ·obtain⟨b,ag,x,rfl,af,hx,c0⟩:=CD ha HN.out ac;have x0:(0:Int)<=(k:Int):=kR;have x1:(k:Int)<(n:Int):=kR;by_cases ab:15<x
    ·have hb:=X6 hx ab;have HV:Hid (Gx ls=0):=(by show _=_;unfold Gx;rw[hb];rfl);have HE:Hid (Gv ls=13):=(by show _=_;unfold Gv;rw[hb];rfl);clear hb hx;go_wp2_with fail;go_ret2;go_light;exact⟨by rw[HV.out,HE.out];rfl,rfl⟩
    ·have L:=FF hx;have M:EC (ls.take (k+1))=EC (ls.take k)+if x=0 then 0 else 2 ^ (15-x):=(by rw[L,Z2]);have E:=Tz (ls.take (k+1));rw[AN,M,<-hS.out]at E
     have Y:∀z∈ls.take (k+1),z<=15:=by
      intro z hz;rw[L,BN,Dw]at hz;rcases hz with hz|rfl
      ·exact Z.out z hz
      ·omega
     have U:=hid Y;have N:=hid M;clear L M Y hx;by_cases G:x=0
     ·subst G;go_wp2_with fail
      go_round
      case rel=>go_light;exact⟨k+1,S,kR,jx,rfl,by show S=EC (ls.take (k+1));rw[N.out,<-hS.out];simp,bS,U⟩
      case measure=>exact jw
     ·have ah:0<x:=kR;rw[Aa G]at E N;have aa:=hid E;clear E G;go_wp2_with fail
      go_loop [6,7] (fun v j=>∃ (J W:Nat),J<=x/\j= .int .i64 J/\v= .int .i64 W/\Hid (W=2 ^ (15-J))/\W<=32768) (fun _ j=>x-(intOf j).toNat)
      case atStart=>exact⟨0,32768,kR,rfl,rfl,rfl,kR⟩
      case round=>
       obtain⟨J,W,hJ,rfl,rfl,hW,bW⟩:=hrel;by_cases ae:J<x
       ·go_wp2_with fail
        go_round
        case rel=>go_light;refine⟨J+1,W / 2,kR,jx,jx,?_,kR⟩;show W / 2=2 ^ (15-(J+1));rw[hW.out,show 15-J=(15-(J+1))+1 by omega,ER];omega
        case measure=>exact jw
       ·obtain rfl:J=x:=by omega
        go_wp2_with fail
        go_round
        case rel=>go_light;have:=aa.out;rw[<-hW.out]at this;exact⟨k+1,S+W,kR,jx,jx,by show S+W=EC (ls.take (k+1));rw[N.out,<-hS.out,<-hW.out],kR,U⟩
        case measure=>exact jw
   ·obtain rfl:k=n:=by omega
    have y:ls.take k=ls:=BR kg;have h:Ce ls=true:=XD kg (by have:=Z.out;rw[y]at this;exact this);have HV:Hid (Gx ls=S):=(by show _=_;unfold Gx;rw[h,Ab rfl,hS.out,y]);have HE:Hid (Gv ls=0):=(by show _=_;unfold Gv;rw[h];rfl);clear y h;go_wp2_with fail;go_ret2;go_light;exact⟨by rw[HV.out,HE.out];rfl,rfl⟩
theorem ZM(hg:Ce ls=true):Fx ls=if used ls=0∨(used ls=1/\cnt ls 1=1)∨EC ls=32768 then 0 else 7:=by obtain⟨_,h2⟩:=Km hg;rw[RY ls (cn ls) (fun _=>rfl),MK,MF,LH ls h2,LU ls h2,hg];simp[cn]
theorem refcheck_any(w:World)(A:Option Addr)(n c:Nat)(ls:List Nat)(hn:ls.length=n)(hN:n<=9223372036854775807)(ha:Row w w A n 1 (jZ .u8 ls)):
 Calls prog 253 #[.slice A n c] w fun e w'=>e= .returned (.int .i64 (Fx ls))/\w=w':=by
 have C:=hid (Z6 w A n c ls hn hN ha);have HN:=hid hn;clear hn;cases hg:Ce ls
 ·have HV:Hid (Gx ls=0):=by show _=_;unfold Gx;rw[hg];rfl
  have HE:Hid (Gv ls=13):=by show _=_;unfold Gv;rw[hg];rfl
  have HC:Hid (Fx ls=7):=by show _=_;unfold Fx;rw[KT hg];rfl
  rw[HV.out,HE.out]at C;clear hg;go_enter func253,ntmps253;go_wp2_with fail;refine C.out.mono ?_;rintro e w1 ⟨rfl,rfl⟩;go_wp2_with fail;go_ret;exact⟨by rw[HC.out];rfl,rfl⟩
 ·have HV:Hid (Gx ls=EC ls):=by show _=_;unfold Gx;rw[hg];rfl
  have HE:Hid (Gv ls=0):=by show _=_;unfold Gv;rw[hg];rfl
  have HC:=hid (ZM hg);have J:=Tz ls;have M:=(Km hg).1;rw[HN.out]at J M;rw[HV.out,HE.out]at C;generalize EC ls=K at *;clear hg HV HE;go_enter func253,ntmps253;go_wp2_with fail;refine C.out.mono ?_;rintro e w1 ⟨rfl,rfl⟩;go_wp2_with fail
  go_loop [5,6,7] (fun a b i=>∃ (k U O:Nat),k<=n/\i= .int .i64 k/\a= .int .i64 U/\b= .int .i64 O/\Hid (U=used (ls.take k))/\Hid (O=cnt (ls.take k) 1)/\U<=300/\O<=300) (fun _ _ i=>n-(intOf i).toNat)
  case atStart=>exact⟨0,0,0,kR,rfl,rfl,rfl,rfl,rfl,kR,kR⟩
  case round=>
   obtain⟨k,U,O,hk,rfl,rfl,rfl,hU,hO,bU,bO⟩:=hrel;by_cases L:k<n
   ·obtain⟨b,Y,x,rfl,Q,hx,c0⟩:=CD ha HN.out L;have x0:(0:Int)<=(k:Int):=kR;have x1:(k:Int)<(n:Int):=kR;have z:=FF hx;have h1:used (ls.take (k+1))=U+if x=0 then 0 else 1:=(by rw[z,T4,hU.out]);have h2:cnt (ls.take (k+1)) 1=O+if x=1 then 1 else 0:=(by rw[z,Fy,hO.out]);have l1:=Zl (ls.take (k+1));have l2:=KQ (ls.take (k+1)) 1;rw[AN]at l1 l2;rw[h1]at l1;rw[h2]at l2;have H1:=hid h1;have H2:=hid h2;have L1:=hid l1;have L2:=hid l2;clear z h1 h2 l1 l2 hx;by_cases y:x=0
    ·subst y;go_wp2_with fail
     go_round
     case rel=>go_light;exact⟨k+1,U,O,kR,jx,rfl,rfl,by show U=used (ls.take (k+1));rw[H1.out];simp,by show O=cnt (ls.take (k+1)) 1;rw[H2.out];simp,bU,bO⟩
     case measure=>exact jw
    ·have Z:0<x:=kR;rw[Aa y]at H1 L1;by_cases G:x=1
     ·subst G;go_wp2_with fail
      go_round
      case rel=>go_light;have a1:=L1.out;have a2:=L2.out;rw[Ab rfl]at a2;exact⟨k+1,U+1,O+1,kR,jx,jx,jx,by show U+1=used (ls.take (k+1));rw[H1.out],by show O+1=cnt (ls.take (k+1)) 1;rw[H2.out];simp,kR,kR⟩
      case measure=>exact jw
     ·have aa:((x:Int)==1)=false:=ni;rw[Aa G]at H2 L2;clear y;go_wp2_with fail
      go_round
      case rel=>go_light;have a1:=L1.out;exact⟨k+1,U+1,O,kR,jx,jx,rfl,by show U+1=used (ls.take (k+1));rw[H1.out],by show O=cnt (ls.take (k+1)) 1;rw[H2.out];simp,kR,bO⟩
      case measure=>exact jw
   ·obtain rfl:k=n:=by omega
    have h:ls.take k=ls:=BR kg;have E:=hU.out;have j:=hO.out;rw[h]at E j;have hc:=HC.out;rw[<-E,<-j]at hc;have N:=hid hc;clear h E j hc hU hO HC;go_wp2_with fail
    all_goals
     go_ret;go_light;refine⟨Ko ?_,rfl⟩;rw[N.out]
     first|(rw[Ab kR];done)|(rw[Aa kR];done)|(simp only[beq_iff_eq,ne_eq,beq_eq_false_iff_ne]at *;first|(rw[Ab kR];done)|(rw[Aa kR];done))
end Canon
namespace Canon
open Go.RowKit Mem
def Db(ls:List Nat)(s:Nat):Nat:=code ls s % 65536
def Wds(ls:List Nat)(n s:Nat)(arr:Array Value):Prop:=arr.size=n/\∀i,i<n->arr[i]? =some (.int .u16 ((if i<s then Db ls i else 0:Nat):Int))
theorem Wds.start(ls:List Nat)(n:Nat):Wds ls n 0 (madeCells #[.int .u16 0] n):=by refine⟨size_madeCells _ _,fun i hi=> ?_⟩;simp[madeCells,hi,Nat.mod_one]
theorem Wds.set(h:Wds ls n s arr)(hs:s<n){v:Nat}(hv:v=Db ls s):Wds ls n (s+1) (arr.setIfInBounds s (.int .u16 (v:Nat))):=by
 refine⟨lY,fun i hi=> ?_⟩;rw[GX];by_cases e:s=i
 ·subst e;rw[Ab rfl,Ab ko,Ab kR,hv]
 ·rw[Aa e,h.2 i hi];by_cases j:i<s
  ·rw[Ab j,Ab kR]
  ·rw[Aa j,Aa kR]
theorem Wds.skip(h:Wds ls n s arr)(h0:Db ls s=0):Wds ls n (s+1) arr:=by
 refine⟨h.1,fun i hi=> ?_⟩;rw[h.2 i hi];by_cases j:i<s
 ·rw[Ab j,Ab kR]
 ·by_cases e:i=s
  ·subst e;rw[Aa j,Ab kR,h0]
  ·rw[Aa j,Aa kR]
theorem Rw(h:ls[s]? =some 0):Db ls s=0:=by unfold Db code;simp[List.getD_eq_getElem?_getD,h]
theorem TC(h:ls[s]? =some x)(hx:x≠0):Db ls s=(fst ls x+cnt (ls.take s) x) % 65536:=by unfold Db code;simp[List.getD_eq_getElem?_getD,h,hx]
def Fsts(f:Nat->Nat)(l:Nat)(arr:Array Value):Prop:=arr.size=17/\∀j,j<=l->arr[j]? =some (.int .i64 (f j:Nat))
theorem Fsts.set{f:Nat->Nat}(h:Fsts f l arr)(hl:l<16){v:Nat}(hv:v=f (l+1)):Fsts f (l+1) (arr.setIfInBounds (l+1) (.int .i64 (v:Nat))):=by
 refine⟨lY,fun j hj=> ?_⟩;rw[GX];by_cases e:l+1=j
 ·subst e;rw[Ab rfl,Ab ko,hv]
 ·rw[Aa e];exact h.2 j kR
theorem Fsts.bump{f g:Nat->Nat}(h:Fsts f 16 arr){v:Nat}(hx:x<=16)(hv:v=g x)(ho:∀j,j≠x->g j=f j):Fsts g 16 (arr.setIfInBounds x (.int .i64 (v:Nat))):=by
 refine⟨lY,fun j hj=> ?_⟩;rw[GX];by_cases e:x=j
 ·subst e;rw[Ab rfl,Ab ko,hv]
 ·rw[Aa e,h.2 j hj,ho j (Br e)]
theorem Fsts.zero(ls:List Nat):Fsts (fst ls) 1 #[iT,iT,iT,iT,iT,iT,iT,iT,iT,iT,iT,iT,iT,iT,iT,iT,iT]:=by
 refine⟨rfl,fun j hj=> ?_⟩;have:j=0∨j=1:=kR
 rcases this with rfl|rfl
 ·rfl
 ·simp[fst,cn]
theorem wrap_u16(v:Nat):IntKind.u16.wrap (v:Int)=((v % 65536:Nat):Int):=by rw[IntKind.wrap_u16];omega
theorem Td:(prog.info? 25).map (fun i=>(i.zero,i.size,i.bytes))=some (some (.int .u16 0),1,2):=kG
theorem W6(n:Nat)(hn:n<=8388608)(w:World):(Instr.makeSlice 227 (.int .i64 (n:Int)) (.int .i64 (n:Int))).run prog w=
 .ok (.slice (some ⟨w,0,none⟩) n n) (w.alloc (.cells (madeCells #[.int .u16 0] n) 25)):=by
 obtain⟨i0,hi,y,i,j⟩:=info_parts Td;have h:=run_make (P:=prog) w 227 25 i0 (.int .u16 0) underlying227 hi y .i64 .i64 (n:Int) (n:Int) kR (Int.le_refl _) mr kR;simp only[Int.toNat_natCast]at h;simpa[i,Value.cells]using h
def TM(ls:List Nat)(n:Nat)(w:World)(e:Ending)(w':World):Prop:=
 ∃ (g:Nat) (arr:Array Value),e= .returned (.tuple #[.slice (some ⟨g,0,none⟩) n n,iT])/\Blk w' g 25 arr/\Wds ls n n arr/\w.heap.size<=g/\aO w w'
theorem aH(w:World)(A:Option Addr)(n c:Nat)(ls:List Nat)(hn:ls.length=n)(Q:okB ls=true)(ha:Row w w A n 1 (jZ .u8 ls)):
 Calls prog 318 #[.slice A n c] w (TM ls n w):=by
 have E:Ce ls=true:=by
  cases hg:Ce ls
  ·rw[KT hg]at Q;cases Q
  ·rfl
 obtain⟨ar,aQ⟩:=Km E;rw[hn]at ar;have C:=RJ w A n c ls hn kR ha;have hE:Fx ls=0:=by unfold Fx;rw[Q];rfl
 rw[hE]at C;have C1:=hid C;have C2:=hid (fun wx (h:Row wx wx A n 1 (jZ .u8 ls))=>Sq wx A n c ls hn kR h);have HN:=hid hn;have HG:=hid E;have aT:=hid aQ;have a1:=W6 n kR;have aR:=fun l (h:l<=16)=>KJ ls l;have au:Hid (∀l,l<=16->fst ls l<=39321600):=by show ∀l,l<=16->fst ls l<=39321600;intro l hl;have h1:=KJ ls l;have h2:2 ^ (l+1)<=2 ^ 17:=BQ kR kR;have h3:2 ^ (l+1)*ls.length<=2 ^ 17*300:=GT h2 kR;omega
 clear C hE Q E aQ hn aR;go_enter func318,ntmps318;go_wp2_with fail;refine C1.out.mono ?_;rintro e w1 ⟨rfl,aj⟩;have z1:=aj.size;go_wp2_with fail;refine(C2.out _ ((ha.below aj).mono z1)).mono ?_;rintro e w2 ⟨arr,f,rfl,hc,hf,hg,ay⟩;rw[hg HG.out]at hc;rw[HG.out];have z2:=ay.size;have af:aO w w2:=CM ay z1 aj;have N:arr.size=16:=hc.1;have ai:Blk (w2.alloc (.cells #[iT,iT,iT,iT,iT,iT,iT,iT,iT,iT,iT,iT,iT,iT,iT,iT] 442)) w2 442 _:=Blk.made _ _ _;have az:=Sc (arr:=arr) ai (by rw[N];rfl);have av:(w2.alloc (.cells #[iT,iT,iT,iT,iT,iT,iT,iT,iT,iT,iT,iT,iT,iT,iT,iT] 442)).there w2 0 arr.size:=by rw[N];exact JZ ai
 have aa:(prog.info? 442).map (·.size)=some arr.size:=by rw[N];exact Je
 have ac:aO w ((w2.alloc (.cells #[iT,iT,iT,iT,iT,iT,iT,iT,iT,iT,iT,iT,iT,iT,iT,iT] 442)).setCells w2 0 arr.toList):=
  Jd kR _ _ _ (lZ kR af)
 have aP:=hid hc.one;have am:=hid aa;have HC:=hid hc;clear N aa hc hf hg ai C1 C2;go_upto_region 5 with (refine wpList_store_mid rfl 442 (.tmp 5) (.tmp 20) rfl w2.heap.size 0 arr kU kU av am.out aP.out ?_);have a4:=az.lt;clear av;generalize (w2.alloc (.cells #[iT,iT,iT,iT,iT,iT,iT,iT,iT,iT,iT,iT,iT,iT,iT,iT] 442)).setCells w2 0 arr.toList=w3 at *;have ag:=ac.size;go_wp2_with fail;go_loopw [8] (fun i wr=>∃ (l:Nat) (fa:Array Value),1<=l/\l<=16/\i= .int .i64 l/\Blk wr w2 442 arr/\Blk wr w3 446 fa/\Hid (Fsts (fst ls) l fa)/\aO w wr) (fun i _=>16-(intOf i).toNat)
 case atStart=>exact⟨1,_,kR,kR,rfl,az.alloc _,Blk.made _ _ _,Fsts.zero ls,lZ ag ac⟩
 case round=>
  obtain⟨l,fa,a0,aY,rfl,ax,z,hF,y⟩:=hrel;by_cases Y:l<16
  ·have c1:=z.cell l;rw[hF.out.2 l kR]at c1;have c2:=ax.cell l;rw[HC.out.2 l kR]at c2;have c3:=z.cell (l+1);rw[Mk (by have:=hF.out.1;omega)]at c3;generalize fa[l+1]'(by have:=hF.out.1;omega)=old at c3;have f3:=z.frozen (l+1);have b1:=au.out l kR;have b2:=IG ls l;have al:fst ls (l+1)=2*(fst ls l+cn ls l):=rfl;have aS:=hid al;rw[HN.out]at b2;clear al;generalize fst ls l=F at *;generalize cn ls l=K at *;have x0:(0:Int)<=(l:Int):=kR;have x1:(l:Int)<16:=kR;have x2:(l:Int)<17:=kR;have x3:(0:Int)<=(l:Int)+1:=kR;have x4:(l:Int)+1<17:=kR;have x5:Hid (((l:Int)+1).toNat=l+1):=mM;have s1:Hid (IntKind.i64.wrap ((l:Int)+1)=(l:Int)+1):=Am _ kR;have s2:Hid (IntKind.i64.wrap ((F:Int)+(K:Int))=(F:Int)+(K:Int)):=Am _ kR;go_wp2_with fail;have t1:=s1.out;have t2:=s2.out;have t3:=x5.out;go_region;all_goals clear t1 t2 t3;all_goals go_wp2_with fail
   all_goals
    go_roundw
    case rel=>go_light;have e:((F:Int)+(K:Int))*2=((fst ls (l+1):Nat):Int):=(by rw[aS.out];omega);rw[e];exact⟨l+1,_,kR,kR,jx,(ax.far (p:=⟨w3.heap.size,l+1,none⟩) (show w2.heap.size≠w3.heap.size by omega) _).drew,(z.set _ _).drew,hF.out.set Y rfl,(kZ (p:=⟨w3.heap.size,l+1,none⟩) ag y).drew⟩
    case measure=>exact jw
  ·obtain rfl:l=16:=by omega
   go_wp2_with fail;have an:=y.size;have a5:=z.lt;obtain⟨wo,rfl⟩:=iS wr;have Z:=z.alloc (.cells (madeCells #[.int .u16 0] n) 25);have ae:Blk (wo.alloc (.cells (madeCells #[.int .u16 0] n) 25)) wo 25 _:=Blk.made _ _ _;have ab:=lZ (o:= .cells (madeCells #[.int .u16 0] n) 25) an y;have ak:Fsts (fun j=>fst ls j+cn (ls.take 0) j) 16 fa:=(by refine⟨hF.out.1,fun j hj=> ?_⟩;rw[hF.out.2 j hj];simp[cn,I2]);have aw:=hid ak;clear ak z y hF;go_loopw [42] (fun i wr=>∃ (s:Nat) (fb ds:Array Value),s<=n/\i= .int .i64 s/\Blk wr w3 446 fb/\Blk wr wo 25 ds/\Hid (Fsts (fun j=>fst ls j+cn (ls.take s) j) 16 fb)/\Hid (Wds ls n s ds)/\aO w wr) (fun i _=>n-(intOf i).toNat)
   case atStart=>exact⟨0,fa,_,kR,rfl,Z,ae,aw,Wds.start ls n,ab⟩
   case round=>
    clear Z ae ab aw;obtain⟨s,fb,ds,hs,rfl,z,M,hF,hW,y⟩:=hrel;by_cases Y:s<n
    ·obtain⟨b,aX,x,rfl,a3,hx,c0⟩:=CD (ha.below y) HN.out Y;have aW:=aT.out x (BP hx);have x0:(0:Int)<=(s:Int):=kR;have x1:(s:Int)<(n:Int):=kR;have U:=FF hx;by_cases L:x=0
     ·subst L
      have G:∀j,cn (ls.take (s+1)) j=cn (ls.take s) j:=by
       intro j;rw[U];unfold cn;split
       ·rfl
       ·rw[Fy,Aa kR];rfl
      have aV:=hid G;have HZ:=hid (Rw hx);clear hx U G;go_wp2_with fail;go_roundw
      case rel=>go_light;exact⟨s+1,fb,ds,kR,jx,z,M,by show Fsts _ 16 fb;simp only[aV.out];exact hF.out,hW.out.skip HZ.out,y⟩
      case measure=>exact jw
     ·have G:∀j,cn (ls.take (s+1)) j=cn (ls.take s) j+if x=j then 1 else 0:=by
       intro j;rw[U];unfold cn;split
       ·rename_i h;subst h;rw[Aa L]
       ·rw[Fy]
      have aq:cn (ls.take s) x=cnt (ls.take s) x:=(by unfold cn;rw[Aa L]);have ah:=TC hx L;rw[<-aq]at ah;have c1:wr.cell? ⟨w3.heap.size,x,none⟩=some (.int .i64 ((fst ls x+cn (ls.take s) x:Nat):Int)):=(z.cell x).trans (hF.out.2 x kR);have f1:=z.frozen x;have c2:=M.cell s;rw[Mk (by have:=hW.out.1;omega)]at c2;generalize ds[s]'(by have:=hW.out.1;omega)=old at c2;have f2:=M.frozen s;have b1:=au.out x kR;have b2:=IG (ls.take s) x;rw[AN]at b2
      have J:Fsts (fun j=>fst ls j+cn (ls.take (s+1)) j) 16 (fb.setIfInBounds x (.int .i64 ((fst ls x+cn (ls.take s) x+1:Nat):Int))):=by
       refine hF.out.bump kR ?_ fun j hj=> ?_
       ·simp only[G,if_pos];omega
       ·simp only[G];rw[Aa (Br hj)];rfl
      have bv:fst ls x+cn (ls.take s) x<=39321900:=kg;clear b1 b2;generalize fst ls x+cn (ls.take s) x=v at *;have HV:Hid (((v % 65536:Nat):Int)=(Db ls s:Nat)):=(by show _=_;rw[ah]);have aU:=hid J;have x3:(0:Int)<=(x:Int):=kR;have x4:(x:Int)<17:=kR;have xp:0<x:=kR;clear hx U G aq ah J L;go_wp2_with fail;go_roundw
      case rel=>
       go_light;rw[wrap_u16 v,HV.out]
       exact⟨s+1,_,_,kR,jx,(z.far (p:=⟨wo.heap.size,s,none⟩) (show w3.heap.size≠wo.heap.size by omega) _).set _ _,(M.set _ _).far (p:=⟨w3.heap.size,x,none⟩) (show wo.heap.size≠w3.heap.size by omega) _,aU,hW.out.set Y rfl,
        kZ (p:=⟨w3.heap.size,x,none⟩) ag (kZ (p:=⟨wo.heap.size,s,none⟩) an y)⟩
      case measure=>exact jw
    ·obtain rfl:s=n:=by omega
     go_wp2_with fail;go_ret2;go_light;exact⟨wo.heap.size,ds,rfl,M,hW.out,kR,y⟩
end Canon
namespace Canon
open Go.RowKit Mem
def part(ls:List Nat)(l s i:Nat):Nat:=let x:=ls.getD i 0;if x≠0/\(x<l∨(x=l/\i<s))then Db ls i else 0
def EA(ls:List Nat)(l s:Nat):List Value:=(List.range ls.length).map fun i=> .int .u16 (part ls l s i:Nat)
theorem Su(ls:List Nat)(l s:Nat):(EA ls l s).length=ls.length:=by simp[EA]
theorem ZZ(ls:List Nat):EA ls 1 0=List.replicate ls.length (.int .u16 0):=by
 unfold EA;apply List.ext_getElem
 ·simp
 ·intro i h1 h2;have:part ls 1 0 i=0:=by unfold part;simp only;split<;>omega
  simp[this]
theorem Zv(hx:ls[s]? =some x)(h:x≠l):EA ls l (s+1)=EA ls l s:=by
 unfold EA;apply JT;intro i _;congr 2;unfold part;by_cases e:i=s
 ·subst e;have:ls.getD i 0=x:=by simp[List.getD_eq_getElem?_getD,hx]
  simp only[this];by_cases h1:x≠0/\x<l
  ·rw[Ab ⟨h1.1, .inl h1.2⟩,Ab ⟨h1.1, .inl h1.2⟩]
  ·rw[Aa kR,Aa kR]
 ·have:(i<s+1)=(i<s):=by simp;omega
  simp only[this]
theorem ZJ(hx:ls[s]? =some l)(h0:l≠0):EA ls l (s+1)=(EA ls l s).set s (.int .u16 (Db ls s:Nat)):=by
 unfold EA;apply List.ext_getElem?;intro i;rw[List.getElem?_set];have hs:s<ls.length:=(Ch.1 hx).1;by_cases e:s=i
 ·subst e;have hg:ls[s]=l:=(Ch.1 hx).2;simp[hs,part,hg,h0]
 ·rw[Aa e];by_cases hi:i<ls.length
  ·simp only[List.getElem?_map,List.getElem?_range hi,Option.map_some];congr 2;unfold part;have:(i<s+1)=(i<s):=ni;simp only[this]
  ·simp[hi]
theorem Zf(ls:List Nat)(l:Nat):EA ls l ls.length=EA ls (l+1) 0:=by unfold EA;apply JT;intro i hi;have hi:=ES.1 hi;congr 2;unfold part;simp only;congr 1;simp;omega
theorem Zs(h:∀x∈ls,x<=15):EA ls 16 0=(List.range ls.length).map fun i=> .int .u16 (Db ls i:Nat):=by
 unfold EA;apply JT;intro i hi;have hi:=ES.1 hi;congr 2;unfold part;have hg:ls.getD i 0=ls[i]:=by simp[List.getD_eq_getElem?_getD,hi]
 simp only[hg];have:=h _ (Hi hi);by_cases h0:ls[i]=0
 ·rw[Aa kR,Rw (by rw[AE hi,h0])]
 ·rw[Ab ⟨h0, .inl kR⟩]
def Nxt(ls:List Nat)(l s:Nat)(next was:Nat)(any:Bool):Prop:=
 if any=true then was<=l/\(next+1)*2 ^ (l-was)=fst ls l+cn (ls.take s) l else next=0/\fst ls l+cn (ls.take s) l=0
theorem Nxt.start(ls:List Nat):Nxt ls 1 0 0 0 false:=by unfold Nxt;simp[fst,cn,I2]
theorem Nxt.skip{next:Nat}{i:Bool}(h:Nxt ls l s next j i)(hx:ls[s]? =some x)(y:x≠l):Nxt ls l (s+1) next j i:=by
 have:cn (ls.take (s+1)) l=cn (ls.take s) l:=by
  rw[FF hx];unfold cn;split
  ·rfl
  ·rw[Fy,Aa y];rfl
 unfold Nxt at h ⊢;rw[this];exact h
theorem Nxt.next{next:Nat}{j:Bool}(h:Nxt ls l ls.length next i j):Nxt ls (l+1) 0 next i j:=by
 unfold Nxt at h ⊢;rw[List.take_length]at h;have h0:cn (ls.take 0) (l+1)=0:=by simp[cn,I2]
 rw[h0,fst];split at h
 ·rename_i ha;rw[Ab ha];refine⟨kR,?_⟩;rw[show l+1-i=(l-i)+1 by omega,ER];have:(next+1)*(2 ^ (l-i)*2)=(next+1)*2 ^ (l-i)*2:=by rw[Nat.mul_assoc]
  rw[this,h.2];omega
 ·rename_i ha;rw[Aa ha];omega
theorem Nxt.word{next:Nat}{i:Bool}(h:Nxt ls l s next j i)(hx:ls[s]? =some l)(h0:l≠0):
 ∃v,v=fst ls l+cn (ls.take s) l/\v % 65536=Db ls s/\Nxt ls l (s+1) v l true/\(i=true->j<=l/\(next+1)*2 ^ (l-j)=v)/\(i=false->next=v):=by
 refine⟨_,rfl,?_,?_,fun ha=> ?_,fun ha=> ?_⟩
 ·rw[TC hx h0];congr 2;unfold cn;rw[Aa h0]
 ·unfold Nxt;rw[Ab rfl];refine⟨Ai _,?_⟩;have:cn (ls.take (s+1)) l=cn (ls.take s) l+1:=by rw[FF hx];unfold cn;rw[Aa h0,Aa h0,Fy,Ab rfl]
  rw[this,Fj];omega
 ·unfold Nxt at h;rw[Ab ha]at h;exact h
 ·unfold Nxt at h;rw[Aa (by rw[ha];simp)]at h;omega
def Zy(ls:List Nat)(n:Nat)(w:World)(e:Ending)(w':World):Prop:=
 ∃v,e= .returned (.tuple #[v,iT])/\w'.ownsRow w 25 1 v n ((List.range n).map fun i=> .int .u16 (Db ls i:Nat))/\aO w w'
theorem Zi(w:World)(A:Option Addr)(n c:Nat)(ls:List Nat)(hn:ls.length=n)(ab:okB ls=true)(ha:Row w w A n 1 (jZ .u8 ls)):
 Calls prog 254 #[.slice A n c] w (Zy ls n w):=by
 have Q:Ce ls=true:=by
  cases hg:Ce ls
  ·rw[KT hg]at ab;cases ab
  ·rfl
 obtain⟨al,ax⟩:=Km Q;rw[hn]at al;have C:=refcheck_any w A n c ls hn kR ha;have hE:Fx ls=0:=by unfold Fx;rw[ab];rfl
 rw[hE]at C;have C1:=hid C;have HN:=hid hn;have aq:=hid ax;have aV:Hid (∀l,l<=16->fst ls l<=39321600):=by show ∀l,l<=16->fst ls l<=39321600;intro l hl;have h1:=KJ ls l;have h2:2 ^ (l+1)<=2 ^ 17:=BQ kR kR;have h3:2 ^ (l+1)*ls.length<=2 ^ 17*300:=GT h2 kR;omega
 obtain⟨i0,aY,aW,aQ,az⟩:=info_parts Td;clear C hE ab Q ax hn;go_enter func254,ntmps254;go_wp2_with fail;refine C1.out.mono ?_;rintro e w1 ⟨rfl,rfl⟩;go_wp2_with fail;go_loopw [4,5] (fun v i wr=>∃k:Nat,k<=n/\i= .int .i64 k/\wr.ownsRow w 25 1 v k (List.replicate k (.int .u16 0))/\aO w wr) (fun _ i _=>n-(intOf i).toNat)
 case atStart=>exact⟨0,kR,rfl,Aq _ _ _ _,Ag _ _⟩
 case round=>
  obtain⟨k,hk,rfl,h,z⟩:=hrel;have aT:=z.size;by_cases a7:k<n
  ·obtain⟨va,vc,rfl⟩:=aZ h;go_wp2_with(at_builtin;refine gZ rfl (.tmp 21) (.tmp 22) 227 rfl w 25 i0 _ 1 2 underlying227 aY aW aQ az rfl iX _ _ _ kU (h.alloc _) _ 1 1 [.int .u16 0] kU (Src.of_blk (Blk.made _ _ _) 1 1 1 rfl) kA nI kR ni ?_;intro v3 w3 ag a0 a1);go_roundw
   case rel=>go_light;refine⟨k+1,kR,jx,?_,((lZ aT z).grown a0 ni (fun g hg=>(Ae h g hg).1))⟩;rw[List.replicate_succ'];exact ag
   case measure=>exact jw
  ·obtain rfl:k=n:=by omega
   obtain⟨va,vc,rfl⟩:=aZ h;rw[<-HN.out,<-ZZ,HN.out]at h;have ae:=hid h;have U:=z;clear h;go_wp2_with fail;go_loopw [6,7,8,9] (fun a b d e wr=>∃ (l N W:Nat) (y:Bool),1<=l/\l<=16/\e= .int .i64 l/\a= .int .i64 N/\b= .int .i64 W/\d= .bool y/\Hid (Nxt ls l 0 N W y)/\N<=50000000/\W<=16/\wr.ownsRow w 25 1 (.slice va k vc) k (EA ls l 0)/\aO w wr) (fun _ _ _ e _=>16-(intOf e).toNat)
   case atStart=>exact⟨1,0,0,false,kR,kR,rfl,rfl,rfl,rfl,Nxt.start ls,kR,kR,ae.out,U⟩
   case round=>
    clear U ae;obtain⟨l,N,W,y,bb,a9,rfl,rfl,rfl,rfl,G,bN,bW,h,z⟩:=hrel;by_cases a5:l<16
    ·go_wp2_with fail;obtain⟨wo,rfl⟩:=iS wr;go_loopw [6,7,8,10] (fun a b d e wr=>∃ (s N W:Nat) (y:Bool),s<=k/\e= .int .i64 s/\a= .int .i64 N/\b= .int .i64 W/\d= .bool y/\Hid (Nxt ls l s N W y)/\N<=50000000/\W<=16/\wr.ownsRow w 25 1 (.slice va k vc) k (EA ls l s)/\aO w wr) (fun _ _ _ e _=>k-(intOf e).toNat)
     case atStart=>exact⟨0,N,W,y,kR,rfl,rfl,rfl,rfl,G,bN,bW,h,z⟩
     case round=>
      clear G h z;obtain⟨s,N,W,y,hs,rfl,rfl,rfl,rfl,G,bN,bW,h,z⟩:=hrel;by_cases aU:s<k
      ·obtain⟨b,a4,x,rfl,bd,hx,c0⟩:=CD (ha.below z) HN.out aU;have x0:(0:Int)<=(s:Int):=kR;have x1:(s:Int)<(k:Int):=kR;by_cases Z:x=l
       ·subst Z;obtain⟨v,hv,an,E,aw,ar⟩:=G.out.word hx kR;have bv:v<=39321900:=(by have h1:=aV.out x kR;have h2:=IG (ls.take s) x;rw[AN]at h2;omega);have ac:=ZJ hx (by omega)
        obtain⟨g,aa,Y⟩:∃g aa,Value.slice va k vc= .slice (some ⟨g,0,none⟩) k aa:=by
         rcases h.2 with ⟨Y,_⟩|⟨g,aa,cur,Y,_⟩
         ·injection Y with _ h2 _;omega
         ·exact⟨g,aa,Y⟩
        injection Y with e1 e2 e3;subst e1 e3;have ah:=h.stored s (.int .u16 (Db ls s:Nat));rw[<-ac]at ah;have am:=(Ae h g rfl).1;have c1:=h.cellAt s kR;rw[AE (by rw[Su,HN.out];omega)]at c1;generalize (EA ls x s)[s]'(by rw[Su,HN.out];omega)=old at c1;have f1:=h.frozenAt s;have aj:=hid ah.1;have L:=hid E;have av:Hid (IntKind.u16.wrap (v:Int)=((Db ls s:Nat):Int)):=(by show _=_;rw[wrap_u16,an]);have aP:=hid aw;have ay:=hid ar;clear hv an ac ah hx E G e2 aw ar;cases y
        ·obtain rfl:=ay.out rfl;go_wp2_with fail;go_roundw
         case rel=>go_light;rw[av.out];exact⟨s+1,N,x,true,kR,jx,rfl,rfl,rfl,L,kR,kR,aj.out,kZ (p:=⟨g,s,none⟩) am z⟩
         case measure=>exact jw
        ·obtain⟨ba,ai⟩:=aP.out rfl;have aR:=hid ai;have ak:∀J,W<=J->J<=x->(N+1)*2 ^ (J-W)<=v:=(by intro J h1 h2;rw[<-ai];exact Nat.mul_le_mul_left _ (BQ kR kR));have au:=hid ak;clear ai ak;go_wp2_with fail
         go_loop [6,11] (fun a j=>∃J M:Nat,W<=J/\J<=x/\j= .int .i64 J/\a= .int .i64 M/\Hid (M=(N+1)*2 ^ (J-W))/\M<=39321900) (fun _ j=>x-(intOf j).toNat)
         case atStart=>exact⟨W,N+1,kR,kR,rfl,jx,by show N+1=_;simp,by have:=au.out W kR kR;simp at this;omega⟩
         case round=>
          obtain⟨J,M,a8,be,rfl,rfl,hM,bM⟩:=hrel;by_cases a6:J<x
          ·go_wp2_with fail
           go_round
           case rel=>go_light;have h1:=au.out (J+1) kR kR;have h2:(N+1)*2 ^ (J+1-W)=2*M:=(by rw[hM.out,show J+1-W=(J-W)+1 by omega,ER,<-Nat.mul_assoc,Nat.mul_comm]);exact⟨J+1,2*M,kR,kR,jx,jx,h2.symm,kR⟩
           case measure=>exact jw
          ·obtain rfl:J=x:=by omega
           obtain rfl:M=v:=hM.out.trans aR.out;go_wp2_with fail;go_roundw
           case rel=>go_light;rw[av.out];exact⟨_,_,_,_,⟨s+1,kR,rfl,M,rfl,J,rfl, .inr ⟨rfl,L,kR,kR,aj.out,kZ (p:=⟨g,s,none⟩) am z⟩⟩,rfl,rfl,rfl,jx⟩
           case measure=>exact jw
       ·have a3:x<=15:=aq.out x (BP hx);have bc:((x:Int) != (l:Int))=true:=bne_iff_ne.mpr kR;have E:=G.out.skip hx Z;have L:=hid E;have aX:=hid (Zv hx Z);clear E hx Z;go_wp2_with fail;go_roundw
        case rel=>go_light;exact⟨s+1,N,W,y,kR,jx,rfl,rfl,rfl,L,bN,bW,by rw[aX.out];exact h,z⟩
        case measure=>exact jw
      ·obtain rfl:s=k:=by omega
       have af:=G.out;rw[<-HN.out]at af;have aS:=hid af.next;have hp:=Zf ls l;rw[HN.out]at hp;rw[hp]at h;clear af hp G;go_wp2_with fail;go_roundw
       case rel=>go_light;exact⟨l+1,N,W,y,kR,kR,jx,rfl,rfl,rfl,aS,bN,bW,h,z⟩
       case measure=>exact jw
    ·obtain rfl:l=16:=by omega
     rw[Zs aq.out,HN.out]at h;go_wp2_with fail;go_ret2;go_light;exact⟨_,rfl,h,z⟩
end Canon
namespace Own
open Go.RowKit Mem
theorem dZ{w':World}{v:Value}(h:w.ownsRow base e s v n xs)(hk:∀g,v.ownBlock=some g->w'.heap[g]? =w.heap[g]?):
 w'.ownsRow base e s v n xs:=by
 refine⟨h.1,?_⟩;rcases h.2 with h0|⟨g,i,cur,rfl,hb,hg,rest⟩
 ·exact .inl h0
 ·exact .inr ⟨g,i,cur,rfl,hb,(hk g rfl).trans hg,rest⟩
theorem fZ{v:Value}{cs:Array Value}(h:w.ownsRow base e s v n xs)(hb:Blk w g t cs)(i:e≠t):v.ownBlock≠some g:=by
 intro hv;rcases h.2 with ⟨rfl,_⟩|⟨g',j,cur,rfl,_,hg,_⟩
 ·simp[Value.ownBlock]at hv
 ·simp[Value.ownBlock]at hv;subst hv;exact Blk.apart (t:=e) hg hb i rfl
theorem Fh{e':TypeId}{s' n':Nat}{v v':Value}{j:List Value}(h:w.ownsRow base e s v n xs)(h':w.ownsRow i e' s' v' n' j)(y:e≠e'):
 v.ownBlock=none∨v.ownBlock≠v'.ownBlock:=by
 rcases h.2 with ⟨rfl,_⟩|⟨g,z,cur,rfl,_,hg,_⟩
 ·exact .inl rfl
 ·refine .inr fun hv=> ?_;exact fZ h' (g:=g) (t:=e) hg (Br y) hv.symm
theorem Rk{v:Value}(h:w.ownsRow base e s v (n+1) xs):∃g i,v= .slice (some ⟨g,0,none⟩) (n+1) i:=by
 rcases h.2 with ⟨_,h0⟩|⟨g,i,cur,rfl,_⟩
 ·omega
 ·exact⟨g,i,rfl⟩
theorem Da(h:w.ownsRow base e s (.slice A n c) n xs):Wf A n c:=by
 rcases h.2 with ⟨hv,hx⟩|⟨g,i,cur,hv,_,_,h1,_⟩
 ·injection hv with e1 e2 e3;subst e1 e2 e3;exact Wf.nil
 ·injection hv with e1 e2 e3;subst e1 e3;exact Wf.some h1
end Own
namespace Own
open Go.RowKit Mem
structure Kept (K:Nat->Prop) (a w:World):Prop where
 os:w.os=a.os
 tape:w.tape=a.tape
 output:w.output=a.output
 size:a.heap.size<=w.heap.size
 block:∀k,K k->w.heap[k]? =a.heap[k]?
section
variable {K:Nat->Prop} {a b c w w':World}
theorem Kept.refl(K:Nat->Prop)(a:World):Kept K a a:=⟨rfl,rfl,rfl,Ai _,fun _ _=>rfl⟩
theorem Kept.trans(h:Kept K a b)(k:Kept K b c):Kept K a c:=
 ⟨k.os.trans h.os,k.tape.trans h.tape,k.output.trans h.output,AY h.size k.size,fun i hi=>(k.block i hi).trans (h.block i hi)⟩
theorem Kept.drew(h:Kept K a w):Kept K a w.drew:=⟨h.os,h.tape,h.output,h.size,h.block⟩
theorem Kept.drewN(h:Kept K a w)(n:Nat):Kept K a (w.drewN n):=⟨h.os,h.tape,h.output,h.size,h.block⟩
theorem Kept.set(h:Kept K a w){p:Addr}(hp:¬K p.block)(u:Value):Kept K a (w.setCell p u):=
 have hb:=(Ag 0 w).setCell (p:=p) (Ba _) u
 ⟨hb.os.trans h.os,hb.tape.trans h.tape,hb.output.trans h.output,AY h.size hb.size,fun k hk=>(AJ w p u k (fun e=>hp (e ▸ hk))).trans (h.block k hk)⟩
theorem Kept.alloc(h:Kept K a w)(hK:∀k,K k->k<w.heap.size)(o:Obj):Kept K a (w.alloc o):=
 have hb:=(Ag 0 w).alloc (Ba _) o
 ⟨hb.os.trans h.os,hb.tape.trans h.tape,hb.output.trans h.output,AY h.size hb.size,fun k hk=>(Ca w o k (hK k hk)).trans (h.block k hk)⟩
theorem Kept.grown(h:Kept K a w){row:Option Nat}(hg:w.grownBy w' row)(hK:∀k,K k->k<w.heap.size)(hr:∀k,row=some k->¬K k):Kept K a w':=
 ⟨hg.os.trans h.os,hg.tape.trans h.tape,hg.output.trans h.output,AY h.size hg.size,fun k hk=>(hg.block k (hK k hk) (fun e=>hr k e.symm hk)).trans (h.block k hk)⟩
theorem Kept.of_below(h:Below B a w)(hK:∀k,K k->k<B):Kept K a w:=⟨h.os,h.tape,h.output,h.size,fun k hk=>h.block k (hK k hk)⟩
theorem Kept.below(h:Kept K a w)(hK:∀k,k<B->K k):Below B a w:=⟨h.os,h.tape,h.output,h.size,fun k hk=>h.block k (hK k hk)⟩
end
theorem iZ{v:Value}(h:w.ownsRow base e s v n xs)(hb:i<=base):w.ownsRow i e s v n xs:=by
 refine⟨h.1,?_⟩;rcases h.2 with h0|⟨g,j,cur,rfl,hg,rest⟩
 ·exact .inl h0
 ·exact .inr ⟨g,j,cur,rfl,AY hb hg,rest⟩
theorem WK(l:List Value)(i:Nat)(u:Value):l.toArray.setIfInBounds i u=(l.set i u).toArray:=mY
end Own
end Go.Proofs.YtfgdoknipbpfhaaGreatDoor
