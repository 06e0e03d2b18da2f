/- append onto a row of -/
import Derived.Test.YtfgdoknipbpfhaaGreatDoorZBodyIndex1
import Derived.Laws.AppendOwnNone
namespace Go.Proofs.YtfgdoknipbpfhaaGreatDoor
open Go.Proofs.Tryz
open Go.Lib (hid)
set_option maxHeartbeats 1000000
set_option maxRecDepth 100000
variable{e t:TypeId}{B base c g j l n s x:Nat}{w:World}{A:Option Addr}{ls:List Nat}{arr:Array Value}{i:Bool}{xs:List Value}
namespace Mem
open Go.RowKit
def Ba(A:Option Addr)(l cap s:Nat):Option Addr:=if cap=l then A else A.map (·.add (l*s))
theorem Gg{P:Program}(ht:P.underlying t=some (.slice e))(hs:∀w,(sizeOf e).run P w= .ok s w)(A:Option Addr)(len h:Nat)(kl:IntKind)(l:Int)(k:Nat)(hl:l=k)(hk:k<=len)(w:World):
 (Instr.slice t (.slice A len h) (some (.int kl l)) none none).run P w= .ok (.slice (Ba A k h s) (len-k) (h-k)) w:=by
 subst hl;have he:P.elem t=e:=p6
 rw[run_slice_l w t A len h pg kl (k:Int) nB nB,he,hs];rfl
theorem NR{P:Program}(ht:P.underlying t=some (.slice e))(hs:∀w,(sizeOf e).run P w= .ok s w)(A:Option Addr)(len i:Nat)(kl kh:IntKind)(l h:Int)(k m:Nat)(hl:l=k)(hh:h=m)(hk:k<=m)(hm:m<=i)(w:World):
 (Instr.slice t (.slice A len i) (some (.int kl l)) (some (.int kh h)) none).run P w= .ok (.slice (Ba A k i s) (m-k) (i-k)) w:=by
 subst hl hh;have he:P.elem t=e:=p6
 rw[run_slice_lh w t A len i pg kl kh (k:Int) (m:Int) nB nB nB,he,hs];rfl
theorem Gx(b h i:Nat):(⟨b,h,none⟩:Addr).add i=⟨b,h+i,none⟩:=by
 unfold Addr.add;split
 ·simp_all
 ·rfl
theorem Row.cut{f g:Nat->Nat->Value}(h:Row w B A n s f)(k m:Nat)(hk:k+m<=n)(hc:n<=c)(hg:∀i j,i<m->j<s->f (k+i) j=g i j):Row w B (Ba A k c s) m s g:=fun hn=>by obtain⟨b,G,rfl,hb,E⟩:=h nB;unfold Ba;rw[Ae nB];refine⟨b,G+k*s,by simp[Gx],hb,fun i j hi hj=> ?_⟩;have:=E (k+i) j nB hj;rw[hg i j hi hj]at this;rw[<-this,Ex];congr 2;omega
def Src(w:World)(A:Option Addr)(m c size:Nat)(news:List Value):Prop:=
 news.length=m*size/\((A=none/\m=0/\c=0)∨∃ad,A=some ad/\∀j u,news[j]? =some u->w.cell? (ad.add j)=some u)
theorem add_none(b h i:Nat):(⟨b,h,none⟩:Addr).add i=⟨b,h+i,none⟩:=by
 unfold Addr.add;split
 ·simp_all
 ·rfl
theorem Src.of_blk{cs:Array Value}(h:Blk w g t cs)(m c size:Nat)(hs:cs.size=m*size):Src w (some ⟨g,0,none⟩) m c size cs.toList:=
 ⟨qk, .inr ⟨_,rfl,fun j u hu=>by rw[add_none,B0,h.cell];simpa using hu⟩⟩
section
variable {P:Program}
theorem NZ(w:World)(base:Nat)(t ty e:TypeId)(i:TypeInfo)(z:Value)(size bytes:Nat)(ht:P.underlying t=some (.slice e))(hi:P.info? e=some i)(hz:i.zero=some z)
 (J:i.size=size)(N:i.bytes=bytes)(Q:z.cells.size=size)(M:0<size)
 (v:Value)(n:Nat)(xs:List Value)(j:w.ownsRow base e size v n xs)
 (A:Option Addr)(m c:Nat)(h:List Value)(L:Src w A m c size h)(h1:∀u∈h,u.oneCell'=true)
 (U:n+m<=maxLen)(E:(n+m)*bytes<=140737488355328)(G:base<=w.heap.size):
 ∃v' w',(Builtin.append_ #[t,t] ty #[v, .slice A m c]).run P w= .ok v' w'/\w'.ownsRow base e size v' (n+m) (xs++h)/\w.grownBy w' v.ownBlock/\
  (v'.ownBlock=v.ownBlock∨v'.ownBlock=some w.heap.size):=by
 obtain⟨hl,hA⟩:=L;rcases hA with ⟨rfl,rfl,rfl⟩|⟨ad,rfl,hc⟩
 ·have hn:h= []:=Hl (by simpa using hl);subst hn;exact⟨v,w,run_append_owned_none (P:=P) (w:=w) base t ty e i size ht hi v n xs j,by simpa using j,⟨rfl,rfl,rfl,Am _,fun _ _ _=>rfl⟩, .inl rfl⟩
 ·obtain⟨v',w',hr,h2,h3,_,h5⟩:=run_append_own_at (P:=P) w base t ty e i z size bytes ht hi hz J N Q M v n xs j ad m c h hl hc h1 U E G;exact⟨v',w',hr,h2,h3,h5⟩
theorem fZ{j:Array Oper}{rest:List Oper}{o:Oper}{a:Act}{Q:Exit->Act->World->Prop}(E:o.guard=none)(s x:Operand)(t:TypeId)
 (ho:o.op= .call {callee:= .builtin .append,args:=#[s,x],argTypes:=#[t,t] })
 (base:Nat)(e:TypeId)(i:TypeInfo)(z:Value)(size bytes:Nat)(ht:P.underlying t=some (.slice e))(hi:P.info? e=some i)(hz:i.zero=some z)
 (hsize:i.size=size)(hby:i.bytes=bytes)(hzs:z.cells.size=size)(hsz:0<size)
 (v:Value)(n:Nat)(xs:List Value)(hs:a.eval s=v)(hown:w.ownsRow base e size v n xs)
 (A:Option Addr)(m c:Nat)(news:List Value)(hx:a.eval x= .slice A m c)(hsrc:Src w A m c size news)(h1:∀u∈news,u.oneCell'=true)
 (h63:n+m<=maxLen)(hbytes:(n+m)*bytes<=140737488355328)(hbase:base<=w.heap.size)
 (h:∀v' w',w'.ownsRow base e size v' (n+m) (xs++news)->w.grownBy w' v.ownBlock->(v'.ownBlock=v.ownBlock∨v'.ownBlock=some w.heap.size)->wpList P j Q rest (a.put o.dst v') w'):wpList P j Q (o :: rest) a w:=by
 refine wpList_plain E fun K hK=> ?_;obtain⟨v',w',hr,h2,h3,h5⟩:=NZ (P:=P) w base t o.type e i z size bytes ht hi hz hsize hby hzs hsz v n xs hown A m c news hsrc h1 h63 hbytes hbase;unfold Oper.wp execOp;simp only[ho,resolve,invoke,builtin,Sem.run_bind,Sem.run_pure,Result.andThen_ok,List.map_toArray,List.map_cons,List.map_nil,hs,hx,hr];exact hK _ _ (h v' w' h2 h3 h5)
end
end Mem
namespace Canon
open Go.RowKit Mem
theorem iN(ls:List Nat)(x:Nat):EV (ls++ [x])=EV ls+if x=0 then 0 else 2 ^ (15-x):=by unfold EV;simp
theorem UE(ls:List Nat):EV ls<=ls.length*32768:=by
 induction ls with
 |nil=>simp[EV]
 |cons x ls ih=>have h3:2 ^ (15-x)<=2 ^ 15:=Cf nB nB;unfold EV at ih ⊢;rw[CE,GH,AI,Ex];split<;>omega
theorem WL(ls:List Nat)(x:Nat):used (ls++ [x])=used ls+if x=0 then 0 else 1:=by unfold used;rw[List.countP_append];by_cases h:x=0<;>simp[h]
theorem fK(ls:List Nat):used ls<=ls.length:=List.countP_le_length
theorem Wz{k:Nat}(hx:ls[k]? =some x)(h:15<x):Cq ls=false:=by
 unfold Cq;have:ls.all (fun x=>decide (x<=15))=false:=by rw[List.all_eq_false];exact⟨x,AY hx,qh⟩
 rw[this,Bool.and_false]
theorem Up(h1:ls.length<=300)(h2:∀x∈ls,x<=15):Cq ls=true:=by unfold Cq;rw[Ch,EL];exact⟨by simpa using h1,fun x hx=>by simpa using h2 x hx⟩
theorem dL(h:300<ls.length):Cq ls=false:=by
 unfold Cq;have:decide (ls.length<=300)=false:=p5
 rw[this,G0]
def G8(ls:List Nat):Nat:=if Cq ls=true then EV ls else 0
def G6(ls:List Nat):Int:=if Cq ls=true then 0 else 13
theorem fG(w:World)(A:Option Addr)(n c:Nat)(ls:List Nat)(hn:ls.length=n)(hN:n<=9223372036854775807)(ha:Row w w A n 1 (kZ .u8 ls)):
 Calls prog 302 #[.slice A n c] w fun e w'=>e= .returned (.tuple #[.int .i64 (G8 ls:Nat), .int .i64 (G6 ls)])/\w=w':=by
 have HN:=hid hn;clear hn;by_cases Z:300<n
 ·have hb:Cq ls=false:=dL (by rw[HN.out];exact Z);have HV:Hid (G8 ls=0):=by show _=_;unfold G8;rw[hb];rfl
  have HE:Hid (G6 ls=13):=by show _=_;unfold G6;rw[hb];rfl
  clear hb;go_enter func302,ntmps302;go_wp2_with fail;go_ret2;exact⟨by rw[HV.out,HE.out];rfl,rfl⟩
 ·go_enter func302,ntmps302;go_wp2_with fail
  go_loop [4,5] (fun s i=>∃ (k S:Nat),k<=n/\i= .int .i64 k/\s= .int .i64 S/\Hid (S=EV (ls.take k))/\S<=9830400/\Hid (∀x∈ls.take k,x<=15)) (fun _ i=>n-(intOf i).toNat)
  case atStart=>exact⟨0,0,nB,rfl,rfl,rfl,nB,fun x hx=>pT⟩
  case round=>
   obtain⟨k,S,hk,rfl,rfl,hS,bS,aa⟩:=hrel;by_cases ac:k<n
   ·obtain⟨b,ag,x,rfl,ai,hx,c0⟩:=Dg ha HN.out ac;have x0:(0:Int)<=(k:Int):=nB;have x1:(k:Int)<(n:Int):=nB;by_cases ab:15<x
    ·have hb:=Wz hx ab;have HV:Hid (G8 ls=0):=(by show _=_;unfold G8;rw[hb];rfl);have HE:Hid (G6 ls=13):=(by show _=_;unfold G6;rw[hb];rfl);clear hb hx;go_wp2_with fail;go_ret2;go_light;exact⟨by rw[HV.out,HE.out];rfl,rfl⟩
    ·have Q:=GB hx;have M:EV (ls.take (k+1))=EV (ls.take k)+if x=0 then 0 else 2 ^ (15-x):=(by rw[Q,iN]);have G:=UE (ls.take (k+1));rw[Bc,M,<-hS.out]at G
     have Y:∀z∈ls.take (k+1),z<=15:=by
      intro z hz;rw[Q,Bx,Em]at hz;rcases hz with hz|rfl
      ·exact aa.out z hz
      ·omega
     have U:=hid Y;have L:=hid M;clear Q M Y hx;by_cases N:x=0
     ·subst N;go_wp2_with fail
      go_round
      case rel=>go_light;exact⟨k+1,S,nB,lj,rfl,by show S=EV (ls.take (k+1));rw[L.out,<-hS.out];simp,bS,U⟩
      case measure=>exact ld
     ·have ah:0<x:=nB;rw[Ae N]at G L;have ae:=hid G;clear G N;go_wp2_with fail
      go_loop [6,7] (fun v j=>∃ (J W:Nat),J<=x/\j= .int .i64 J/\v= .int .i64 W/\Hid (W=2 ^ (15-J))/\W<=32768) (fun _ j=>x-(intOf j).toNat)
      case atStart=>exact⟨0,32768,nB,rfl,rfl,rfl,nB⟩
      case round=>
       obtain⟨J,W,hJ,rfl,rfl,hW,bW⟩:=hrel;by_cases af:J<x
       ·go_wp2_with fail
        go_round
        case rel=>go_light;refine⟨J+1,W / 2,nB,lj,lj,?_,nB⟩;show W / 2=2 ^ (15-(J+1));rw[hW.out,show 15-J=(15-(J+1))+1 by omega,Dl];omega
        case measure=>exact ld
       ·obtain rfl:J=x:=by omega
        go_wp2_with fail
        go_round
        case rel=>go_light;have:=ae.out;rw[<-hW.out]at this;exact⟨k+1,S+W,nB,lj,lj,by show S+W=EV (ls.take (k+1));rw[L.out,<-hS.out,<-hW.out],nB,U⟩
        case measure=>exact ld
   ·obtain rfl:k=n:=by omega
    have E:ls.take k=ls:=Bp mR;have h:Cq ls=true:=Up mR (by have:=aa.out;rw[E]at this;exact this);have HV:Hid (G8 ls=S):=(by show _=_;unfold G8;rw[h,Ag rfl,hS.out,E]);have HE:Hid (G6 ls=0):=(by show _=_;unfold G6;rw[h];rfl);clear E h;go_wp2_with fail;go_ret2;go_light;exact⟨by rw[HV.out,HE.out];rfl,rfl⟩
theorem QS(hg:Cq ls=true):FG ls=if used ls=0∨(used ls=1/\cnt ls 1=1)∨EV ls=32768 then 0 else 7:=by obtain⟨_,h2⟩:=KF hg;rw[Rx ls (cn ls) (fun _=>rfl),NY,NQ,MT ls h2,M4 ls h2,hg];simp[cn]
theorem refcheck_any(w:World)(A:Option Addr)(n c:Nat)(ls:List Nat)(hn:ls.length=n)(hN:n<=9223372036854775807)(ha:Row w w A n 1 (kZ .u8 ls)):
 Calls prog 253 #[.slice A n c] w fun e w'=>e= .returned (.int .i64 (FG ls))/\w=w':=by
 have C:=hid (fG w A n c ls hn hN ha);have HN:=hid hn;clear hn;cases hg:Cq ls
 ·have HV:Hid (G8 ls=0):=by show _=_;unfold G8;rw[hg];rfl
  have HE:Hid (G6 ls=13):=by show _=_;unfold G6;rw[hg];rfl
  have HC:Hid (FG ls=7):=by show _=_;unfold FG;rw[MG hg];rfl
  rw[HV.out,HE.out]at C;clear hg;go_enter func253,ntmps253;go_wp2_with fail;refine C.out.mono ?_;rintro e w1 ⟨rfl,rfl⟩;go_wp2_with fail;go_ret;exact⟨by rw[HC.out];rfl,rfl⟩
 ·have HV:Hid (G8 ls=EV ls):=by show _=_;unfold G8;rw[hg];rfl
  have HE:Hid (G6 ls=0):=by show _=_;unfold G6;rw[hg];rfl
  have HC:=hid (QS hg);have Y:=UE ls;have N:=(KF hg).1;rw[HN.out]at Y N;rw[HV.out,HE.out]at C;generalize EV ls=K at *;clear hg HV HE;go_enter func253,ntmps253;go_wp2_with fail;refine C.out.mono ?_;rintro e w1 ⟨rfl,rfl⟩;go_wp2_with fail
  go_loop [5,6,7] (fun a b i=>∃ (k U O:Nat),k<=n/\i= .int .i64 k/\a= .int .i64 U/\b= .int .i64 O/\Hid (U=used (ls.take k))/\Hid (O=cnt (ls.take k) 1)/\U<=300/\O<=300) (fun _ _ i=>n-(intOf i).toNat)
  case atStart=>exact⟨0,0,0,nB,rfl,rfl,rfl,rfl,rfl,nB,nB⟩
  case round=>
   obtain⟨k,U,O,hk,rfl,rfl,rfl,hU,hO,bU,bO⟩:=hrel;by_cases M:k<n
   ·obtain⟨b,Z,x,rfl,ac,hx,c0⟩:=Dg ha HN.out M;have x0:(0:Int)<=(k:Int):=nB;have x1:(k:Int)<(n:Int):=nB;have J:=GB hx;have h1:used (ls.take (k+1))=U+if x=0 then 0 else 1:=(by rw[J,WL,hU.out]);have h2:cnt (ls.take (k+1)) 1=O+if x=1 then 1 else 0:=(by rw[J,GA,hO.out]);have l1:=fK (ls.take (k+1));have l2:=LY (ls.take (k+1)) 1;rw[Bc]at l1 l2;rw[h1]at l1;rw[h2]at l2;have H1:=hid h1;have H2:=hid h2;have L1:=hid l1;have L2:=hid l2;clear J h1 h2 l1 l2 hx;by_cases G:x=0
    ·subst G;go_wp2_with fail
     go_round
     case rel=>go_light;exact⟨k+1,U,O,nB,lj,rfl,rfl,by show U=used (ls.take (k+1));rw[H1.out];simp,by show O=cnt (ls.take (k+1)) 1;rw[H2.out];simp,bU,bO⟩
     case measure=>exact ld
    ·have aa:0<x:=nB;rw[Ae G]at H1 L1;by_cases L:x=1
     ·subst L;go_wp2_with fail
      go_round
      case rel=>go_light;have a1:=L1.out;have a2:=L2.out;rw[Ag rfl]at a2;exact⟨k+1,U+1,O+1,nB,lj,lj,lj,by show U+1=used (ls.take (k+1));rw[H1.out],by show O+1=cnt (ls.take (k+1)) 1;rw[H2.out];simp,nB,nB⟩
      case measure=>exact ld
     ·have ab:((x:Int)==1)=false:=p5;rw[Ae L]at H2 L2;clear G;go_wp2_with fail
      go_round
      case rel=>go_light;have a1:=L1.out;exact⟨k+1,U+1,O,nB,lj,lj,rfl,by show U+1=used (ls.take (k+1));rw[H1.out],by show O=cnt (ls.take (k+1)) 1;rw[H2.out];simp,nB,bO⟩
      case measure=>exact ld
   ·obtain rfl:k=n:=by omega
    have h:ls.take k=ls:=Bp mR;have j:=hU.out;have E:=hO.out;rw[h]at j E;have hc:=HC.out;rw[<-j,<-E]at hc;have Q:=hid hc;clear h j E hc hU hO HC;go_wp2_with fail
    all_goals
     go_ret;go_light;refine⟨KJ ?_,rfl⟩;rw[Q.out]
     first|(rw[Ag nB];done)|(rw[Ae nB];done)|(simp only[beq_iff_eq,ne_eq,beq_eq_false_iff_ne]at *;first|(rw[Ag nB];done)|(rw[Ae nB];done))
end Canon
namespace Canon
open Go.RowKit Mem
def EH(ls:List Nat)(s:Nat):Nat:=code ls s % 65536
def Wds(ls:List Nat)(n s:Nat)(arr:Array Value):Prop:=arr.size=n/\∀i,i<n->arr[i]? =some (.int .u16 ((if i<s then EH ls i else 0:Nat):Int))
theorem Wds.start(ls:List Nat)(n:Nat):Wds ls n 0 (madeCells #[.int .u16 0] n):=by refine⟨size_madeCells _ _,fun i hi=> ?_⟩;simp[madeCells,hi,Nat.mod_one]
theorem Wds.set(h:Wds ls n s arr)(hs:s<n){v:Nat}(hv:v=EH ls s):Wds ls n (s+1) (arr.setIfInBounds s (.int .u16 (v:Nat))):=by
 refine⟨oS,fun i hi=> ?_⟩;rw[Hm];by_cases e:s=i
 ·subst e;rw[Ag rfl,Ag mU,Ag nB,hv]
 ·rw[Ae e,h.2 i hi];by_cases j:i<s
  ·rw[Ag j,Ag nB]
  ·rw[Ae j,Ae nB]
theorem Wds.skip(h:Wds ls n s arr)(h0:EH ls s=0):Wds ls n (s+1) arr:=by
 refine⟨h.1,fun i hi=> ?_⟩;rw[h.2 i hi];by_cases j:i<s
 ·rw[Ag j,Ag nB]
 ·by_cases e:i=s
  ·subst e;rw[Ae j,Ag nB,h0]
  ·rw[Ae j,Ae nB]
theorem QG(h:ls[s]? =some 0):EH ls s=0:=by unfold EH code;simp[List.getD_eq_getElem?_getD,h]
theorem Tf(h:ls[s]? =some x)(hx:x≠0):EH ls s=(fst ls x+cnt (ls.take s) x) % 65536:=by unfold EH code;simp[List.getD_eq_getElem?_getD,h,hx]
def Fsts(f:Nat->Nat)(l:Nat)(arr:Array Value):Prop:=arr.size=17/\∀j,j<=l->arr[j]? =some (.int .i64 (f j:Nat))
theorem Fsts.set{f:Nat->Nat}(h:Fsts f l arr)(hl:l<16){v:Nat}(hv:v=f (l+1)):Fsts f (l+1) (arr.setIfInBounds (l+1) (.int .i64 (v:Nat))):=by
 refine⟨oS,fun j hj=> ?_⟩;rw[Hm];by_cases e:l+1=j
 ·subst e;rw[Ag rfl,Ag mU,hv]
 ·rw[Ae e];exact h.2 j nB
theorem Fsts.bump{f g:Nat->Nat}(h:Fsts f 16 arr){v:Nat}(hx:x<=16)(hv:v=g x)(ho:∀j,j≠x->g j=f j):Fsts g 16 (arr.setIfInBounds x (.int .i64 (v:Nat))):=by
 refine⟨oS,fun j hj=> ?_⟩;rw[Hm];by_cases e:x=j
 ·subst e;rw[Ag rfl,Ag mU,hv]
 ·rw[Ae e,h.2 j hj,ho j (By e)]
theorem Fsts.zero(ls:List Nat):Fsts (fst ls) 1 #[jd,jd,jd,jd,jd,jd,jd,jd,jd,jd,jd,jd,jd,jd,jd,jd,jd]:=by
 refine⟨rfl,fun j hj=> ?_⟩;have:j=0∨j=1:=nB
 rcases this with rfl|rfl
 ·rfl
 ·simp[fst,cn]
theorem wrap_u16(v:Nat):IntKind.u16.wrap (v:Int)=((v % 65536:Nat):Int):=by rw[IntKind.wrap_u16];omega
theorem TZ:(prog.info? 25).map (fun i=>(i.zero,i.size,i.bytes))=some (some (.int .u16 0),1,2):=ni
theorem bV(n:Nat)(hn:n<=8388608)(w:World):(Instr.makeSlice 227 (.int .i64 (n:Int)) (.int .i64 (n:Int))).run prog w=
 .ok (.slice (some ⟨w,0,none⟩) n n) (w.alloc (.cells (madeCells #[.int .u16 0] n) 25)):=by
 obtain⟨i0,hi,j,i,E⟩:=info_parts TZ;have h:=run_make (P:=prog) w 227 25 i0 (.int .u16 0) underlying227 hi j .i64 .i64 (n:Int) (n:Int) nB (Int.le_refl _) n8 nB;simp only[Int.toNat_natCast]at h;simpa[i,Value.cells]using h
def Wq(ls:List Nat)(n:Nat)(w:World)(e:Ending)(w':World):Prop:=
 ∃ (g:Nat) (arr:Array Value),e= .returned (.tuple #[.slice (some ⟨g,0,none⟩) n n,jd])/\Blk w' g 25 arr/\Wds ls n n arr/\w.heap.size<=g/\Below w w w'
theorem V6(w:World)(A:Option Addr)(n c:Nat)(ls:List Nat)(hn:ls.length=n)(Z:okB ls=true)(ha:Row w w A n 1 (kZ .u8 ls)):
 Calls prog 318 #[.slice A n c] w (Wq ls n w):=by
 have J:Cq ls=true:=by
  cases hg:Cq ls
  ·rw[MG hg]at Z;cases Z
  ·rfl
 obtain⟨am,aw⟩:=KF J;rw[hn]at am;have C:=Ri w A n c ls hn nB ha;have hE:FG ls=0:=by unfold FG;rw[Z];rfl
 rw[hE]at C;have C1:=hid C;have C2:=hid (fun wx (h:Row wx wx A n 1 (kZ .u8 ls))=>R6 wx A n c ls hn nB h);have HN:=hid hn;have HG:=hid J;have a5:=hid aw;have bi:=bV n nB;have a9:=fun l (h:l<=16)=>zW ls l;have a3:Hid (∀l,l<=16->fst ls l<=39321600):=by show ∀l,l<=16->fst ls l<=39321600;intro l hl;have h1:=zW ls l;have h2:2 ^ (l+1)<=2 ^ 17:=Cf nB nB;have h3:2 ^ (l+1)*ls.length<=2 ^ 17*300:=Hh h2 nB;omega
 clear C hE Z J aw hn a9;go_enter func318,ntmps318;go_wp2_with fail;refine C1.out.mono ?_;rintro e w1 ⟨rfl,ah⟩;have z1:=ah.size;go_wp2_with fail;refine(C2.out _ ((ha.below ah).mono z1)).mono ?_;rintro e w2 ⟨arr,f,rfl,hc,hf,hg,ax⟩;rw[hg HG.out]at hc;rw[HG.out];have z2:=ax.size;have ak:Below w w w2:=zZ ax z1 ah;have U:arr.size=16:=hc.1;have ai:Blk (w2.alloc (.cells #[jd,jd,jd,jd,jd,jd,jd,jd,jd,jd,jd,jd,jd,jd,jd,jd] 442)) w2 442 _:=Blk.made _ _ _;have av:=RP (arr:=arr) ai (by rw[U];rfl);have a0:(w2.alloc (.cells #[jd,jd,jd,jd,jd,jd,jd,jd,jd,jd,jd,jd,jd,jd,jd,jd] 442)).there w2 0 arr.size:=by rw[U];exact KO ai
 have ae:(prog.info? 442).map (·.size)=some arr.size:=by rw[U];exact JQ
 have af:Below w w ((w2.alloc (.cells #[jd,jd,jd,jd,jd,jd,jd,jd,jd,jd,jd,jd,jd,jd,jd,jd] 442)).setCells w2 0 arr.toList):=
  Ks nB _ _ _ (mZ nB ak)
 have az:=hid hc.one;have aq:=hid ae;have HC:=hid hc;clear U ae hc hf hg ai C1 C2;go_upto_region 5 with (refine wpList_store_mid rfl 442 (.tmp 5) (.tmp 20) rfl w2.heap.size 0 arr nC nC a0 aq.out az.out ?_);have bg:=av.lt;clear a0;generalize (w2.alloc (.cells #[jd,jd,jd,jd,jd,jd,jd,jd,jd,jd,jd,jd,jd,jd,jd,jd] 442)).setCells w2 0 arr.toList=w3 at *;have al:=af.size;go_wp2_with fail;go_loopw [8] (fun i wr=>∃ (l:Nat) (fa:Array Value),1<=l/\l<=16/\i= .int .i64 l/\Blk wr w2 442 arr/\Blk wr w3 446 fa/\Hid (Fsts (fst ls) l fa)/\Below w w wr) (fun i _=>16-(intOf i).toNat)
 case atStart=>exact⟨1,_,nB,nB,rfl,av.alloc _,Blk.made _ _ _,Fsts.zero ls,mZ al af⟩
 case round=>
  obtain⟨l,fa,bf,be,rfl,a1,G,hF,E⟩:=hrel;by_cases Y:l<16
  ·have c1:=G.cell l;rw[hF.out.2 l nB]at c1;have c2:=a1.cell l;rw[HC.out.2 l nB]at c2;have c3:=G.cell (l+1);rw[LN (by have:=hF.out.1;omega)]at c3;generalize fa[l+1]'(by have:=hF.out.1;omega)=old at c3;have f3:=G.frozen (l+1);have b1:=a3.out l nB;have b2:=Jm ls l;have a4:fst ls (l+1)=2*(fst ls l+cn ls l):=rfl;have a6:=hid a4;rw[HN.out]at b2;clear a4;generalize fst ls l=F at *;generalize cn ls l=K at *;have x0:(0:Int)<=(l:Int):=nB;have x1:(l:Int)<16:=nB;have x2:(l:Int)<17:=nB;have x3:(0:Int)<=(l:Int)+1:=nB;have x4:(l:Int)+1<17:=nB;have x5:Hid (((l:Int)+1).toNat=l+1):=pH;have s1:Hid (IntKind.i64.wrap ((l:Int)+1)=(l:Int)+1):=Az _ nB;have s2:Hid (IntKind.i64.wrap ((F:Int)+(K:Int))=(F:Int)+(K:Int)):=Az _ nB;go_wp2_with fail;have t1:=s1.out;have t2:=s2.out;have t3:=x5.out;go_region;all_goals clear t1 t2 t3;all_goals go_wp2_with fail
   all_goals
    go_roundw
    case rel=>go_light;have e:((F:Int)+(K:Int))*2=((fst ls (l+1):Nat):Int):=(by rw[a6.out];omega);rw[e];exact⟨l+1,_,nB,nB,lj,(a1.far (p:=⟨w3.heap.size,l+1,none⟩) (show w2.heap.size≠w3.heap.size by omega) _).drew,(G.set _ _).drew,hF.out.set Y rfl,(BN (p:=⟨w3.heap.size,l+1,none⟩) al E).drew⟩
    case measure=>exact ld
  ·obtain rfl:l=16:=by omega
   go_wp2_with fail;have an:=E.size;have bh:=G.lt;obtain⟨wo,rfl⟩:=jc wr;have ab:=G.alloc (.cells (madeCells #[.int .u16 0] n) 25);have ac:Blk (wo.alloc (.cells (madeCells #[.int .u16 0] n) 25)) wo 25 _:=Blk.made _ _ _;have ag:=mZ (o:= .cells (madeCells #[.int .u16 0] n) 25) an E;have ar:Fsts (fun j=>fst ls j+cn (ls.take 0) j) 16 fa:=(by refine⟨hF.out.1,fun j hj=> ?_⟩;rw[hF.out.2 j hj];simp[cn,Jv]);have au:=hid ar;clear ar G E hF;go_loopw [42] (fun i wr=>∃ (s:Nat) (fb ds:Array Value),s<=n/\i= .int .i64 s/\Blk wr w3 446 fb/\Blk wr wo 25 ds/\Hid (Fsts (fun j=>fst ls j+cn (ls.take s) j) 16 fb)/\Hid (Wds ls n s ds)/\Below w w wr) (fun i _=>n-(intOf i).toNat)
   case atStart=>exact⟨0,fa,_,nB,rfl,ab,ac,au,Wds.start ls n,ag⟩
   case round=>
    clear ab ac ag au;obtain⟨s,fb,ds,hs,rfl,G,M,hF,hW,E⟩:=hrel;by_cases Y:s<n
    ·obtain⟨b,bd,x,rfl,bj,hx,c0⟩:=Dg (ha.below E) HN.out Y;have bc:=a5.out x (AY hx);have x0:(0:Int)<=(s:Int):=nB;have x1:(s:Int)<(n:Int):=nB;have aa:=GB hx;by_cases Q:x=0
     ·subst Q
      have L:∀j,cn (ls.take (s+1)) j=cn (ls.take s) j:=by
       intro j;rw[aa];unfold cn;split
       ·rfl
       ·rw[GA,Ae nB];rfl
      have bb:=hid L;have HZ:=hid (QG hx);clear hx aa L;go_wp2_with fail;go_roundw
      case rel=>go_light;exact⟨s+1,fb,ds,nB,lj,G,M,by show Fsts _ 16 fb;simp only[bb.out];exact hF.out,hW.out.skip HZ.out,E⟩
      case measure=>exact ld
     ·have L:∀j,cn (ls.take (s+1)) j=cn (ls.take s) j+if x=j then 1 else 0:=by
       intro j;rw[aa];unfold cn;split
       ·rename_i h;subst h;rw[Ae Q]
       ·rw[GA]
      have ay:cn (ls.take s) x=cnt (ls.take s) x:=(by unfold cn;rw[Ae Q]);have aj:=Tf hx Q;rw[<-ay]at aj;have c1:wr.cell? ⟨w3.heap.size,x,none⟩=some (.int .i64 ((fst ls x+cn (ls.take s) x:Nat):Int)):=(G.cell x).trans (hF.out.2 x nB);have f1:=G.frozen x;have c2:=M.cell s;rw[LN (by have:=hW.out.1;omega)]at c2;generalize ds[s]'(by have:=hW.out.1;omega)=old at c2;have f2:=M.frozen s;have b1:=a3.out x nB;have b2:=Jm (ls.take s) x;rw[Bc]at b2
      have N:Fsts (fun j=>fst ls j+cn (ls.take (s+1)) j) 16 (fb.setIfInBounds x (.int .i64 ((fst ls x+cn (ls.take s) x+1:Nat):Int))):=by
       refine hF.out.bump nB ?_ fun j hj=> ?_
       ·simp only[L,if_pos];omega
       ·simp only[L];rw[Ae (By hj)];rfl
      have bv:fst ls x+cn (ls.take s) x<=39321900:=mR;clear b1 b2;generalize fst ls x+cn (ls.take s) x=v at *;have HV:Hid (((v % 65536:Nat):Int)=(EH ls s:Nat)):=(by show _=_;rw[aj]);have ba:=hid N;have x3:(0:Int)<=(x:Int):=nB;have x4:(x:Int)<17:=nB;have xp:0<x:=nB;clear hx aa L ay aj N Q;go_wp2_with fail;go_roundw
      case rel=>
       go_light;rw[wrap_u16 v,HV.out]
       exact⟨s+1,_,_,nB,lj,(G.far (p:=⟨wo.heap.size,s,none⟩) (show w3.heap.size≠wo.heap.size by omega) _).set _ _,(M.set _ _).far (p:=⟨w3.heap.size,x,none⟩) (show wo.heap.size≠w3.heap.size by omega) _,ba,hW.out.set Y rfl,
        BN (p:=⟨w3.heap.size,x,none⟩) al (BN (p:=⟨wo.heap.size,s,none⟩) an E)⟩
      case measure=>exact ld
    ·obtain rfl:s=n:=by omega
     go_wp2_with fail;go_ret2;go_light;exact⟨wo.heap.size,ds,rfl,M,hW.out,nB,E⟩
end Canon
namespace Canon
open Go.RowKit Mem
def part(ls:List Nat)(l s i:Nat):Nat:=let x:=ls.getD i 0;if x≠0/\(x<l∨(x=l/\i<s))then EH ls i else 0
def Fp(ls:List Nat)(l s:Nat):List Value:=(List.range ls.length).map fun i=> .int .u16 (part ls l s i:Nat)
theorem Tx(ls:List Nat)(l s:Nat):(Fp ls l s).length=ls.length:=by simp[Fp]
theorem l7(ls:List Nat):Fp ls 1 0=List.replicate ls.length (.int .u16 0):=by
 unfold Fp;apply List.ext_getElem
 ·simp
 ·intro i h1 h2;have:part ls 1 0 i=0:=by unfold part;simp only;split<;>omega
  simp[this]
theorem gV(hx:ls[s]? =some x)(h:x≠l):Fp ls l (s+1)=Fp ls l s:=by
 unfold Fp;apply Hj;intro i _;congr 2;unfold part;by_cases e:i=s
 ·subst e;have:ls.getD i 0=x:=by simp[List.getD_eq_getElem?_getD,hx]
  simp only[this];by_cases h1:x≠0/\x<l
  ·rw[Ag ⟨h1.1, .inl h1.2⟩,Ag ⟨h1.1, .inl h1.2⟩]
  ·rw[Ae nB,Ae nB]
 ·have:(i<s+1)=(i<s):=by simp;omega
  simp only[this]
theorem lH(hx:ls[s]? =some l)(h0:l≠0):Fp ls l (s+1)=(Fp ls l s).set s (.int .u16 (EH ls s:Nat)):=by
 unfold Fp;apply List.ext_getElem?;intro i;rw[List.getElem?_set];have hs:s<ls.length:=(BS.1 hx).1;by_cases e:s=i
 ·subst e;have hg:ls[s]=l:=(BS.1 hx).2;simp[hs,part,hg,h0]
 ·rw[Ae e];by_cases hi:i<ls.length
  ·simp only[List.getElem?_map,List.getElem?_range hi,Option.map_some];congr 2;unfold part;have:(i<s+1)=(i<s):=p5;simp only[this]
  ·simp[hi]
theorem fV(ls:List Nat)(l:Nat):Fp ls l ls.length=Fp ls (l+1) 0:=by unfold Fp;apply Hj;intro i hi;have hi:=FA.1 hi;congr 2;unfold part;simp only;congr 1;simp;omega
theorem kL(h:∀x∈ls,x<=15):Fp ls 16 0=(List.range ls.length).map fun i=> .int .u16 (EH ls i:Nat):=by
 unfold Fp;apply Hj;intro i hi;have hi:=FA.1 hi;congr 2;unfold part;have hg:ls.getD i 0=ls[i]:=by simp[List.getD_eq_getElem?_getD,hi]
 simp only[hg];have:=h _ (GI hi);by_cases h0:ls[i]=0
 ·rw[Ae nB,QG (by rw[AD hi,h0])]
 ·rw[Ag ⟨h0, .inl nB⟩]
def Nxt(ls:List Nat)(l s:Nat)(next was:Nat)(any:Bool):Prop:=
 if any=true then was<=l/\(next+1)*2 ^ (l-was)=fst ls l+cn (ls.take s) l else next=0/\fst ls l+cn (ls.take s) l=0
theorem Nxt.start(ls:List Nat):Nxt ls 1 0 0 0 false:=by unfold Nxt;simp[fst,cn,Jv]
theorem Nxt.skip{next:Nat}(h:Nxt ls l s next j i)(hx:ls[s]? =some x)(E:x≠l):Nxt ls l (s+1) next j i:=by
 have:cn (ls.take (s+1)) l=cn (ls.take s) l:=by
  rw[GB hx];unfold cn;split
  ·rfl
  ·rw[GA,Ae E];rfl
 unfold Nxt at h ⊢;rw[this];exact h
theorem Nxt.next{ls:List Nat}{l next i:Nat}{j:Bool}(h:Nxt ls l ls.length next i j):Nxt ls (l+1) 0 next i j:=by
 unfold Nxt at h ⊢;rw[List.take_length]at h;have h0:cn (ls.take 0) (l+1)=0:=by simp[cn,Jv]
 rw[h0,fst];split at h
 ·rename_i ha;rw[Ag ha];refine⟨nB,?_⟩;rw[show l+1-i=(l-i)+1 by omega,Dl];have:(next+1)*(2 ^ (l-i)*2)=(next+1)*2 ^ (l-i)*2:=by rw[Nat.mul_assoc]
  rw[this,h.2];omega
 ·rename_i ha;rw[Ae ha];omega
theorem Nxt.word{next:Nat}(h:Nxt ls l s next j i)(hx:ls[s]? =some l)(h0:l≠0):
 ∃v,v=fst ls l+cn (ls.take s) l/\v % 65536=EH ls s/\Nxt ls l (s+1) v l true/\(i=true->j<=l/\(next+1)*2 ^ (l-j)=v)/\(i=false->next=v):=by
 refine⟨_,rfl,?_,?_,fun ha=> ?_,fun ha=> ?_⟩
 ·rw[Tf hx h0];congr 2;unfold cn;rw[Ae h0]
 ·unfold Nxt;rw[Ag rfl];refine⟨Am _,?_⟩;have:cn (ls.take (s+1)) l=cn (ls.take s) l+1:=by rw[GB hx];unfold cn;rw[Ae h0,Ae h0,GA,Ag rfl]
  rw[this,Gl];omega
 ·unfold Nxt at h;rw[Ag ha]at h;exact h
 ·unfold Nxt at h;rw[Ae (by rw[ha];simp)]at h;omega
def dB(ls:List Nat)(n:Nat)(w:World)(e:Ending)(w':World):Prop:=
 ∃v,e= .returned (.tuple #[v,jd])/\w'.ownsRow w 25 1 v n ((List.range n).map fun i=> .int .u16 (EH ls i:Nat))/\Below w w w'
theorem bH(w:World)(A:Option Addr)(n c:Nat)(ls:List Nat)(hn:ls.length=n)(ab:okB ls=true)(ha:Row w w A n 1 (kZ .u8 ls)):
 Calls prog 254 #[.slice A n c] w (dB ls n w):=by
 have Z:Cq ls=true:=by
  cases hg:Cq ls
  ·rw[MG hg]at ab;cases ab
  ·rfl
 obtain⟨al,an⟩:=KF Z;rw[hn]at al;have C:=refcheck_any w A n c ls hn nB ha;have hE:FG ls=0:=by unfold FG;rw[ab];rfl
 rw[hE]at C;have C1:=hid C;have HN:=hid hn;have ak:=hid an;have be:Hid (∀l,l<=16->fst ls l<=39321600):=by show ∀l,l<=16->fst ls l<=39321600;intro l hl;have h1:=zW ls l;have h2:2 ^ (l+1)<=2 ^ 17:=Cf nB nB;have h3:2 ^ (l+1)*ls.length<=2 ^ 17*300:=Hh h2 nB;omega
 obtain⟨i0,bb,a1,a4,a5⟩:=info_parts TZ;clear C hE ab Z an hn;go_enter func254,ntmps254;go_wp2_with fail;refine C1.out.mono ?_;rintro e w1 ⟨rfl,rfl⟩;go_wp2_with fail;go_loopw [4,5] (fun v i wr=>∃k:Nat,k<=n/\i= .int .i64 k/\wr.ownsRow w 25 1 v k (List.replicate k (.int .u16 0))/\Below w w wr) (fun _ i _=>n-(intOf i).toNat)
 case atStart=>exact⟨0,nB,rfl,AE _ _ _ _,Ak _ _⟩
 case round=>
  obtain⟨k,hk,rfl,h,E⟩:=hrel;have a6:=E.size;by_cases bl:k<n
  ·obtain⟨va,vc,rfl⟩:=aZ h;go_wp2_with(at_builtin;refine fZ rfl (.tmp 21) (.tmp 22) 227 rfl w 25 i0 _ 1 2 underlying227 bb a1 a4 a5 rfl ji _ _ _ nC (h.alloc _) _ 1 1 [.int .u16 0] nC (Src.of_blk (Blk.made _ _ _) 1 1 1 rfl) na qn nB p5 ?_;intro v3 w3 ag az bg);go_roundw
   case rel=>go_light;refine⟨k+1,nB,lj,?_,((mZ a6 E).grown az p5 (fun g hg=>(Ai h g hg).1))⟩;rw[List.replicate_succ'];exact ag
   case measure=>exact ld
  ·obtain rfl:k=n:=by omega
   obtain⟨va,vc,rfl⟩:=aZ h;rw[<-HN.out,<-l7,HN.out]at h;have ae:=hid h;have U:=E;clear h;go_wp2_with fail;go_loopw [6,7,8,9] (fun a b d e wr=>∃ (l N W:Nat) (y:Bool),1<=l/\l<=16/\e= .int .i64 l/\a= .int .i64 N/\b= .int .i64 W/\d= .bool y/\Hid (Nxt ls l 0 N W y)/\N<=50000000/\W<=16/\wr.ownsRow w 25 1 (.slice va k vc) k (Fp ls l 0)/\Below w w wr) (fun _ _ _ e _=>16-(intOf e).toNat)
   case atStart=>exact⟨1,0,0,false,nB,nB,rfl,rfl,rfl,rfl,Nxt.start ls,nB,nB,ae.out,U⟩
   case round=>
    clear U ae;obtain⟨l,N,W,y,bn,bm,rfl,rfl,rfl,rfl,G,bN,bW,h,E⟩:=hrel;by_cases bu:l<16
    ·go_wp2_with fail;obtain⟨wo,rfl⟩:=jc wr;go_loopw [6,7,8,10] (fun a b d e wr=>∃ (s N W:Nat) (y:Bool),s<=k/\e= .int .i64 s/\a= .int .i64 N/\b= .int .i64 W/\d= .bool y/\Hid (Nxt ls l s N W y)/\N<=50000000/\W<=16/\wr.ownsRow w 25 1 (.slice va k vc) k (Fp ls l s)/\Below w w wr) (fun _ _ _ e _=>k-(intOf e).toNat)
     case atStart=>exact⟨0,N,W,y,nB,rfl,rfl,rfl,rfl,G,bN,bW,h,E⟩
     case round=>
      clear G h E;obtain⟨s,N,W,y,hs,rfl,rfl,rfl,rfl,G,bN,bW,h,E⟩:=hrel;by_cases a0:s<k
      ·obtain⟨b,bj,x,rfl,bk,hx,c0⟩:=Dg (ha.below E) HN.out a0;have x0:(0:Int)<=(s:Int):=nB;have x1:(s:Int)<(k:Int):=nB;by_cases aa:x=l
       ·subst aa;obtain⟨v,hv,aw,L,au,av⟩:=G.out.word hx nB;have bv:v<=39321900:=(by have h1:=be.out x nB;have h2:=Jm (ls.take s) x;rw[Bc]at h2;omega);have af:=lH hx (by omega)
        obtain⟨g,ac,Y⟩:∃g ac,Value.slice va k vc= .slice (some ⟨g,0,none⟩) k ac:=by
         rcases h.2 with ⟨Y,_⟩|⟨g,ac,cur,Y,_⟩
         ·injection Y with _ h2 _;omega
         ·exact⟨g,ac,Y⟩
        injection Y with e1 e2 e3;subst e1 e3;have aj:=h.stored s (.int .u16 (EH ls s:Nat));rw[<-af]at aj;have ax:=(Ai h g rfl).1;have c1:=h.cellAt s nB;rw[AD (by rw[Tx,HN.out];omega)]at c1;generalize (Fp ls x s)[s]'(by rw[Tx,HN.out];omega)=old at c1;have f1:=h.frozenAt s;have ar:=hid aj.1;have Q:=hid L;have ay:Hid (IntKind.u16.wrap (v:Int)=((EH ls s:Nat):Int)):=(by show _=_;rw[wrap_u16,aw]);have ba:=hid au;have a3:=hid av;clear hv aw af aj hx L G e2 au av;cases y
        ·obtain rfl:=a3.out rfl;go_wp2_with fail;go_roundw
         case rel=>go_light;rw[ay.out];exact⟨s+1,N,x,true,nB,lj,rfl,rfl,rfl,Q,nB,nB,ar.out,BN (p:=⟨g,s,none⟩) ax E⟩
         case measure=>exact ld
        ·obtain⟨bq,ah⟩:=ba.out rfl;have a9:=hid ah;have aq:∀J,W<=J->J<=x->(N+1)*2 ^ (J-W)<=v:=(by intro J h1 h2;rw[<-ah];exact Nat.mul_le_mul_left _ (Cf nB nB));have am:=hid aq;clear ah aq;go_wp2_with fail
         go_loop [6,11] (fun a j=>∃J M:Nat,W<=J/\J<=x/\j= .int .i64 J/\a= .int .i64 M/\Hid (M=(N+1)*2 ^ (J-W))/\M<=39321900) (fun _ j=>x-(intOf j).toNat)
         case atStart=>exact⟨W,N+1,nB,nB,rfl,lj,by show N+1=_;simp,by have:=am.out W nB nB;simp at this;omega⟩
         case round=>
          obtain⟨J,M,bt,bp,rfl,rfl,hM,bM⟩:=hrel;by_cases bh:J<x
          ·go_wp2_with fail
           go_round
           case rel=>go_light;have h1:=am.out (J+1) nB nB;have h2:(N+1)*2 ^ (J+1-W)=2*M:=(by rw[hM.out,show J+1-W=(J-W)+1 by omega,Dl,<-Nat.mul_assoc,Nat.mul_comm]);exact⟨J+1,2*M,nB,nB,lj,lj,h2.symm,nB⟩
           case measure=>exact ld
          ·obtain rfl:J=x:=by omega
           obtain rfl:M=v:=hM.out.trans a9.out;go_wp2_with fail;go_roundw
           case rel=>go_light;rw[ay.out];exact⟨_,_,_,_,⟨s+1,nB,rfl,M,rfl,J,rfl, .inr ⟨rfl,Q,nB,nB,ar.out,BN (p:=⟨g,s,none⟩) ax E⟩⟩,rfl,rfl,rfl,lj⟩
           case measure=>exact ld
       ·have bf:x<=15:=ak.out x (AY hx);have bi:((x:Int) != (l:Int))=true:=bne_iff_ne.mpr nB;have L:=G.out.skip hx aa;have Q:=hid L;have bc:=hid (gV hx aa);clear L hx aa;go_wp2_with fail;go_roundw
        case rel=>go_light;exact⟨s+1,N,W,y,nB,lj,rfl,rfl,rfl,Q,bN,bW,by rw[bc.out];exact h,E⟩
        case measure=>exact ld
      ·obtain rfl:s=k:=by omega
       have ai:=G.out;rw[<-HN.out]at ai;have bd:=hid ai.next;have hp:=fV ls l;rw[HN.out]at hp;rw[hp]at h;clear ai hp G;go_wp2_with fail;go_roundw
       case rel=>go_light;exact⟨l+1,N,W,y,nB,nB,lj,rfl,rfl,rfl,bd,bN,bW,h,E⟩
       case measure=>exact ld
    ·obtain rfl:l=16:=by omega
     rw[kL ak.out,HN.out]at h;go_wp2_with fail;go_ret2;go_light;exact⟨_,rfl,h,E⟩
end Canon
namespace Own
open Go.RowKit Mem
theorem eZ{w':World}{v:Value}(h:w.ownsRow base e s v n xs)(hk:∀g,v.ownBlock=some g->w'.heap[g]? =w.heap[g]?):
 w'.ownsRow base e s v n xs:=by
 refine⟨h.1,?_⟩;rcases h.2 with h0|⟨g,i,cur,rfl,hb,hg,rest⟩
 ·exact .inl h0
 ·exact .inr ⟨g,i,cur,rfl,hb,(hk g rfl).trans hg,rest⟩
theorem iZ{v:Value}{cs:Array Value}(h:w.ownsRow base e s v n xs)(hb:Blk w g t cs)(i:e≠t):v.ownBlock≠some g:=by
 intro hv;rcases h.2 with ⟨rfl,_⟩|⟨g',j,cur,rfl,_,hg,_⟩
 ·simp[Value.ownBlock]at hv
 ·simp[Value.ownBlock]at hv;subst hv;exact Blk.apart (t:=e) hg hb i rfl
theorem EN{i:Nat}{e':TypeId}{s' n':Nat}{v v':Value}{E:List Value}(h:w.ownsRow base e s v n xs)(h':w.ownsRow i e' s' v' n' E)(j:e≠e'):
 v.ownBlock=none∨v.ownBlock≠v'.ownBlock:=by
 rcases h.2 with ⟨rfl,_⟩|⟨g,G,cur,rfl,_,hg,_⟩
 ·exact .inl rfl
 ·refine .inr fun hv=> ?_;exact iZ h' (g:=g) (t:=e) hg (By j) hv.symm
theorem Ms{v:Value}(h:w.ownsRow base e s v (n+1) xs):∃g i,v= .slice (some ⟨g,0,none⟩) (n+1) i:=by
 rcases h.2 with ⟨_,h0⟩|⟨g,i,cur,rfl,_⟩
 ·omega
 ·exact⟨g,i,rfl⟩
theorem Ew(h:w.ownsRow base e s (.slice A n c) n xs):Wf A n c:=by
 rcases h.2 with ⟨hv,hx⟩|⟨g,i,cur,hv,_,_,h1,_⟩
 ·injection hv with e1 e2 e3;subst e1 e2 e3;exact Wf.nil
 ·injection hv with e1 e2 e3;subst e1 e3;exact Wf.some h1
end Own
namespace Own
open Go.RowKit Mem
structure Kept (K:Nat->Prop) (a w:World):Prop where
 os:w.os=a.os
 tape:w.tape=a.tape
 output:w.output=a.output
 size:a.heap.size<=w.heap.size
 block:∀k,K k->w.heap[k]? =a.heap[k]?
section
variable {K:Nat->Prop} {a b c w w':World}
theorem Kept.refl(K:Nat->Prop)(a:World):Kept K a a:=⟨rfl,rfl,rfl,Am _,fun _ _=>rfl⟩
theorem Kept.trans(h:Kept K a b)(k:Kept K b c):Kept K a c:=
 ⟨k.os.trans h.os,k.tape.trans h.tape,k.output.trans h.output,Bm h.size k.size,fun i hi=>(k.block i hi).trans (h.block i hi)⟩
theorem Kept.drew(h:Kept K a w):Kept K a w.drew:=⟨h.os,h.tape,h.output,h.size,h.block⟩
theorem Kept.drewN(h:Kept K a w)(n:Nat):Kept K a (w.drewN n):=⟨h.os,h.tape,h.output,h.size,h.block⟩
theorem Kept.set(h:Kept K a w){p:Addr}(hp:¬K p.block)(u:Value):Kept K a (w.setCell p u):=
 have hb:=(Ak 0 w).setCell (p:=p) (Da _) u
 ⟨hb.os.trans h.os,hb.tape.trans h.tape,hb.output.trans h.output,Bm h.size hb.size,fun k hk=>(Be w p u k (fun e=>hp (e ▸ hk))).trans (h.block k hk)⟩
theorem Kept.alloc(h:Kept K a w)(hK:∀k,K k->k<w.heap.size)(o:Obj):Kept K a (w.alloc o):=
 have hb:=(Ak 0 w).alloc (Da _) o
 ⟨hb.os.trans h.os,hb.tape.trans h.tape,hb.output.trans h.output,Bm h.size hb.size,fun k hk=>(EA w o k (hK k hk)).trans (h.block k hk)⟩
theorem Kept.grown(h:Kept K a w){row:Option Nat}(hg:w.grownBy w' row)(hK:∀k,K k->k<w.heap.size)(hr:∀k,row=some k->¬K k):Kept K a w':=
 ⟨hg.os.trans h.os,hg.tape.trans h.tape,hg.output.trans h.output,Bm h.size hg.size,fun k hk=>(hg.block k (hK k hk) (fun e=>hr k e.symm hk)).trans (h.block k hk)⟩
theorem Kept.of_below(h:Below B a w)(hK:∀k,K k->k<B):Kept K a w:=⟨h.os,h.tape,h.output,h.size,fun k hk=>h.block k (hK k hk)⟩
theorem Kept.below(h:Kept K a w)(hK:∀k,k<B->K k):Below B a w:=⟨h.os,h.tape,h.output,h.size,fun k hk=>h.block k (hK k hk)⟩
theorem Kept.lt(h:Kept K a w)(hK:∀k,K k->k<a.heap.size):∀k,K k->k<w.heap.size:=fun k hk=>Fi (hK k hk) h.size
end
theorem lZ{i:Nat}{v:Value}(h:w.ownsRow base e s v n xs)(hb:i<=base):w.ownsRow i e s v n xs:=by
 refine⟨h.1,?_⟩;rcases h.2 with h0|⟨g,j,cur,rfl,hg,rest⟩
 ·exact .inl h0
 ·exact .inr ⟨g,j,cur,rfl,Bm hb hg,rest⟩
theorem aV(l:List Value)(i:Nat)(u:Value):l.toArray.setIfInBounds i u=(l.set i u).toArray:=pR
end Own
end Go.Proofs.YtfgdoknipbpfhaaGreatDoor
