/- append onto a row of -/
import Derived.Test.YtbgoibedicbkjaaGreatDoorZBodyLogs1
import Derived.Laws.AppendOwnNone
namespace Go.Proofs.YtbgoibedicbkjaaGreatDoor
open Go.Lib (hid)
set_option maxHeartbeats 1000000
set_option maxRecDepth 100000
namespace Mem
open Go.RowKit
def vZ(A:Option Addr)(l cap s:Nat):Option Addr:=if cap=l then A else A.map (·.add (l*s))
theorem EG{P:Program}{t e:TypeId}{s:Nat}(ht:P.underlying t=some (.slice e))(hs:∀w,(sizeOf e).run P w= .ok s w)(A:Option Addr)(len h:Nat)(kl:IntKind)(l:Int)(k:Nat)(hl:l=k)(hk:k<=len)(w:World):
 (Instr.slice t (.slice A len h) (some (.int kl l)) none none).run P w= .ok (.slice (vZ A k h s) (len-k) (h-k)) w:=by
 subst hl;have he:P.elem t=e:=by simp[Program.elem,ht]
 rw[run_slice_l w t A len h (by rw[he];exact ht) kl (k:Int) (by omega) (by omega),he,hs];rfl
theorem G5{P:Program}{t e:TypeId}{s:Nat}(ht:P.underlying t=some (.slice e))(hs:∀w,(sizeOf e).run P w= .ok s w)(A:Option Addr)(len i:Nat)(kl kh:IntKind)(l h:Int)(k m:Nat)(hl:l=k)(hh:h=m)(hk:k<=m)(hm:m<=i)(w:World):
 (Instr.slice t (.slice A len i) (some (.int kl l)) (some (.int kh h)) none).run P w= .ok (.slice (vZ A k i s) (m-k) (i-k)) w:=by
 subst hl hh;have he:P.elem t=e:=by simp[Program.elem,ht]
 rw[run_slice_lh w t A len i (by rw[he];exact ht) kl kh (k:Int) (m:Int) (by omega) (by omega) (by omega),he,hs];rfl
theorem EY(b h i:Nat):(⟨b,h,none⟩:Addr).add i=⟨b,h+i,none⟩:=by
 unfold Addr.add;split
 ·simp_all
 ·rfl
theorem Row.cut{w:World}{B n s c:Nat}{A:Option Addr}{f g:Nat->Nat->Value}(h:Row w B A n s f)(k m:Nat)(hk:k+m<=n)(hc:n<=c)(hg:∀i j,i<m->j<s->f (k+i) j=g i j):Row w B (vZ A k c s) m s g:=fun hn=>by obtain⟨b,z,rfl,hb,y⟩:=h (by omega);unfold vZ;rw[Aa (by omega)];refine⟨b,z+k*s,by simp[EY],hb,fun i j hi hj=> ?_⟩;have:=y (k+i) j (by omega) hj;rw[hg i j hi hj]at this;rw[<-this,EC];congr 2;omega
def Src(w:World)(A:Option Addr)(m c size:Nat)(news:List Value):Prop:=
 news.length=m*size/\((A=none/\m=0/\c=0)∨∃ad,A=some ad/\∀j u,news[j]? =some u->w.cell? (ad.add j)=some u)
theorem add_none(b h i:Nat):(⟨b,h,none⟩:Addr).add i=⟨b,h+i,none⟩:=by
 unfold Addr.add;split
 ·simp_all
 ·rfl
theorem Src.of_blk{w:World}{g:Nat}{t:TypeId}{cs:Array Value}(h:Blk w g t cs)(m c size:Nat)(hs:cs.size=m*size):Src w (some ⟨g,0,none⟩) m c size cs.toList:=
 ⟨by simpa using hs, .inr ⟨_,rfl,fun j u hu=>by rw[add_none,Bq,h.cell];simpa using hu⟩⟩
section
variable {P:Program}
theorem Mb(w:World)(base:Nat)(t ty e:TypeId)(i:TypeInfo)(z:Value)(size bytes:Nat)(ht:P.underlying t=some (.slice e))(hi:P.info? e=some i)(hz:i.zero=some z)
 (G:i.size=size)(N:i.bytes=bytes)(Q:z.cells.size=size)(L:0<size)
 (v:Value)(n:Nat)(xs:List Value)(j:w.ownsRow base e size v n xs)
 (A:Option Addr)(m c:Nat)(h:List Value)(J:Src w A m c size h)(h1:∀u∈h,u.oneCell'=true)
 (M:n+m<=maxLen)(y:(n+m)*bytes<=140737488355328)(E:base<=w.heap.size):
 ∃v' w',(Builtin.append_ #[t,t] ty #[v, .slice A m c]).run P w= .ok v' w'/\w'.ownsRow base e size v' (n+m) (xs++h)/\w.grownBy w' v.ownBlock/\
  (v'.ownBlock=v.ownBlock∨v'.ownBlock=some w.heap.size):=by
 obtain⟨hl,hA⟩:=J;rcases hA with ⟨rfl,rfl,rfl⟩|⟨ad,rfl,hc⟩
 ·have hn:h= []:=FF (by simpa using hl);subst hn;exact⟨v,w,run_append_owned_none (P:=P) (w:=w) base t ty e i size ht hi v n xs j,by simpa using j,⟨rfl,rfl,rfl,Aj _,fun _ _ _=>rfl⟩, .inl rfl⟩
 ·obtain⟨v',w',hr,h2,h3,_,h5⟩:=run_append_own_at (P:=P) w base t ty e i z size bytes ht hi hz G N Q L v n xs j ad m c h hl hc h1 M y E;exact⟨v',w',hr,h2,h3,h5⟩
theorem gZ{w:World}{j:Array Oper}{rest:List Oper}{o:Oper}{a:Act}{Q:Exit->Act->World->Prop}(y:o.guard=none)(s x:Operand)(t:TypeId)
 (ho:o.op= .call {callee:= .builtin .append,args:=#[s,x],argTypes:=#[t,t] })
 (base:Nat)(e:TypeId)(i:TypeInfo)(z:Value)(size bytes:Nat)(ht:P.underlying t=some (.slice e))(hi:P.info? e=some i)(hz:i.zero=some z)
 (hsize:i.size=size)(hby:i.bytes=bytes)(hzs:z.cells.size=size)(hsz:0<size)
 (v:Value)(n:Nat)(xs:List Value)(hs:a.eval s=v)(hown:w.ownsRow base e size v n xs)
 (A:Option Addr)(m c:Nat)(news:List Value)(hx:a.eval x= .slice A m c)(hsrc:Src w A m c size news)(h1:∀u∈news,u.oneCell'=true)
 (h63:n+m<=maxLen)(hbytes:(n+m)*bytes<=140737488355328)(hbase:base<=w.heap.size)
 (h:∀v' w',w'.ownsRow base e size v' (n+m) (xs++news)->w.grownBy w' v.ownBlock->(v'.ownBlock=v.ownBlock∨v'.ownBlock=some w.heap.size)->wpList P j Q rest (a.put o.dst v') w'):wpList P j Q (o :: rest) a w:=by
 refine wpList_plain y fun K hK=> ?_;obtain⟨v',w',hr,h2,h3,h5⟩:=Mb (P:=P) w base t o.type e i z size bytes ht hi hz hsize hby hzs hsz v n xs hown A m c news hsrc h1 h63 hbytes hbase;unfold Oper.wp execOp;simp only[ho,resolve,invoke,builtin,Sem.run_bind,Sem.run_pure,Result.andThen_ok,List.map_toArray,List.map_cons,List.map_nil,hs,hx,hr];exact hK _ _ (h v' w' h2 h3 h5)
end
end Mem
namespace Canon
open Go.RowKit Mem
theorem YF(ls:List Nat)(x:Nat):Dw (ls++ [x])=Dw ls+if x=0 then 0 else 2 ^ (15-x):=by unfold Dw;simp
theorem Re(ls:List Nat):Dw ls<=ls.length*32768:=by
 induction ls with
 |nil=>simp[Dw]
 |cons x ls ih=>have h3:2 ^ (15-x)<=2 ^ 15:=Bu (by omega) (by omega);unfold Dw at ih ⊢;rw[Ee,GR,Bh,EC];split<;>omega
theorem SQ(ls:List Nat)(x:Nat):used (ls++ [x])=used ls+if x=0 then 0 else 1:=by unfold used;rw[List.countP_append];by_cases h:x=0<;>simp[h]
theorem TK(ls:List Nat):used ls<=ls.length:=List.countP_le_length
theorem Ye{ls:List Nat}{k x:Nat}(hx:ls[k]? =some x)(h:15<x):BM ls=false:=by
 unfold BM;have:ls.all (fun x=>decide (x<=15))=false:=by rw[List.all_eq_false];exact⟨x,BF hx,by simpa using h⟩
 rw[this,Bool.and_false]
theorem Yy{ls:List Nat}(h1:ls.length<=300)(h2:∀x∈ls,x<=15):BM ls=true:=by unfold BM;rw[CD,Hu];exact⟨by simpa using h1,fun x hx=>by simpa using h2 x hx⟩
theorem Yj{ls:List Nat}(h:300<ls.length):BM ls=false:=by
 unfold BM;have:decide (ls.length<=300)=false:=by simp;omega
 rw[this,Hw]
def FQ(ls:List Nat):Nat:=if BM ls=true then Dw ls else 0
def FP(ls:List Nat):Int:=if BM ls=true then 0 else 13
theorem Xp(w:World)(A:Option Addr)(n c:Nat)(ls:List Nat)(hn:ls.length=n)(hN:n<=9223372036854775807)(ha:Row w w.heap.size A n 1 (iZ .u8 ls)):
 Calls Tryz.prog 249 #[.slice A n c] w fun e w'=>e= .returned (.tuple #[.int .i64 (FQ ls:Nat), .int .i64 (FP ls)])/\w=w':=by
 have HN:=hid hn;clear hn;by_cases Q:300<n
 ·have hb:BM ls=false:=Yj (by rw[HN.out];exact Q);have HV:Hid (FQ ls=0):=by show _=_;unfold FQ;rw[hb];rfl
  have HE:Hid (FP ls=13):=by show _=_;unfold FP;rw[hb];rfl
  clear hb;go_enter Tryz.func249,Tryz.ntmps249;go_wp2_with fail;go_ret2;exact⟨by rw[HV.out,HE.out];rfl,rfl⟩
 ·go_enter Tryz.func249,Tryz.ntmps249;go_wp2_with fail
  go_loop [4,5] (fun s i=>∃ (k S:Nat),k<=n/\i= .int .i64 k/\s= .int .i64 S/\Hid (S=Dw (ls.take k))/\S<=9830400/\Hid (∀x∈ls.take k,x<=15)) (fun _ i=>n-(intOf i).toNat)
  case atStart=>exact⟨0,0,by omega,rfl,rfl,rfl,by omega,fun x hx=>by simp at hx⟩
  case round=>
   obtain⟨k,S,hk,rfl,rfl,hS,bS,Z⟩:=hrel;by_cases ac:k<n
   ·obtain⟨b,ag,x,rfl,af,hx,c0⟩:=Ci ha HN.out ac;have x0:(0:Int)<=(k:Int):=(by omega);have x1:(k:Int)<(n:Int):=(by omega);by_cases aa:15<x
    ·have hb:=Ye hx aa;have HV:Hid (FQ ls=0):=(by show _=_;unfold FQ;rw[hb];rfl);have HE:Hid (FP ls=13):=(by show _=_;unfold FP;rw[hb];rfl);clear hb hx;go_wp2_with fail;go_ret2;go_light;exact⟨by rw[HV.out,HE.out];rfl,rfl⟩
    ·have G:=Fa hx;have N:Dw (ls.take (k+1))=Dw (ls.take k)+if x=0 then 0 else 2 ^ (15-x):=(by rw[G,YF]);have E:=Re (ls.take (k+1));rw[AO,N,<-hS.out]at E
     have Y:∀z∈ls.take (k+1),z<=15:=by
      intro z hz;rw[G,BH,Df]at hz;rcases hz with hz|rfl
      ·exact Z.out z hz
      ·omega
     have U:=hid Y;have L:=hid N;clear G N Y hx;by_cases M:x=0
     ·subst M;go_wp2_with fail
      go_round
      case rel=>go_light;exact⟨k+1,S,by omega,by go_num,rfl,by show S=Dw (ls.take (k+1));rw[L.out,<-hS.out];simp,bS,U⟩
      case measure=>go_light;simp[intOf];omega
     ·have ah:0<x:=(by omega);rw[Aa M]at E L;have ab:=hid E;clear E M;go_wp2_with fail
      go_loop [6,7] (fun v j=>∃ (J W:Nat),J<=x/\j= .int .i64 J/\v= .int .i64 W/\Hid (W=2 ^ (15-J))/\W<=32768) (fun _ j=>x-(intOf j).toNat)
      case atStart=>exact⟨0,32768,by omega,rfl,rfl,rfl,by omega⟩
      case round=>
       obtain⟨J,W,hJ,rfl,rfl,hW,bW⟩:=hrel;by_cases ae:J<x
       ·go_wp2_with fail
        go_round
        case rel=>go_light;refine⟨J+1,W / 2,by omega,by go_num,by go_num,?_,by omega⟩;show W / 2=2 ^ (15-(J+1));rw[hW.out,show 15-J=(15-(J+1))+1 by omega,En];omega
        case measure=>go_light;simp[intOf];omega
       ·obtain rfl:J=x:=by omega
        go_wp2_with fail
        go_round
        case rel=>go_light;have:=ab.out;rw[<-hW.out]at this;exact⟨k+1,S+W,by omega,by go_num,by go_num,by show S+W=Dw (ls.take (k+1));rw[L.out,<-hS.out,<-hW.out],by omega,U⟩
        case measure=>go_light;simp[intOf];omega
   ·obtain rfl:k=n:=by omega
    have y:ls.take k=ls:=Bv (by have:=HN.out;omega);have h:BM ls=true:=Yy (by have:=HN.out;omega) (by have:=Z.out;rw[y]at this;exact this);have HV:Hid (FQ ls=S):=(by show _=_;unfold FQ;rw[h,Ab rfl,hS.out,y]);have HE:Hid (FP ls=0):=(by show _=_;unfold FP;rw[h];rfl);clear y h;go_wp2_with fail;go_ret2;go_light;exact⟨by rw[HV.out,HE.out];rfl,rfl⟩
theorem Yp{ls:List Nat}(hg:BM ls=true):Fg ls=if used ls=0∨(used ls=1/\cnt ls 1=1)∨Dw ls=32768 then 0 else 7:=by obtain⟨_,h2⟩:=JL hg;rw[PQ ls (cn ls) (fun _=>rfl),LK,Nm,Kx ls h2,KO ls h2,hg];simp[cn]
theorem refcheck_any(w:World)(A:Option Addr)(n c:Nat)(ls:List Nat)(hn:ls.length=n)(hN:n<=9223372036854775807)(ha:Row w w.heap.size A n 1 (iZ .u8 ls)):
 Calls Tryz.prog 217 #[.slice A n c] w fun e w'=>e= .returned (.int .i64 (Fg ls))/\w=w':=by
 have C:=hid (Xp w A n c ls hn hN ha);have HN:=hid hn;clear hn;cases hg:BM ls
 ·have HV:Hid (FQ ls=0):=by show _=_;unfold FQ;rw[hg];rfl
  have HE:Hid (FP ls=13):=by show _=_;unfold FP;rw[hg];rfl
  have HC:Hid (Fg ls=7):=by show _=_;unfold Fg;rw[Ks hg];rfl
  rw[HV.out,HE.out]at C;clear hg;go_enter Tryz.func217,Tryz.ntmps217;go_wp2_with fail;refine C.out.mono ?_;rintro e w1 ⟨rfl,rfl⟩;go_wp2_with fail;go_ret;exact⟨by rw[HC.out];rfl,rfl⟩
 ·have HV:Hid (FQ ls=Dw ls):=by show _=_;unfold FQ;rw[hg];rfl
  have HE:Hid (FP ls=0):=by show _=_;unfold FP;rw[hg];rfl
  have HC:=hid (Yp hg);have J:=Re ls;have L:=(JL hg).1;rw[HN.out]at J L;rw[HV.out,HE.out]at C;generalize Dw ls=K at *;clear hg HV HE;go_enter Tryz.func217,Tryz.ntmps217;go_wp2_with fail;refine C.out.mono ?_;rintro e w1 ⟨rfl,rfl⟩;go_wp2_with fail
  go_loop [5,6,7] (fun a b i=>∃ (k U O:Nat),k<=n/\i= .int .i64 k/\a= .int .i64 U/\b= .int .i64 O/\Hid (U=used (ls.take k))/\Hid (O=cnt (ls.take k) 1)/\U<=300/\O<=300) (fun _ _ i=>n-(intOf i).toNat)
  case atStart=>exact⟨0,0,0,by omega,rfl,rfl,rfl,rfl,rfl,by omega,by omega⟩
  case round=>
   obtain⟨k,U,O,hk,rfl,rfl,rfl,hU,hO,bU,bO⟩:=hrel;by_cases N:k<n
   ·obtain⟨b,Y,x,rfl,Q,hx,c0⟩:=Ci ha HN.out N;have x0:(0:Int)<=(k:Int):=(by omega);have x1:(k:Int)<(n:Int):=(by omega);have j:=Fa hx;have h1:used (ls.take (k+1))=U+if x=0 then 0 else 1:=(by rw[j,SQ,hU.out]);have h2:cnt (ls.take (k+1)) 1=O+if x=1 then 1 else 0:=(by rw[j,Fc,hO.out]);have l1:=TK (ls.take (k+1));have l2:=KW (ls.take (k+1)) 1;rw[AO]at l1 l2;rw[h1]at l1;rw[h2]at l2;have H1:=hid h1;have H2:=hid h2;have L1:=hid l1;have L2:=hid l2;clear j h1 h2 l1 l2 hx;by_cases z:x=0
    ·subst z;go_wp2_with fail
     go_round
     case rel=>go_light;exact⟨k+1,U,O,by omega,by go_num,rfl,rfl,by show U=used (ls.take (k+1));rw[H1.out];simp,by show O=cnt (ls.take (k+1)) 1;rw[H2.out];simp,bU,bO⟩
     case measure=>go_light;simp[intOf];omega
    ·have Z:0<x:=(by omega);rw[Aa z]at H1 L1;by_cases G:x=1
     ·subst G;go_wp2_with fail
      go_round
      case rel=>go_light;have a1:=L1.out;have a2:=L2.out;rw[Ab rfl]at a2;exact⟨k+1,U+1,O+1,by omega,by go_num,by go_num,by go_num,by show U+1=used (ls.take (k+1));rw[H1.out],by show O+1=cnt (ls.take (k+1)) 1;rw[H2.out];simp,by omega,by omega⟩
      case measure=>go_light;simp[intOf];omega
     ·have aa:((x:Int)==1)=false:=(by simp;omega);rw[Aa G]at H2 L2;clear z;go_wp2_with fail
      go_round
      case rel=>go_light;have a1:=L1.out;exact⟨k+1,U+1,O,by omega,by go_num,by go_num,rfl,by show U+1=used (ls.take (k+1));rw[H1.out],by show O=cnt (ls.take (k+1)) 1;rw[H2.out];simp,by omega,bO⟩
      case measure=>go_light;simp[intOf];omega
   ·obtain rfl:k=n:=by omega
    have h:ls.take k=ls:=Bv (by have:=HN.out;omega);have y:=hU.out;have E:=hO.out;rw[h]at y E;have hc:=HC.out;rw[<-y,<-E]at hc;have M:=hid hc;clear h y E hc hU hO HC;go_wp2_with fail
    all_goals
     go_ret;go_light;refine⟨JN ?_,rfl⟩;rw[M.out]
     first|(rw[Ab (by omega)];done)|(rw[Aa (by omega)];done)|(simp only[beq_iff_eq,ne_eq,beq_eq_false_iff_ne]at *;first|(rw[Ab (by omega)];done)|(rw[Aa (by omega)];done))
end Canon
namespace Canon
open Go.RowKit Mem
def CE(ls:List Nat)(s:Nat):Nat:=code ls s % 65536
def Wds(ls:List Nat)(n s:Nat)(arr:Array Value):Prop:=arr.size=n/\∀i,i<n->arr[i]? =some (.int .u16 ((if i<s then CE ls i else 0:Nat):Int))
theorem Wds.start(ls:List Nat)(n:Nat):Wds ls n 0 (madeCells #[.int .u16 0] n):=by refine⟨size_madeCells _ _,fun i hi=> ?_⟩;simp[madeCells,hi,Nat.mod_one]
theorem Wds.set{ls:List Nat}{n s:Nat}{arr:Array Value}(h:Wds ls n s arr)(hs:s<n){v:Nat}(hv:v=CE ls s):Wds ls n (s+1) (arr.setIfInBounds s (.int .u16 (v:Nat))):=by
 refine⟨by rw[LI];exact h.1,fun i hi=> ?_⟩;rw[Gu];by_cases e:s=i
 ·subst e;rw[Ab rfl,Ab (by have:=h.1;omega),Ab (by omega),hv]
 ·rw[Aa e,h.2 i hi];by_cases j:i<s
  ·rw[Ab j,Ab (by omega)]
  ·rw[Aa j,Aa (by omega)]
theorem Wds.skip{ls:List Nat}{n s:Nat}{arr:Array Value}(h:Wds ls n s arr)(h0:CE ls s=0):Wds ls n (s+1) arr:=by
 refine⟨h.1,fun i hi=> ?_⟩;rw[h.2 i hi];by_cases j:i<s
 ·rw[Ab j,Ab (by omega)]
 ·by_cases e:i=s
  ·subst e;rw[Aa j,Ab (by omega),h0]
  ·rw[Aa j,Aa (by omega)]
theorem Ov{ls:List Nat}{s:Nat}(h:ls[s]? =some 0):CE ls s=0:=by unfold CE code;simp[List.getD_eq_getElem?_getD,h]
theorem QM{ls:List Nat}{s x:Nat}(h:ls[s]? =some x)(hx:x≠0):CE ls s=(fst ls x+cnt (ls.take s) x) % 65536:=by unfold CE code;simp[List.getD_eq_getElem?_getD,h,hx]
def Fsts(f:Nat->Nat)(l:Nat)(arr:Array Value):Prop:=arr.size=17/\∀j,j<=l->arr[j]? =some (.int .i64 (f j:Nat))
theorem Fsts.set{f:Nat->Nat}{l:Nat}{arr:Array Value}(h:Fsts f l arr)(hl:l<16){v:Nat}(hv:v=f (l+1)):Fsts f (l+1) (arr.setIfInBounds (l+1) (.int .i64 (v:Nat))):=by
 refine⟨by rw[LI];exact h.1,fun j hj=> ?_⟩;rw[Gu];by_cases e:l+1=j
 ·subst e;rw[Ab rfl,Ab (by have:=h.1;omega),hv]
 ·rw[Aa e];exact h.2 j (by omega)
theorem Fsts.bump{f g:Nat->Nat}{arr:Array Value}(h:Fsts f 16 arr){x v:Nat}(hx:x<=16)(hv:v=g x)(ho:∀j,j≠x->g j=f j):Fsts g 16 (arr.setIfInBounds x (.int .i64 (v:Nat))):=by
 refine⟨by rw[LI];exact h.1,fun j hj=> ?_⟩;rw[Gu];by_cases e:x=j
 ·subst e;rw[Ab rfl,Ab (by have:=h.1;omega),hv]
 ·rw[Aa e,h.2 j hj,ho j (Bg e)]
theorem Fsts.zero(ls:List Nat):Fsts (fst ls) 1 #[.int .i64 0, .int .i64 0, .int .i64 0, .int .i64 0, .int .i64 0, .int .i64 0, .int .i64 0, .int .i64 0, .int .i64 0, .int .i64 0, .int .i64 0, .int .i64 0, .int .i64 0, .int .i64 0, .int .i64 0, .int .i64 0, .int .i64 0]:=by
 refine⟨rfl,fun j hj=> ?_⟩;have:j=0∨j=1:=by omega
 rcases this with rfl|rfl
 ·rfl
 ·simp[fst,cn]
theorem wrap_u16(v:Nat):IntKind.u16.wrap (v:Int)=((v % 65536:Nat):Int):=by rw[IntKind.wrap_u16];omega
theorem QU:(Tryz.prog.info? 47).map (fun i=>(i.zero,i.size,i.bytes))=some (some (.int .u16 0),1,2):=by kernel_rfl
theorem X3(n:Nat)(hn:n<=8388608)(w:World):(Instr.makeSlice 200 (.int .i64 (n:Int)) (.int .i64 (n:Int))).run Tryz.prog w=
 .ok (.slice (some ⟨w.heap.size,0,none⟩) n n) (w.alloc (.cells (madeCells #[.int .u16 0] n) 47)):=by
 obtain⟨i0,hi,y,i,j⟩:=info_parts QU;have h:=run_make (P:=Tryz.prog) w 200 47 i0 (.int .u16 0) Tryz.underlying200 hi y .i64 .i64 (n:Int) (n:Int) (by omega) (Int.le_refl _) (by rw[j];omega) (by omega);simp only[Int.toNat_natCast]at h;simpa[i,Value.cells]using h
def SD(ls:List Nat)(n:Nat)(w:World)(e:Ending)(w':World):Prop:=
 ∃ (g:Nat) (arr:Array Value),e= .returned (.tuple #[.slice (some ⟨g,0,none⟩) n n, .int .i64 0])/\Blk w' g 47 arr/\Wds ls n n arr/\w.heap.size<=g/\Below w.heap.size w w'
theorem Y4(w:World)(A:Option Addr)(n c:Nat)(ls:List Nat)(hn:ls.length=n)(Q:okB ls=true)(ha:Row w w.heap.size A n 1 (iZ .u8 ls)):
 Calls Tryz.prog 256 #[.slice A n c] w (SD ls n w):=by
 have E:BM ls=true:=by
  cases hg:BM ls
  ·rw[Ks hg]at Q;cases Q
  ·rfl
 obtain⟨ak,aq⟩:=JL E;rw[hn]at ak;have C:=PD w A n c ls hn (by omega) ha;have hE:Fg ls=0:=by unfold Fg;rw[Q];rfl
 rw[hE]at C;have C1:=hid C;have C2:=hid (fun wx (h:Row wx wx.heap.size A n 1 (iZ .u8 ls))=>Qg wx A n c ls hn (by omega) h);have HN:=hid hn;have HG:=hid E;have aC:=hid aq;have aO:=X3 n (by omega);have aD:=fun l (h:l<=16)=>KU ls l;have al:Hid (∀l,l<=16->fst ls l<=39321600):=by show ∀l,l<=16->fst ls l<=39321600;intro l hl;have h1:=KU ls l;have h2:2 ^ (l+1)<=2 ^ 17:=Bu (by omega) (by omega);have h3:2 ^ (l+1)*ls.length<=2 ^ 17*300:=Gq h2 (by omega);omega
 clear C hE Q E aq hn aD;go_enter Tryz.func256,Tryz.ntmps256;go_wp2_with fail;refine C1.out.mono ?_;rintro e w1 ⟨rfl,aj⟩;have z1:=aj.size;go_wp2_with fail;refine(C2.out _ ((ha.below aj).mono z1)).mono ?_;rintro e w2 ⟨arr,f,rfl,hc,hf,hg,au⟩;rw[hg HG.out]at hc;rw[HG.out];have z2:=au.size;have ag:Below w.heap.size w w2:=Cn au z1 aj;have Y:arr.size=16:=hc.1;have ai:Blk (w2.alloc (.cells #[.int .i64 0, .int .i64 0, .int .i64 0, .int .i64 0, .int .i64 0, .int .i64 0, .int .i64 0, .int .i64 0, .int .i64 0, .int .i64 0, .int .i64 0, .int .i64 0, .int .i64 0, .int .i64 0, .int .i64 0, .int .i64 0] 356)) w2.heap.size 356 _:=Blk.made _ _ _;have ax:=P5 (arr:=arr) ai (by rw[Y];rfl);have av:(w2.alloc (.cells #[.int .i64 0, .int .i64 0, .int .i64 0, .int .i64 0, .int .i64 0, .int .i64 0, .int .i64 0, .int .i64 0, .int .i64 0, .int .i64 0, .int .i64 0, .int .i64 0, .int .i64 0, .int .i64 0, .int .i64 0, .int .i64 0] 356)).there w2.heap.size 0 arr.size:=by rw[Y];exact JV ai
 have Z:(Tryz.prog.info? 356).map (·.size)=some arr.size:=by rw[Y];exact IH
 have ab:Below w.heap.size w ((w2.alloc (.cells #[.int .i64 0, .int .i64 0, .int .i64 0, .int .i64 0, .int .i64 0, .int .i64 0, .int .i64 0, .int .i64 0, .int .i64 0, .int .i64 0, .int .i64 0, .int .i64 0, .int .i64 0, .int .i64 0, .int .i64 0, .int .i64 0] 356)).setCells w2.heap.size 0 arr.toList):=
  Jn (by omega) _ _ _ (kZ (by omega) ag)
 have an:=hid hc.one;have am:=hid Z;have HC:=hid hc;clear Y Z hc hf hg ai C1 C2;go_upto_region 5 with (refine wpList_store_mid rfl 356 (.tmp 5) (.tmp 20) rfl w2.heap.size 0 arr (by rfl) (by rfl) av am.out an.out ?_);have aM:=ax.lt;clear av;generalize (w2.alloc (.cells #[.int .i64 0, .int .i64 0, .int .i64 0, .int .i64 0, .int .i64 0, .int .i64 0, .int .i64 0, .int .i64 0, .int .i64 0, .int .i64 0, .int .i64 0, .int .i64 0, .int .i64 0, .int .i64 0, .int .i64 0, .int .i64 0] 356)).setCells w2.heap.size 0 arr.toList=w3 at *;have ah:=ab.size;go_wp2_with fail;go_loopw [8] (fun i wr=>∃ (l:Nat) (fa:Array Value),1<=l/\l<=16/\i= .int .i64 l/\Blk wr w2.heap.size 356 arr/\Blk wr w3.heap.size 360 fa/\Hid (Fsts (fst ls) l fa)/\Below w.heap.size w wr) (fun i _=>16-(intOf i).toNat)
 case atStart=>exact⟨1,_,by omega,by omega,rfl,ax.alloc _,Blk.made _ _ _,Fsts.zero ls,kZ ah ab⟩
 case round=>
  obtain⟨l,fa,aI,aN,rfl,aA,z,hF,y⟩:=hrel;by_cases U:l<16
  ·have c1:=z.cell l;rw[hF.out.2 l (by omega)]at c1;have c2:=aA.cell l;rw[HC.out.2 l (by omega)]at c2;have c3:=z.cell (l+1);rw[LJ (by have:=hF.out.1;omega)]at c3;generalize fa[l+1]'(by have:=hF.out.1;omega)=old at c3;have f3:=z.frozen (l+1);have b1:=al.out l (by omega);have b2:=Ie ls l;have ay:fst ls (l+1)=2*(fst ls l+cn ls l):=rfl;have aF:=hid ay;rw[HN.out]at b2;clear ay;generalize fst ls l=F at *;generalize cn ls l=K at *;have x0:(0:Int)<=(l:Int):=(by omega);have x1:(l:Int)<16:=(by omega);have x2:(l:Int)<17:=(by omega);have x3:(0:Int)<=(l:Int)+1:=(by omega);have x4:(l:Int)+1<17:=(by omega);have x5:Hid (((l:Int)+1).toNat=l+1):=(by show _=_;omega);have s1:Hid (IntKind.i64.wrap ((l:Int)+1)=(l:Int)+1):=Ak _ (by omega);have s2:Hid (IntKind.i64.wrap ((F:Int)+(K:Int))=(F:Int)+(K:Int)):=Ak _ (by omega);go_wp2_with fail;have t1:=s1.out;have t2:=s2.out;have t3:=x5.out;go_region;all_goals clear t1 t2 t3;all_goals go_wp2_with fail
   all_goals
    go_roundw
    case rel=>go_light;have e:((F:Int)+(K:Int))*2=((fst ls (l+1):Nat):Int):=(by rw[aF.out];omega);rw[e];exact⟨l+1,_,by omega,by omega,by go_num,(aA.far (p:=⟨w3.heap.size,l+1,none⟩) (show w2.heap.size≠w3.heap.size by omega) _).drew,(z.set _ _).drew,hF.out.set U rfl,(nZ (p:=⟨w3.heap.size,l+1,none⟩) ah y).drew⟩
    case measure=>go_light;simp[intOf];omega
  ·obtain rfl:l=16:=by omega
   go_wp2_with fail;have az:=y.size;have aL:=z.lt;obtain⟨wo,rfl⟩:∃wo:World,wo=wr:=⟨_,rfl⟩;have ac:=z.alloc (.cells (madeCells #[.int .u16 0] n) 47);have ae:Blk (wo.alloc (.cells (madeCells #[.int .u16 0] n) 47)) wo.heap.size 47 _:=Blk.made _ _ _;have aa:=kZ (o:= .cells (madeCells #[.int .u16 0] n) 47) az y;have aw:Fsts (fun j=>fst ls j+cn (ls.take 0) j) 16 fa:=(by refine⟨hF.out.1,fun j hj=> ?_⟩;rw[hF.out.2 j hj];simp[cn,Is]);have ar:=hid aw;clear aw z y hF;go_loopw [42] (fun i wr=>∃ (s:Nat) (fb ds:Array Value),s<=n/\i= .int .i64 s/\Blk wr w3.heap.size 360 fb/\Blk wr wo.heap.size 47 ds/\Hid (Fsts (fun j=>fst ls j+cn (ls.take s) j) 16 fb)/\Hid (Wds ls n s ds)/\Below w.heap.size w wr) (fun i _=>n-(intOf i).toNat)
   case atStart=>exact⟨0,fa,_,by omega,rfl,ac,ae,ar,Wds.start ls n,aa⟩
   case round=>
    clear ac ae aa ar;obtain⟨s,fb,ds,hs,rfl,z,L,hF,hW,y⟩:=hrel;by_cases U:s<n
    ·obtain⟨b,aK,x,rfl,aJ,hx,c0⟩:=Ci (ha.below y) HN.out U;have aH:=aC.out x (BF hx);have x0:(0:Int)<=(s:Int):=(by omega);have x1:(s:Int)<(n:Int):=(by omega);have N:=Fa hx;by_cases M:x=0
     ·subst M
      have G:∀j,cn (ls.take (s+1)) j=cn (ls.take s) j:=by
       intro j;rw[N];unfold cn;split
       ·rfl
       ·rw[Fc,Aa (by omega)];rfl
      have aG:=hid G;have HZ:=hid (Ov hx);clear hx N G;go_wp2_with fail;go_roundw
      case rel=>go_light;exact⟨s+1,fb,ds,by omega,by go_num,z,L,by show Fsts _ 16 fb;simp only[aG.out];exact hF.out,hW.out.skip HZ.out,y⟩
      case measure=>go_light;simp[intOf];omega
     ·have G:∀j,cn (ls.take (s+1)) j=cn (ls.take s) j+if x=j then 1 else 0:=by
       intro j;rw[N];unfold cn;split
       ·rename_i h;subst h;rw[Aa M]
       ·rw[Fc]
      have aB:cn (ls.take s) x=cnt (ls.take s) x:=(by unfold cn;rw[Aa M]);have af:=QM hx M;rw[<-aB]at af;have c1:wr.cell? ⟨w3.heap.size,x,none⟩=some (.int .i64 ((fst ls x+cn (ls.take s) x:Nat):Int)):=(z.cell x).trans (hF.out.2 x (by omega));have f1:=z.frozen x;have c2:=L.cell s;rw[LJ (by have:=hW.out.1;omega)]at c2;generalize ds[s]'(by have:=hW.out.1;omega)=old at c2;have f2:=L.frozen s;have b1:=al.out x (by omega);have b2:=Ie (ls.take s) x;rw[AO]at b2
      have J:Fsts (fun j=>fst ls j+cn (ls.take (s+1)) j) 16 (fb.setIfInBounds x (.int .i64 ((fst ls x+cn (ls.take s) x+1:Nat):Int))):=by
       refine hF.out.bump (by omega) ?_ fun j hj=> ?_
       ·simp only[G,if_pos];omega
       ·simp only[G];rw[Aa (Bg hj)];rfl
      have bv:fst ls x+cn (ls.take s) x<=39321900:=(by have:=HN.out;omega);clear b1 b2;generalize fst ls x+cn (ls.take s) x=v at *;have HV:Hid (((v % 65536:Nat):Int)=(CE ls s:Nat)):=(by show _=_;rw[af]);have aE:=hid J;have x3:(0:Int)<=(x:Int):=(by omega);have x4:(x:Int)<17:=(by omega);have xp:0<x:=(by omega);clear hx N G aB af J M;go_wp2_with fail;go_roundw
      case rel=>
       go_light;rw[wrap_u16 v,HV.out]
       exact⟨s+1,_,_,by omega,by go_num,(z.far (p:=⟨wo.heap.size,s,none⟩) (show w3.heap.size≠wo.heap.size by omega) _).set _ _,(L.set _ _).far (p:=⟨w3.heap.size,x,none⟩) (show wo.heap.size≠w3.heap.size by omega) _,aE,hW.out.set U rfl,
        nZ (p:=⟨w3.heap.size,x,none⟩) ah (nZ (p:=⟨wo.heap.size,s,none⟩) az y)⟩
      case measure=>go_light;simp[intOf];omega
    ·obtain rfl:s=n:=by omega
     go_wp2_with fail;go_ret2;go_light;exact⟨wo.heap.size,ds,rfl,L,hW.out,by omega,y⟩
end Canon
namespace Canon
open Go.RowKit Mem
def part(ls:List Nat)(l s i:Nat):Nat:=let x:=ls.getD i 0;if x≠0/\(x<l∨(x=l/\i<s))then CE ls i else 0
def Dr(ls:List Nat)(l s:Nat):List Value:=(List.range ls.length).map fun i=> .int .u16 (part ls l s i:Nat)
theorem RM(ls:List Nat)(l s:Nat):(Dr ls l s).length=ls.length:=by simp[Dr]
theorem YQ(ls:List Nat):Dr ls 1 0=List.replicate ls.length (.int .u16 0):=by
 unfold Dr;apply List.ext_getElem
 ·simp
 ·intro i h1 h2;have:part ls 1 0 i=0:=by unfold part;simp only;split<;>omega
  simp[this]
theorem X9{ls:List Nat}{l s x:Nat}(hx:ls[s]? =some x)(h:x≠l):Dr ls l (s+1)=Dr ls l s:=by
 unfold Dr;apply J1;intro i _;congr 2;unfold part;by_cases e:i=s
 ·subst e;have:ls.getD i 0=x:=by simp[List.getD_eq_getElem?_getD,hx]
  simp only[this];by_cases h1:x≠0/\x<l
  ·rw[Ab ⟨h1.1, .inl h1.2⟩,Ab ⟨h1.1, .inl h1.2⟩]
  ·rw[Aa (by omega),Aa (by omega)]
 ·have:(i<s+1)=(i<s):=by simp;omega
  simp only[this]
theorem YC{ls:List Nat}{l s:Nat}(hx:ls[s]? =some l)(h0:l≠0):Dr ls l (s+1)=(Dr ls l s).set s (.int .u16 (CE ls s:Nat)):=by
 unfold Dr;apply List.ext_getElem?;intro i;rw[List.getElem?_set];have hs:s<ls.length:=(BO.1 hx).1;by_cases e:s=i
 ·subst e;have hg:ls[s]=l:=(BO.1 hx).2;simp[hs,part,hg,h0]
 ·rw[Aa e];by_cases hi:i<ls.length
  ·simp only[List.getElem?_map,List.getElem?_range hi,Option.map_some];congr 2;unfold part;have:(i<s+1)=(i<s):=(by simp;omega);simp only[this]
  ·simp[hi]
theorem XU(ls:List Nat)(l:Nat):Dr ls l ls.length=Dr ls (l+1) 0:=by unfold Dr;apply J1;intro i hi;have hi:=Eo.1 hi;congr 2;unfold part;simp only;congr 1;simp;omega
theorem Ym{ls:List Nat}(h:∀x∈ls,x<=15):Dr ls 16 0=(List.range ls.length).map fun i=> .int .u16 (CE ls i:Nat):=by
 unfold Dr;apply J1;intro i hi;have hi:=Eo.1 hi;congr 2;unfold part;have hg:ls.getD i 0=ls[i]:=by simp[List.getD_eq_getElem?_getD,hi]
 simp only[hg];have:=h _ (Hr hi);by_cases h0:ls[i]=0
 ·rw[Aa (by omega),Ov (by rw[AD hi,h0])]
 ·rw[Ab ⟨h0, .inl (by omega)⟩]
def Nxt(ls:List Nat)(l s:Nat)(next was:Nat)(any:Bool):Prop:=
 if any=true then was<=l/\(next+1)*2 ^ (l-was)=fst ls l+cn (ls.take s) l else next=0/\fst ls l+cn (ls.take s) l=0
theorem Nxt.start(ls:List Nat):Nxt ls 1 0 0 0 false:=by unfold Nxt;simp[fst,cn,Is]
theorem Nxt.skip{ls:List Nat}{l s next i x:Nat}{j:Bool}(h:Nxt ls l s next i j)(hx:ls[s]? =some x)(y:x≠l):Nxt ls l (s+1) next i j:=by
 have:cn (ls.take (s+1)) l=cn (ls.take s) l:=by
  rw[Fa hx];unfold cn;split
  ·rfl
  ·rw[Fc,Aa y];rfl
 unfold Nxt at h ⊢;rw[this];exact h
theorem Nxt.next{ls:List Nat}{l next i:Nat}{j:Bool}(h:Nxt ls l ls.length next i j):Nxt ls (l+1) 0 next i j:=by
 unfold Nxt at h ⊢;rw[List.take_length]at h;have h0:cn (ls.take 0) (l+1)=0:=by simp[cn,Is]
 rw[h0,fst];split at h
 ·rename_i ha;rw[Ab ha];refine⟨by omega,?_⟩;rw[show l+1-i=(l-i)+1 by omega,En];have:(next+1)*(2 ^ (l-i)*2)=(next+1)*2 ^ (l-i)*2:=by rw[Nat.mul_assoc]
  rw[this,h.2];omega
 ·rename_i ha;rw[Aa ha];omega
theorem Nxt.word{ls:List Nat}{l s next i:Nat}{j:Bool}(h:Nxt ls l s next i j)(hx:ls[s]? =some l)(h0:l≠0):
 ∃v,v=fst ls l+cn (ls.take s) l/\v % 65536=CE ls s/\Nxt ls l (s+1) v l true/\(j=true->i<=l/\(next+1)*2 ^ (l-i)=v)/\(j=false->next=v):=by
 refine⟨_,rfl,?_,?_,fun ha=> ?_,fun ha=> ?_⟩
 ·rw[QM hx h0];congr 2;unfold cn;rw[Aa h0]
 ·unfold Nxt;rw[Ab rfl];refine⟨Aj _,?_⟩;have:cn (ls.take (s+1)) l=cn (ls.take s) l+1:=by rw[Fa hx];unfold cn;rw[Aa h0,Aa h0,Fc,Ab rfl]
  rw[this,EL];omega
 ·unfold Nxt at h;rw[Ab ha]at h;exact h
 ·unfold Nxt at h;rw[Aa (by rw[ha];simp)]at h;omega
def WT(ls:List Nat)(n:Nat)(w:World)(e:Ending)(w':World):Prop:=
 ∃v,e= .returned (.tuple #[v, .int .i64 0])/\w'.ownsRow w.heap.size 47 1 v n ((List.range n).map fun i=> .int .u16 (CE ls i:Nat))/\Below w.heap.size w w'
theorem WD(w:World)(A:Option Addr)(n c:Nat)(ls:List Nat)(hn:ls.length=n)(Z:okB ls=true)(ha:Row w w.heap.size A n 1 (iZ .u8 ls)):
 Calls Tryz.prog 218 #[.slice A n c] w (WT ls n w):=by
 have U:BM ls=true:=by
  cases hg:BM ls
  ·rw[Ks hg]at Z;cases Z
  ·rfl
 obtain⟨aj,au⟩:=JL U;rw[hn]at aj;have C:=refcheck_any w A n c ls hn (by omega) ha;have hE:Fg ls=0:=by unfold Fg;rw[Z];rfl
 rw[hE]at C;have C1:=hid C;have HN:=hid hn;have ar:=hid au;have az:Hid (∀l,l<=16->fst ls l<=39321600):=by show ∀l,l<=16->fst ls l<=39321600;intro l hl;have h1:=KU ls l;have h2:2 ^ (l+1)<=2 ^ 17:=Bu (by omega) (by omega);have h3:2 ^ (l+1)*ls.length<=2 ^ 17*300:=Gq h2 (by omega);omega
 obtain⟨i0,aF,aA,aH,aG⟩:=info_parts QU;clear C hE Z U au hn;go_enter Tryz.func218,Tryz.ntmps218;go_wp2_with fail;refine C1.out.mono ?_;rintro e w1 ⟨rfl,rfl⟩;go_wp2_with fail;go_loopw [4,5] (fun v i wr=>∃k:Nat,k<=n/\i= .int .i64 k/\wr.ownsRow w.heap.size 47 1 v k (List.replicate k (.int .u16 0))/\Below w.heap.size w wr) (fun _ i _=>n-(intOf i).toNat)
 case atStart=>exact⟨0,by omega,rfl,Am _ _ _ _,Ag _ _⟩
 case round=>
  obtain⟨k,hk,rfl,h,z⟩:=hrel;have aD:=z.size;by_cases aQ:k<n
  ·obtain⟨va,vc,rfl⟩:=aZ h;go_wp2_with(at_builtin;refine gZ rfl (.tmp 21) (.tmp 22) 200 rfl w.heap.size 47 i0 _ 1 2 Tryz.underlying200 aF aA aH aG rfl (by decide) _ _ _ (by rfl) (h.alloc _) _ 1 1 [.int .u16 0] (by rfl) (Src.of_blk (Blk.made _ _ _) 1 1 1 rfl) (by intro u hu;simp at hu;subst hu;rfl) (by unfold maxLen;omega) (by omega) (by simp;omega) ?_;intro v3 w3 ag aI aM);go_roundw
   case rel=>go_light;refine⟨k+1,by omega,by go_num,?_,((kZ aD z).grown aI (by simp;omega) (fun g hg=>(Ae h g hg).1))⟩;rw[List.replicate_succ'];exact ag
   case measure=>go_light;simp[intOf];omega
  ·obtain rfl:k=n:=by omega
   obtain⟨va,vc,rfl⟩:=aZ h;rw[<-HN.out,<-YQ,HN.out]at h;have ae:=hid h;have Q:=z;clear h;go_wp2_with fail;go_loopw [6,7,8,9] (fun a b d e wr=>∃ (l N W:Nat) (y:Bool),1<=l/\l<=16/\e= .int .i64 l/\a= .int .i64 N/\b= .int .i64 W/\d= .bool y/\Hid (Nxt ls l 0 N W y)/\N<=50000000/\W<=16/\wr.ownsRow w.heap.size 47 1 (.slice va k vc) k (Dr ls l 0)/\Below w.heap.size w wr) (fun _ _ _ e _=>16-(intOf e).toNat)
   case atStart=>exact⟨1,0,0,false,by omega,by omega,rfl,rfl,rfl,rfl,Nxt.start ls,by omega,by omega,ae.out,Q⟩
   case round=>
    clear Q ae;obtain⟨l,N,W,y,aV,aR,rfl,rfl,rfl,rfl,G,bN,bW,h,z⟩:=hrel;by_cases aO:l<16
    ·go_wp2_with fail;obtain⟨wo,rfl⟩:∃wo:World,wo=wr:=⟨_,rfl⟩;go_loopw [6,7,8,10] (fun a b d e wr=>∃ (s N W:Nat) (y:Bool),s<=k/\e= .int .i64 s/\a= .int .i64 N/\b= .int .i64 W/\d= .bool y/\Hid (Nxt ls l s N W y)/\N<=50000000/\W<=16/\wr.ownsRow w.heap.size 47 1 (.slice va k vc) k (Dr ls l s)/\Below w.heap.size w wr) (fun _ _ _ e _=>k-(intOf e).toNat)
     case atStart=>exact⟨0,N,W,y,by omega,rfl,rfl,rfl,rfl,G,bN,bW,h,z⟩
     case round=>
      clear G h z;obtain⟨s,N,W,y,hs,rfl,rfl,rfl,rfl,G,bN,bW,h,z⟩:=hrel;by_cases aB:s<k
      ·obtain⟨b,aP,x,rfl,aN,hx,c0⟩:=Ci (ha.below z) HN.out aB;have x0:(0:Int)<=(s:Int):=(by omega);have x1:(s:Int)<(k:Int):=(by omega);by_cases ab:x=l
       ·subst ab;obtain⟨v,hv,av,E,aw,aq⟩:=G.out.word hx (by omega);have bv:v<=39321900:=(by have h1:=az.out x (by omega);have h2:=Ie (ls.take s) x;rw[AO]at h2;omega);have ac:=YC hx (by omega)
        obtain⟨g,aa,Y⟩:∃g aa,Value.slice va k vc= .slice (some ⟨g,0,none⟩) k aa:=by
         rcases h.2 with ⟨Y,_⟩|⟨g,aa,cur,Y,_⟩
         ·injection Y with _ h2 _;omega
         ·exact⟨g,aa,Y⟩
        injection Y with e1 e2 e3;subst e1 e3;have ah:=h.stored s (.int .u16 (CE ls s:Nat));rw[<-ac]at ah;have ax:=(Ae h g rfl).1;have c1:=h.cellAt s (by omega);rw[AD (by rw[RM,HN.out];omega)]at c1;generalize (Dr ls x s)[s]'(by rw[RM,HN.out];omega)=old at c1;have f1:=h.frozenAt s;have ak:=hid ah.1;have L:=hid E;have am:Hid (IntKind.u16.wrap (v:Int)=((CE ls s:Nat):Int)):=(by show _=_;rw[wrap_u16,av]);have aC:=hid aw;have aK:=hid aq;clear hv av ac ah hx E G e2 aw aq;cases y
        ·obtain rfl:=aK.out rfl;go_wp2_with fail;go_roundw
         case rel=>go_light;rw[am.out];exact⟨s+1,N,x,true,by omega,by go_num,rfl,rfl,rfl,L,by omega,by omega,ak.out,nZ (p:=⟨g,s,none⟩) ax z⟩
         case measure=>go_light;simp[intOf];omega
        ·obtain⟨aT,af⟩:=aC.out rfl;have ay:=hid af;have al:∀J,W<=J->J<=x->(N+1)*2 ^ (J-W)<=v:=(by intro J h1 h2;rw[<-af];exact Nat.mul_le_mul_left _ (Bu (by omega) (by omega)));have an:=hid al;clear af al;go_wp2_with fail
         go_loop [6,11] (fun a j=>∃J M:Nat,W<=J/\J<=x/\j= .int .i64 J/\a= .int .i64 M/\Hid (M=(N+1)*2 ^ (J-W))/\M<=39321900) (fun _ j=>x-(intOf j).toNat)
         case atStart=>exact⟨W,N+1,by omega,by omega,rfl,by go_num,by show N+1=_;simp,by have:=an.out W (by omega) (by omega);simp at this;omega⟩
         case round=>
          obtain⟨J,M,aU,aS,rfl,rfl,hM,bM⟩:=hrel;by_cases aW:J<x
          ·go_wp2_with fail
           go_round
           case rel=>go_light;have h1:=an.out (J+1) (by omega) (by omega);have h2:(N+1)*2 ^ (J+1-W)=2*M:=(by rw[hM.out,show J+1-W=(J-W)+1 by omega,En,<-Nat.mul_assoc,Nat.mul_comm]);exact⟨J+1,2*M,by omega,by omega,by go_num,by go_num,h2.symm,by omega⟩
           case measure=>go_light;simp[intOf];omega
          ·obtain rfl:J=x:=by omega
           obtain rfl:M=v:=hM.out.trans ay.out;go_wp2_with fail;go_roundw
           case rel=>go_light;rw[am.out];exact⟨_,_,_,_,⟨s+1,by omega,rfl,M,rfl,J,rfl, .inr ⟨rfl,L,by omega,by omega,ak.out,nZ (p:=⟨g,s,none⟩) ax z⟩⟩,rfl,rfl,rfl,by go_num⟩
           case measure=>go_light;simp[intOf];omega
       ·have aL:x<=15:=ar.out x (BF hx);have aX:((x:Int) != (l:Int))=true:=bne_iff_ne.mpr (by omega);have E:=G.out.skip hx ab;have L:=hid E;have aJ:=hid (X9 hx ab);clear E hx ab;go_wp2_with fail;go_roundw
        case rel=>go_light;exact⟨s+1,N,W,y,by omega,by go_num,rfl,rfl,rfl,L,bN,bW,by rw[aJ.out];exact h,z⟩
        case measure=>go_light;simp[intOf];omega
      ·obtain rfl:s=k:=by omega
       have ai:=G.out;rw[<-HN.out]at ai;have aE:=hid ai.next;have hp:=XU ls l;rw[HN.out]at hp;rw[hp]at h;clear ai hp G;go_wp2_with fail;go_roundw
       case rel=>go_light;exact⟨l+1,N,W,y,by omega,by omega,by go_num,rfl,rfl,rfl,aE,bN,bW,h,z⟩
       case measure=>go_light;simp[intOf];omega
    ·obtain rfl:l=16:=by omega
     rw[Ym ar.out,HN.out]at h;go_wp2_with fail;go_ret2;go_light;exact⟨_,rfl,h,z⟩
end Canon
namespace Own
open Go.RowKit Mem
theorem dZ{w w':World}{base:Nat}{e:TypeId}{s n:Nat}{v:Value}{xs:List Value}(h:w.ownsRow base e s v n xs)(hk:∀g,v.ownBlock=some g->w'.heap[g]? =w.heap[g]?):
 w'.ownsRow base e s v n xs:=by
 refine⟨h.1,?_⟩;rcases h.2 with h0|⟨g,i,cur,rfl,hb,hg,rest⟩
 ·exact .inl h0
 ·exact .inr ⟨g,i,cur,rfl,hb,(hk g rfl).trans hg,rest⟩
theorem fZ{w:World}{base:Nat}{e t:TypeId}{s n g:Nat}{v:Value}{xs:List Value}{cs:Array Value}(h:w.ownsRow base e s v n xs)(hb:Blk w g t cs)(i:e≠t):v.ownBlock≠some g:=by
 intro hv;rcases h.2 with ⟨rfl,_⟩|⟨g',j,cur,rfl,_,hg,_⟩
 ·simp[Value.ownBlock]at hv
 ·simp[Value.ownBlock]at hv;subst hv;exact Blk.apart (t:=e) hg hb i rfl
theorem EJ{w:World}{base i:Nat}{e e':TypeId}{s s' n n':Nat}{v v':Value}{xs j:List Value}(h:w.ownsRow base e s v n xs)(h':w.ownsRow i e' s' v' n' j)(y:e≠e'):
 v.ownBlock=none∨v.ownBlock≠v'.ownBlock:=by
 rcases h.2 with ⟨rfl,_⟩|⟨g,z,cur,rfl,_,hg,_⟩
 ·exact .inl rfl
 ·refine .inr fun hv=> ?_;exact fZ h' (g:=g) (t:=e) hg (Bg y) hv.symm
theorem Oe{w:World}{base:Nat}{e:TypeId}{s n:Nat}{v:Value}{xs:List Value}(h:w.ownsRow base e s v (n+1) xs):∃g i,v= .slice (some ⟨g,0,none⟩) (n+1) i:=by
 rcases h.2 with ⟨_,h0⟩|⟨g,i,cur,rfl,_⟩
 ·omega
 ·exact⟨g,i,rfl⟩
theorem CQ{w:World}{base:Nat}{e:TypeId}{s n:Nat}{A:Option Addr}{c:Nat}{xs:List Value}(h:w.ownsRow base e s (.slice A n c) n xs):Wf A n c:=by
 rcases h.2 with ⟨hv,hx⟩|⟨g,i,cur,hv,_,_,h1,_⟩
 ·injection hv with e1 e2 e3;subst e1 e2 e3;exact Wf.nil
 ·injection hv with e1 e2 e3;subst e1 e3;exact Wf.some h1
end Own
namespace Own
open Go.RowKit Mem
structure Kept (K:Nat->Prop) (a w:World):Prop where
 os:w.os=a.os
 tape:w.tape=a.tape
 output:w.output=a.output
 size:a.heap.size<=w.heap.size
 block:∀k,K k->w.heap[k]? =a.heap[k]?
section
variable {K:Nat->Prop} {a b c w w':World}
theorem Kept.refl(K:Nat->Prop)(a:World):Kept K a a:=⟨rfl,rfl,rfl,Aj _,fun _ _=>rfl⟩
theorem Kept.trans(h:Kept K a b)(k:Kept K b c):Kept K a c:=
 ⟨k.os.trans h.os,k.tape.trans h.tape,k.output.trans h.output,AV h.size k.size,fun i hi=>(k.block i hi).trans (h.block i hi)⟩
theorem Kept.drew(h:Kept K a w):Kept K a w.drew:=⟨h.os,h.tape,h.output,h.size,h.block⟩
theorem Kept.drewN(h:Kept K a w)(n:Nat):Kept K a (w.drewN n):=⟨h.os,h.tape,h.output,h.size,h.block⟩
theorem Kept.set(h:Kept K a w){p:Addr}(hp:¬K p.block)(u:Value):Kept K a (w.setCell p u):=
 have hb:=(Ag 0 w).setCell (p:=p) (AY _) u
 ⟨hb.os.trans h.os,hb.tape.trans h.tape,hb.output.trans h.output,AV h.size hb.size,fun k hk=>(AK w p u k (fun e=>hp (e ▸ hk))).trans (h.block k hk)⟩
theorem Kept.alloc(h:Kept K a w)(hK:∀k,K k->k<w.heap.size)(o:Obj):Kept K a (w.alloc o):=
 have hb:=(Ag 0 w).alloc (AY _) o
 ⟨hb.os.trans h.os,hb.tape.trans h.tape,hb.output.trans h.output,AV h.size hb.size,fun k hk=>(BI w o k (hK k hk)).trans (h.block k hk)⟩
theorem Kept.grown(h:Kept K a w){row:Option Nat}(hg:w.grownBy w' row)(hK:∀k,K k->k<w.heap.size)(hr:∀k,row=some k->¬K k):Kept K a w':=
 ⟨hg.os.trans h.os,hg.tape.trans h.tape,hg.output.trans h.output,AV h.size hg.size,fun k hk=>(hg.block k (hK k hk) (fun e=>hr k e.symm hk)).trans (h.block k hk)⟩
theorem Kept.of_below{B:Nat}(h:Below B a w)(hK:∀k,K k->k<B):Kept K a w:=⟨h.os,h.tape,h.output,h.size,fun k hk=>h.block k (hK k hk)⟩
theorem Kept.below{B:Nat}(h:Kept K a w)(hK:∀k,k<B->K k):Below B a w:=⟨h.os,h.tape,h.output,h.size,fun k hk=>h.block k (hK k hk)⟩
end
theorem jZ{w:World}{base i:Nat}{e:TypeId}{s n:Nat}{v:Value}{xs:List Value}(h:w.ownsRow base e s v n xs)(hb:i<=base):w.ownsRow i e s v n xs:=by
 refine⟨h.1,?_⟩;rcases h.2 with h0|⟨g,j,cur,rfl,hg,rest⟩
 ·exact .inl h0
 ·exact .inr ⟨g,j,cur,rfl,AV hb hg,rest⟩
theorem XQ(l:List Value)(i:Nat)(u:Value):l.toArray.setIfInBounds i u=(l.set i u).toArray:=by simp
end Own
end Go.Proofs.YtbgoibedicbkjaaGreatDoor
