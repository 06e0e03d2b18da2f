/- append onto a row of the call's own, whatever is appended (nil, empty  -/
import Derived.Test.YtbgoibedicbkjaaGreatDoorZTwoOpens1
import Derived.Laws.AppendOwnNone
namespace Go.Proofs.YtbgoibedicbkjaaGreatDoor end Go.Proofs.YtbgoibedicbkjaaGreatDoor open Go.Proofs.YtbgoibedicbkjaaGreatDoor
open Go.Lib (hid)
set_option maxHeartbeats 1000000
set_option maxRecDepth 100000
namespace Go.Proofs.YtbgoibedicbkjaaGreatDoor.Mem
open Go.RowKit
def sZ(A:Option Addr)(l cap s:Nat):Option Addr:=if cap=l then A else A.map (·.add (l*s))
theorem vcZ{P:Program}{t e:TypeId}{s:Nat}(ht:P.underlying t=some (.slice e))(hs:∀w,(sizeOf e).run P w= .ok s w)(A:Option Addr)(len cap:Nat)(kl:IntKind)(l:Int)(k:Nat)(hl:l=k)(hk:k<=len)(w:World):
 (Instr.slice t (.slice A len cap) (some (.int kl l)) none none).run P w= .ok (.slice (sZ A k cap s) (len-k) (cap-k)) w:=by
 subst hl
 have he:P.elem t=e:=by simp[Program.elem,ht]
 rw[run_slice_l w t A len cap (by rw[he];exact ht) kl (k:Int) (by omega) (by omega),he,hs]
 rfl
theorem ihZ{P:Program}{t e:TypeId}{s:Nat}(ht:P.underlying t=some (.slice e))(hs:∀w,(sizeOf e).run P w= .ok s w)(A:Option Addr)(len cap:Nat)(kl kh:IntKind)(l h:Int)(k m:Nat)(hl:l=k)(hh:h=m)(hk:k<=m)(hm:m<=cap)(w:World):
 (Instr.slice t (.slice A len cap) (some (.int kl l)) (some (.int kh h)) none).run P w= .ok (.slice (sZ A k cap s) (m-k) (cap-k)) w:=by
 subst hl hh
 have he:P.elem t=e:=by simp[Program.elem,ht]
 rw[run_slice_lh w t A len cap (by rw[he];exact ht) kl kh (k:Int) (m:Int) (by omega) (by omega) (by omega),he,hs]
 rfl
theorem cdZ(b off i:Nat):(⟨b,off,none⟩:Addr).add i=⟨b,off+i,none⟩:=by
 unfold Addr.add
 split
 ·simp_all
 ·rfl
theorem Row.cut{w:World}{B n s c:Nat}{A:Option Addr}{f g:Nat->Nat->Value}(h:Row w B A n s f)(k m:Nat)(hk:k+m<=n)(hc:n<=c)(hg:∀i j,i<m->j<s->f (k+i) j=g i j):Row w B (sZ A k c s) m s g:=fun hn=>by
 obtain⟨b,off,rfl,hb,hcell⟩:=h (by omega)
 unfold sZ
 rw[if_neg (by omega)]
 refine⟨b,off+k*s,by simp[cdZ],hb,fun i j hi hj=> ?_⟩
 have:=hcell (k+i) j (by omega) hj
 rw[hg i j hi hj]at this
 rw[<-this,Nat.add_mul]
 congr 2
 omega
def Src(w:World)(A:Option Addr)(m c size:Nat)(news:List Value):Prop:=
 news.length=m*size/\((A=none/\m=0/\c=0)∨∃ad,A=some ad/\∀j u,news[j]? =some u->w.cell? (ad.add j)=some u)
theorem add_none(b off i:Nat):(⟨b,off,none⟩:Addr).add i=⟨b,off+i,none⟩:=by
 unfold Addr.add
 split
 ·simp_all
 ·rfl
theorem Src.of_blk{w:World}{g:Nat}{t:TypeId}{cs:Array Value}(h:Blk w g t cs)(m c size:Nat)(hs:cs.size=m*size):Src w (some ⟨g,0,none⟩) m c size cs.toList:=
 ⟨by simpa using hs, .inr ⟨_,rfl,fun j u hu=>by rw[add_none,Nat.zero_add,h.cell];simpa using hu⟩⟩
section
variable {P:Program}
theorem ojZ(w:World)(base:Nat)(t ty e:TypeId)(i:TypeInfo)(z:Value)(size bytes:Nat)(ht:P.underlying t=some (.slice e))(hi:P.info? e=some i)(hz:i.zero=some z)
 (hsize:i.size=size)(hby:i.bytes=bytes)(hzs:z.cells.size=size)(hsz:0<size)
 (v:Value)(n:Nat)(xs:List Value)(hown:w.ownsRow base e size v n xs)
 (A:Option Addr)(m c:Nat)(news:List Value)(hsrc:Src w A m c size news)(h1:∀u∈news,u.oneCell'=true)
 (h63:n+m<=maxLen)(hbytes:(n+m)*bytes<=140737488355328)(hbase:base<=w.heap.size):
 ∃v' w',(Builtin.append_ #[t,t] ty #[v, .slice A m c]).run P w= .ok v' w'/\w'.ownsRow base e size v' (n+m) (xs++news)/\w.grownBy w' v.ownBlock/\
  (v'.ownBlock=v.ownBlock∨v'.ownBlock=some w.heap.size):=by
 obtain⟨hl,hA⟩:=hsrc
 rcases hA with ⟨rfl,rfl,rfl⟩|⟨ad,rfl,hc⟩
 ·have hn:news= []:=List.eq_nil_of_length_eq_zero (by simpa using hl)
  subst hn
  exact⟨v,w,run_append_owned_none (P:=P) (w:=w) base t ty e i size ht hi v n xs hown,by simpa using hown,⟨rfl,rfl,rfl,Nat.le_refl _,fun _ _ _=>rfl⟩, .inl rfl⟩
 ·obtain⟨v',w',hr,h2,h3,_,h5⟩:=run_append_own_at (P:=P) w base t ty e i z size bytes ht hi hz hsize hby hzs hsz v n xs hown ad m c news hl hc h1 h63 hbytes hbase
  exact⟨v',w',hr,h2,h3,h5⟩
theorem kZ{w:World}{ops:Array Oper}{rest:List Oper}{o:Oper}{a:Act}{Q:Exit->Act->World->Prop}(hgd:o.guard=none)(s x:Operand)(t:TypeId)
 (ho:o.op= .call {callee:= .builtin .append,args:=#[s,x],argTypes:=#[t,t] })
 (base:Nat)(e:TypeId)(i:TypeInfo)(z:Value)(size bytes:Nat)(ht:P.underlying t=some (.slice e))(hi:P.info? e=some i)(hz:i.zero=some z)
 (hsize:i.size=size)(hby:i.bytes=bytes)(hzs:z.cells.size=size)(hsz:0<size)
 (v:Value)(n:Nat)(xs:List Value)(hs:a.eval s=v)(hown:w.ownsRow base e size v n xs)
 (A:Option Addr)(m c:Nat)(news:List Value)(hx:a.eval x= .slice A m c)(hsrc:Src w A m c size news)(h1:∀u∈news,u.oneCell'=true)
 (h63:n+m<=maxLen)(hbytes:(n+m)*bytes<=140737488355328)(hbase:base<=w.heap.size)
 (h:∀v' w',w'.ownsRow base e size v' (n+m) (xs++news)->w.grownBy w' v.ownBlock->(v'.ownBlock=v.ownBlock∨v'.ownBlock=some w.heap.size)->wpList P ops Q rest (a.put o.dst v') w'):wpList P ops Q (o :: rest) a w:=by
 refine wpList_plain hgd fun K hK=> ?_
 obtain⟨v',w',hr,h2,h3,h5⟩:=ojZ (P:=P) w base t o.type e i z size bytes ht hi hz hsize hby hzs hsz v n xs hown A m c news hsrc h1 h63 hbytes hbase
 unfold Oper.wp execOp
 simp only[ho,resolve,invoke,builtin,Sem.run_bind,Sem.run_pure,Result.andThen_ok,List.map_toArray,List.map_cons,List.map_nil,hs,hx,hr]
 exact hK _ _ (h v' w' h2 h3 h5)
end
end Go.Proofs.YtbgoibedicbkjaaGreatDoor.Mem
namespace Go.Proofs.YtbgoibedicbkjaaGreatDoor.Canon
open Go.RowKit Mem
theorem oaZb(ls:List Nat)(x:Nat):keZ (ls++ [x])=keZ ls+if x=0 then 0 else 2 ^ (15-x):=by
 unfold keZ
 simp
theorem jvZ(ls:List Nat):keZ ls<=ls.length*32768:=by
 induction ls with
 |nil=>simp[keZ]
 |cons x ls ih=>
  have h3:2 ^ (15-x)<=2 ^ 15:=Nat.pow_le_pow_right (by omega) (by omega)
  unfold keZ at ih ⊢
  rw[List.map_cons,List.sum_cons,List.length_cons,Nat.add_mul]
  split<;>omega
theorem edZb(ls:List Nat)(x:Nat):used (ls++ [x])=used ls+if x=0 then 0 else 1:=by
 unfold used
 rw[List.countP_append]
 by_cases h:x=0<;>simp[h]
theorem yjZb(ls:List Nat):used ls<=ls.length:=List.countP_le_length
theorem zkZb{ls:List Nat}{k x:Nat}(hx:ls[k]? =some x)(h:15<x):pbZ ls=false:=by
 unfold pbZ
 have:ls.all (fun x=>decide (x<=15))=false:=by
  rw[List.all_eq_false]
  exact⟨x,List.mem_of_getElem? hx,by simpa using h⟩
 rw[this,Bool.and_false]
theorem chZb{ls:List Nat}(h1:ls.length<=300)(h2:∀x∈ls,x<=15):pbZ ls=true:=by
 unfold pbZ
 rw[Bool.and_eq_true,List.all_eq_true]
 exact⟨by simpa using h1,fun x hx=>by simpa using h2 x hx⟩
theorem dhZb{ls:List Nat}(h:300<ls.length):pbZ ls=false:=by
 unfold pbZ
 have:decide (ls.length<=300)=false:=by simp;omega
 rw[this,Bool.false_and]
def jgZ(ls:List Nat):Nat:=if pbZ ls=true then keZ ls else 0
def kgZ(ls:List Nat):Int:=if pbZ ls=true then 0 else 13
theorem kvZ(w:World)(A:Option Addr)(n c:Nat)(ls:List Nat)(hn:ls.length=n)(hN:n<=9223372036854775807)(ha:Row w w.heap.size A n 1 (mZ .u8 ls)):
 Calls Tryz.prog 249 #[.slice A n c] w fun e w'=>e= .returned (.tuple #[.int .i64 (jgZ ls:Nat), .int .i64 (kgZ ls)])/\w=w':=by
 have HN:=hid hn
 clear hn
 by_cases hbig:300<n
 ·have hb:pbZ ls=false:=dhZb (by rw[HN.out];exact hbig)
  have HV:Hid (jgZ ls=0):=by show _=_;unfold jgZ;rw[hb];rfl
  have HE:Hid (kgZ ls=13):=by show _=_;unfold kgZ;rw[hb];rfl
  clear hb
  go_enter Tryz.func249,Tryz.ntmps249
  go_wp2_with fail
  go_ret2
  exact⟨by rw[HV.out,HE.out];rfl,rfl⟩
 ·go_enter Tryz.func249,Tryz.ntmps249
  go_wp2_with fail
  go_loop [4,5] (fun s i=>∃ (k S:Nat),k<=n/\i= .int .i64 k/\s= .int .i64 S/\Hid (S=keZ (ls.take k))/\S<=9830400/\Hid (∀x∈ls.take k,x<=15)) (fun _ i=>n-(intOf i).toNat)
  case atStart=>exact⟨0,0,by omega,rfl,rfl,rfl,by omega,fun x hx=>by simp at hx⟩
  case round=>
   obtain⟨k,S,hk,rfl,rfl,hS,bS,hsm⟩:=hrel
   by_cases hlt:k<n
   ·obtain⟨b,off,x,rfl,hbb,hx,c0⟩:=kbZ ha HN.out hlt
    have x0:(0:Int)<=(k:Int):=by omega
    have x1:(k:Int)<(n:Int):=by omega
    by_cases h15:15<x
    ·have hb:=zkZb hx h15
     have HV:Hid (jgZ ls=0):=by show _=_;unfold jgZ;rw[hb];rfl
     have HE:Hid (kgZ ls=13):=by show _=_;unfold kgZ;rw[hb];rfl
     clear hb hx
     go_wp2_with fail
     go_ret2
     go_light
     exact⟨by rw[HV.out,HE.out];rfl,rfl⟩
    ·have htk:=qdZ hx
     have hks:keZ (ls.take (k+1))=keZ (ls.take k)+if x=0 then 0 else 2 ^ (15-x):=by rw[htk,oaZb]
     have hkl:=jvZ (ls.take (k+1))
     rw[List.length_take,hks,<-hS.out]at hkl
     have hsn:∀z∈ls.take (k+1),z<=15:=by
      intro z hz
      rw[htk,List.mem_append,List.mem_singleton]at hz
      rcases hz with hz|rfl
      ·exact hsm.out z hz
      ·omega
     have HSN:=hid hsn
     have HKS:=hid hks
     clear htk hks hsn hx
     by_cases hx0:x=0
     ·subst hx0
      go_wp2_with fail
      go_round
      case rel=>
       go_light
       exact⟨k+1,S,by omega,by go_num,rfl,by show S=keZ (ls.take (k+1));rw[HKS.out,<-hS.out];simp,bS,HSN⟩
      case measure=>go_light;simp[intOf];omega
     ·have hxp:0<x:=by omega
      rw[if_neg hx0]at hkl HKS
      have HKL:=hid hkl
      clear hkl hx0
      go_wp2_with fail
      go_loop [6,7] (fun v j=>∃ (J W:Nat),J<=x/\j= .int .i64 J/\v= .int .i64 W/\Hid (W=2 ^ (15-J))/\W<=32768) (fun _ j=>x-(intOf j).toNat)
      case atStart=>exact⟨0,32768,by omega,rfl,rfl,rfl,by omega⟩
      case round=>
       obtain⟨J,W,hJ,rfl,rfl,hW,bW⟩:=hrel
       by_cases hltJ:J<x
       ·go_wp2_with fail
        go_round
        case rel=>
         go_light
         refine⟨J+1,W / 2,by omega,by go_num,by go_num,?_,by omega⟩
         show W / 2=2 ^ (15-(J+1))
         rw[hW.out,show 15-J=(15-(J+1))+1 by omega,Nat.pow_succ]
         omega
        case measure=>go_light;simp[intOf];omega
       ·obtain rfl:J=x:=by omega
        go_wp2_with fail
        go_round
        case rel=>
         go_light
         have:=HKL.out
         rw[<-hW.out]at this
         exact⟨k+1,S+W,by omega,by go_num,by go_num,by show S+W=keZ (ls.take (k+1));rw[HKS.out,<-hS.out,<-hW.out],by omega,HSN⟩
        case measure=>go_light;simp[intOf];omega
   ·obtain rfl:k=n:=by omega
    have hall:ls.take k=ls:=List.take_of_length_le (by have:=HN.out;omega)
    have hgood:pbZ ls=true:=chZb (by have:=HN.out;omega) (by have:=hsm.out;rw[hall]at this;exact this)
    have HV:Hid (jgZ ls=S):=by show _=_;unfold jgZ;rw[hgood,if_pos rfl,hS.out,hall]
    have HE:Hid (kgZ ls=0):=by show _=_;unfold kgZ;rw[hgood];rfl
    clear hall hgood
    go_wp2_with fail
    go_ret2
    go_light
    exact⟨by rw[HV.out,HE.out];rfl,rfl⟩
theorem paZb{ls:List Nat}(hg:pbZ ls=true):egZ ls=if used ls=0∨(used ls=1/\cnt ls 1=1)∨keZ ls=32768 then 0 else 7:=by
 obtain⟨_,h2⟩:=vkZ hg
 rw[ksZ ls (cn ls) (fun _=>rfl),juZ,kuZ,cjZ ls h2,hkZ ls h2,hg]
 simp[cn]
theorem lvZ(w:World)(A:Option Addr)(n c:Nat)(ls:List Nat)(hn:ls.length=n)(hN:n<=9223372036854775807)(ha:Row w w.heap.size A n 1 (mZ .u8 ls)):
 Calls Tryz.prog 217 #[.slice A n c] w fun e w'=>e= .returned (.int .i64 (egZ ls))/\w=w':=by
 have C:=hid (kvZ w A n c ls hn hN ha)
 have HN:=hid hn
 clear hn
 cases hg:pbZ ls
 ·have HV:Hid (jgZ ls=0):=by show _=_;unfold jgZ;rw[hg];rfl
  have HE:Hid (kgZ ls=13):=by show _=_;unfold kgZ;rw[hg];rfl
  have HC:Hid (egZ ls=7):=by show _=_;unfold egZ;rw[hlZ hg];rfl
  rw[HV.out,HE.out]at C
  clear hg
  go_enter Tryz.func217,Tryz.ntmps217
  go_wp2_with fail
  refine C.out.mono ?_
  rintro e w1 ⟨rfl,rfl⟩
  go_wp2_with fail
  go_ret
  exact⟨by rw[HC.out];rfl,rfl⟩
 ·have HV:Hid (jgZ ls=keZ ls):=by show _=_;unfold jgZ;rw[hg];rfl
  have HE:Hid (kgZ ls=0):=by show _=_;unfold kgZ;rw[hg];rfl
  have HC:=hid (paZb hg)
  have hkl:=jvZ ls
  have hln:=(vkZ hg).1
  rw[HN.out]at hkl hln
  rw[HV.out,HE.out]at C
  generalize keZ ls=K at *
  clear hg HV HE
  go_enter Tryz.func217,Tryz.ntmps217
  go_wp2_with fail
  refine C.out.mono ?_
  rintro e w1 ⟨rfl,rfl⟩
  go_wp2_with fail
  go_loop [5,6,7] (fun a b i=>∃ (k U O:Nat),k<=n/\i= .int .i64 k/\a= .int .i64 U/\b= .int .i64 O/\Hid (U=used (ls.take k))/\Hid (O=cnt (ls.take k) 1)/\U<=300/\O<=300) (fun _ _ i=>n-(intOf i).toNat)
  case atStart=>exact⟨0,0,0,by omega,rfl,rfl,rfl,rfl,rfl,by omega,by omega⟩
  case round=>
   obtain⟨k,U,O,hk,rfl,rfl,rfl,hU,hO,bU,bO⟩:=hrel
   by_cases hlt:k<n
   ·obtain⟨b,off,x,rfl,hbb,hx,c0⟩:=kbZ ha HN.out hlt
    have x0:(0:Int)<=(k:Int):=by omega
    have x1:(k:Int)<(n:Int):=by omega
    have htk:=qdZ hx
    have h1:used (ls.take (k+1))=U+if x=0 then 0 else 1:=by rw[htk,edZb,hU.out]
    have h2:cnt (ls.take (k+1)) 1=O+if x=1 then 1 else 0:=by rw[htk,eeZ,hO.out]
    have l1:=yjZb (ls.take (k+1))
    have l2:=bqZ (ls.take (k+1)) 1
    rw[List.length_take]at l1 l2
    rw[h1]at l1
    rw[h2]at l2
    have H1:=hid h1
    have H2:=hid h2
    have L1:=hid l1
    have L2:=hid l2
    clear htk h1 h2 l1 l2 hx
    by_cases hx0:x=0
    ·subst hx0
     go_wp2_with fail
     go_round
     case rel=>
      go_light
      exact⟨k+1,U,O,by omega,by go_num,rfl,rfl,by show U=used (ls.take (k+1));rw[H1.out];simp,by show O=cnt (ls.take (k+1)) 1;rw[H2.out];simp,bU,bO⟩
     case measure=>go_light;simp[intOf];omega
    ·have hxp:0<x:=by omega
     rw[if_neg hx0]at H1 L1
     by_cases hx1:x=1
     ·subst hx1
      go_wp2_with fail
      go_round
      case rel=>
       go_light
       have a1:=L1.out
       have a2:=L2.out
       rw[if_pos rfl]at a2
       exact⟨k+1,U+1,O+1,by omega,by go_num,by go_num,by go_num,by show U+1=used (ls.take (k+1));rw[H1.out],by show O+1=cnt (ls.take (k+1)) 1;rw[H2.out];simp,by omega,by omega⟩
      case measure=>go_light;simp[intOf];omega
     ·have hxb:((x:Int)==1)=false:=by simp;omega
      rw[if_neg hx1]at H2 L2
      clear hx0
      go_wp2_with fail
      go_round
      case rel=>
       go_light
       have a1:=L1.out
       exact⟨k+1,U+1,O,by omega,by go_num,by go_num,rfl,by show U+1=used (ls.take (k+1));rw[H1.out],by show O=cnt (ls.take (k+1)) 1;rw[H2.out];simp,by omega,bO⟩
      case measure=>go_light;simp[intOf];omega
   ·obtain rfl:k=n:=by omega
    have hall:ls.take k=ls:=List.take_of_length_le (by have:=HN.out;omega)
    have hU2:=hU.out
    have hO2:=hO.out
    rw[hall]at hU2 hO2
    have hc:=HC.out
    rw[<-hU2,<-hO2]at hc
    have HC2:=hid hc
    clear hall hU2 hO2 hc hU hO HC
    go_wp2_with fail
    all_goals
     go_ret
     go_light
     refine⟨giZ ?_,rfl⟩
     rw[HC2.out]
     first|(rw[if_pos (by omega)];done)|(rw[if_neg (by omega)];done)|(simp only[beq_iff_eq,ne_eq,beq_eq_false_iff_ne]at *;first|(rw[if_pos (by omega)];done)|(rw[if_neg (by omega)];done))
end Go.Proofs.YtbgoibedicbkjaaGreatDoor.Canon
namespace Go.Proofs.YtbgoibedicbkjaaGreatDoor.Canon
open Go.RowKit Mem
def wdZ(ls:List Nat)(s:Nat):Nat:=code ls s % 65536
def Wds(ls:List Nat)(n s:Nat)(arr:Array Value):Prop:=arr.size=n/\∀i,i<n->arr[i]? =some (.int .u16 ((if i<s then wdZ ls i else 0:Nat):Int))
theorem Wds.start(ls:List Nat)(n:Nat):Wds ls n 0 (madeCells #[.int .u16 0] n):=by
 refine⟨size_madeCells _ _,fun i hi=> ?_⟩
 simp[madeCells,hi,Nat.mod_one]
theorem Wds.set{ls:List Nat}{n s:Nat}{arr:Array Value}(h:Wds ls n s arr)(hs:s<n){v:Nat}(hv:v=wdZ ls s):Wds ls n (s+1) (arr.setIfInBounds s (.int .u16 (v:Nat))):=by
 refine⟨by rw[Array.size_setIfInBounds];exact h.1,fun i hi=> ?_⟩
 rw[Array.getElem?_setIfInBounds]
 by_cases e:s=i
 ·subst e
  rw[if_pos rfl,if_pos (by have:=h.1;omega),if_pos (by omega),hv]
 ·rw[if_neg e,h.2 i hi]
  by_cases hlt:i<s
  ·rw[if_pos hlt,if_pos (by omega)]
  ·rw[if_neg hlt,if_neg (by omega)]
theorem Wds.skip{ls:List Nat}{n s:Nat}{arr:Array Value}(h:Wds ls n s arr)(h0:wdZ ls s=0):Wds ls n (s+1) arr:=by
 refine⟨h.1,fun i hi=> ?_⟩
 rw[h.2 i hi]
 by_cases hlt:i<s
 ·rw[if_pos hlt,if_pos (by omega)]
 ·by_cases e:i=s
  ·subst e;rw[if_neg hlt,if_pos (by omega),h0]
  ·rw[if_neg hlt,if_neg (by omega)]
theorem pqZ{ls:List Nat}{s:Nat}(h:ls[s]? =some 0):wdZ ls s=0:=by
 unfold wdZ code
 simp[List.getD_eq_getElem?_getD,h]
theorem zsZ{ls:List Nat}{s x:Nat}(h:ls[s]? =some x)(hx:x≠0):wdZ ls s=(fst ls x+cnt (ls.take s) x) % 65536:=by
 unfold wdZ code
 simp[List.getD_eq_getElem?_getD,h,hx]
def Fsts(f:Nat->Nat)(l:Nat)(arr:Array Value):Prop:=arr.size=17/\∀j,j<=l->arr[j]? =some (.int .i64 (f j:Nat))
theorem Fsts.set{f:Nat->Nat}{l:Nat}{arr:Array Value}(h:Fsts f l arr)(hl:l<16){v:Nat}(hv:v=f (l+1)):Fsts f (l+1) (arr.setIfInBounds (l+1) (.int .i64 (v:Nat))):=by
 refine⟨by rw[Array.size_setIfInBounds];exact h.1,fun j hj=> ?_⟩
 rw[Array.getElem?_setIfInBounds]
 by_cases e:l+1=j
 ·subst e
  rw[if_pos rfl,if_pos (by have:=h.1;omega),hv]
 ·rw[if_neg e]
  exact h.2 j (by omega)
theorem Fsts.bump{f g:Nat->Nat}{arr:Array Value}(h:Fsts f 16 arr){x v:Nat}(hx:x<=16)(hv:v=g x)(ho:∀j,j≠x->g j=f j):Fsts g 16 (arr.setIfInBounds x (.int .i64 (v:Nat))):=by
 refine⟨by rw[Array.size_setIfInBounds];exact h.1,fun j hj=> ?_⟩
 rw[Array.getElem?_setIfInBounds]
 by_cases e:x=j
 ·subst e
  rw[if_pos rfl,if_pos (by have:=h.1;omega),hv]
 ·rw[if_neg e,h.2 j hj,ho j (Ne.symm e)]
theorem Fsts.zero(ls:List Nat):Fsts (fst ls) 1 #[.int .i64 0, .int .i64 0, .int .i64 0, .int .i64 0, .int .i64 0, .int .i64 0, .int .i64 0, .int .i64 0, .int .i64 0, .int .i64 0, .int .i64 0, .int .i64 0, .int .i64 0, .int .i64 0, .int .i64 0, .int .i64 0, .int .i64 0]:=by
 refine⟨rfl,fun j hj=> ?_⟩
 have:j=0∨j=1:=by omega
 rcases this with rfl|rfl
 ·rfl
 ·simp[fst,cn]
theorem wrap_u16(v:Nat):IntKind.u16.wrap (v:Int)=((v % 65536:Nat):Int):=by
 rw[IntKind.wrap_u16]
 omega
theorem mvZ:(Tryz.prog.info? 47).map (fun i=>(i.zero,i.size,i.bytes))=some (some (.int .u16 0),1,2):=by kernel_rfl
theorem ehZb(n:Nat)(hn:n<=8388608)(w:World):(Instr.makeSlice 200 (.int .i64 (n:Int)) (.int .i64 (n:Int))).run Tryz.prog w=
 .ok (.slice (some ⟨w.heap.size,0,none⟩) n n) (w.alloc (.cells (madeCells #[.int .u16 0] n) 47)):=by
 obtain⟨i0,hi,hz0,hz1,hz2⟩:=info_parts mvZ
 have h:=run_make (P:=Tryz.prog) w 200 47 i0 (.int .u16 0) Tryz.underlying200 hi hz0 .i64 .i64 (n:Int) (n:Int) (by omega) (Int.le_refl _) (by rw[hz2];omega) (by omega)
 simp only[Int.toNat_natCast]at h
 simpa[hz1,Value.cells]using h
def fdZb(ls:List Nat)(n:Nat)(w:World)(e:Ending)(w':World):Prop:=
 ∃ (g:Nat) (arr:Array Value),e= .returned (.tuple #[.slice (some ⟨g,0,none⟩) n n, .int .i64 0])/\Blk w' g 47 arr/\Wds ls n n arr/\w.heap.size<=g/\Below w.heap.size w w'
theorem gdZb(w:World)(A:Option Addr)(n c:Nat)(ls:List Nat)(hn:ls.length=n)(hok:okB ls=true)(ha:Row w w.heap.size A n 1 (mZ .u8 ls)):
 Calls Tryz.prog 256 #[.slice A n c] w (fdZb ls n w):=by
 have hgood:pbZ ls=true:=by
  cases hg:pbZ ls
  ·rw[hlZ hg]at hok;cases hok
  ·rfl
 obtain⟨hlen,hsm⟩:=vkZ hgood
 rw[hn]at hlen
 have C:=zbZb w A n c ls hn (by omega) ha
 have hE:egZ ls=0:=by unfold egZ;rw[hok];rfl
 rw[hE]at C
 have C1:=hid C
 have C2:=hid (fun wx (h:Row wx wx.heap.size A n 1 (mZ .u8 ls))=>isZ wx A n c ls hn (by omega) h)
 have HN:=hid hn
 have HG:=hid hgood
 have HSM:=hid hsm
 have hmk:=ehZb n (by omega)
 have hfl:=fun l (h:l<=16)=>cqZ ls l
 have HFL:Hid (∀l,l<=16->fst ls l<=39321600):=by
  show ∀l,l<=16->fst ls l<=39321600
  intro l hl
  have h1:=cqZ ls l
  have h2:2 ^ (l+1)<=2 ^ 17:=Nat.pow_le_pow_right (by omega) (by omega)
  have h3:2 ^ (l+1)*ls.length<=2 ^ 17*300:=Nat.mul_le_mul h2 (by omega)
  omega
 clear C hE hok hgood hsm hn hfl
 go_enter Tryz.func256,Tryz.ntmps256
 go_wp2_with fail
 refine C1.out.mono ?_
 rintro e w1 ⟨rfl,hb1⟩
 have z1:=hb1.size
 go_wp2_with fail
 refine(C2.out _ ((ha.below hb1).mono z1)).mono ?_
 rintro e w2 ⟨arr,f,rfl,hc,hf,hg,hb2⟩
 rw[hg HG.out]at hc
 rw[HG.out]
 have z2:=hb2.size
 have hbel2:Below w.heap.size w w2:=iZ hb2 z1 hb1
 have hsz:arr.size=16:=hc.1
 have bl0:Blk (w2.alloc (.cells #[.int .i64 0, .int .i64 0, .int .i64 0, .int .i64 0, .int .i64 0, .int .i64 0, .int .i64 0, .int .i64 0, .int .i64 0, .int .i64 0, .int .i64 0, .int .i64 0, .int .i64 0, .int .i64 0, .int .i64 0, .int .i64 0] 356)) w2.heap.size 356 _:=Blk.made _ _ _
 have bl1:=jsZ (arr:=arr) bl0 (by rw[hsz];rfl)
 have hth:(w2.alloc (.cells #[.int .i64 0, .int .i64 0, .int .i64 0, .int .i64 0, .int .i64 0, .int .i64 0, .int .i64 0, .int .i64 0, .int .i64 0, .int .i64 0, .int .i64 0, .int .i64 0, .int .i64 0, .int .i64 0, .int .i64 0, .int .i64 0] 356)).there w2.heap.size 0 arr.size:=by
  rw[hsz];exact wiZ bl0
 have hinf:(Tryz.prog.info? 356).map (·.size)=some arr.size:=by rw[hsz];exact tfZ
 have bel1:Below w.heap.size w ((w2.alloc (.cells #[.int .i64 0, .int .i64 0, .int .i64 0, .int .i64 0, .int .i64 0, .int .i64 0, .int .i64 0, .int .i64 0, .int .i64 0, .int .i64 0, .int .i64 0, .int .i64 0, .int .i64 0, .int .i64 0, .int .i64 0, .int .i64 0] 356)).setCells w2.heap.size 0 arr.toList):=
  dfZ (by omega) _ _ _ (gZ (by omega) hbel2)
 have HONE:=hid hc.one
 have HINF:=hid hinf
 have HC:=hid hc
 clear hsz hinf hc hf hg bl0 C1 C2
 go_upto_region 5 with (refine wpList_store_mid rfl 356 (.tmp 5) (.tmp 20) rfl w2.heap.size 0 arr (by rfl) (by rfl) hth HINF.out HONE.out ?_)
 have hz1:=bl1.lt
 clear hth
 generalize (w2.alloc (.cells #[.int .i64 0, .int .i64 0, .int .i64 0, .int .i64 0, .int .i64 0, .int .i64 0, .int .i64 0, .int .i64 0, .int .i64 0, .int .i64 0, .int .i64 0, .int .i64 0, .int .i64 0, .int .i64 0, .int .i64 0, .int .i64 0] 356)).setCells w2.heap.size 0 arr.toList=w3 at *
 have hz3:=bel1.size
 go_wp2_with fail
 go_loopw [8] (fun i wr=>∃ (l:Nat) (fa:Array Value),1<=l/\l<=16/\i= .int .i64 l/\Blk wr w2.heap.size 356 arr/\Blk wr w3.heap.size 360 fa/\Hid (Fsts (fst ls) l fa)/\Below w.heap.size w wr) (fun i _=>16-(intOf i).toNat)
 case atStart=>exact⟨1,_,by omega,by omega,rfl,bl1.alloc _,Blk.made _ _ _,Fsts.zero ls,gZ hz3 bel1⟩
 case round=>
  obtain⟨l,fa,hl1,hl2,rfl,blN,blF,hF,rbel⟩:=hrel
  by_cases hlt:l<16
  ·have c1:=blF.cell l
   rw[hF.out.2 l (by omega)]at c1
   have c2:=blN.cell l
   rw[HC.out.2 l (by omega)]at c2
   have c3:=blF.cell (l+1)
   rw[Array.getElem?_eq_getElem (by have:=hF.out.1;omega)]at c3
   generalize fa[l+1]'(by have:=hF.out.1;omega)=old at c3
   have f3:=blF.frozen (l+1)
   have b1:=HFL.out l (by omega)
   have b2:=onZ ls l
   have hfs:fst ls (l+1)=2*(fst ls l+cn ls l):=rfl
   have HFS:=hid hfs
   rw[HN.out]at b2
   clear hfs
   generalize fst ls l=F at *
   generalize cn ls l=K at *
   have x0:(0:Int)<=(l:Int):=by omega
   have x1:(l:Int)<16:=by omega
   have x2:(l:Int)<17:=by omega
   have x3:(0:Int)<=(l:Int)+1:=by omega
   have x4:(l:Int)+1<17:=by omega
   have x5:Hid (((l:Int)+1).toNat=l+1):=by show _=_;omega
   have s1:Hid (IntKind.i64.wrap ((l:Int)+1)=(l:Int)+1):=IntWalk.i64_in _ (by omega)
   have s2:Hid (IntKind.i64.wrap ((F:Int)+(K:Int))=(F:Int)+(K:Int)):=IntWalk.i64_in _ (by omega)
   go_wp2_with fail
   have t1:=s1.out
   have t2:=s2.out
   have t3:=x5.out
   go_region
   all_goals clear t1 t2 t3
   all_goals go_wp2_with fail
   all_goals
    go_roundw
    case rel=>
     go_light
     have e:((F:Int)+(K:Int))*2=((fst ls (l+1):Nat):Int):=by rw[HFS.out];omega
     rw[e]
     exact⟨l+1,_,by omega,by omega,by go_num,(blN.far (p:=⟨w3.heap.size,l+1,none⟩) (show w2.heap.size≠w3.heap.size by omega) _).drew,(blF.set _ _).drew,hF.out.set hlt rfl,(fZ (p:=⟨w3.heap.size,l+1,none⟩) hz3 rbel).drew⟩
    case measure=>go_light;simp[intOf];omega
  ·obtain rfl:l=16:=by omega
   go_wp2_with fail
   have hbr:=rbel.size
   have hgl:=blF.lt
   obtain⟨wo,rfl⟩:∃wo:World,wo=wr:=⟨_,rfl⟩
   have blF':=blF.alloc (.cells (madeCells #[.int .u16 0] n) 47)
   have blO':Blk (wo.alloc (.cells (madeCells #[.int .u16 0] n) 47)) wo.heap.size 47 _:=Blk.made _ _ _
   have belO:=gZ (o:= .cells (madeCells #[.int .u16 0] n) 47) hbr rbel
   have hF0:Fsts (fun j=>fst ls j+cn (ls.take 0) j) 16 fa:=by
    refine⟨hF.out.1,fun j hj=> ?_⟩
    rw[hF.out.2 j hj]
    simp[cn,hiZ]
   have HF0:=hid hF0
   clear hF0 blF rbel hF
   go_loopw [42] (fun i wr=>∃ (s:Nat) (fb ds:Array Value),s<=n/\i= .int .i64 s/\Blk wr w3.heap.size 360 fb/\Blk wr wo.heap.size 47 ds/\Hid (Fsts (fun j=>fst ls j+cn (ls.take s) j) 16 fb)/\Hid (Wds ls n s ds)/\Below w.heap.size w wr) (fun i _=>n-(intOf i).toNat)
   case atStart=>exact⟨0,fa,_,by omega,rfl,blF',blO',HF0,Wds.start ls n,belO⟩
   case round=>
    clear blF' blO' belO HF0
    obtain⟨s,fb,ds,hs,rfl,blF,blO,hF,hW,rbel⟩:=hrel
    by_cases hlt:s<n
    ·obtain⟨b,off,x,rfl,hbb,hx,c0⟩:=kbZ (ha.below rbel) HN.out hlt
     have hx15:=HSM.out x (List.mem_of_getElem? hx)
     have x0:(0:Int)<=(s:Int):=by omega
     have x1:(s:Int)<(n:Int):=by omega
     have htk:=qdZ hx
     by_cases hx0:x=0
     ·subst hx0
      have hcn:∀j,cn (ls.take (s+1)) j=cn (ls.take s) j:=by
       intro j
       rw[htk]
       unfold cn
       split
       ·rfl
       ·rw[eeZ,if_neg (by omega)];rfl
      have HCN:=hid hcn
      have HZ:=hid (pqZ hx)
      clear hx htk hcn
      go_wp2_with fail
      go_roundw
      case rel=>
       go_light
       exact⟨s+1,fb,ds,by omega,by go_num,blF,blO,by show Fsts _ 16 fb;simp only[HCN.out];exact hF.out,hW.out.skip HZ.out,rbel⟩
      case measure=>go_light;simp[intOf];omega
     ·have hcn:∀j,cn (ls.take (s+1)) j=cn (ls.take s) j+if x=j then 1 else 0:=by
       intro j
       rw[htk]
       unfold cn
       split
       ·rename_i h;subst h;rw[if_neg hx0]
       ·rw[eeZ]
      have hcx:cn (ls.take s) x=cnt (ls.take s) x:=by unfold cn;rw[if_neg hx0]
      have hcw:=zsZ hx hx0
      rw[<-hcx]at hcw
      have c1:wr.cell? ⟨w3.heap.size,x,none⟩=some (.int .i64 ((fst ls x+cn (ls.take s) x:Nat):Int)):=(blF.cell x).trans (hF.out.2 x (by omega))
      have f1:=blF.frozen x
      have c2:=blO.cell s
      rw[Array.getElem?_eq_getElem (by have:=hW.out.1;omega)]at c2
      generalize ds[s]'(by have:=hW.out.1;omega)=old at c2
      have f2:=blO.frozen s
      have b1:=HFL.out x (by omega)
      have b2:=onZ (ls.take s) x
      rw[List.length_take]at b2
      have hnext:Fsts (fun j=>fst ls j+cn (ls.take (s+1)) j) 16 (fb.setIfInBounds x (.int .i64 ((fst ls x+cn (ls.take s) x+1:Nat):Int))):=by
       refine hF.out.bump (by omega) ?_ fun j hj=> ?_
       ·simp only[hcn,if_pos];omega
       ·simp only[hcn];rw[if_neg (Ne.symm hj)];rfl
      have bv:fst ls x+cn (ls.take s) x<=39321900:=by have:=HN.out;omega
      clear b1 b2
      generalize fst ls x+cn (ls.take s) x=v at *
      have HV:Hid (((v % 65536:Nat):Int)=(wdZ ls s:Nat)):=by show _=_;rw[hcw]
      have HNX:=hid hnext
      have x3:(0:Int)<=(x:Int):=by omega
      have x4:(x:Int)<17:=by omega
      have xp:0<x:=by omega
      clear hx htk hcn hcx hcw hnext hx0
      go_wp2_with fail
      go_roundw
      case rel=>
       go_light
       rw[wrap_u16 v,HV.out]
       exact⟨s+1,_,_,by omega,by go_num,(blF.far (p:=⟨wo.heap.size,s,none⟩) (show w3.heap.size≠wo.heap.size by omega) _).set _ _,(blO.set _ _).far (p:=⟨w3.heap.size,x,none⟩) (show wo.heap.size≠w3.heap.size by omega) _,HNX,hW.out.set hlt rfl,
        fZ (p:=⟨w3.heap.size,x,none⟩) hz3 (fZ (p:=⟨wo.heap.size,s,none⟩) hbr rbel)⟩
      case measure=>go_light;simp[intOf];omega
    ·obtain rfl:s=n:=by omega
     go_wp2_with fail
     go_ret2
     go_light
     exact⟨wo.heap.size,ds,rfl,blO,hW.out,by omega,rbel⟩
end Go.Proofs.YtbgoibedicbkjaaGreatDoor.Canon
namespace Go.Proofs.YtbgoibedicbkjaaGreatDoor.Canon
open Go.RowKit Mem
def part(ls:List Nat)(l s i:Nat):Nat:=let x:=ls.getD i 0;if x≠0/\(x<l∨(x=l/\i<s))then wdZ ls i else 0
def meZ(ls:List Nat)(l s:Nat):List Value:=(List.range ls.length).map fun i=> .int .u16 (part ls l s i:Nat)
theorem cnZ(ls:List Nat)(l s:Nat):(meZ ls l s).length=ls.length:=by simp[meZ]
theorem hdZb(ls:List Nat):meZ ls 1 0=List.replicate ls.length (.int .u16 0):=by
 unfold meZ
 apply List.ext_getElem
 ·simp
 ·intro i h1 h2
  have:part ls 1 0 i=0:=by unfold part;simp only;split<;>omega
  simp[this]
theorem qaZb{ls:List Nat}{l s x:Nat}(hx:ls[s]? =some x)(hne:x≠l):meZ ls l (s+1)=meZ ls l s:=by
 unfold meZ
 apply List.map_congr_left
 intro i _
 congr 2
 unfold part
 by_cases e:i=s
 ·subst e
  have:ls.getD i 0=x:=by simp[List.getD_eq_getElem?_getD,hx]
  simp only[this]
  by_cases h1:x≠0/\x<l
  ·rw[if_pos ⟨h1.1, .inl h1.2⟩,if_pos ⟨h1.1, .inl h1.2⟩]
  ·rw[if_neg (by omega),if_neg (by omega)]
 ·have:(i<s+1)=(i<s):=by simp;omega
  simp only[this]
theorem idZb{ls:List Nat}{l s:Nat}(hx:ls[s]? =some l)(h0:l≠0):meZ ls l (s+1)=(meZ ls l s).set s (.int .u16 (wdZ ls s:Nat)):=by
 unfold meZ
 apply List.ext_getElem?
 intro i
 rw[List.getElem?_set]
 have hs:s<ls.length:=(List.getElem?_eq_some_iff.1 hx).1
 by_cases e:s=i
 ·subst e
  have hg:ls[s]=l:=(List.getElem?_eq_some_iff.1 hx).2
  simp[hs,part,hg,h0]
 ·rw[if_neg e]
  by_cases hi:i<ls.length
  ·simp only[List.getElem?_map,List.getElem?_range hi,Option.map_some]
   congr 2
   unfold part
   have:(i<s+1)=(i<s):=by simp;omega
   simp only[this]
  ·simp[hi]
theorem raZb(ls:List Nat)(l:Nat):meZ ls l ls.length=meZ ls (l+1) 0:=by
 unfold meZ
 apply List.map_congr_left
 intro i hi
 have hi:=List.mem_range.1 hi
 congr 2
 unfold part
 simp only
 congr 1
 simp
 omega
theorem jdZb{ls:List Nat}(h:∀x∈ls,x<=15):meZ ls 16 0=(List.range ls.length).map fun i=> .int .u16 (wdZ ls i:Nat):=by
 unfold meZ
 apply List.map_congr_left
 intro i hi
 have hi:=List.mem_range.1 hi
 congr 2
 unfold part
 have hg:ls.getD i 0=ls[i]:=by simp[List.getD_eq_getElem?_getD,hi]
 simp only[hg]
 have:=h _ (List.getElem_mem hi)
 by_cases h0:ls[i]=0
 ·rw[if_neg (by omega),pqZ (by rw[List.getElem?_eq_getElem hi,h0])]
 ·rw[if_pos ⟨h0, .inl (by omega)⟩]
def Nxt(ls:List Nat)(l s:Nat)(next was:Nat)(any:Bool):Prop:=
 if any=true then was<=l/\(next+1)*2 ^ (l-was)=fst ls l+cn (ls.take s) l else next=0/\fst ls l+cn (ls.take s) l=0
theorem Nxt.start(ls:List Nat):Nxt ls 1 0 0 0 false:=by
 unfold Nxt
 simp[fst,cn,hiZ]
theorem Nxt.skip{ls:List Nat}{l s next was x:Nat}{any:Bool}(h:Nxt ls l s next was any)(hx:ls[s]? =some x)(hne:x≠l):Nxt ls l (s+1) next was any:=by
 have:cn (ls.take (s+1)) l=cn (ls.take s) l:=by
  rw[qdZ hx]
  unfold cn
  split
  ·rfl
  ·rw[eeZ,if_neg hne];rfl
 unfold Nxt at h ⊢
 rw[this]
 exact h
theorem Nxt.next{ls:List Nat}{l next was:Nat}{any:Bool}(h:Nxt ls l ls.length next was any):Nxt ls (l+1) 0 next was any:=by
 unfold Nxt at h ⊢
 rw[List.take_length]at h
 have h0:cn (ls.take 0) (l+1)=0:=by simp[cn,hiZ]
 rw[h0,fst]
 split at h
 ·rename_i ha
  rw[if_pos ha]
  refine⟨by omega,?_⟩
  rw[show l+1-was=(l-was)+1 by omega,Nat.pow_succ]
  have:(next+1)*(2 ^ (l-was)*2)=(next+1)*2 ^ (l-was)*2:=by rw[Nat.mul_assoc]
  rw[this,h.2]
  omega
 ·rename_i ha
  rw[if_neg ha]
  omega
theorem Nxt.word{ls:List Nat}{l s next was:Nat}{any:Bool}(h:Nxt ls l s next was any)(hx:ls[s]? =some l)(h0:l≠0):
 ∃v,v=fst ls l+cn (ls.take s) l/\v % 65536=wdZ ls s/\Nxt ls l (s+1) v l true/\(any=true->was<=l/\(next+1)*2 ^ (l-was)=v)/\(any=false->next=v):=by
 refine⟨_,rfl,?_,?_,fun ha=> ?_,fun ha=> ?_⟩
 ·rw[zsZ hx h0]
  congr 2
  unfold cn
  rw[if_neg h0]
 ·unfold Nxt
  rw[if_pos rfl]
  refine⟨Nat.le_refl _,?_⟩
  have:cn (ls.take (s+1)) l=cn (ls.take s) l+1:=by
   rw[qdZ hx]
   unfold cn
   rw[if_neg h0,if_neg h0,eeZ,if_pos rfl]
  rw[this,Nat.sub_self]
  omega
 ·unfold Nxt at h
  rw[if_pos ha]at h
  exact h
 ·unfold Nxt at h
  rw[if_neg (by rw[ha];simp)]at h
  omega
def nvZ(ls:List Nat)(n:Nat)(w:World)(e:Ending)(w':World):Prop:=
 ∃v,e= .returned (.tuple #[v, .int .i64 0])/\w'.ownsRow w.heap.size 47 1 v n ((List.range n).map fun i=> .int .u16 (wdZ ls i:Nat))/\Below w.heap.size w w'
theorem ovZ(w:World)(A:Option Addr)(n c:Nat)(ls:List Nat)(hn:ls.length=n)(hok:okB ls=true)(ha:Row w w.heap.size A n 1 (mZ .u8 ls)):
 Calls Tryz.prog 218 #[.slice A n c] w (nvZ ls n w):=by
 have hgood:pbZ ls=true:=by
  cases hg:pbZ ls
  ·rw[hlZ hg]at hok;cases hok
  ·rfl
 obtain⟨hlen,hsm⟩:=vkZ hgood
 rw[hn]at hlen
 have C:=lvZ w A n c ls hn (by omega) ha
 have hE:egZ ls=0:=by unfold egZ;rw[hok];rfl
 rw[hE]at C
 have C1:=hid C
 have HN:=hid hn
 have HSM:=hid hsm
 have HFL:Hid (∀l,l<=16->fst ls l<=39321600):=by
  show ∀l,l<=16->fst ls l<=39321600
  intro l hl
  have h1:=cqZ ls l
  have h2:2 ^ (l+1)<=2 ^ 17:=Nat.pow_le_pow_right (by omega) (by omega)
  have h3:2 ^ (l+1)*ls.length<=2 ^ 17*300:=Nat.mul_le_mul h2 (by omega)
  omega
 obtain⟨i0,hi0,hz0,hz1,hz2⟩:=info_parts mvZ
 clear C hE hok hgood hsm hn
 go_enter Tryz.func218,Tryz.ntmps218
 go_wp2_with fail
 refine C1.out.mono ?_
 rintro e w1 ⟨rfl,rfl⟩
 go_wp2_with fail
 go_loopw [4,5] (fun v i wr=>∃k:Nat,k<=n/\i= .int .i64 k/\wr.ownsRow w.heap.size 47 1 v k (List.replicate k (.int .u16 0))/\Below w.heap.size w wr) (fun _ i _=>n-(intOf i).toNat)
 case atStart=>exact⟨0,by omega,rfl,World.ownsRow_nil _ _ _ _,Below.refl _ _⟩
 case round=>
  obtain⟨k,hk,rfl,hown,rbel⟩:=hrel
  have hbr:=rbel.size
  by_cases hlt:k<n
  ·obtain⟨va,vc,rfl⟩:=bZ hown
   go_wp2_with(at_builtin;refine kZ rfl (.tmp 21) (.tmp 22) 200 rfl w.heap.size 47 i0 _ 1 2 Tryz.underlying200 hi0 hz0 hz1 hz2 rfl (by decide) _ _ _ (by rfl) (hown.alloc _) _ 1 1 [.int .u16 0] (by rfl) (Src.of_blk (Blk.made _ _ _) 1 1 1 rfl) (by intro u hu;simp at hu;subst hu;rfl) (by unfold maxLen;omega) (by omega) (by simp;omega) ?_;intro v3 w3 hown3 hg3 hat3)
   go_roundw
   case rel=>
    go_light
    refine⟨k+1,by omega,by go_num,?_,((gZ hbr rbel).grown hg3 (by simp;omega) (fun g hg=>(World.ownsRow.lt hown g hg).1))⟩
    rw[List.replicate_succ']
    exact hown3
   case measure=>go_light;simp[intOf];omega
  ·obtain rfl:k=n:=by omega
   obtain⟨va,vc,rfl⟩:=bZ hown
   rw[<-HN.out,<-hdZb,HN.out]at hown
   have HOWN:=hid hown
   have hbel0:=rbel
   clear hown
   go_wp2_with fail
   go_loopw [6,7,8,9] (fun a b d e wr=>∃ (l N W:Nat) (y:Bool),1<=l/\l<=16/\e= .int .i64 l/\a= .int .i64 N/\b= .int .i64 W/\d= .bool y/\Hid (Nxt ls l 0 N W y)/\N<=50000000/\W<=16/\wr.ownsRow w.heap.size 47 1 (.slice va k vc) k (meZ ls l 0)/\Below w.heap.size w wr) (fun _ _ _ e _=>16-(intOf e).toNat)
   case atStart=>exact⟨1,0,0,false,by omega,by omega,rfl,rfl,rfl,rfl,Nxt.start ls,by omega,by omega,HOWN.out,hbel0⟩
   case round=>
    clear hbel0 HOWN
    obtain⟨l,N,W,y,hl1,hl2,rfl,rfl,rfl,rfl,hnx,bN,bW,hown,rbel⟩:=hrel
    by_cases hll:l<16
    ·go_wp2_with fail
     obtain⟨wo,rfl⟩:∃wo:World,wo=wr:=⟨_,rfl⟩
     go_loopw [6,7,8,10] (fun a b d e wr=>∃ (s N W:Nat) (y:Bool),s<=k/\e= .int .i64 s/\a= .int .i64 N/\b= .int .i64 W/\d= .bool y/\Hid (Nxt ls l s N W y)/\N<=50000000/\W<=16/\wr.ownsRow w.heap.size 47 1 (.slice va k vc) k (meZ ls l s)/\Below w.heap.size w wr) (fun _ _ _ e _=>k-(intOf e).toNat)
     case atStart=>exact⟨0,N,W,y,by omega,rfl,rfl,rfl,rfl,hnx,bN,bW,hown,rbel⟩
     case round=>
      clear hnx hown rbel
      obtain⟨s,N,W,y,hs,rfl,rfl,rfl,rfl,hnx,bN,bW,hown,rbel⟩:=hrel
      by_cases hls:s<k
      ·obtain⟨b,off,x,rfl,hbb,hx,c0⟩:=kbZ (ha.below rbel) HN.out hls
       have x0:(0:Int)<=(s:Int):=by omega
       have x1:(s:Int)<(k:Int):=by omega
       by_cases hxl:x=l
       ·subst hxl
        obtain⟨v,hv,hvw,hnx2,hyt,hyf⟩:=hnx.out.word hx (by omega)
        have bv:v<=39321900:=by
         have h1:=HFL.out x (by omega)
         have h2:=onZ (ls.take s) x
         rw[List.length_take]at h2
         omega
        have hset:=idZb hx (by omega)
        obtain⟨g,cap,hv0⟩:∃g cap,Value.slice va k vc= .slice (some ⟨g,0,none⟩) k cap:=by
         rcases hown.2 with ⟨hv0,_⟩|⟨g,cap,cur,hv0,_⟩
         ·injection hv0 with _ h2 _
          omega
         ·exact⟨g,cap,hv0⟩
        injection hv0 with e1 e2 e3
        subst e1 e3
        have hst:=hown.stored s (.int .u16 (wdZ ls s:Nat))
        rw[<-hset]at hst
        have hgB:=(World.ownsRow.lt hown g rfl).1
        have c1:=hown.cellAt s (by omega)
        rw[List.getElem?_eq_getElem (by rw[cnZ,HN.out];omega)]at c1
        generalize (meZ ls x s)[s]'(by rw[cnZ,HN.out];omega)=old at c1
        have f1:=hown.frozenAt s
        have HST:=hid hst.1
        have HNX2:=hid hnx2
        have HVW:Hid (IntKind.u16.wrap (v:Int)=((wdZ ls s:Nat):Int)):=by show _=_;rw[wrap_u16,hvw]
        have HYT:=hid hyt
        have HYF:=hid hyf
        clear hv hvw hset hst hx hnx2 hnx e2 hyt hyf
        cases y
        ·obtain rfl:=HYF.out rfl
         go_wp2_with fail
         go_roundw
         case rel=>
          go_light
          rw[HVW.out]
          exact⟨s+1,N,x,true,by omega,by go_num,rfl,rfl,rfl,HNX2,by omega,by omega,HST.out,fZ (p:=⟨g,s,none⟩) hgB rbel⟩
         case measure=>go_light;simp[intOf];omega
        ·obtain⟨hWl,hVV⟩:=HYT.out rfl
         have HVV:=hid hVV
         have hbd:∀J,W<=J->J<=x->(N+1)*2 ^ (J-W)<=v:=by
          intro J h1 h2
          rw[<-hVV]
          exact Nat.mul_le_mul_left _ (Nat.pow_le_pow_right (by omega) (by omega))
         have HBD:=hid hbd
         clear hVV hbd
         go_wp2_with fail
         go_loop [6,11] (fun a j=>∃J M:Nat,W<=J/\J<=x/\j= .int .i64 J/\a= .int .i64 M/\Hid (M=(N+1)*2 ^ (J-W))/\M<=39321900) (fun _ j=>x-(intOf j).toNat)
         case atStart=>exact⟨W,N+1,by omega,by omega,rfl,by go_num,by show N+1=_;simp,by have:=HBD.out W (by omega) (by omega);simp at this;omega⟩
         case round=>
          obtain⟨J,M,hJ1,hJ2,rfl,rfl,hM,bM⟩:=hrel
          by_cases hlJ:J<x
          ·go_wp2_with fail
           go_round
           case rel=>
            go_light
            have h1:=HBD.out (J+1) (by omega) (by omega)
            have h2:(N+1)*2 ^ (J+1-W)=2*M:=by
             rw[hM.out,show J+1-W=(J-W)+1 by omega,Nat.pow_succ,<-Nat.mul_assoc,Nat.mul_comm]
            exact⟨J+1,2*M,by omega,by omega,by go_num,by go_num,h2.symm,by omega⟩
           case measure=>go_light;simp[intOf];omega
          ·obtain rfl:J=x:=by omega
           obtain rfl:M=v:=hM.out.trans HVV.out
           go_wp2_with fail
           go_roundw
           case rel=>
            go_light
            rw[HVW.out]
            exact⟨_,_,_,_,⟨s+1,by omega,rfl,M,rfl,J,rfl, .inr ⟨rfl,HNX2,by omega,by omega,HST.out,fZ (p:=⟨g,s,none⟩) hgB rbel⟩⟩,rfl,rfl,rfl,by go_num⟩
           case measure=>go_light;simp[intOf];omega
       ·have hx15:x<=15:=HSM.out x (List.mem_of_getElem? hx)
        have hxb:((x:Int) != (l:Int))=true:=bne_iff_ne.mpr (by omega)
        have hnx2:=hnx.out.skip hx hxl
        have HNX2:=hid hnx2
        have HPL:=hid (qaZb hx hxl)
        clear hnx2 hx hxl
        go_wp2_with fail
        go_roundw
        case rel=>
         go_light
         exact⟨s+1,N,W,y,by omega,by go_num,rfl,rfl,rfl,HNX2,bN,bW,by rw[HPL.out];exact hown,rbel⟩
        case measure=>go_light;simp[intOf];omega
      ·obtain rfl:s=k:=by omega
       have hn2:=hnx.out
       rw[<-HN.out]at hn2
       have HN2:=hid hn2.next
       have hp:=raZb ls l
       rw[HN.out]at hp
       rw[hp]at hown
       clear hn2 hp hnx
       go_wp2_with fail
       go_roundw
       case rel=>
        go_light
        exact⟨l+1,N,W,y,by omega,by omega,by go_num,rfl,rfl,rfl,HN2,bN,bW,hown,rbel⟩
       case measure=>go_light;simp[intOf];omega
    ·obtain rfl:l=16:=by omega
     rw[jdZb HSM.out,HN.out]at hown
     go_wp2_with fail
     go_ret2
     go_light
     exact⟨_,rfl,hown,rbel⟩
end Go.Proofs.YtbgoibedicbkjaaGreatDoor.Canon
namespace Go.Proofs.YtbgoibedicbkjaaGreatDoor.Own
open Go.RowKit Mem
theorem eZ{w w':World}{base:Nat}{e:TypeId}{s n:Nat}{v:Value}{xs:List Value}(h:w.ownsRow base e s v n xs)(hk:∀g,v.ownBlock=some g->w'.heap[g]? =w.heap[g]?):
 w'.ownsRow base e s v n xs:=by
 refine⟨h.1,?_⟩
 rcases h.2 with h0|⟨g,cap,cur,rfl,hb,hg,rest⟩
 ·exact .inl h0
 ·exact .inr ⟨g,cap,cur,rfl,hb,(hk g rfl).trans hg,rest⟩
theorem jZ{w:World}{base:Nat}{e t:TypeId}{s n g:Nat}{v:Value}{xs:List Value}{cs:Array Value}(h:w.ownsRow base e s v n xs)(hb:Blk w g t cs)(hne:e≠t):v.ownBlock≠some g:=by
 intro hv
 rcases h.2 with ⟨rfl,_⟩|⟨g',cap,cur,rfl,_,hg,_⟩
 ·simp[Value.ownBlock]at hv
 ·simp[Value.ownBlock]at hv
  subst hv
  exact Blk.apart (t:=e) hg hb hne rfl
theorem ddZ{w:World}{base base':Nat}{e e':TypeId}{s s' n n':Nat}{v v':Value}{xs xs':List Value}(h:w.ownsRow base e s v n xs)(h':w.ownsRow base' e' s' v' n' xs')(hne:e≠e'):
 v.ownBlock=none∨v.ownBlock≠v'.ownBlock:=by
 rcases h.2 with ⟨rfl,_⟩|⟨g,cap,cur,rfl,_,hg,_⟩
 ·exact .inl rfl
 ·refine .inr fun hv=> ?_
  exact jZ h' (g:=g) (t:=e) hg (Ne.symm hne) hv.symm
theorem hjZ{w:World}{base:Nat}{e:TypeId}{s n:Nat}{v:Value}{xs:List Value}(h:w.ownsRow base e s v (n+1) xs):∃g cap,v= .slice (some ⟨g,0,none⟩) (n+1) cap:=by
 rcases h.2 with ⟨_,h0⟩|⟨g,cap,cur,rfl,_⟩
 ·omega
 ·exact⟨g,cap,rfl⟩
theorem lfZ{w:World}{base:Nat}{e:TypeId}{s n:Nat}{A:Option Addr}{c:Nat}{xs:List Value}(h:w.ownsRow base e s (.slice A n c) n xs):Wf A n c:=by
 rcases h.2 with ⟨hv,hx⟩|⟨g,cap,cur,hv,_,_,h1,_⟩
 ·injection hv with e1 e2 e3
  subst e1 e2 e3
  exact Wf.nil
 ·injection hv with e1 e2 e3
  subst e1 e3
  exact Wf.some h1
end Go.Proofs.YtbgoibedicbkjaaGreatDoor.Own
namespace Go.Proofs.YtbgoibedicbkjaaGreatDoor.Own
open Go.RowKit Mem
structure Kept (K:Nat->Prop) (a w:World):Prop where
 os:w.os=a.os
 tape:w.tape=a.tape
 output:w.output=a.output
 size:a.heap.size<=w.heap.size
 block:∀k,K k->w.heap[k]? =a.heap[k]?
section
variable {K:Nat->Prop} {a b c w w':World}
theorem Kept.refl(K:Nat->Prop)(a:World):Kept K a a:=⟨rfl,rfl,rfl,Nat.le_refl _,fun _ _=>rfl⟩
theorem Kept.trans(h:Kept K a b)(k:Kept K b c):Kept K a c:=
 ⟨k.os.trans h.os,k.tape.trans h.tape,k.output.trans h.output,Nat.le_trans h.size k.size,fun i hi=>(k.block i hi).trans (h.block i hi)⟩
theorem Kept.drew(h:Kept K a w):Kept K a w.drew:=⟨h.os,h.tape,h.output,h.size,h.block⟩
theorem Kept.drewN(h:Kept K a w)(n:Nat):Kept K a (w.drewN n):=⟨h.os,h.tape,h.output,h.size,h.block⟩
theorem Kept.set(h:Kept K a w){p:Addr}(hp:¬K p.block)(u:Value):Kept K a (w.setCell p u):=
 have hb:=(Below.refl 0 w).setCell (p:=p) (Nat.zero_le _) u
 ⟨hb.os.trans h.os,hb.tape.trans h.tape,hb.output.trans h.output,Nat.le_trans h.size hb.size,fun k hk=>(Below.heap_setCell w p u k (fun e=>hp (e ▸ hk))).trans (h.block k hk)⟩
theorem Kept.alloc(h:Kept K a w)(hK:∀k,K k->k<w.heap.size)(o:Obj):Kept K a (w.alloc o):=
 have hb:=(Below.refl 0 w).alloc (Nat.zero_le _) o
 ⟨hb.os.trans h.os,hb.tape.trans h.tape,hb.output.trans h.output,Nat.le_trans h.size hb.size,fun k hk=>(Below.heap_alloc w o k (hK k hk)).trans (h.block k hk)⟩
theorem Kept.grown(h:Kept K a w){row:Option Nat}(hg:w.grownBy w' row)(hK:∀k,K k->k<w.heap.size)(hr:∀k,row=some k->¬K k):Kept K a w':=
 ⟨hg.os.trans h.os,hg.tape.trans h.tape,hg.output.trans h.output,Nat.le_trans h.size hg.size,fun k hk=>(hg.block k (hK k hk) (fun e=>hr k e.symm hk)).trans (h.block k hk)⟩
theorem Kept.of_below{B:Nat}(h:Below B a w)(hK:∀k,K k->k<B):Kept K a w:=⟨h.os,h.tape,h.output,h.size,fun k hk=>h.block k (hK k hk)⟩
theorem Kept.below{B:Nat}(h:Kept K a w)(hK:∀k,k<B->K k):Below B a w:=⟨h.os,h.tape,h.output,h.size,fun k hk=>h.block k (hK k hk)⟩
theorem Kept.lt(h:Kept K a w)(hK:∀k,K k->k<a.heap.size):∀k,K k->k<w.heap.size:=fun k hk=>Nat.lt_of_lt_of_le (hK k hk) h.size
end
theorem lZ{w:World}{base base':Nat}{e:TypeId}{s n:Nat}{v:Value}{xs:List Value}(h:w.ownsRow base e s v n xs)(hb:base'<=base):w.ownsRow base' e s v n xs:=by
 refine⟨h.1,?_⟩
 rcases h.2 with h0|⟨g,cap,cur,rfl,hg,rest⟩
 ·exact .inl h0
 ·exact .inr ⟨g,cap,cur,rfl,Nat.le_trans hb hg,rest⟩
theorem opZ(l:List Value)(i:Nat)(u:Value):l.toArray.setIfInBounds i u=(l.set i u).toArray:=by simp
end Go.Proofs.YtbgoibedicbkjaaGreatDoor.Own
