/- append onto a row of -/
import Derived.Test.YtfgdoknipbpfhaaGreatDoorZTwoBack1
import Derived.Laws.AppendOwnNone
namespace Go.Proofs.YtfgdoknipbpfhaaGreatDoor
open Go.Proofs.Tryz
open Go.Lib (hid)
variable{e t:TypeId}{B base c g i n s x:Nat}{w:World}{A:Option Addr}{ls:List Nat}{arr:Array Value}{xs:List Value}
open Go.RowKit
def AR(A:Option Addr)(l cap s:Nat):Option Addr:=if cap=l then A else A.map (·.add (l*s))
theorem Gr{P:Program}(ht:P.underlying t=some (.slice e))(hs:∀w,(sizeOf e).run P w= .ok s w)(A:Option Addr)(len h:Nat)(kl:IntKind)(l:Int)(k:Nat)(hl:l=k)(hk:k<=len)(w:World):
 (Instr.slice t (.slice A len h) (some (.int kl l)) none none).run P w= .ok (.slice (AR A k h s) (len-k) (h-k)) w:=by
 subst hl;have he:P.elem t=e:=sn
 rw[run_slice_l w t A len h rc kl (k:Int) nj nj,he,hs];rfl
theorem Oo{P:Program}(ht:P.underlying t=some (.slice e))(hs:∀w,(sizeOf e).run P w= .ok s w)(A:Option Addr)(len i:Nat)(kl kh:IntKind)(l h:Int)(k m:Nat)(hl:l=k)(hh:h=m)(hk:k<=m)(hm:m<=i)(w:World):
 (Instr.slice t (.slice A len i) (some (.int kl l)) (some (.int kh h)) none).run P w= .ok (.slice (AR A k i s) (m-k) (i-k)) w:=by
 subst hl hh;have he:P.elem t=e:=sn
 rw[run_slice_lh w t A len i rc kl kh (k:Int) (m:Int) nj nj nj,he,hs];rfl
theorem Gj(b h i:Nat):(⟨b,h,none⟩:Addr).add i=⟨b,h+i,none⟩:=by
 unfold Addr.add;split
 ·simp_all
 ·rfl
theorem Row.cut{f g:Nat->Nat->Value}(h:Row w B A n s f)(k m:Nat)(hk:k+m<=n)(hc:n<=c)(hg:∀i j,i<m->j<s->f (k+i) j=g i j):Row w B (AR A k c s) m s g:=fun hn=>by obtain⟨b,z,rfl,hb,y⟩:=h nj;unfold AR;rw[Aa nj];refine⟨b,z+k*s,by simp[Gj],hb,fun i j hi hj=> ?_⟩;have:=y (k+i) j nj hj;rw[hg i j hi hj]at this;rw[<-this,Fk];congr 2;omega
def Src(w:World)(A:Option Addr)(m c size:Nat)(news:List Value):Prop:=
 news.length=m*size/\((A=none/\m=0/\c=0)∨∃ad,A=some ad/\∀j u,news[j]? =some u->w.cell? (ad.add j)=some u)
theorem Af6(b h i:Nat):(⟨b,h,none⟩:Addr).add i=⟨b,h+i,none⟩:=by
 unfold Addr.add;split
 ·simp_all
 ·rfl
theorem Src.of_blk{cs:Array Value}(h:Blk w g t cs)(m c size:Nat)(hs:cs.size=m*size):Src w (some ⟨g,0,none⟩) m c size cs.toList:=
 ⟨by simpa using hs, .inr ⟨_,rfl,fun j u hu=>by rw[Af6,Ca,h.cell];simpa using hu⟩⟩
section
variable {P:Program}
theorem J3(w:World)(base:Nat)(t ty e:TypeId)(i:TypeInfo)(z:Value)(size bytes:Nat)(ht:P.underlying t=some (.slice e))(hi:P.info? e=some i)(hz:i.zero=some z)
 (G:i.size=size)(M:i.bytes=bytes)(N:z.cells.size=size)(L:0<size)
 (v:Value)(n:Nat)(xs:List Value)(j:w.ownsRow base e size v n xs)
 (A:Option Addr)(m c:Nat)(h:List Value)(J:Src w A m c size h)(h1:∀u∈h,u.oneCell'=true)
 (Q:n+m<=maxLen)(y:(n+m)*bytes<=140737488355328)(E:base<=w.heap.size):
 ∃v' w',(Builtin.append_ #[t,t] ty #[v, .slice A m c]).run P w= .ok v' w'/\w'.ownsRow base e size v' (n+m) (xs++h)/\w.grownBy w' v.ownBlock/\
  (v'.ownBlock=v.ownBlock∨v'.ownBlock=some w.heap.size):=by
 obtain⟨hl,hA⟩:=J;rcases hA with ⟨rfl,rfl,rfl⟩|⟨ad,rfl,hc⟩
 ·have hn:h= []:=Gn (by simpa using hl);subst hn;exact⟨v,w,run_append_owned_none (P:=P) (w:=w) base t ty e i size ht hi v n xs j,sL,⟨rfl,rfl,rfl,Ak _,fun _ _ _=>rfl⟩, .inl rfl⟩
 ·obtain⟨v',w',hr,h2,h3,_,h5⟩:=run_append_own_at (P:=P) w base t ty e i z size bytes ht hi hz G M N L v n xs j ad m c h hl hc h1 Q y E;exact⟨v',w',hr,h2,h3,h5⟩
theorem a1i{p:Prop}(h:p:=by obtain⟨v',w',hr,h2,h3,h5⟩:=J3 (P:=P) w base t o.type e i z size bytes ht hi hz hsize hby hzs hsz v n xs hown A m c news hsrc h1 h63 hbytes hbase;unfold Oper.wp execOp;simp only[ho,resolve,invoke,builtin,Sem.run_bind,Sem.run_pure,Result.andThen_ok,List.map_toArray,List.map_cons,List.map_nil,hs,hx,hr];exact hK _ _ (h v' w' h2 h3 h5)):p:=h
theorem iZ{j:Array Oper}{rest:List Oper}{o:Oper}{a:Act}{Q:Exit->Act->World->Prop}(y:o.guard=none)(s x:Operand)(t:TypeId)
 (ho:o.op= .call {callee:= .builtin .append,args:=#[s,x],argTypes:=#[t,t] })
 (base:Nat)(e:TypeId)(i:TypeInfo)(z:Value)(size bytes:Nat)(ht:P.underlying t=some (.slice e))(hi:P.info? e=some i)(hz:i.zero=some z)
 (hsize:i.size=size)(hby:i.bytes=bytes)(hzs:z.cells.size=size)(hsz:0<size)
 (v:Value)(n:Nat)(xs:List Value)(hs:a.eval s=v)(hown:w.ownsRow base e size v n xs)
 (A:Option Addr)(m c:Nat)(news:List Value)(hx:a.eval x= .slice A m c)(hsrc:Src w A m c size news)(h1:∀u∈news,u.oneCell'=true)
 (h63:n+m<=maxLen)(hbytes:(n+m)*bytes<=140737488355328)(hbase:base<=w.heap.size)
 (h:∀v' w',w'.ownsRow base e size v' (n+m) (xs++news)->w.grownBy w' v.ownBlock->(v'.ownBlock=v.ownBlock∨v'.ownBlock=some w.heap.size)->wpList P j Q rest (a.put o.dst v') w'):wpList P j Q (o :: rest) a w:=by
 refine wpList_plain y fun K hK=> ?_;exact a1i
end
theorem lG(h1:ls.length<=300)(h2:∀x∈ls,x<=15):Eh ls=true:=by unfold Eh;rw[Cp,GE];exact⟨by simpa using h1,fun x hx=>by simpa using h2 x hx⟩
theorem dD(hg:Eh ls=true):Ho ls=if Aa0 ls=0∨(Aa0 ls=1/\cnt ls 1=1)∨Ks ls=32768 then 0 else 7:=by obtain⟨_,h2⟩:=OZ hg;rw[UI ls (cn ls) (fun _=>rfl),PE,Pv,NF ls h2,Me ls h2,hg];simp[cn]
def Hi(ls:List Nat)(s:Nat):Nat:=code ls s % 65536
def Wds(ls:List Nat)(n s:Nat)(arr:Array Value):Prop:=arr.size=n/\∀i,i<n->arr[i]? =some (.int .u16 ((if i<s then Hi ls i else 0:Nat):Int))
theorem Wds.start(ls:List Nat)(n:Nat):Wds ls n 0 (madeCells #[.int .u16 0] n):=nk
theorem Wds.set(h:Wds ls n s arr)(hs:s<n){v:Nat}(hv:v=Hi ls s):Wds ls n (s+1) (arr.setIfInBounds s (.int .u16 (v:Nat))):=by
 refine⟨qo,fun i hi=> ?_⟩;rw[Gp];by_cases e:s=i
 ·subst e;rw[Ab rfl,Ab mg,Ab nj,hv]
 ·rw[Aa e,h.2 i hi];by_cases j:i<s
  ·rw[Ab j,Ab nj]
  ·rw[Aa j,Aa nj]
theorem Wds.skip(h:Wds ls n s arr)(h0:Hi ls s=0):Wds ls n (s+1) arr:=by
 refine⟨h.1,fun i hi=> ?_⟩;rw[h.2 i hi];by_cases j:i<s
 ·rw[Ab j,Ab nj]
 ·by_cases e:i=s
  ·subst e;rw[Aa j,Ab nj,h0]
  ·rw[Aa j,Aa nj]
theorem bP(h:ls[s]? =some 0):Hi ls s=0:=by unfold Hi code;simp[List.getD_eq_getElem?_getD,h]
theorem aK(h:ls[s]? =some x)(hx:x≠0):Hi ls s=(fst ls x+cnt (ls.take s) x) % 65536:=by unfold Hi code;simp[List.getD_eq_getElem?_getD,h,hx]
def Fsts(f:Nat->Nat)(l:Nat)(arr:Array Value):Prop:=arr.size=17/\∀j,j<=l->arr[j]? =some (.int .i64 (f j:Nat))
theorem Fsts.set{f:Nat->Nat}{l:Nat}(h:Fsts f l arr)(hl:l<16){v:Nat}(hv:v=f (l+1)):Fsts f (l+1) (arr.setIfInBounds (l+1) (.int .i64 (v:Nat))):=by
 refine⟨qo,fun j hj=> ?_⟩;rw[Gp];by_cases e:l+1=j
 ·subst e;rw[Ab rfl,Ab mg,hv]
 ·rw[Aa e];exact h.2 j nj
theorem Fsts.bump{f g:Nat->Nat}(h:Fsts f 16 arr){v:Nat}(hx:x<=16)(hv:v=g x)(ho:∀j,j≠x->g j=f j):Fsts g 16 (arr.setIfInBounds x (.int .i64 (v:Nat))):=by
 refine⟨qo,fun j hj=> ?_⟩;rw[Gp];by_cases e:x=j
 ·subst e;rw[Ab rfl,Ab mg,hv]
 ·rw[Aa e,h.2 j hj,ho j (Ba e)]
theorem Fsts.zero(ls:List Nat):Fsts (fst ls) 1 #[ij,ij,ij,ij,ij,ij,ij,ij,ij,ij,ij,ij,ij,ij,ij,ij,ij]:=by
 refine⟨rfl,fun j hj=> ?_⟩;have:j=0∨j=1:=nj
 rcases this with rfl|rfl
 ·rfl
 ·simp[fst,cn]
theorem wrap_u16(v:Nat):IntKind.u16.wrap (v:Int)=((v % 65536:Nat):Int):=by rw[IntKind.wrap_u16];omega
theorem kJ:(prog.info? 25).map (fun i=>(i.zero,i.size,i.bytes))=some (some (.int .u16 0),1,2):=my
theorem a1j{p:Prop}(h:p:=by simp only[Int.toNat_natCast]at h;simpa[j,Value.cells]using h):p:=h
theorem jQ(n:Nat)(hn:n<=8388608)(w:World):(Instr.makeSlice 227 (.int .i64 (n:Int)) (.int .i64 (n:Int))).run prog w=
 .ok (.slice (some ⟨w,0,none⟩) n n) (w.alloc (.cells (madeCells #[.int .u16 0] n) 25)):=by
 obtain⟨i0,hi,y,j,i⟩:=info_parts kJ;have h:=run_make (P:=prog) w 227 25 i0 (.int .u16 0) underlying227 hi y .i64 .i64 (n:Int) (n:Int) nj (Int.le_refl _) ri nj;exact a1j
def Z0(ls:List Nat)(n:Nat)(w:World)(e:Ending)(w':World):Prop:=
 ∃ (g:Nat) (arr:Array Value),e= .returned (.tuple #[.slice (some ⟨g,0,none⟩) n n,ij])/\Blk w' g 25 arr/\Wds ls n n arr/\w.heap.size<=g/\Below w w w'
set_option maxHeartbeats 1000000 in
set_option maxRecDepth 100000 in
theorem ZD(w:World)(A:Option Addr)(n c:Nat)(ls:List Nat)(hn:ls.length=n)(N:okB ls=true)(ha:Row w w A n 1 (jZ .u8 ls)):
 Calls prog 318 #[.slice A n c] w (Z0 ls n w):=by
 have E:Eh ls=true:=by
  cases hg:Eh ls
  ·rw[Tx hg]at N;cases N
  ·rfl
 obtain⟨aq,az⟩:=OZ E;rw[hn]at aq;have C:=O2 w A n c ls hn nj ha;have hE:Ho ls=0:=by unfold Ho;rw[N];rfl
 rw[hE]at C;have C1:=hid C;have C2:=hid (fun wx (h:Row wx wx A n 1 (jZ .u8 ls))=>Va wx A n c ls hn nj h);have HN:=hid hn;have HG:=hid E;have a7:=hid az;have bc:=jQ n nj;have a3:=fun l (h:l<=16)=>PJ ls l;have an:Hid (∀l,l<=16->fst ls l<=39321600):=by show ∀l,l<=16->fst ls l<=39321600;intro l hl;have h1:=PJ ls l;have h2:2 ^ (l+1)<=2 ^ 17:=Cm nj nj;have h3:2 ^ (l+1)*ls.length<=2 ^ 17*300:=Iw h2 nj;omega
 clear C hE N E az hn a3;go_enter func318,ntmps318;go_wp2_with fail;refine C1.out.mono ?_;rintro e w1 ⟨rfl,ag⟩;have z1:=ag.size;go_wp2_with fail;refine(C2.out _ ((ha.below ag).mono z1)).mono ?_;rintro e w2 ⟨arr,f,rfl,hc,hf,hg,al⟩;rw[hg HG.out]at hc;rw[HG.out];have z2:=al.size;have af:Below w w w2:=xZ al z1 ag;have U:arr.size=16:=hc.1;have ah:Blk (w2.alloc (.cells #[ij,ij,ij,ij,ij,ij,ij,ij,ij,ij,ij,ij,ij,ij,ij,ij] 442)) w2 442 _:=Blk.made _ _ _;have am:=UY (arr:=arr) ah (by rw[U];rfl);have ax:(w2.alloc (.cells #[ij,ij,ij,ij,ij,ij,ij,ij,ij,ij,ij,ij,ij,ij,ij,ij] 442)).there w2 0 arr.size:=by rw[U];exact LP ah
 have ac:(prog.info? 442).map (·.size)=some arr.size:=by rw[U];exact Ki
 have ae:Below w w ((w2.alloc (.cells #[ij,ij,ij,ij,ij,ij,ij,ij,ij,ij,ij,ij,ij,ij,ij,ij] 442)).setCells w2 0 arr.toList):=
  Kg nj _ _ _ (pZ nj af)
 have ak:=hid hc.one;have ar:=hid ac;have HC:=hid hc;clear U ac hc hf hg ah C1 C2;go_upto_region 5 with (refine wpList_store_mid rfl 442 (.tmp 5) (.tmp 20) rfl w2.heap.size 0 arr nm nm ax ar.out ak.out ?_);have be:=am.lt;clear ax;generalize (w2.alloc (.cells #[ij,ij,ij,ij,ij,ij,ij,ij,ij,ij,ij,ij,ij,ij,ij,ij] 442)).setCells w2 0 arr.toList=w3 at *;have aj:=ae.size;go_wp2_with fail;go_loopw [8] (fun i wr=>∃ (l:Nat) (fa:Array Value),1<=l/\l<=16/\i= .int .i64 l/\Blk wr w2 442 arr/\Blk wr w3 446 fa/\Hid (Fsts (fst ls) l fa)/\Below w w wr) (fun i _=>16-(intOf i).toNat)
 case atStart=>exact⟨1,_,nj,nj,rfl,am.alloc _,Blk.made _ _ _,Fsts.zero ls,pZ aj ae⟩
 case round=>
  obtain⟨l,fa,a9,bd,rfl,a1,z,hF,y⟩:=hrel;by_cases Q:l<16
  ·have c1:=z.cell l;rw[hF.out.2 l nj]at c1;have c2:=a1.cell l;rw[HC.out.2 l nj]at c2;have c3:=z.cell (l+1);rw[KM (by have:=hF.out.1;omega)]at c3;generalize fa[l+1]'(by have:=hF.out.1;omega)=old at c3;have f3:=z.frozen (l+1);have b1:=an.out l nj;have b2:=Ku ls l;have av:fst ls (l+1)=2*(fst ls l+cn ls l):=rfl;have a4:=hid av;rw[HN.out]at b2;clear av;generalize fst ls l=F at *;generalize cn ls l=K at *;have x0:(0:Int)<=(l:Int):=nj;have x1:(l:Int)<16:=nj;have x2:(l:Int)<17:=nj;have x3:(0:Int)<=(l:Int)+1:=nj;have x4:(l:Int)+1<17:=nj;have x5:Hid (((l:Int)+1).toNat=l+1):=rN;have s1:Hid (IntKind.i64.wrap ((l:Int)+1)=(l:Int)+1):=Ar _ nj;have s2:Hid (IntKind.i64.wrap ((F:Int)+(K:Int))=(F:Int)+(K:Int)):=Ar _ nj;go_wp2_with fail;have t1:=s1.out;have t2:=s2.out;have t3:=x5.out;go_region;all_goals clear t1 t2 t3;all_goals go_wp2_with fail
   all_goals
    go_roundw
    case rel=>go_light;have e:((F:Int)+(K:Int))*2=((fst ls (l+1):Nat):Int):=(by rw[a4.out];omega);rw[e];exact⟨l+1,_,nj,nj,jr,(a1.far (p:=⟨w3.heap.size,l+1,none⟩) (show w2.heap.size≠w3.heap.size by omega) _).drew,(z.set _ _).drew,hF.out.set Q rfl,(BS (p:=⟨w3.heap.size,l+1,none⟩) aj y).drew⟩
    case measure=>exact jq
  ·obtain rfl:l=16:=by omega
   go_wp2_with fail;have au:=y.size;have bb:=z.lt;obtain⟨wo,rfl⟩:=ii wr;have ab:=z.alloc (.cells (madeCells #[.int .u16 0] n) 25);have aa:Blk (wo.alloc (.cells (madeCells #[.int .u16 0] n) 25)) wo 25 _:=Blk.made _ _ _;have Z:=pZ (o:= .cells (madeCells #[.int .u16 0] n) 25) au y;have a0:Fsts (fun j=>fst ls j+cn (ls.take 0) j) 16 fa:=(by refine⟨hF.out.1,fun j hj=> ?_⟩;rw[hF.out.2 j hj];simp[cn,LD]);have ay:=hid a0;clear a0 z y hF;go_loopw [42] (fun i wr=>∃ (s:Nat) (fb ds:Array Value),s<=n/\i= .int .i64 s/\Blk wr w3 446 fb/\Blk wr wo 25 ds/\Hid (Fsts (fun j=>fst ls j+cn (ls.take s) j) 16 fb)/\Hid (Wds ls n s ds)/\Below w w wr) (fun i _=>n-(intOf i).toNat)
   case atStart=>exact⟨0,fa,_,nj,rfl,ab,aa,ay,Wds.start ls n,Z⟩
   case round=>
    clear ab aa Z ay;obtain⟨s,fb,ds,hs,rfl,z,L,hF,hW,y⟩:=hrel;by_cases Q:s<n
    ·obtain⟨b,ba,x,rfl,bf,hx,c0⟩:=CO (ha.below y) HN.out Q;have a8:=a7.out x (Bp hx);have x0:(0:Int)<=(s:Int):=nj;have x1:(s:Int)<(n:Int):=nj;have Y:=I4 hx;by_cases M:x=0
     ·subst M
      have G:∀j,cn (ls.take (s+1)) j=cn (ls.take s) j:=by
       intro j;rw[Y];unfold cn;split
       ·rfl
       ·rw[Ip,Aa nj];rfl
      have a6:=hid G;have HZ:=hid (bP hx);clear hx Y G;go_wp2_with fail;go_roundw
      case rel=>go_light;exact⟨s+1,fb,ds,nj,jr,z,L,by show Fsts _ 16 fb;simp only[a6.out];exact hF.out,hW.out.skip HZ.out,y⟩
      case measure=>exact jq
     ·have G:∀j,cn (ls.take (s+1)) j=cn (ls.take s) j+if x=j then 1 else 0:=by
       intro j;rw[Y];unfold cn;split
       ·rename_i h;subst h;rw[Aa M]
       ·rw[Ip]
      have aw:cn (ls.take s) x=cnt (ls.take s) x:=(by unfold cn;rw[Aa M]);have ai:=aK hx M;rw[<-aw]at ai;have c1:wr.cell? ⟨w3.heap.size,x,none⟩=some (.int .i64 ((fst ls x+cn (ls.take s) x:Nat):Int)):=(z.cell x).trans (hF.out.2 x nj);have f1:=z.frozen x;have c2:=L.cell s;rw[KM (by have:=hW.out.1;omega)]at c2;generalize ds[s]'(by have:=hW.out.1;omega)=old at c2;have f2:=L.frozen s;have b1:=an.out x nj;have b2:=Ku (ls.take s) x;rw[AY]at b2
      have J:Fsts (fun j=>fst ls j+cn (ls.take (s+1)) j) 16 (fb.setIfInBounds x (.int .i64 ((fst ls x+cn (ls.take s) x+1:Nat):Int))):=by
       refine hF.out.bump nj ?_ fun j hj=> ?_
       ·simp only[G,if_pos];omega
       ·simp only[G];rw[Aa (Ba hj)];rfl
      have bv:fst ls x+cn (ls.take s) x<=39321900:=ly;clear b1 b2;generalize fst ls x+cn (ls.take s) x=v at *;have HV:Hid (((v % 65536:Nat):Int)=(Hi ls s:Nat)):=(by show _=_;rw[ai]);have a5:=hid J;have x3:(0:Int)<=(x:Int):=nj;have x4:(x:Int)<17:=nj;have xp:0<x:=nj;clear hx Y G aw ai J M;go_wp2_with fail;go_roundw
      case rel=>
       go_light;rw[wrap_u16 v,HV.out]
       exact⟨s+1,_,_,nj,jr,(z.far (p:=⟨wo.heap.size,s,none⟩) (show w3.heap.size≠wo.heap.size by omega) _).set _ _,(L.set _ _).far (p:=⟨w3.heap.size,x,none⟩) (show wo.heap.size≠w3.heap.size by omega) _,a5,hW.out.set Q rfl,
        BS (p:=⟨w3.heap.size,x,none⟩) aj (BS (p:=⟨wo.heap.size,s,none⟩) au y)⟩
      case measure=>exact jq
    ·obtain rfl:s=n:=by omega
     go_wp2_with fail;go_ret2;go_light;exact⟨wo.heap.size,ds,rfl,L,hW.out,nj,y⟩
theorem eZ{w':World}{v:Value}(h:w.ownsRow base e s v n xs)(hk:∀g,v.ownBlock=some g->w'.heap[g]? =w.heap[g]?):
 w'.ownsRow base e s v n xs:=by
 refine⟨h.1,?_⟩;rcases h.2 with h0|⟨g,i,cur,rfl,hb,hg,rest⟩
 ·exact .inl h0
 ·exact .inr ⟨g,i,cur,rfl,hb,(hk g rfl).trans hg,rest⟩
theorem gZ{v:Value}{cs:Array Value}(h:w.ownsRow base e s v n xs)(hb:Blk w g t cs)(i:e≠t):v.ownBlock≠some g:=by
 intro hv;rcases h.2 with ⟨rfl,_⟩|⟨g',j,cur,rfl,_,hg,_⟩
 ·simp[Value.ownBlock]at hv
 ·simp[Value.ownBlock]at hv;subst hv;exact Blk.apart (t:=e) hg hb i rfl
theorem FE{e':TypeId}{s' n':Nat}{v v':Value}{j:List Value}(h:w.ownsRow base e s v n xs)(h':w.ownsRow i e' s' v' n' j)(y:e≠e'):
 v.ownBlock=none∨v.ownBlock≠v'.ownBlock:=by
 rcases h.2 with ⟨rfl,_⟩|⟨g,z,cur,rfl,_,hg,_⟩
 ·exact .inl rfl
 ·refine .inr fun hv=> ?_;exact gZ h' (g:=g) (t:=e) hg (Ba y) hv.symm
theorem Jm{v:Value}(h:w.ownsRow base e s v (n+1) xs):∃g i,v= .slice (some ⟨g,0,none⟩) (n+1) i:=by
 rcases h.2 with ⟨_,h0⟩|⟨g,i,cur,rfl,_⟩
 ·omega
 ·exact⟨g,i,rfl⟩
theorem Et(h:w.ownsRow base e s (.slice A n c) n xs):Wf A n c:=by
 rcases h.2 with ⟨hv,hx⟩|⟨g,i,cur,hv,_,_,h1,_⟩
 ·injection hv with e1 e2 e3;subst e1 e2 e3;exact Wf.nil
 ·injection hv with e1 e2 e3;subst e1 e3;exact Wf.some h1
structure Kept (K:Nat->Prop) (a w:World):Prop where
 os:w.os=a.os
 tape:w.tape=a.tape
 output:w.output=a.output
 size:a.heap.size<=w.heap.size
 block:∀k,K k->w.heap[k]? =a.heap[k]?
section
variable {K:Nat->Prop} {a b c w w':World}
theorem Kept.refl(K:Nat->Prop)(a:World):Kept K a a:=⟨rfl,rfl,rfl,Ak _,fun _ _=>rfl⟩
theorem Kept.trans(h:Kept K a b)(k:Kept K b c):Kept K a c:=
 ⟨k.os.trans h.os,k.tape.trans h.tape,k.output.trans h.output,AN h.size k.size,fun i hi=>(k.block i hi).trans (h.block i hi)⟩
theorem Kept.drew(h:Kept K a w):Kept K a w.drew:=⟨h.os,h.tape,h.output,h.size,h.block⟩
theorem Kept.drewN(h:Kept K a w)(n:Nat):Kept K a (w.drewN n):=⟨h.os,h.tape,h.output,h.size,h.block⟩
theorem Kept.set(h:Kept K a w){p:Addr}(hp:¬K p.block)(u:Value):Kept K a (w.setCell p u):=
 have hb:=(Ae 0 w).setCell (p:=p) (Bf _) u
 ⟨hb.os.trans h.os,hb.tape.trans h.tape,hb.output.trans h.output,AN h.size hb.size,fun k hk=>(AW w p u k (fun e=>hp (e ▸ hk))).trans (h.block k hk)⟩
theorem Kept.alloc(h:Kept K a w)(hK:∀k,K k->k<w.heap.size)(o:Obj):Kept K a (w.alloc o):=
 have hb:=(Ae 0 w).alloc (Bf _) o
 ⟨hb.os.trans h.os,hb.tape.trans h.tape,hb.output.trans h.output,AN h.size hb.size,fun k hk=>(EA w o k (hK k hk)).trans (h.block k hk)⟩
theorem Kept.grown(h:Kept K a w){row:Option Nat}(hg:w.grownBy w' row)(hK:∀k,K k->k<w.heap.size)(hr:∀k,row=some k->¬K k):Kept K a w':=
 ⟨hg.os.trans h.os,hg.tape.trans h.tape,hg.output.trans h.output,AN h.size hg.size,fun k hk=>(hg.block k (hK k hk) (fun e=>hr k e.symm hk)).trans (h.block k hk)⟩
theorem Kept.of_below(h:Below B a w)(hK:∀k,K k->k<B):Kept K a w:=⟨h.os,h.tape,h.output,h.size,fun k hk=>h.block k (hK k hk)⟩
theorem Kept.below(h:Kept K a w)(hK:∀k,k<B->K k):Below B a w:=⟨h.os,h.tape,h.output,h.size,fun k hk=>h.block k (hK k hk)⟩
theorem Kept.lt(h:Kept K a w)(hK:∀k,K k->k<a.heap.size):∀k,K k->k<w.heap.size:=fun k hk=>Ek (hK k hk) h.size
end
theorem kZ{v:Value}(h:w.ownsRow base e s v n xs)(hb:i<=base):w.ownsRow i e s v n xs:=by
 refine⟨h.1,?_⟩;rcases h.2 with h0|⟨g,j,cur,rfl,hg,rest⟩
 ·exact .inl h0
 ·exact .inr ⟨g,j,cur,rfl,AN hb hg,rest⟩
theorem Oi(l:List Value)(i:Nat)(u:Value):l.toArray.setIfInBounds i u=(l.set i u).toArray:=rX
end Go.Proofs.YtfgdoknipbpfhaaGreatDoor
