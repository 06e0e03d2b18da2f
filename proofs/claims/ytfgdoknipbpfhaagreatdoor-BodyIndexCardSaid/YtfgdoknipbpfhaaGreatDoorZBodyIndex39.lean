/- append of zeros, as  -/
import Derived.Test.YtfgdoknipbpfhaaGreatDoorZBodyIndex15
import Derived.Lib.AppendZeros
namespace Go.Proofs.YtfgdoknipbpfhaaGreatDoor
open Go.Proofs.Tryz
open Go.Lib (hid)
variable{w:World}{m:Nat}
namespace Mem
open Go.RowKit
theorem Z2(z:Value)(n:Nat):(Builtin.zeroCells #[z] n).toList=List.replicate n z:=by
 apply List.ext_getElem
 ·simp[Builtin.zeroCells]
 ·intro i h1 h2;simp[Builtin.zeroCells,Nat.mod_one]
section
variable {P:Program}
theorem ZI(w:World)(base:Nat)(t tn ty e:TypeId)(i:TypeInfo)(z:Value)(k kn:IntKind)(ht:P.underlying t=some (.slice e))(Y:P.underlying tn=some (.int kn))(hi:P.info? e=some i)(hz:i.zero=some z)
 (L:i.size=1)(Z:i.bytes=1)(aa:z.cells=#[z])(h1:z.oneCell'=true)(g n j m:Nat)(xs:List Value)(J:w.ownsRow base e 1 (.slice (some ⟨g,0,none⟩) n j) n xs)(E:n+m<=j)(hm:0<m)(aj:m<=1000):
 ∃w',(Builtin.append_ #[t,tn] ty #[.slice (some ⟨g,0,none⟩) n j, .int k m]).run P w= .ok (.slice (some ⟨g,0,none⟩) (n+m) j) w'/\
  w'.ownsRow base e 1 (.slice (some ⟨g,0,none⟩) (n+m) j) (n+m) (xs++List.replicate m z)/\w.grownBy w' (some g):=by
 have G:(xs++List.replicate m z).length=(n+m)*1:=by rw[Aj,J.1,Ez,Ex,EK m]
 rcases J.2 with ⟨h,_⟩|⟨g',ah,cur,h,ag,hg,ai,ab,af,M⟩
 ·simp at h
 ·simp only[Value.slice.injEq,Option.some.injEq,Addr.mk.injEq,and_true,true_and]at h;obtain⟨rfl,rfl⟩:=h;have U:n*1+(List.replicate m z).length<=cur.size:=by rw[Ez,af];omega
  have N:=run_storeCells_at P g (n*1) e (List.replicate m z) 0 cur w hg (by simpa using U) (fun v hv=>by rw[List.eq_of_mem_replicate hv];exact h1);simp only[Nat.add_zero]at N;have hw:IntKind.i64.wrap (m:Int)=(m:Int):=oK
  have Q:¬((m:Int)<0):=nB
  have ac:¬(281474976710656<(m:Int)):=nB
  have ae:m≠0:=nB
  refine⟨_,?_,⟨G, .inr ⟨g,j,_,rfl,ag,setRow_heap w g cur (cur.toList.take (n*1)++List.replicate m z++cur.toList.drop (n*1+(List.replicate m z).length)).toArray e _ hg,E,ab,?_,?_⟩⟩,⟨rfl,rfl,rfl,pR,fun k _ hk=>setRow_other w g k _ (fun e=>hk (by simp[e]))⟩⟩
  ·simp[Builtin.append_,run_underlying ht,run_underlying Y,sizeOf,typeInfo,zeroValue,hi,hz,L,Z,aa,asInt,asIntOf,hw,Q,ac,ae,E,Z2,Addr.add_lit]at N ⊢;rw[N];rfl
  ·simp only[List.size_toArray,List.length_append,List.length_take,List.length_drop,Array.length_toList];omega
  ·rw[M,<-G];exact List.take_left
theorem aA{j:Array Oper}{rest:List Oper}{o:Oper}{a:Act}{Q:Exit->Act->World->Prop}(E:o.guard=none)(s x:Operand)(t tn:TypeId)
 (ho:o.op= .call {callee:= .builtin .append,args:=#[s,x],argTypes:=#[t,tn] })
 (base:Nat)(e:TypeId)(i:TypeInfo)(z:Value)(k kn:IntKind)(ht:P.underlying t=some (.slice e))(htn:P.underlying tn=some (.int kn))(hi:P.info? e=some i)(hz:i.zero=some z)
 (hsize:i.size=1)(hby:i.bytes=1)(hzc:z.cells=#[z])(h1:z.oneCell'=true)(g n cap m:Nat)(xs:List Value)(hs:a.eval s= .slice (some ⟨g,0,none⟩) n cap)(hx:a.eval x= .int k m)
 (hown:w.ownsRow base e 1 (.slice (some ⟨g,0,none⟩) n cap) n xs)(hroom:n+m<=cap)(hm:0<m)(hm2:m<=1000)
 (h:∀w',w'.ownsRow base e 1 (.slice (some ⟨g,0,none⟩) (n+m) cap) (n+m) (xs++List.replicate m z)->w.grownBy w' (some g)->wpList P j Q rest (a.put o.dst (.slice (some ⟨g,0,none⟩) (n+m) cap)) w'):wpList P j Q (o :: rest) a w:=by
 refine wpList_plain E fun K hK=> ?_;obtain⟨w',hr,h2,h3⟩:=ZI (P:=P) w base t tn o.type e i z k kn ht htn hi hz hsize hby hzc h1 g n cap m xs hown hroom hm hm2;unfold Oper.wp execOp;simp only[ho,resolve,invoke,builtin,Sem.run_bind,Sem.run_pure,Result.andThen_ok,List.map_toArray,List.map_cons,List.map_nil,hs,hx,hr];exact hK _ _ (h w' h2 h3)
theorem XV{E:Array Oper}{rest:List Oper}{o:Oper}{a:Act}{Q:Exit->Act->World->Prop}(G:o.guard=none)(s x:Operand)(t:TypeId)
 (ho:o.op= .call {callee:= .builtin .append,args:=#[s,x],argTypes:=#[t,t] })
 (base:Nat)(e:TypeId)(i:TypeInfo)(size:Nat)(ht:P.underlying t=some (.slice e))(hi:P.info? e=some i)(hsize:i.size=size)
 (g n cap:Nat)(xs:List Value)(hs:a.eval s= .slice (some ⟨g,0,none⟩) n cap)(hown:w.ownsRow base e size (.slice (some ⟨g,0,none⟩) n cap) n xs)
 (ad:Addr)(m c:Nat)(news:List Value)(hx:a.eval x= .slice (some ad) m c)(hl:news.length=m*size)(hnews:∀j u,news[j]? =some u->w.cell? (ad.add j)=some u)(h1:∀u∈news,u.oneCell'=true)(hroom:n+m<=cap)
 (h:∀w',w'.ownsRow base e size (.slice (some ⟨g,0,none⟩) (n+m) cap) (n+m) (xs++news)->w.grownBy w' (some g)->wpList P E Q rest (a.put o.dst (.slice (some ⟨g,0,none⟩) (n+m) cap)) w'):wpList P E Q (o :: rest) a w:=by
 refine wpList_plain G fun K hK=> ?_;obtain⟨w',hr,h2,h3⟩:=run_append_fits (P:=P) (w:=w) base t o.type e i size ht hi hsize g n cap xs hown ad m c news hl hnews h1 hroom;unfold Oper.wp execOp;simp only[ho,resolve,invoke,builtin,Sem.run_bind,Sem.run_pure,Result.andThen_ok,List.map_toArray,List.map_cons,List.map_nil,hs,hx,hr];exact hK _ _ (h w' h2 h3)
end
end Mem
namespace Huff
open Go.RowKit Mem Canon Own
def Bz(bs:List Bool)(n:Nat):Nat->List Nat->Bool->Nat->List Nat×Int×Nat
 |0,out,_,at_=>(out,0,at_)
 |f+1,out,short,at_=>
  if n<=out.length then(if okB out=true then(out,0,at_)else([],7,at_))
  else if bs.length<at_+4 then([],1,at_)
  else if AN bs at_ 4≠0 then Bz bs n f (out++ [AN bs at_ 4]) false (at_+4)
  else if bs.length<at_+10 then([],1,at_+4)
  else if short=true∨n-out.length<=AN bs (at_+4) 6 then([],7,at_+10)
  else Bz bs n f (out++List.replicate (AN bs (at_+4) 6+1) 0) (decide (AN bs (at_+4) 6+1<64)) (at_+10)
section
variable {bs:List Bool} {n f at_:Nat} {out:List Nat} {short:Bool}
theorem PP(h:n<=out.length):Bz bs n (f+1) out short at_=if okB out=true then(out,0,at_)else([],7,at_):=by rw[Bz,Ag h]
theorem j5(h:¬n<=out.length)(h1:¬at_+4<=bs.length):Bz bs n (f+1) out short at_=([],1,at_):=by rw[Bz,Ae h,Ag nB]
theorem Rj(h:¬n<=out.length)(h1:at_+4<=bs.length)(h2:AN bs at_ 4≠0):Bz bs n (f+1) out short at_=Bz bs n f (out++ [AN bs at_ 4]) false (at_+4):=by rw[Bz,Ae h,Ae nB,Ag h2]
theorem Zp(h:¬n<=out.length)(h1:at_+4<=bs.length)(h2:AN bs at_ 4=0)(h3:¬at_+4+6<=bs.length):Bz bs n (f+1) out short at_=([],1,at_+4):=by rw[Bz,Ae h,Ae nB,Ae nB,Ag nB]
theorem YZ(h:¬n<=out.length)(h1:at_+4+6<=bs.length)(h2:AN bs at_ 4=0)(h3:short=true∨n-out.length<=AN bs (at_+4) 6):Bz bs n (f+1) out short at_=([],7,at_+4+6):=by rw[Bz,Ae h,Ae nB,Ae nB,Ae nB,Ag h3]
theorem Q4(h:¬n<=out.length)(h1:at_+4+6<=bs.length)(h2:AN bs at_ 4=0)(h3:¬(short=true∨n-out.length<=AN bs (at_+4) 6)):
 Bz bs n (f+1) out short at_=Bz bs n f (out++List.replicate (AN bs (at_+4) 6+1) 0) (decide (AN bs (at_+4) 6+1<64)) (at_+4+6):=by
 rw[Bz,Ae h,Ae nB,Ae nB,Ae nB,Ae h3]
end
theorem GK{bs:List Bool}{at_:Nat}(h:at_+m<=bs.length):I4 bs at_ m=AN bs at_ m/\I2 bs at_ m=0/\I1 bs at_ m=at_+m:=by unfold I4 I2 I1;rw[Ag h,Ag h,Ag h];exact⟨rfl,rfl,rfl⟩
theorem GJ{bs:List Bool}{at_:Nat}(h:¬at_+m<=bs.length):I4 bs at_ m=0/\I2 bs at_ m=1/\I1 bs at_ m=at_:=by unfold I4 I2 I1;rw[Ae h,Ae h,Ae h];exact⟨rfl,rfl,rfl⟩
theorem aR(m:Nat):List.replicate m (Value.int .u8 0)=bZ .u8 (List.replicate m 0):=p7
theorem UY(k:IntKind)(a b:List Nat):bZ k (a++b)=bZ k a++bZ k b:=p7
theorem Xh(n:Nat)(hn:n<=300)(w:World):(Instr.makeSlice 28 (.int .i64 0) (.int .i64 (n:Int))).run prog w=
 .ok (.slice (some ⟨w,0,none⟩) 0 n) (w.alloc (.cells (madeCells #[.int .u8 0] n) 5)):=by
 obtain⟨i0,hi,j,i,E⟩:=info_parts CW;have h:=run_make (P:=prog) w 28 5 i0 (.int .u8 0) underlying28 hi j .i64 .i64 0 (n:Int) nB nB n8 nB;simp only[Int.toNat_natCast]at h;simpa[i,Value.cells]using h
def Tw(R:List Nat×Int×Nat)(lo g:Nat)(bs:List Bool)(w:World)(e:Ending)(w':World):Prop:=
 ∃v,e= .returned (.tuple #[v,R.2.1])/\w'.ownsRow w 5 1 v R.1.length (bZ .u8 R.1)/\Rd w' lo g bs R.2.2/\Kept (fun x=>x<w.heap.size/\x≠g) w w'
set_option maxHeartbeats 2000000 in
set_option maxRecDepth 100000 in
theorem aD(w:World)(lo g:Nat)(bs:List Bool)(am n:Nat)(bm:0<n)(hn:n<=300)(an:lo<=g)(hR:Rd w lo g bs am):
 Calls prog 352 #[.pointer (some ⟨g,0,none⟩), .int .i64 (n:Nat)] w (Tw (Bz bs n (n+1) [] false am) lo g bs w):=by
 obtain⟨j0,a5,ba,a4,bd⟩:=info_parts CW;have bj:=Xh n hn;have bh:=hR.lt;have HR:=hid hR;clear hR;go_enter func352,ntmps352;go_wp2_with fail;have al:(w.alloc (.cells (madeCells #[.int .u8 0] n) 5)).ownsRow w 5 1 (.slice (some ⟨w,0,none⟩) 0 n) 0 []:=World.ownsRow_made w _ n (Am _) qn (by simp[madeCells]);have ah:Below w w (w.alloc (.cells (madeCells #[.int .u8 0] n) 5)):=cZ (Ak _ _);generalize w.alloc (.cells (madeCells #[.int .u8 0] n) 5)=w0 at *;have az:Hid (Rd w0 lo g bs am):=HR.out.keep (fun b _ h=>ah.block b nB) an;have ay:=hid (Kept.of_below (K:=fun x=>x<w.heap.size/\x≠g) ah (fun _ h=>h.1));have a0:=hid al;clear al ah HR
 go_loopw [6,7] (fun u s wr=>∃ (L at_:Nat) (out:List Nat) (sh:Bool),L<=n/\u= .slice (some ⟨w,0,none⟩) L n/\s= .bool sh/\Hid (wr.ownsRow w 5 1 (.slice (some ⟨w,0,none⟩) L n) L (bZ .u8 out))/\Hid (out.length=L)/\
  Hid (∃f,n+1<=f+L/\Bz bs n f out sh at_=Bz bs n (n+1) [] false am)/\Hid (Rd wr lo g bs at_)/\Hid (Kept (fun x=>x<w.heap.size/\x≠g) w wr)) (fun u _ _=>match u with| .slice _ l _=>n-l|_=>0)
 case atStart=>exact⟨0,am,[],false,nB,rfl,rfl,a0.out,rfl,⟨n+1,nB,rfl⟩,az.out,ay.out⟩
 case round=>
  clear az ay a0;obtain⟨L,at_,out,sh,hL,rfl,rfl,U,Z,G,ak,aa⟩:=hrel;obtain⟨f,hf,G⟩:=G.out;obtain⟨f,rfl⟩:∃f',f=f'+1:=⟨f-1,nB⟩;have HF:=hid hf;by_cases bl:L<n
  ·have C1:=JX wr lo g bs at_ 4 nB ak.out;have ac:¬n<=out.length:=oT;by_cases N:at_+4<=bs.length
   ·rw[(GK N).1,(GK N).2.1,(GK N).2.2]at C1;have au:=GS bs at_ 4;obtain⟨l,hl⟩:=jc (AN bs at_ 4);rw[<-hl]at C1 au;have C1:=hid C1;by_cases ax:l=0
    ·subst ax;have bc:=aa.out.size;have C2:=fun wx (h:Rd wx lo g bs (at_+4))=>JX wx lo g bs (at_+4) 6 nB h;by_cases M:at_+4+6<=bs.length
     ·rw[(GK M).1,(GK M).2.1,(GK M).2.2]at C2;have a6:=GS bs (at_+4) 6;have ag:=fun h=>YZ (f:=f) (short:=sh) ac M hl.symm h;have Q:=fun h=>Q4 (f:=f) (short:=sh) ac M hl.symm h;obtain⟨k,hk⟩:=jc (AN bs (at_+4) 6);rw[<-hk]at C2 a6 ag Q;rw[Z.out]at ag Q;have C2:=hid C2;by_cases hb:sh=true∨n-L<=k
      ·rw[ag hb]at G;have HG:=hid G
       have ar:sh=true∨(n:Int)-(L:Int)<=(k:Int):=by
        rcases hb with h|h
        ·exact .inl h
        ·exact .inr nB
       clear G ac N hf hl ag Q hk hb M;cases sh
       ·have bf:(n:Int)-(L:Int)<=(k:Int):=by
         rcases ar with h|h
         ·cases h
         ·exact h
        clear ar;go_wp2_with fail;refine C1.out.mono ?_;rintro e w1 ⟨rfl,Y,E⟩;go_wp2_with fail;refine(C2.out _ Y).mono ?_;rintro e w2 ⟨rfl,af,J⟩;go_wp2_with fail;go_ret2;rw[<-HG.out];exact⟨_,rfl,AE _ _ _ _,af,aa.out.trans (Kept.trans ⟨E.os,E.tape,E.output,E.size,fun b h=>E.block b h.2⟩ ⟨J.os,J.tape,J.output,J.size,fun b h=>J.block b h.2⟩)⟩
       ·clear ar;go_wp2_with fail;refine C1.out.mono ?_;rintro e w1 ⟨rfl,Y,E⟩;go_wp2_with fail;refine(C2.out _ Y).mono ?_;rintro e w2 ⟨rfl,af,J⟩;go_wp2_with fail;go_ret2;rw[<-HG.out];exact⟨_,rfl,AE _ _ _ _,af,aa.out.trans (Kept.trans ⟨E.os,E.tape,E.output,E.size,fun b h=>E.block b h.2⟩ ⟨J.os,J.tape,J.output,J.size,fun b h=>J.block b h.2⟩)⟩
      ·rw[Q hb]at G;have HG:=hid G;obtain rfl:sh=false:=by cases sh<;>simp_all
       have ar:¬(n:Int)-(L:Int)<=(k:Int):=(by intro h;exact hb (.inr nB));have aq:L+(k+1)<=n:=nB;clear G ac N hf hl ag Q hk hb M;go_wp2_with fail;refine C1.out.mono ?_;rintro e w1 ⟨rfl,Y,E⟩;go_wp2_with fail;refine(C2.out _ Y).mono ?_;rintro e w2 ⟨rfl,af,J⟩;have ab:Kept (fun x=>x≠g) wr w2:=E.trans J;have aw:=eZ U.out (fun x hx=>ab.block x (by have:=(Ai U.out x hx).1;show x≠g;omega));have a1:Hid (Kept (fun x=>x<w.heap.size/\x≠g) w w2):=aa.out.trans ⟨ab.os,ab.tape,ab.output,ab.size,fun b h=>ab.block b h.2⟩;have bk:=a1.out.size;have a9:=hid af;clear E J ab Y af C1 C2 U aa ak;have ek:((k+1:Nat):Int)=(k:Int)+1:=nB;go_wp2_with(at_builtin;refine aA rfl (.tmp 57) (.tmp 59) 28 41 rfl w 5 j0 (.int .u8 0) .u64 .u64 underlying28 underlying41 a5 ba a4 bd rfl rfl w.heap.size L n (k+1) _ nC (by rw[ek];rfl) aw aq nB nB ?_;intro w3 ae aj);go_roundw
       case measure=>go_light;show n-(L+(k+1))<n-L;omega
       case rel=>
        go_light;rw[aR,<-UY]at ae;refine⟨L+(k+1),at_+4+6,out++List.replicate (k+1) 0,decide (k+1<64),aq,rfl,by congr 1;simp;omega,ae,?_,⟨f,mP,HG.out⟩,?_,?_⟩
        ·show(out++List.replicate (k+1) 0).length=_;rw[Aj,Ez,Z.out]
        ·exact a9.out.keep (fun b _ h=>aj.block b nB (by intro e;injection e with e;omega)) an
        ·exact a1.out.grown aj (fun b h=>by have:=h.1;omega) (fun b hb h=>by injection hb with hb;have:=h.1;omega)
     ·rw[(GJ M).1,(GJ M).2.1,(GJ M).2.2]at C2;rw[Zp ac N hl.symm M]at G;have C2:=hid C2;have HG:=hid G;clear G ac N hf hl M;go_wp2_with fail;refine C1.out.mono ?_;rintro e w1 ⟨rfl,Y,E⟩;go_wp2_with fail;refine(C2.out _ Y).mono ?_;rintro e w2 ⟨rfl,af,J⟩;go_wp2_with fail;go_ret2;rw[<-HG.out];exact⟨_,rfl,AE _ _ _ _,af,aa.out.trans (Kept.trans ⟨E.os,E.tape,E.output,E.size,fun b h=>E.block b h.2⟩ ⟨J.os,J.tape,J.output,J.size,fun b h=>J.block b h.2⟩)⟩
    ·have be:l<16:=nB;rw[Rj ac N (by rw[<-hl];exact ax),<-hl]at G;have HG:=hid G;have bi:0<l:=nB;clear G ac N hf hl ax au;go_wp2_with fail;refine C1.out.mono ?_;rintro e w1 ⟨rfl,Y,E⟩;have av:=eZ U.out (fun x hx=>E.block x (by have:=(Ai U.out x hx).1;show x≠g;omega));have a3:Hid (Kept (fun x=>x<w.heap.size/\x≠g) w w1):=aa.out.trans ⟨E.os,E.tape,E.output,E.size,fun b h=>E.block b h.2⟩;have bg:=a3.out.size;have bb:=hid Y;clear E Y C1 U aa ak;go_wp2_with(at_builtin;refine XV rfl (.tmp 34) (.tmp 37) 28 rfl w 5 j0 1 underlying28 a5 a4 w L n _ nC (av.alloc _) ⟨w1,0,none⟩ 1 1 [.int .u8 (l:Nat)] nC nC (World.news_of_block (cs:=#[.int .u8 (l:Nat)]) (t:=5) (fr:=(0,0)) (heap_alloc_new w1 _)) na nB ?_;intro w3 ae aj);go_roundw
     case measure=>go_light;show n-(L+1)<n-L;omega
     case rel=>
      go_light;refine⟨L+1,at_+4,out++ [l],false,nB,rfl,rfl,?_,?_,⟨f,mP,HG.out⟩,?_,?_⟩
      ·show World.ownsRow _ _ _ _ _ _ _;rw[UY];exact ae
      ·show(out++ [l]).length=_;rw[Aj,Z.out];rfl
      ·exact bb.out.keep (fun b _ h=>(aj.block b p5 (by intro e;injection e with e;omega)).trans (EA w1 _ b nB)) an
      ·exact(a3.out.alloc (fun b h=>by have:=h.1;omega) _).grown aj (fun b h=>by have:=h.1;simp;omega) (fun b hb h=>by injection hb with hb;have:=h.1;omega)
   ·rw[(GJ N).1,(GJ N).2.1,(GJ N).2.2]at C1;rw[j5 ac N]at G;have C1:=hid C1;have HG:=hid G;clear G ac N hf;go_wp2_with fail;refine C1.out.mono ?_;rintro e w1 ⟨rfl,Y,E⟩;go_wp2_with fail;go_ret2;rw[<-HG.out];exact⟨_,rfl,AE _ _ _ _,Y,aa.out.trans ⟨E.os,E.tape,E.output,E.size,fun b h=>E.block b h.2⟩⟩
  ·obtain rfl:L=n:=by omega
   rw[PP oT]at G;have Q:Row wr wr (some ⟨w,0,none⟩) L 1 (kZ .u8 out):=Row.of_own U.out rfl (fun i j hi hj=>by have e0:j=0:=nB;subst e0;exact numL_get (by rw[Z.out];exact hi));have C3:=Ri wr (some ⟨w,0,none⟩) L L out Z.out nB Q;have bc:=aa.out.size;unfold FG at C3;cases hok:okB out
   ·rw[hok]at C3 G;rw[Ae pR]at G;have C3:=hid C3;have HG:=hid G;clear G hok Q hf;go_wp2_with fail;refine C3.out.mono ?_;rintro e w1 ⟨rfl,ai⟩;go_wp2_with fail;go_ret2;rw[<-HG.out];exact⟨_,rfl,AE _ _ _ _,ak.out.keep (fun b _ h=>ai.block b nB) an,aa.out.trans (Kept.of_below ai (fun b h=>by have:=h.1;omega))⟩
   ·rw[hok]at C3 G;rw[Ag rfl]at G;have C3:=hid C3;have HG:=hid G;clear G hok Q hf;go_wp2_with fail;refine C3.out.mono ?_;rintro e w1 ⟨rfl,ai⟩;go_wp2_with fail;go_ret2;rw[<-HG.out];refine⟨_,rfl,?_,ak.out.keep (fun b _ h=>ai.block b nB) an,aa.out.trans (Kept.of_below ai (fun b h=>by have:=h.1;omega))⟩;show World.ownsRow _ _ _ _ _ out.length _;rw[Z.out];exact eZ U.out (fun x hx=>ai.block x (Ai U.out x hx).2)
end Huff
end Go.Proofs.YtfgdoknipbpfhaaGreatDoor
