/- append of zeros, as  -/
import Derived.Test.YtfgdoknipbpfhaaGreatDoorZBodyOpened16
import Derived.Lib.AppendZeros
namespace Go.Proofs.YtfgdoknipbpfhaaGreatDoor
open Go.Proofs.Tryz
open Go.Lib (hid)
variable{w:World}{m:Nat}
namespace Mem
open Go.RowKit
theorem mN(z:Value)(n:Nat):(Builtin.zeroCells #[z] n).toList=List.replicate n z:=by
 apply List.ext_getElem
 ·simp[Builtin.zeroCells]
 ·intro i h1 h2;simp[Builtin.zeroCells,Nat.mod_one]
section
variable {P:Program}
theorem lP(w:World)(base:Nat)(t tn ty e:TypeId)(i:TypeInfo)(z:Value)(k kn:IntKind)(ht:P.underlying t=some (.slice e))(Z:P.underlying tn=some (.int kn))(hi:P.info? e=some i)(hz:i.zero=some z)
 (N:i.size=1)(aa:i.bytes=1)(af:z.cells=#[z])(h1:z.oneCell'=true)(g n j m:Nat)(xs:List Value)(G:w.ownsRow base e 1 (.slice (some ⟨g,0,none⟩) n j) n xs)(y:n+m<=j)(hm:0<m)(aj:m<=1000):
 ∃w',(Builtin.append_ #[t,tn] ty #[.slice (some ⟨g,0,none⟩) n j, .int k m]).run P w= .ok (.slice (some ⟨g,0,none⟩) (n+m) j) w'/\
  w'.ownsRow base e 1 (.slice (some ⟨g,0,none⟩) (n+m) j) (n+m) (xs++List.replicate m z)/\w.grownBy w' (some g):=by
 have E:(xs++List.replicate m z).length=(n+m)*1:=by rw[Aj,G.1,Dr,EL,CG m]
 rcases G.2 with ⟨h,_⟩|⟨g',ah,cur,h,ae,hg,ai,ab,ac,J⟩
 ·simp at h
 ·simp only[Value.slice.injEq,Option.some.injEq,Addr.mk.injEq,and_true,true_and]at h;obtain⟨rfl,rfl⟩:=h;have U:n*1+(List.replicate m z).length<=cur.size:=by rw[Dr,ac];omega
  have M:=run_storeCells_at P g (n*1) e (List.replicate m z) 0 cur w hg (by simpa using U) (fun v hv=>by rw[List.eq_of_mem_replicate hv];exact h1);simp only[Nat.add_zero]at M;have hw:IntKind.i64.wrap (m:Int)=(m:Int):=oI
  have Q:¬((m:Int)<0):=mz
  have Y:¬(281474976710656<(m:Int)):=mz
  have ag:m≠0:=mz
  refine⟨_,?_,⟨E, .inr ⟨g,j,_,rfl,ae,setRow_heap w g cur (cur.toList.take (n*1)++List.replicate m z++cur.toList.drop (n*1+(List.replicate m z).length)).toArray e _ hg,y,ab,?_,?_⟩⟩,⟨rfl,rfl,rfl,pI,fun k _ hk=>setRow_other w g k _ (fun e=>hk (by simp[e]))⟩⟩
  ·simp[Builtin.append_,run_underlying ht,run_underlying Z,sizeOf,typeInfo,zeroValue,hi,hz,N,aa,af,asInt,asIntOf,hw,Q,Y,ag,y,mN,Addr.add_lit]at M ⊢;rw[M];rfl
  ·simp only[List.size_toArray,List.length_append,List.length_take,List.length_drop,Array.length_toList];omega
  ·rw[J,<-E];exact List.take_left
theorem eN{j:Array Oper}{rest:List Oper}{o:Oper}{a:Act}{Q:Exit->Act->World->Prop}(y:o.guard=none)(s x:Operand)(t tn:TypeId)
 (ho:o.op= .call {callee:= .builtin .append,args:=#[s,x],argTypes:=#[t,tn] })
 (base:Nat)(e:TypeId)(i:TypeInfo)(z:Value)(k kn:IntKind)(ht:P.underlying t=some (.slice e))(htn:P.underlying tn=some (.int kn))(hi:P.info? e=some i)(hz:i.zero=some z)
 (hsize:i.size=1)(hby:i.bytes=1)(hzc:z.cells=#[z])(h1:z.oneCell'=true)(g n cap m:Nat)(xs:List Value)(hs:a.eval s= .slice (some ⟨g,0,none⟩) n cap)(hx:a.eval x= .int k m)
 (hown:w.ownsRow base e 1 (.slice (some ⟨g,0,none⟩) n cap) n xs)(hroom:n+m<=cap)(hm:0<m)(hm2:m<=1000)
 (h:∀w',w'.ownsRow base e 1 (.slice (some ⟨g,0,none⟩) (n+m) cap) (n+m) (xs++List.replicate m z)->w.grownBy w' (some g)->wpList P j Q rest (a.put o.dst (.slice (some ⟨g,0,none⟩) (n+m) cap)) w'):wpList P j Q (o :: rest) a w:=by
 refine wpList_plain y fun K hK=> ?_;obtain⟨w',hr,h2,h3⟩:=lP (P:=P) w base t tn o.type e i z k kn ht htn hi hz hsize hby hzc h1 g n cap m xs hown hroom hm hm2;unfold Oper.wp execOp;simp only[ho,resolve,invoke,builtin,Sem.run_bind,Sem.run_pure,Result.andThen_ok,List.map_toArray,List.map_cons,List.map_nil,hs,hx,hr];exact hK _ _ (h w' h2 h3)
theorem a8{y:Array Oper}{rest:List Oper}{o:Oper}{a:Act}{Q:Exit->Act->World->Prop}(z:o.guard=none)(s x:Operand)(t:TypeId)
 (ho:o.op= .call {callee:= .builtin .append,args:=#[s,x],argTypes:=#[t,t] })
 (base:Nat)(e:TypeId)(i:TypeInfo)(size:Nat)(ht:P.underlying t=some (.slice e))(hi:P.info? e=some i)(hsize:i.size=size)
 (g n cap:Nat)(xs:List Value)(hs:a.eval s= .slice (some ⟨g,0,none⟩) n cap)(hown:w.ownsRow base e size (.slice (some ⟨g,0,none⟩) n cap) n xs)
 (ad:Addr)(m c:Nat)(news:List Value)(hx:a.eval x= .slice (some ad) m c)(hl:news.length=m*size)(hnews:∀j u,news[j]? =some u->w.cell? (ad.add j)=some u)(h1:∀u∈news,u.oneCell'=true)(hroom:n+m<=cap)
 (h:∀w',w'.ownsRow base e size (.slice (some ⟨g,0,none⟩) (n+m) cap) (n+m) (xs++news)->w.grownBy w' (some g)->wpList P y Q rest (a.put o.dst (.slice (some ⟨g,0,none⟩) (n+m) cap)) w'):wpList P y Q (o :: rest) a w:=by
 refine wpList_plain z fun K hK=> ?_;obtain⟨w',hr,h2,h3⟩:=run_append_fits (P:=P) (w:=w) base t o.type e i size ht hi hsize g n cap xs hown ad m c news hl hnews h1 hroom;unfold Oper.wp execOp;simp only[ho,resolve,invoke,builtin,Sem.run_bind,Sem.run_pure,Result.andThen_ok,List.map_toArray,List.map_cons,List.map_nil,hs,hx,hr];exact hK _ _ (h w' h2 h3)
end
end Mem
namespace Huff
open Go.RowKit Mem Canon Own
def Bz(bs:List Bool)(n:Nat):Nat->List Nat->Bool->Nat->List Nat×Int×Nat
 |0,out,_,at_=>(out,0,at_)
 |f+1,out,short,at_=>
  if n<=out.length then(if okB out=true then(out,0,at_)else([],7,at_))
  else if bs.length<at_+4 then([],1,at_)
  else if zZ bs at_ 4≠0 then Bz bs n f (out++ [zZ bs at_ 4]) false (at_+4)
  else if bs.length<at_+10 then([],1,at_+4)
  else if short=true∨n-out.length<=zZ bs (at_+4) 6 then([],7,at_+10)
  else Bz bs n f (out++List.replicate (zZ bs (at_+4) 6+1) 0) (decide (zZ bs (at_+4) 6+1<64)) (at_+10)
section
variable {bs:List Bool} {n f at_:Nat} {out:List Nat} {short:Bool}
theorem Oy(h:n<=out.length):Bz bs n (f+1) out short at_=if okB out=true then(out,0,at_)else([],7,at_):=by rw[Bz,Ae h]
theorem ZN(h:¬n<=out.length)(h1:¬at_+4<=bs.length):Bz bs n (f+1) out short at_=([],1,at_):=by rw[Bz,Ab h,Ae mz]
theorem Tv(h:¬n<=out.length)(h1:at_+4<=bs.length)(h2:zZ bs at_ 4≠0):Bz bs n (f+1) out short at_=Bz bs n f (out++ [zZ bs at_ 4]) false (at_+4):=by rw[Bz,Ab h,Ab mz,Ae h2]
theorem kQ(h:¬n<=out.length)(h1:at_+4<=bs.length)(h2:zZ bs at_ 4=0)(h3:¬at_+4+6<=bs.length):Bz bs n (f+1) out short at_=([],1,at_+4):=by rw[Bz,Ab h,Ab mz,Ab mz,Ae mz]
theorem Zq(h:¬n<=out.length)(h1:at_+4+6<=bs.length)(h2:zZ bs at_ 4=0)(h3:short=true∨n-out.length<=zZ bs (at_+4) 6):Bz bs n (f+1) out short at_=([],7,at_+4+6):=by rw[Bz,Ab h,Ab mz,Ab mz,Ab mz,Ae h3]
theorem Ti(h:¬n<=out.length)(h1:at_+4+6<=bs.length)(h2:zZ bs at_ 4=0)(h3:¬(short=true∨n-out.length<=zZ bs (at_+4) 6)):
 Bz bs n (f+1) out short at_=Bz bs n f (out++List.replicate (zZ bs (at_+4) 6+1) 0) (decide (zZ bs (at_+4) 6+1<64)) (at_+4+6):=by
 rw[Bz,Ab h,Ab mz,Ab mz,Ab mz,Ab h3]
end
theorem Gy{bs:List Bool}{at_:Nat}(h:at_+m<=bs.length):IM bs at_ m=zZ bs at_ m/\IL bs at_ m=0/\II bs at_ m=at_+m:=by unfold IM IL II;rw[Ae h,Ae h,Ae h];exact⟨rfl,rfl,rfl⟩
theorem Gx{bs:List Bool}{at_:Nat}(h:¬at_+m<=bs.length):IM bs at_ m=0/\IL bs at_ m=1/\II bs at_ m=at_:=by unfold IM IL II;rw[Ab h,Ab h,Ab h];exact⟨rfl,rfl,rfl⟩
theorem jY(m:Nat):List.replicate m (Value.int .u8 0)=cZ .u8 (List.replicate m 0):=pT
theorem SL(k:IntKind)(a b:List Nat):cZ k (a++b)=cZ k a++cZ k b:=pT
theorem make_u8(n:Nat)(hn:n<=300)(w:World):(Instr.makeSlice 28 (.int .i64 0) (.int .i64 (n:Int))).run prog w=
 .ok (.slice (some ⟨w,0,none⟩) 0 n) (w.alloc (.cells (madeCells #[.int .u8 0] n) 5)):=by
 obtain⟨i0,hi,y,i,j⟩:=info_parts Eo;have h:=run_make (P:=prog) w 28 5 i0 (.int .u8 0) underlying28 hi y .i64 .i64 0 (n:Int) mz mz o7 mz;simp only[Int.toNat_natCast]at h;simpa[i,Value.cells]using h
def SX(R:List Nat×Int×Nat)(lo g:Nat)(bs:List Bool)(w:World)(e:Ending)(w':World):Prop:=
 ∃v,e= .returned (.tuple #[v,R.2.1])/\w'.ownsRow w 5 1 v R.1.length (cZ .u8 R.1)/\Rd w' lo g bs R.2.2/\Kept (fun x=>x<w.heap.size/\x≠g) w w'
set_option maxHeartbeats 2000000 in
set_option maxRecDepth 100000 in
theorem Zn(w:World)(lo g:Nat)(bs:List Bool)(ai n:Nat)(be:0<n)(hn:n<=300)(aj:lo<=g)(hR:Rd w lo g bs ai):
 Calls prog 352 #[.pointer (some ⟨g,0,none⟩), .int .i64 (n:Nat)] w (SX (Bz bs n (n+1) [] false ai) lo g bs w):=by
 obtain⟨j0,a3,ba,ay,a5⟩:=info_parts Eo;have bf:=make_u8 n hn;have bi:=hR.lt;have HR:=hid hR;clear hR;go_enter func352,ntmps352;go_wp2_with fail;have al:(w.alloc (.cells (madeCells #[.int .u8 0] n) 5)).ownsRow w 5 1 (.slice (some ⟨w,0,none⟩) 0 n) 0 []:=World.ownsRow_made w _ n (Aq _) qg (by simp[madeCells]);have af:Below w w (w.alloc (.cells (madeCells #[.int .u8 0] n) 5)):=aZ (Ag _ _);generalize w.alloc (.cells (madeCells #[.int .u8 0] n) 5)=w0 at *;have a4:Hid (Rd w0 lo g bs ai):=HR.out.keep (fun b _ h=>af.block b mz) aj;have aw:=hid (Kept.of_below (K:=fun x=>x<w.heap.size/\x≠g) af (fun _ h=>h.1));have a1:=hid al;clear al af HR
 go_loopw [6,7] (fun u s wr=>∃ (L at_:Nat) (out:List Nat) (sh:Bool),L<=n/\u= .slice (some ⟨w,0,none⟩) L n/\s= .bool sh/\Hid (wr.ownsRow w 5 1 (.slice (some ⟨w,0,none⟩) L n) L (cZ .u8 out))/\Hid (out.length=L)/\
  Hid (∃f,n+1<=f+L/\Bz bs n f out sh at_=Bz bs n (n+1) [] false ai)/\Hid (Rd wr lo g bs at_)/\Hid (Kept (fun x=>x<w.heap.size/\x≠g) w wr)) (fun u _ _=>match u with| .slice _ l _=>n-l|_=>0)
 case atStart=>exact⟨0,ai,[],false,mz,rfl,rfl,a1.out,rfl,⟨n+1,mz,rfl⟩,a4.out,aw.out⟩
 case round=>
  clear a4 aw a1;obtain⟨L,at_,out,sh,hL,rfl,rfl,J,U,z,ah,Y⟩:=hrel;obtain⟨f,hf,z⟩:=z.out;obtain⟨f,rfl⟩:∃f',f=f'+1:=⟨f-1,mz⟩;have HF:=hid hf;by_cases bg:L<n
  ·have C1:=JG wr lo g bs at_ 4 mz ah.out;have aa:¬n<=out.length:=(by rw[U.out];omega);by_cases M:at_+4<=bs.length
   ·rw[(Gy M).1,(Gy M).2.1,(Gy M).2.2]at C1;have aq:=GO bs at_ 4;obtain⟨l,hl⟩:=ii (zZ bs at_ 4);rw[<-hl]at C1 aq;have C1:=hid C1;by_cases au:l=0
    ·subst au;have a9:=Y.out.size;have C2:=fun wx (h:Rd wx lo g bs (at_+4))=>JG wx lo g bs (at_+4) 6 mz h;by_cases G:at_+4+6<=bs.length
     ·rw[(Gy G).1,(Gy G).2.1,(Gy G).2.2]at C2;have ax:=GO bs (at_+4) 6;have ac:=fun h=>Zq (f:=f) (short:=sh) aa G hl.symm h;have N:=fun h=>Ti (f:=f) (short:=sh) aa G hl.symm h;obtain⟨k,hk⟩:=ii (zZ bs (at_+4) 6);rw[<-hk]at C2 ax ac N;rw[U.out]at ac N;have C2:=hid C2;by_cases hb:sh=true∨n-L<=k
      ·rw[ac hb]at z;have HG:=hid z
       have an:sh=true∨(n:Int)-(L:Int)<=(k:Int):=by
        rcases hb with h|h
        ·exact .inl h
        ·exact .inr mz
       clear z aa M hf hl ac N hk hb G;cases sh
       ·have bd:(n:Int)-(L:Int)<=(k:Int):=by
         rcases an with h|h
         ·cases h
         ·exact h
        clear an;go_wp2_with fail;refine C1.out.mono ?_;rintro e w1 ⟨rfl,Q,y⟩;go_wp2_with fail;refine(C2.out _ Q).mono ?_;rintro e w2 ⟨rfl,ae,E⟩;go_wp2_with fail;go_ret2;rw[<-HG.out];exact⟨_,rfl,AK _ _ _ _,ae,Y.out.trans (Kept.trans ⟨y.os,y.tape,y.output,y.size,fun b h=>y.block b h.2⟩ ⟨E.os,E.tape,E.output,E.size,fun b h=>E.block b h.2⟩)⟩
       ·clear an;go_wp2_with fail;refine C1.out.mono ?_;rintro e w1 ⟨rfl,Q,y⟩;go_wp2_with fail;refine(C2.out _ Q).mono ?_;rintro e w2 ⟨rfl,ae,E⟩;go_wp2_with fail;go_ret2;rw[<-HG.out];exact⟨_,rfl,AK _ _ _ _,ae,Y.out.trans (Kept.trans ⟨y.os,y.tape,y.output,y.size,fun b h=>y.block b h.2⟩ ⟨E.os,E.tape,E.output,E.size,fun b h=>E.block b h.2⟩)⟩
      ·rw[N hb]at z;have HG:=hid z;obtain rfl:sh=false:=by cases sh<;>simp_all
       have an:¬(n:Int)-(L:Int)<=(k:Int):=(by intro h;exact hb (.inr mz));have am:L+(k+1)<=n:=mz;clear z aa M hf hl ac N hk hb G;go_wp2_with fail;refine C1.out.mono ?_;rintro e w1 ⟨rfl,Q,y⟩;go_wp2_with fail;refine(C2.out _ Q).mono ?_;rintro e w2 ⟨rfl,ae,E⟩;have Z:Kept (fun x=>x≠g) wr w2:=y.trans E;have av:=eZ J.out (fun x hx=>Z.block x (by have:=(Am J.out x hx).1;show x≠g;omega));have a0:Hid (Kept (fun x=>x<w.heap.size/\x≠g) w w2):=Y.out.trans ⟨Z.os,Z.tape,Z.output,Z.size,fun b h=>Z.block b h.2⟩;have bj:=a0.out.size;have bb:=hid ae;clear y E Z Q ae C1 C2 J Y ah;have ek:((k+1:Nat):Int)=(k:Int)+1:=mz;go_wp2_with(at_builtin;refine eN rfl (.tmp 57) (.tmp 59) 28 41 rfl w 5 j0 (.int .u8 0) .u64 .u64 underlying28 underlying41 a3 ba ay a5 rfl rfl w.heap.size L n (k+1) _ nc (by rw[ek];rfl) av am mz mz ?_;intro w3 ab ak);go_roundw
       case measure=>go_light;show n-(L+(k+1))<n-L;omega
       case rel=>
        go_light;rw[jY,<-SL]at ab;refine⟨L+(k+1),at_+4+6,out++List.replicate (k+1) 0,decide (k+1<64),am,rfl,by congr 1;simp;omega,ab,?_,⟨f,lj,HG.out⟩,?_,?_⟩
        ·show(out++List.replicate (k+1) 0).length=_;rw[Aj,Dr,U.out]
        ·exact bb.out.keep (fun b _ h=>ak.block b mz (by intro e;injection e with e;omega)) aj
        ·exact a0.out.grown ak (fun b h=>by have:=h.1;omega) (fun b hb h=>by injection hb with hb;have:=h.1;omega)
     ·rw[(Gx G).1,(Gx G).2.1,(Gx G).2.2]at C2;rw[kQ aa M hl.symm G]at z;have C2:=hid C2;have HG:=hid z;clear z aa M hf hl G;go_wp2_with fail;refine C1.out.mono ?_;rintro e w1 ⟨rfl,Q,y⟩;go_wp2_with fail;refine(C2.out _ Q).mono ?_;rintro e w2 ⟨rfl,ae,E⟩;go_wp2_with fail;go_ret2;rw[<-HG.out];exact⟨_,rfl,AK _ _ _ _,ae,Y.out.trans (Kept.trans ⟨y.os,y.tape,y.output,y.size,fun b h=>y.block b h.2⟩ ⟨E.os,E.tape,E.output,E.size,fun b h=>E.block b h.2⟩)⟩
    ·have bc:l<16:=mz;rw[Tv aa M (by rw[<-hl];exact au),<-hl]at z;have HG:=hid z;have bk:0<l:=mz;clear z aa M hf hl au aq;go_wp2_with fail;refine C1.out.mono ?_;rintro e w1 ⟨rfl,Q,y⟩;have ar:=eZ J.out (fun x hx=>y.block x (by have:=(Am J.out x hx).1;show x≠g;omega));have az:Hid (Kept (fun x=>x<w.heap.size/\x≠g) w w1):=Y.out.trans ⟨y.os,y.tape,y.output,y.size,fun b h=>y.block b h.2⟩;have bh:=az.out.size;have a6:=hid Q;clear y Q C1 J Y ah;go_wp2_with(at_builtin;refine a8 rfl (.tmp 34) (.tmp 37) 28 rfl w 5 j0 1 underlying28 a3 ay w L n _ nc (ar.alloc _) ⟨w1,0,none⟩ 1 1 [.int .u8 (l:Nat)] nc nc (World.news_of_block (cs:=#[.int .u8 (l:Nat)]) (t:=5) (fr:=(0,0)) (heap_alloc_new w1 _)) mp mz ?_;intro w3 ab ak);go_roundw
     case measure=>go_light;show n-(L+1)<n-L;omega
     case rel=>
      go_light;refine⟨L+1,at_+4,out++ [l],false,mz,rfl,rfl,?_,?_,⟨f,lj,HG.out⟩,?_,?_⟩
      ·show World.ownsRow _ _ _ _ _ _ _;rw[SL];exact ab
      ·show(out++ [l]).length=_;rw[Aj,U.out];rfl
      ·exact a6.out.keep (fun b _ h=>(ak.block b pQ (by intro e;injection e with e;omega)).trans (Ed w1 _ b mz)) aj
      ·exact(az.out.alloc (fun b h=>by have:=h.1;omega) _).grown ak (fun b h=>by have:=h.1;simp;omega) (fun b hb h=>by injection hb with hb;have:=h.1;omega)
   ·rw[(Gx M).1,(Gx M).2.1,(Gx M).2.2]at C1;rw[ZN aa M]at z;have C1:=hid C1;have HG:=hid z;clear z aa M hf;go_wp2_with fail;refine C1.out.mono ?_;rintro e w1 ⟨rfl,Q,y⟩;go_wp2_with fail;go_ret2;rw[<-HG.out];exact⟨_,rfl,AK _ _ _ _,Q,Y.out.trans ⟨y.os,y.tape,y.output,y.size,fun b h=>y.block b h.2⟩⟩
  ·obtain rfl:L=n:=by omega
   rw[Oy (by rw[U.out];omega)]at z;have N:Row wr wr (some ⟨w,0,none⟩) L 1 (jZ .u8 out):=Row.of_own J.out rfl (fun i j hi hj=>by have e0:j=0:=mz;subst e0;exact numL_get (by rw[U.out];exact hi));have C3:=PW wr (some ⟨w,0,none⟩) L L out U.out mz N;have a9:=Y.out.size;unfold GM at C3;cases hok:okB out
   ·rw[hok]at C3 z;rw[Ab pI]at z;have C3:=hid C3;have HG:=hid z;clear z hok N hf;go_wp2_with fail;refine C3.out.mono ?_;rintro e w1 ⟨rfl,ag⟩;go_wp2_with fail;go_ret2;rw[<-HG.out];exact⟨_,rfl,AK _ _ _ _,ah.out.keep (fun b _ h=>ag.block b mz) aj,Y.out.trans (Kept.of_below ag (fun b h=>by have:=h.1;omega))⟩
   ·rw[hok]at C3 z;rw[Ae rfl]at z;have C3:=hid C3;have HG:=hid z;clear z hok N hf;go_wp2_with fail;refine C3.out.mono ?_;rintro e w1 ⟨rfl,ag⟩;go_wp2_with fail;go_ret2;rw[<-HG.out];refine⟨_,rfl,?_,ah.out.keep (fun b _ h=>ag.block b mz) aj,Y.out.trans (Kept.of_below ag (fun b h=>by have:=h.1;omega))⟩;show World.ownsRow _ _ _ _ _ out.length _;rw[U.out];exact eZ J.out (fun x hx=>ag.block x (Am J.out x hx).2)
end Huff
end Go.Proofs.YtfgdoknipbpfhaaGreatDoor
