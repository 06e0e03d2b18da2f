/- The walks of toks' r -/
import Derived.Test.YtfgdoknipbpfhaaGreatDoorZTwoBack16
import Derived.Test.YtfgdoknipbpfhaaGreatDoorZTwoBack13
import Derived.Lib.AppendZeros
namespace Go.Proofs.YtfgdoknipbpfhaaGreatDoor
open Go.Proofs.Tryz
open Go.Lib (hid)
set_option maxHeartbeats 2000000
set_option maxRecDepth 100000
section
variable{w:World}{m:Nat}
open Go.RowKit
theorem Xn(z:Value)(n:Nat):(Builtin.zeroCells #[z] n).toList=List.replicate n z:=by
 apply List.ext_getElem
 ·simp[Builtin.zeroCells]
 ·intro i h1 h2;simp[Builtin.zeroCells,Nat.mod_one]
section
variable {P:Program}
theorem qY(w:World)(base:Nat)(t tn ty e:TypeId)(i:TypeInfo)(z:Value)(k kn:IntKind)(ht:P.underlying t=some (.slice e))(Z:P.underlying tn=some (.int kn))(hi:P.info? e=some i)(hz:i.zero=some z)
 (M:i.size=1)(Y:i.bytes=1)(ac:z.cells=#[z])(h1:z.oneCell'=true)(g n j m:Nat)(xs:List Value)(E:w.ownsRow base e 1 (.slice (some ⟨g,0,none⟩) n j) n xs)(y:n+m<=j)(hm:0<m)(ai:m<=1000):
 ∃w',(Builtin.append_ #[t,tn] ty #[.slice (some ⟨g,0,none⟩) n j, .int k m]).run P w= .ok (.slice (some ⟨g,0,none⟩) (n+m) j) w'/\
  w'.ownsRow base e 1 (.slice (some ⟨g,0,none⟩) (n+m) j) (n+m) (xs++List.replicate m z)/\w.grownBy w' (some g):=by
 have G:(xs++List.replicate m z).length=(n+m)*1:=by rw[Ag,E.1,Dv,Fk,CZ m]
 rcases E.2 with ⟨h,_⟩|⟨g',ag,cur,h,af,hg,ah,U,ab,J⟩
 ·simp at h
 ·simp only[Value.slice.injEq,Option.some.injEq,Addr.mk.injEq,and_true,true_and]at h;obtain⟨rfl,rfl⟩:=h;have N:n*1+(List.replicate m z).length<=cur.size:=by rw[Dv,ab];omega
  have L:=run_storeCells_at P g (n*1) e (List.replicate m z) 0 cur w hg (by simpa using N) (fun v hv=>by rw[List.eq_of_mem_replicate hv];exact h1);simp only[Nat.add_zero]at L;have hw:IntKind.i64.wrap (m:Int)=(m:Int):=qk
  have Q:¬((m:Int)<0):=nj
  have aa:¬(281474976710656<(m:Int)):=nj
  have ae:m≠0:=nj
  refine⟨_,?_,⟨G, .inr ⟨g,j,_,rfl,af,setRow_heap w g cur (cur.toList.take (n*1)++List.replicate m z++cur.toList.drop (n*1+(List.replicate m z).length)).toArray e _ hg,y,U,?_,?_⟩⟩,⟨rfl,rfl,rfl,rX,fun k _ hk=>setRow_other w g k _ (fun e=>hk (by simp[e]))⟩⟩
  ·simp[Builtin.append_,run_underlying ht,run_underlying Z,sizeOf,typeInfo,zeroValue,hi,hz,M,Y,ac,asInt,asIntOf,hw,Q,aa,ae,y,Xn,Addr.add_lit]at L ⊢;rw[L];rfl
  ·simp only[List.size_toArray,List.length_append,List.length_take,List.length_drop,Array.length_toList];omega
  ·rw[J,<-G];exact List.take_left
theorem a2b{p:Prop}(h:p:=by unfold Oper.wp execOp;simp only[ho,resolve,invoke,builtin,Sem.run_bind,Sem.run_pure,Result.andThen_ok,List.map_toArray,List.map_cons,List.map_nil,hs,hx,hr];exact hK _ _ (h w' h2 h3)):p:=h
theorem XS{j:Array Oper}{rest:List Oper}{o:Oper}{a:Act}{Q:Exit->Act->World->Prop}(y:o.guard=none)(s x:Operand)(t tn:TypeId)
 (ho:o.op= .call {callee:= .builtin .append,args:=#[s,x],argTypes:=#[t,tn] })
 (base:Nat)(e:TypeId)(i:TypeInfo)(z:Value)(k kn:IntKind)(ht:P.underlying t=some (.slice e))(htn:P.underlying tn=some (.int kn))(hi:P.info? e=some i)(hz:i.zero=some z)
 (hsize:i.size=1)(hby:i.bytes=1)(hzc:z.cells=#[z])(h1:z.oneCell'=true)(g n cap m:Nat)(xs:List Value)(hs:a.eval s= .slice (some ⟨g,0,none⟩) n cap)(hx:a.eval x= .int k m)
 (hown:w.ownsRow base e 1 (.slice (some ⟨g,0,none⟩) n cap) n xs)(hroom:n+m<=cap)(hm:0<m)(hm2:m<=1000)
 (h:∀w',w'.ownsRow base e 1 (.slice (some ⟨g,0,none⟩) (n+m) cap) (n+m) (xs++List.replicate m z)->w.grownBy w' (some g)->wpList P j Q rest (a.put o.dst (.slice (some ⟨g,0,none⟩) (n+m) cap)) w'):wpList P j Q (o :: rest) a w:=by
 refine wpList_plain y fun K hK=> ?_;obtain⟨w',hr,h2,h3⟩:=qY (P:=P) w base t tn o.type e i z k kn ht htn hi hz hsize hby hzc h1 g n cap m xs hown hroom hm hm2;exact a2b
theorem nO{y:Array Oper}{rest:List Oper}{o:Oper}{a:Act}{Q:Exit->Act->World->Prop}(z:o.guard=none)(s x:Operand)(t:TypeId)
 (ho:o.op= .call {callee:= .builtin .append,args:=#[s,x],argTypes:=#[t,t] })
 (base:Nat)(e:TypeId)(i:TypeInfo)(size:Nat)(ht:P.underlying t=some (.slice e))(hi:P.info? e=some i)(hsize:i.size=size)
 (g n cap:Nat)(xs:List Value)(hs:a.eval s= .slice (some ⟨g,0,none⟩) n cap)(hown:w.ownsRow base e size (.slice (some ⟨g,0,none⟩) n cap) n xs)
 (ad:Addr)(m c:Nat)(news:List Value)(hx:a.eval x= .slice (some ad) m c)(hl:news.length=m*size)(hnews:∀j u,news[j]? =some u->w.cell? (ad.add j)=some u)(h1:∀u∈news,u.oneCell'=true)(hroom:n+m<=cap)
 (h:∀w',w'.ownsRow base e size (.slice (some ⟨g,0,none⟩) (n+m) cap) (n+m) (xs++news)->w.grownBy w' (some g)->wpList P y Q rest (a.put o.dst (.slice (some ⟨g,0,none⟩) (n+m) cap)) w'):wpList P y Q (o :: rest) a w:=by
 refine wpList_plain z fun K hK=> ?_;obtain⟨w',hr,h2,h3⟩:=run_append_fits (P:=P) (w:=w) base t o.type e i size ht hi hsize g n cap xs hown ad m c news hl hnews h1 hroom;exact a2b
end
def BP(bs:List Bool)(n:Nat):Nat->List Nat->Bool->Nat->List Nat×Int×Nat
 |0,out,_,at_=>(out,0,at_)
 |f+1,out,short,at_=>
  if n<=out.length then(if okB out=true then(out,0,at_)else([],7,at_))
  else if bs.length<at_+4 then([],1,at_)
  else if AK bs at_ 4≠0 then BP bs n f (out++ [AK bs at_ 4]) false (at_+4)
  else if bs.length<at_+10 then([],1,at_+4)
  else if short=true∨n-out.length<=AK bs (at_+4) 6 then([],7,at_+10)
  else BP bs n f (out++List.replicate (AK bs (at_+4) 6+1) 0) (decide (AK bs (at_+4) 6+1<64)) (at_+10)
section
variable {bs:List Bool} {n f at_:Nat} {out:List Nat} {short:Bool}
theorem Qw(h:n<=out.length):BP bs n (f+1) out short at_=if okB out=true then(out,0,at_)else([],7,at_):=by rw[BP,Ab h]
theorem aS(h:¬n<=out.length)(h1:¬at_+4<=bs.length):BP bs n (f+1) out short at_=([],1,at_):=by rw[BP,Aa h,Ab nj]
theorem VX(h:¬n<=out.length)(h1:at_+4<=bs.length)(h2:AK bs at_ 4≠0):BP bs n (f+1) out short at_=BP bs n f (out++ [AK bs at_ 4]) false (at_+4):=by rw[BP,Aa h,Aa nj,Ab h2]
theorem qB(h:¬n<=out.length)(h1:at_+4<=bs.length)(h2:AK bs at_ 4=0)(h3:¬at_+4+6<=bs.length):BP bs n (f+1) out short at_=([],1,at_+4):=by rw[BP,Aa h,Aa nj,Aa nj,Ab nj]
theorem Xc(h:¬n<=out.length)(h1:at_+4+6<=bs.length)(h2:AK bs at_ 4=0)(h3:short=true∨n-out.length<=AK bs (at_+4) 6):BP bs n (f+1) out short at_=([],7,at_+4+6):=by rw[BP,Aa h,Aa nj,Aa nj,Aa nj,Ab h3]
theorem VM(h:¬n<=out.length)(h1:at_+4+6<=bs.length)(h2:AK bs at_ 4=0)(h3:¬(short=true∨n-out.length<=AK bs (at_+4) 6)):
 BP bs n (f+1) out short at_=BP bs n f (out++List.replicate (AK bs (at_+4) 6+1) 0) (decide (AK bs (at_+4) 6+1<64)) (at_+4+6):=by
 rw[BP,Aa h,Aa nj,Aa nj,Aa nj,Aa h3]
end
theorem G8{bs:List Bool}{at_:Nat}(h:at_+m<=bs.length):Jp bs at_ m=AK bs at_ m/\Jn bs at_ m=0/\Jl bs at_ m=at_+m:=by unfold Jp Jn Jl;rw[Ab h,Ab h,Ab h];exact⟨rfl,rfl,rfl⟩
theorem G7{bs:List Bool}{at_:Nat}(h:¬at_+m<=bs.length):Jp bs at_ m=0/\Jn bs at_ m=1/\Jl bs at_ m=at_:=by unfold Jp Jn Jl;rw[Aa h,Aa h,Aa h];exact⟨rfl,rfl,rfl⟩
theorem rC(m:Nat):List.replicate m (Value.int .u8 0)=dZ .u8 (List.replicate m 0):=su
theorem Tg(k:IntKind)(a b:List Nat):dZ k (a++b)=dZ k a++dZ k b:=su
theorem Af2(n:Nat)(hn:n<=300)(w:World):(Instr.makeSlice 28 (.int .i64 0) (.int .i64 (n:Int))).run prog w=
 .ok (.slice (some ⟨w,0,none⟩) 0 n) (w.alloc (.cells (madeCells #[.int .u8 0] n) 5)):=by
 obtain⟨i0,hi,y,j,i⟩:=info_parts Dh;have h:=run_make (P:=prog) w 28 5 i0 (.int .u8 0) underlying28 hi y .i64 .i64 0 (n:Int) nj nj ri nj;exact a1j
def VZ(R:List Nat×Int×Nat)(lo g:Nat)(bs:List Bool)(w:World)(e:Ending)(w':World):Prop:=
 ∃v,e= .returned (.tuple #[v,R.2.1])/\w'.ownsRow w 5 1 v R.1.length (dZ .u8 R.1)/\Rd w' lo g bs R.2.2/\Kept (fun x=>x<w.heap.size/\x≠g) w w'
theorem a0w{p:Prop}(h:p:=by go_wp2_with fail;refine C1.out.mono ?_;rintro e w1 ⟨rfl,Q,y⟩;go_wp2_with fail;refine(C2.out _ Q).mono ?_;rintro e w2 ⟨rfl,ae,E⟩;go_wp2_with fail;go_ret2;rw[<-HG.out];exact⟨_,rfl,AI _ _ _ _,ae,Y.out.trans (Kept.trans ⟨y.os,y.tape,y.output,y.size,fun b h=>y.block b h.2⟩ ⟨E.os,E.tape,E.output,E.size,fun b h=>E.block b h.2⟩)⟩):p:=h
set_option maxHeartbeats 2000000 in
set_option maxRecDepth 100000 in
theorem mC(w:World)(lo g:Nat)(bs:List Bool)(am n:Nat)(bg:0<n)(hn:n<=300)(al:lo<=g)(hR:Rd w lo g bs am):
 Calls prog 352 #[.pointer (some ⟨g,0,none⟩), .int .i64 (n:Nat)] w (VZ (BP bs n (n+1) [] false am) lo g bs w):=by
 obtain⟨j0,az,a9,ax,a8⟩:=info_parts Dh;have be:=Af2 n hn;have bc:=hR.lt;have HR:=hid hR;clear hR;go_enter func352,ntmps352;go_wp2_with fail;have aj:(w.alloc (.cells (madeCells #[.int .u8 0] n) 5)).ownsRow w 5 1 (.slice (some ⟨w,0,none⟩) 0 n) 0 []:=World.ownsRow_made w _ n (Ak _) sS (by simp[madeCells]);have af:Below w w (w.alloc (.cells (madeCells #[.int .u8 0] n) 5)):=aZ (Ae _ _);generalize w.alloc (.cells (madeCells #[.int .u8 0] n) 5)=w0 at *;have a1:Hid (Rd w0 lo g bs am):=HR.out.keep (fun b _ h=>af.block b nj) al;have a4:=hid (Kept.of_below (K:=fun x=>x<w.heap.size/\x≠g) af (fun _ h=>h.1));have a3:=hid aj;clear aj af HR
 go_loopw [6,7] (fun u s wr=>∃ (L at_:Nat) (out:List Nat) (sh:Bool),L<=n/\u= .slice (some ⟨w,0,none⟩) L n/\s= .bool sh/\Hid (wr.ownsRow w 5 1 (.slice (some ⟨w,0,none⟩) L n) L (dZ .u8 out))/\Hid (out.length=L)/\
  Hid (∃f,n+1<=f+L/\BP bs n f out sh at_=BP bs n (n+1) [] false am)/\Hid (Rd wr lo g bs at_)/\Hid (Kept (fun x=>x<w.heap.size/\x≠g) w wr)) (fun u _ _=>match u with| .slice _ l _=>n-l|_=>0)
 case atStart=>exact⟨0,am,[],false,nj,rfl,rfl,a3.out,rfl,⟨n+1,nj,rfl⟩,a1.out,a4.out⟩
 case round=>
  clear a1 a4 a3;obtain⟨L,at_,out,sh,hL,rfl,rfl,M,U,z,ai,Y⟩:=hrel;obtain⟨f,hf,z⟩:=z.out;obtain⟨f,rfl⟩:∃f',f=f'+1:=⟨f-1,nj⟩;have HF:=hid hf;by_cases bi:L<n
  ·have C1:=Kz wr lo g bs at_ 4 nj ai.out;have aa:¬n<=out.length:=(by rw[U.out];omega);by_cases J:at_+4<=bs.length
   ·rw[(G8 J).1,(G8 J).2.1,(G8 J).2.2]at C1;have aq:=Hq bs at_ 4;obtain⟨l,hl⟩:=ii (AK bs at_ 4);rw[<-hl]at C1 aq;have C1:=hid C1;by_cases au:l=0
    ·subst au;have a6:=Y.out.size;have C2:=fun wx (h:Rd wx lo g bs (at_+4))=>Kz wx lo g bs (at_+4) 6 nj h;by_cases G:at_+4+6<=bs.length
     ·rw[(G8 G).1,(G8 G).2.1,(G8 G).2.2]at C2;have ay:=Hq bs (at_+4) 6;have ac:=fun h=>Xc (f:=f) (short:=sh) aa G hl.symm h;have N:=fun h=>VM (f:=f) (short:=sh) aa G hl.symm h;obtain⟨k,hk⟩:=ii (AK bs (at_+4) 6);rw[<-hk]at C2 ay ac N;rw[U.out]at ac N;have C2:=hid C2;by_cases hb:sh=true∨n-L<=k
      ·rw[ac hb]at z;have HG:=hid z
       have an:sh=true∨(n:Int)-(L:Int)<=(k:Int):=by
        rcases hb with h|h
        ·exact .inl h
        ·exact .inr nj
       clear z aa J hf hl ac N hk hb G;cases sh
       ·have ba:(n:Int)-(L:Int)<=(k:Int):=by
         rcases an with h|h
         ·cases h
         ·exact h
        clear an;exact a0w
       ·clear an;exact a0w
      ·rw[N hb]at z;have HG:=hid z;obtain rfl:sh=false:=by cases sh<;>simp_all
       have an:¬(n:Int)-(L:Int)<=(k:Int):=(by intro h;exact hb (.inr nj));have ak:L+(k+1)<=n:=nj;clear z aa J hf hl ac N hk hb G;go_wp2_with fail;refine C1.out.mono ?_;rintro e w1 ⟨rfl,Q,y⟩;go_wp2_with fail;refine(C2.out _ Q).mono ?_;rintro e w2 ⟨rfl,ae,E⟩;have Z:Kept (fun x=>x≠g) wr w2:=y.trans E;have av:=eZ M.out (fun x hx=>Z.block x (by have:=(Aj M.out x hx).1;show x≠g;omega));have aw:Hid (Kept (fun x=>x<w.heap.size/\x≠g) w w2):=Y.out.trans ⟨Z.os,Z.tape,Z.output,Z.size,fun b h=>Z.block b h.2⟩;have bd:=aw.out.size;have a5:=hid ae;clear y E Z Q ae C1 C2 M Y ai;have ek:((k+1:Nat):Int)=(k:Int)+1:=nj;go_wp2_with(at_builtin;refine XS rfl (.tmp 57) (.tmp 59) 28 41 rfl w 5 j0 (.int .u8 0) .u64 .u64 underlying28 underlying41 az a9 ax a8 rfl rfl w.heap.size L n (k+1) _ nm (by rw[ek];rfl) av ak nj nj ?_;intro w3 ab ah);go_roundw
       case measure=>go_light;show n-(L+(k+1))<n-L;omega
       case rel=>
        go_light;rw[rC,<-Tg]at ab;refine⟨L+(k+1),at_+4+6,out++List.replicate (k+1) 0,decide (k+1<64),ak,rfl,by congr 1;simp;omega,ab,?_,⟨f,lq,HG.out⟩,?_,?_⟩
        ·show(out++List.replicate (k+1) 0).length=_;rw[Ag,Dv,U.out]
        ·exact a5.out.keep (fun b _ h=>ah.block b nj (by intro e;injection e with e;omega)) al
        ·exact aw.out.grown ah (fun b h=>by have:=h.1;omega) (fun b hb h=>by injection hb with hb;have:=h.1;omega)
     ·rw[(G7 G).1,(G7 G).2.1,(G7 G).2.2]at C2;rw[qB aa J hl.symm G]at z;have C2:=hid C2;have HG:=hid z;clear z aa J hf hl G;exact a0w
    ·have bb:l<16:=nj;rw[VX aa J (by rw[<-hl];exact au),<-hl]at z;have HG:=hid z;have bh:0<l:=nj;clear z aa J hf hl au aq;go_wp2_with fail;refine C1.out.mono ?_;rintro e w1 ⟨rfl,Q,y⟩;have ar:=eZ M.out (fun x hx=>y.block x (by have:=(Aj M.out x hx).1;show x≠g;omega));have a0:Hid (Kept (fun x=>x<w.heap.size/\x≠g) w w1):=Y.out.trans ⟨y.os,y.tape,y.output,y.size,fun b h=>y.block b h.2⟩;have bf:=a0.out.size;have a7:=hid Q;clear y Q C1 M Y ai;go_wp2_with(at_builtin;refine nO rfl (.tmp 34) (.tmp 37) 28 rfl w 5 j0 1 underlying28 az ax w L n _ nm (ar.alloc _) ⟨w1,0,none⟩ 1 1 [.int .u8 (l:Nat)] nm nm (World.news_of_block (cs:=#[.int .u8 (l:Nat)]) (t:=5) (fr:=(0,0)) (heap_alloc_new w1 _)) mu nj ?_;intro w3 ab ah);go_roundw
     case measure=>go_light;show n-(L+1)<n-L;omega
     case rel=>
      go_light;refine⟨L+1,at_+4,out++ [l],false,nj,rfl,rfl,?_,?_,⟨f,lq,HG.out⟩,?_,?_⟩
      ·show World.ownsRow _ _ _ _ _ _ _;rw[Tg];exact ab
      ·show(out++ [l]).length=_;rw[Ag,U.out];rfl
      ·exact a7.out.keep (fun b _ h=>(ah.block b sj (by intro e;injection e with e;omega)).trans (EA w1 _ b nj)) al
      ·exact(a0.out.alloc (fun b h=>by have:=h.1;omega) _).grown ah (fun b h=>by have:=h.1;simp;omega) (fun b hb h=>by injection hb with hb;have:=h.1;omega)
   ·rw[(G7 J).1,(G7 J).2.1,(G7 J).2.2]at C1;rw[aS aa J]at z;have C1:=hid C1;have HG:=hid z;clear z aa J hf;go_wp2_with fail;refine C1.out.mono ?_;rintro e w1 ⟨rfl,Q,y⟩;go_wp2_with fail;go_ret2;rw[<-HG.out];exact⟨_,rfl,AI _ _ _ _,Q,Y.out.trans ⟨y.os,y.tape,y.output,y.size,fun b h=>y.block b h.2⟩⟩
  ·obtain rfl:L=n:=by omega
   rw[Qw (by rw[U.out];omega)]at z;have N:Row wr wr (some ⟨w,0,none⟩) L 1 (jZ .u8 out):=Row.of_own M.out rfl (fun i j hi hj=>by have e0:j=0:=nj;subst e0;exact Ab2 (by rw[U.out];exact hi));have C3:=O2 wr (some ⟨w,0,none⟩) L L out U.out nj N;have a6:=Y.out.size;unfold Ho at C3;cases hok:okB out
   ·rw[hok]at C3 z;rw[Aa rX]at z;have C3:=hid C3;have HG:=hid z;clear z hok N hf;go_wp2_with fail;refine C3.out.mono ?_;rintro e w1 ⟨rfl,ag⟩;go_wp2_with fail;go_ret2;rw[<-HG.out];exact⟨_,rfl,AI _ _ _ _,ai.out.keep (fun b _ h=>ag.block b nj) al,Y.out.trans (Kept.of_below ag (fun b h=>by have:=h.1;omega))⟩
   ·rw[hok]at C3 z;rw[Ab rfl]at z;have C3:=hid C3;have HG:=hid z;clear z hok N hf;go_wp2_with fail;refine C3.out.mono ?_;rintro e w1 ⟨rfl,ag⟩;go_wp2_with fail;go_ret2;rw[<-HG.out];refine⟨_,rfl,?_,ai.out.keep (fun b _ h=>ag.block b nj) al,Y.out.trans (Kept.of_below ag (fun b h=>by have:=h.1;omega))⟩;show World.ownsRow _ _ _ _ _ out.length _;rw[U.out];exact eZ M.out (fun x hx=>ag.block x (Aj M.out x hx).2)
end
variable{lf ls:List Nat}{f:Nat}{M:Int}
open Go.RowKit
theorem qO{w:World}{base c n:Nat}{A:Option Addr}(ho:w.ownsRow base 5 1 (.slice A n c) ls.length (dZ .u8 ls)):ls.length=n/\Row w w A n 1 (jZ .u8 ls)/\(A=none->n=0):=by
 have hn:ls.length=n:=by
  exact a2u
 rw[hn]at ho;exact⟨hn,Row.of_own ho rfl (fun i j hi hj=>by have e0:j=0:=nj;subst e0;exact Ab2 nj),fun h=>((Et ho).1 h).1⟩
theorem JW{bs:List Bool}{n:Nat}:∀ (f:Nat) (out:List Nat) (sh:Bool) (at_:Nat),out.length<=n->n+1<=f+out.length->(BP bs n f out sh at_).2.1=0->okB (BP bs n f out sh at_).1=true/\(BP bs n f out sh at_).1.length=n
 |0,out,sh,at_,h1,h2,_=>nj
 |f+1,out,sh,at_,h1,h2,h3=>by
  rw[BP]at h3 ⊢;split at h3
  ·rename_i h;rw[Ab h]at ⊢;split at h3
   ·rename_i h4;rw[Ab h4];exact⟨h4,sa⟩
   ·cases h3
  ·rename_i h;rw[Aa h]at ⊢;split at h3
   ·cases h3
   ·rename_i h5;rw[Aa h5];split at h3
    ·rename_i h6;rw[Ab h6];exact JW f _ _ _ (by rw[Ag];simp;omega) (by rw[Ag];simp;omega) h3
    ·rename_i h6;rw[Aa h6];split at h3
     ·cases h3
     ·rename_i h7;rw[Aa h7];split at h3
      ·cases h3
      ·rename_i h8;rw[Aa h8];have h9:¬n-out.length<=AK bs (at_+4) 6:=fun e=>h8 (.inr e);exact JW f _ _ _ oy oy h3
def Nh(R:List Nat×Int×Nat)(lo g:Nat)(bs:List Bool)(w:World)(e:Ending)(w':World):Prop:=
 ((R.2.1≠0/\e= .returned (.tuple #[.pointer none, .int .i64 R.2.1]))∨(R.2.1=0/\∃gc,e= .returned (.tuple #[.pointer (some ⟨gc,0,none⟩), .int .i64 0])/\Coder w' w.heap.size w'.heap.size gc R.1))/\
   Rd w' lo g bs R.2.2/\Kept (fun x=>x<w.heap.size/\x≠g) w w'
theorem WI(w:World)(gr lo g:Nat)(bs:List Bool)(j n:Nat)(Y:0<n)(hn:n<=300)(N:lo<=g)(ac:w.cell? ⟨gr,0,none⟩=some (.pointer (some ⟨g,0,none⟩)))(hR:Rd w lo g bs j):
 Calls prog 330 #[.pointer (some ⟨gr,0,none⟩), .int .i64 (n:Nat)] w (Nh (BP bs n (n+1) [] false j) lo g bs w):=by
 have C1:=mC w lo g bs j n Y hn N hR;have J:=JW (bs:=bs) (n:=n) (n+1) [] false j rX rX;unfold VZ at C1;generalize BP bs n (n+1) [] false j=R at *;obtain⟨rl,re,ra⟩:=R;simp only at C1 J;have ab:=hR.lt;have C1:=hid C1;have L:=hid J;clear J hR;unfold Nh;simp only;by_cases he:re=0
 ·subst he;obtain⟨E,G⟩:=L.out rfl;have Z:=hid E;have ae:=hid G;clear E G L;go_enter func330,ntmps330;go_wp2_with fail;refine C1.out.mono ?_;rintro e w1 ⟨v,rfl,i,z,y⟩;have z1:=y.size;obtain⟨A1,c1,rfl⟩:=bZ i;have q1:=qO i;have Q:=Et i;have C2:=hid (Ab6 w1 A1 _ c1 rl rfl Z.out (fun h=>by have:=Q.1 h;exact this) q1.2.1);have aa:=hid z;have U:=hid y;clear q1 Q i z y C1;generalize rl.length=nl at *;go_wp2_with fail;refine C2.out.mono ?_;rintro e w2 ⟨gc,rfl,hC,M⟩;go_wp2_with fail;go_ret2;exact⟨.inr ⟨trivial,gc,rfl,hC.mono z1 (Ak _)⟩,aa.out.keep (fun b _ h=>M.block b nj) N,U.out.trans (Kept.of_below M (fun b h=>by have:=h.1;omega))⟩
 ·have hb:(re != 0)=true:=bne_iff_ne.mpr he;have HE:=hid he;clear he L;go_enter func330,ntmps330;go_wp2_with fail;refine C1.out.mono ?_;rintro e w1 ⟨v,rfl,i,z,y⟩;obtain⟨A1,c1,rfl⟩:=bZ i;clear i;go_wp2_with fail;go_ret2;exact⟨.inl ⟨HE.out,rfl⟩,z,y⟩
def EB(lf:List Nat)(bs:List Bool)(v at_:Nat):Tk×Int×Nat:=
 if ¬at_+(v-257)<=bs.length then(⟨0,0,0⟩,1,at_)else
 let G:=EP lf (head bs (at_+(v-257))) (there bs (at_+(v-257)))
 if G.2.1≠0 then(⟨0,0,0⟩,G.2.1,at_+(v-257)+G.2.2)else
 if ¬at_+(v-257)+G.2.2+G.1.toNat<=bs.length then(⟨0,0,0⟩,1,at_+(v-257)+G.2.2)else
 (Es ⟨v,(AK bs at_ (v-257):Nat),G.1,(AK bs (at_+(v-257)+G.2.2) G.1.toNat:Nat)⟩,EU ⟨v,(AK bs at_ (v-257):Nat),G.1,(AK bs (at_+(v-257)+G.2.2) G.1.toNat:Nat)⟩,at_+(v-257)+G.2.2+G.1.toNat)
theorem NJ(ls:List Nat)(X th:Nat):(EP ls X th).2.1=0->∃s:Nat,(EP ls X th).1=s/\s<ls.length:=by
 intro h;unfold EP at h ⊢;cases hf:(List.range ls.length).find? (hit ls X th)with
 |some s=>have:=List.mem_of_find?_eq_some hf;exact⟨s,rfl,Gl.1 this⟩
 |none=>rw[hf]at h;simp only at h;split at h<;>cases h
theorem IZ:(prog.info? 280).map (·.size)=some 3:=my
def Wx(R:Tk×Int×Nat)(lo g:Nat)(bs:List Bool)(w:World)(e:Ending)(w':World):Prop:=
 e= .returned (.tuple #[R.1.val,R.2.1])/\Rd w' lo g bs R.2.2/\Kept (fun x=>x<w.heap.size/\x≠g) w w'
theorem lJ(w:World)(gr lo g ak cB gf:Nat)(lf:List Nat)(bs:List Bool)(v at_:Nat)(cd:257<=v)(bO:v<=264)(ae:lo<=g)(be:w.cell? ⟨gr,0,none⟩=some (.pointer (some ⟨g,0,none⟩)))(bf:w.cell? ⟨gr,2,none⟩=some (.pointer (some ⟨gf,0,none⟩)))(a8:gr<w.heap.size)(al:gr≠g)
 (a0:okB lf=true)(bl:lf.length<=12)(hC:Coder w ak cB gf lf)(bS:cB<=w.heap.size)(a6:∀b,ak<=b->b<cB->b≠g)(hR:Rd w lo g bs at_):
 Calls prog 354 #[.pointer (some ⟨gr,0,none⟩), .int .i64 (v:Nat)] w (Wx (EB lf bs v at_) lo g bs w):=by
 have bq:=hR.lt;have HR:=hid hR;have HC:=hid hC;have bi:=hid a0;have bh:=hid a6;obtain⟨m,hm⟩:=ii (v-257);have ax:(v:Int)-257=(m:Int):=nj
 have s1:IntKind.i64.wrap ((v:Int)-257)=(m:Int):=by rw[Ar _ nj,ax]
 have bp:m<=7:=nj
 have HM:=hid hm;have bx:=hid ax;clear hR hC a0 hm ax a6;go_enter func354,ntmps354;go_wp2_with fail;have Q:Below w w (w.alloc (.cells #[.int .u8 0,ij,ij] 280)):=aZ (Ae _ _);have ab:Blk (w.alloc (.cells #[.int .u8 0,ij,ij] 280)) w 280 #[.int .u8 0,ij,ij]:=Blk.made _ _ _;generalize w.alloc (.cells #[.int .u8 0,ij,ij] 280)=w0 at *;have ay:Hid (Rd w0 lo g bs at_):=HR.out.keep (fun b _ h=>Q.block b nj) ae;have C1:=Kz w0 lo g bs at_ m nj ay.out;by_cases U:at_+m<=bs.length
 ·rw[(G8 U).1,(G8 U).2.1,(G8 U).2.2]at C1;have C1:=hid C1;have aw:=hid U;have a7:=Hq bs at_ m;have bc:AK bs at_ m<256:=Ek a7 (by have:2 ^ m<=2 ^ 8:=Cm nj nj;omega);obtain⟨x,hx⟩:=ii (AK bs at_ m);rw[<-hx]at C1 bc;have HX:=hid hx;clear hx a7 U;refine C1.out.mono ?_;rintro e w1 ⟨rfl,ai,L⟩;have Z:Kept (fun x=>x<w.heap.size/\x≠g) w w1:=(Kept.of_below Q (fun _ h=>h.1)).trans ⟨L.os,L.tape,L.output,L.size,fun b h=>L.block b h.2⟩;have z:Blk w1 w _ _:=(L.block w rW).trans ab;have d0:w1.cell? ⟨gr,0,none⟩=some (.pointer (some ⟨g,0,none⟩)):=(World.cell?_of_block (a:=⟨gr,0,none⟩) (Z.block gr ⟨a8,al⟩)).trans be;have d2:w1.cell? ⟨gr,2,none⟩=some (.pointer (some ⟨gf,0,none⟩)):=(World.cell?_of_block (a:=⟨gr,2,none⟩) (Z.block gr ⟨a8,al⟩)).trans bf;have a5:Coder w1 ak cB gf lf:=HC.out.keep (fun b h1 h2=>Z.block b ⟨nj,bh.out b h1 h2⟩);have C2:=SA w1.drew ak cB gf lo g lf bs (at_+m) bi.out a5.drew ai.drew;unfold MH at C2;have ac:=NJ lf (head bs (at_+m)) (there bs (at_+m));obtain⟨G,hG⟩:=ii (EP lf (head bs (at_+m)) (there bs (at_+m)));rw[<-hG]at C2 ac;obtain⟨gv,ge,ga⟩:=G;simp only at C2 ac;have C2:=hid C2;have av:=hid hG;have aa:=hid z;have aq:=hid Z;have au:=hid ac;clear hG a5 ai L Z z ab ac C1 ay Q HR HC;go_upto_region 4 with fail;go_region_held3 (fun wx=>wx.cell? ⟨gr,0,none⟩=some (.pointer (some ⟨g,0,none⟩))/\wx.cell? ⟨gr,2,none⟩=some (.pointer (some ⟨gf,0,none⟩))) (first|exact⟨d0,d2⟩|exact⟨k0,k2⟩) (first|(go_at_call 353;(with_reducible refine C2.out.mono ?_);rintro e w2 ⟨rfl,ba,Y⟩;have k0:w2.cell? ⟨gr,0,none⟩=some (.pointer (some ⟨g,0,none⟩)):=(World.cell?_of_block (a:=⟨gr,0,none⟩) (Y.block gr al)).trans d0;have k2:w2.cell? ⟨gr,2,none⟩=some (.pointer (some ⟨gf,0,none⟩)):=(World.cell?_of_block (a:=⟨gr,2,none⟩) (Y.block gr al)).trans d2));have bb:Kept (fun x=>x<w.heap.size/\x≠g) w w2:=aq.out.trans ((Kept.refl _ w1).drew.trans ⟨Y.os,Y.tape,Y.output,Y.size,fun b h=>Y.block b h.2⟩);have ar:Blk w2 w _ _:=(Y.block w rW).trans aa.out.drew;have aj:=hid ba;have ag:=hid bb;have j:=hid ar;clear ba Y bb ar aa aq C2 d0 d2;by_cases he:ge=0
  ·subst he;obtain⟨s,rfl,hs⟩:=au.out rfl;have a9:s<=11:=nj;have C3:=Kz w2 lo g bs (at_+m+ga) s nj aj.out;by_cases J:at_+m+ga+s<=bs.length
   ·rw[(G8 J).1,(G8 J).2.1,(G8 J).2.2]at C3;have az:=Hq bs (at_+m+ga) s;have bm:AK bs (at_+m+ga) s<4096:=Ek az (by have:2 ^ s<=2 ^ 11:=Cm nj a9;omega);have HG:Hid (EB lf bs v at_=(Es ⟨v,(x:Nat),(s:Nat),(AK bs (at_+m+ga) s:Nat)⟩,EU ⟨v,(x:Nat),(s:Nat),(AK bs (at_+m+ga) s:Nat)⟩,at_+m+ga+s)):=(by show _=_;unfold EB;rw[<-HM.out,Aa (fun h=>h aw.out),<-av.out];simp only[ne_eq,not_true_eq_false,if_false,Int.toNat_natCast];rw[Aa (fun h=>h J),HX.out]);generalize AK bs (at_+m+ga) s=y at *;have C3:=hid C3;have C4:=hid (fun wx=>aL ⟨(v:Int),(x:Int),(s:Int),(y:Int)⟩ wx sa sa);generalize Es ⟨(v:Int),(x:Int),(s:Int),(y:Int)⟩=T at *;generalize EU ⟨(v:Int),(x:Int),(s:Int),(y:Int)⟩=E at *;obtain⟨ta,tb,tc⟩:=T;unfold Tk.val Pc.val at C4;simp only at C4;clear az J;go_wp2_with fail;refine C3.out.mono ?_;rintro e w3 ⟨rfl,af,M⟩;have am:=hid af;have ah:Hid (Kept (fun x=>x<w.heap.size/\x≠g) w w3):=ag.out.trans ⟨M.os,M.tape,M.output,M.size,fun b h=>M.block b h.2⟩;have i:Hid (Blk w3 w 280 #[.int .u8 0,ij,ij]):=(M.block w rW).trans j.out;have ca:=ah.out.size;have bk:=i.out.lt;clear af M C3 aj ag j;go_wp2_with fail;refine(C4.out _).mono ?_;rintro e w4 ⟨rfl,an⟩;have bd:Hid (Rd w4 lo g bs (at_+m+ga+s)):=am.out.keep (fun b _ h=>an.block b nj) ae;have bj:Hid (Kept (fun x=>x<w.heap.size/\x≠g) w w4):=ah.out.trans (Kept.of_below an (fun b h=>by have:=h.1;omega));have N:Hid (Blk w4 w 280 #[.int .u8 0,ij,ij]):=i.out.step an;have a4:=N.out.ia 0;have b4:=N.out.ia 1;have c4:=N.out.ia 2;have b5:=N.out.frozen 0;have bu:=N.out.frozen 1;have bt:=N.out.frozen 2;clear an C4 am ah i;go_wp2_with fail;exact Bx (results_cell_tmp rfl _ _ w.heap.size _ #[.int .u8 ta,tb,tc] _ (.int .i64 E) rfl rfl (((N.out.set 0 (.int .u8 ta)).set 1 (.int .i64 tb)).set 2 (.int .i64 tc)) underlying280 rfl IZ) rfl ⟨px,by rw[HG.out];exact bd.out.keep (fun b _ h=>((AW _ _ _ b rU).trans (AW _ _ _ b rU)).trans (AW _ _ _ b rU)) ae,Kept.set (p:=⟨w,2,none⟩) (Kept.set (p:=⟨w,1,none⟩) (Kept.set (p:=⟨w,0,none⟩) bj.out (fun h=>absurd h.1 (CM _)) _) (fun h=>absurd h.1 (CM _)) _) (fun h=>absurd h.1 (CM _)) _⟩
   ·rw[(G7 J).1,(G7 J).2.1,(G7 J).2.2]at C3;have C3:=hid C3;have HG:Hid (EB lf bs v at_=(⟨0,0,0⟩,1,at_+m+ga)):=(by show _=_;unfold EB;rw[<-HM.out,Aa (fun h=>h aw.out),<-av.out];simp only[ne_eq,not_true_eq_false,if_false,Int.toNat_natCast];rw[Ab J]);clear J;go_wp2_with fail;refine C3.out.mono ?_;rintro e w3 ⟨rfl,af,M⟩;have am:=hid af;have ah:Hid (Kept (fun x=>x<w.heap.size/\x≠g) w w3):=ag.out.trans ⟨M.os,M.tape,M.output,M.size,fun b h=>M.block b h.2⟩;have i:Hid (Blk w3 w 280 #[.int .u8 0,ij,ij]):=(M.block w rW).trans j.out;have a3:=i.out.ia 0;have b3:=i.out.ia 1;have c3:=i.out.ia 2;have b9:=i.out.frozen 0;have bN:=i.out.frozen 1;have b8:=i.out.frozen 2;clear af M C3 aj ag j;go_wp2_with fail;exact Bx (results_cell_tmp rfl _ _ w.heap.size _ #[.int .u8 0,ij,ij] _ (.int .i64 1) rfl rfl (((i.out.set 0 (.int .u8 0)).set 1 (.int .i64 0)).set 2 (.int .i64 0)) underlying280 rfl IZ) rfl ⟨px,by rw[HG.out];exact am.out.keep (fun b _ h=>((AW _ _ _ b rU).trans (AW _ _ _ b rU)).trans (AW _ _ _ b rU)) ae,Kept.set (p:=⟨w,2,none⟩) (Kept.set (p:=⟨w,1,none⟩) (Kept.set (p:=⟨w,0,none⟩) ah.out (fun h=>absurd h.1 (CM _)) _) (fun h=>absurd h.1 (CM _)) _) (fun h=>absurd h.1 (CM _)) _⟩
  ·have hb:(ge != 0)=true:=bne_iff_ne.mpr he;have HG:Hid (EB lf bs v at_=(⟨0,0,0⟩,ge,at_+m+ga)):=(by show _=_;unfold EB;rw[<-HM.out,Aa (fun h=>h aw.out),<-av.out];simp only;rw[Ab he]);clear he au;have a2:=j.out.ia 0;have b2:=j.out.ia 1;have c2:=j.out.ia 2;have bC:=j.out.frozen 0;have b6:=j.out.frozen 1;have b7:=j.out.frozen 2;go_wp2_with fail;exact Bx (results_cell_tmp rfl _ _ w.heap.size _ #[.int .u8 0,ij,ij] _ (.int .i64 ge) rfl rfl (((j.out.set 0 (.int .u8 0)).set 1 (.int .i64 0)).set 2 (.int .i64 0)) underlying280 rfl IZ) rfl ⟨px,by rw[HG.out];exact aj.out.keep (fun b _ h=>((AW _ _ _ b rU).trans (AW _ _ _ b rU)).trans (AW _ _ _ b rU)) ae,Kept.set (p:=⟨w,2,none⟩) (Kept.set (p:=⟨w,1,none⟩) (Kept.set (p:=⟨w,0,none⟩) ag.out (fun h=>absurd h.1 (CM _)) _) (fun h=>absurd h.1 (CM _)) _) (fun h=>absurd h.1 (CM _)) _⟩
 ·rw[(G7 U).1,(G7 U).2.1,(G7 U).2.2]at C1;have C1:=hid C1;have HG:Hid (EB lf bs v at_=(⟨0,0,0⟩,1,at_)):=by show _=_;unfold EB;rw[<-HM.out,Ab U]
  clear U;refine C1.out.mono ?_;rintro e w1 ⟨rfl,ai,L⟩;have Z:Kept (fun x=>x<w.heap.size/\x≠g) w w1:=(Kept.of_below Q (fun _ h=>h.1)).trans ⟨L.os,L.tape,L.output,L.size,fun b h=>L.block b h.2⟩;have z:Blk w1 w _ _:=(L.block w rW).trans ab;have a1:=z.ia 0;have b1:=z.ia 1;have c1:=z.ia 2;have cc:=z.frozen 0;have bn:=z.frozen 1;have b0:=z.frozen 2;have bg:=hid ai;have aq:=hid Z;have aa:=hid z;clear ai L Z z ab C1 ay Q HR HC;go_wp2_with fail;exact Bx (results_cell_tmp rfl _ _ w.heap.size _ #[.int .u8 0,ij,ij] _ (.int .i64 1) rfl rfl (((aa.out.set 0 (.int .u8 0)).set 1 (.int .i64 0)).set 2 (.int .i64 0)) underlying280 rfl IZ) rfl ⟨px,by rw[HG.out];exact bg.out.keep (fun b _ h=>((AW _ _ _ b rU).trans (AW _ _ _ b rU)).trans (AW _ _ _ b rU)) ae,Kept.set (p:=⟨w,2,none⟩) (Kept.set (p:=⟨w,1,none⟩) (Kept.set (p:=⟨w,0,none⟩) aq.out (fun h=>absurd h.1 (CM _)) _) (fun h=>absurd h.1 (CM _)) _) (fun h=>absurd h.1 (CM _)) _⟩
theorem LW{P:Program}{fn:Func}{p q r:Tmp}{ty:TypeId}(h:fn.results=#[.cell p ty, .tmp q, .tmp r])(i:Array Value)(w:World)(g:Nat)(t:TypeId)(cs:Array Value)(d:TypeDesc)(u v:Value)
 (hp:i.getD p undef= .pointer (some ⟨g,0,none⟩))(hq:i.getD q undef=u)(hr:i.getD r undef=v)(hg:Blk w g t cs)
 (hu:P.underlying ty=some d)(hd:(match d with| .struct _| .array _ _=>true|_=>false)=true)(hi:(P.info? ty).map (·.size)=some cs.size):
 (results fn i).run P w= .ok (.tuple #[.agg cs,u,v]) w:=by
 have j:i[p]?.getD undef= .pointer (some ⟨g,0,none⟩):=by simpa using hp
 have z:i[q]?.getD undef=u:=by simpa using hq
 have y:i[r]?.getD undef=v:=by simpa using hr
 simp[results,h,j,z,y,asAddr,run_loadVar_row w g t ty cs (0,0) d hg hu hd hi]
def CJ(ls lf:List Nat)(bs:List Bool)(at_:Nat):Tk×Bool×Int×Nat:=
 let G:=EP ls (head bs at_) (there bs at_)
 if G.2.1≠0 then(⟨0,0,0⟩,false,G.2.1,at_+G.2.2)else
 if G.1=256 then(⟨0,0,0⟩,false,0,at_+G.2.2)else
 if G.1<256 then(⟨G.1,0,0⟩,true,0,at_+G.2.2)else
 let M:=EB lf bs G.1.toNat (at_+G.2.2)
 (M.1,decide (M.2.1=0),M.2.1,M.2.2)
def Re(R:Tk×Bool×Int×Nat)(lo g:Nat)(bs:List Bool)(w:World)(e:Ending)(w':World):Prop:=
 e= .returned (.tuple #[R.1.val,R.2.1,R.2.2.1])/\Rd w' lo g bs R.2.2.2/\Kept (fun x=>x<w.heap.size/\x≠g) w w'
theorem kM(w:World)(gr lo g J cB gs gf:Nat)(ls lf:List Nat)(bs:List Bool)(at_:Nat)(N:lo<=g)(a7:w.cell? ⟨gr,0,none⟩=some (.pointer (some ⟨g,0,none⟩)))(bf:w.cell? ⟨gr,1,none⟩=some (.pointer (some ⟨gs,0,none⟩)))(a8:w.cell? ⟨gr,2,none⟩=some (.pointer (some ⟨gf,0,none⟩)))(ak:gr<w.heap.size)(af:gr≠g)
 (ag:okB ls=true)(bn:ls.length<=265)(ax:Coder w J cB gs ls)(an:okB lf=true)(a6:lf.length<=12)(hC:Coder w J cB gf lf)(bb:cB<=w.heap.size)(ar:∀b,J<=b->b<cB->b≠g)(hR:Rd w lo g bs at_):
 Calls prog 331 #[.pointer (some ⟨gr,0,none⟩)] w (Re (CJ ls lf bs at_) lo g bs w):=by
 have bg:=hR.lt;have HR:=hid hR;have HC:=hid hC;have a9:=hid ax;have be:=hid an;have al:=hid ag;have a0:=hid ar;clear hR hC an ar ax ag;go_enter func331,ntmps331;go_upto_region 1 with fail;have i:Below w w (w.alloc (.cells #[.int .u8 0,ij,ij] 280)):=aZ (Ae _ _);have ai:Blk (w.alloc (.cells #[.int .u8 0,ij,ij] 280)) w 280 #[.int .u8 0,ij,ij]:=Blk.made _ _ _;generalize w.alloc (.cells #[.int .u8 0,ij,ij] 280)=w0 at *;have a4:Hid (Rd w0 lo g bs at_):=HR.out.keep (fun b _ h=>i.block b nj) N;have az:Coder w0 J cB gs ls:=a9.out.below i bb;have d0:=(i.cell (p:=⟨gr,0,none⟩) ak).trans a7;have d1:=(i.cell (p:=⟨gr,1,none⟩) ak).trans bf;have d2:=(i.cell (p:=⟨gr,2,none⟩) ak).trans a8;have C2:=SA w0.drew J cB gs lo g ls bs at_ al.out az.drew a4.out.drew;unfold MH at C2;have Q:=NJ ls (head bs at_) (there bs at_);obtain⟨G,hG⟩:=ii (EP ls (head bs at_) (there bs at_));rw[<-hG]at C2 Q;obtain⟨gv,ge,ga⟩:=G;simp only at C2 Q;have C2:=hid C2;have ac:=hid hG;have ah:=hid ai;have av:=hid i;have aj:=hid Q;clear hG az i ai Q a4;go_region_held3 (fun wx=>wx.cell? ⟨gr,0,none⟩=some (.pointer (some ⟨g,0,none⟩))/\wx.cell? ⟨gr,1,none⟩=some (.pointer (some ⟨gs,0,none⟩))) (first|exact⟨d0,d1⟩|exact⟨k0,k1⟩) (first|(go_at_call 353;(with_reducible refine C2.out.mono ?_);rintro e w2 ⟨rfl,a1,z⟩;have k0:w2.cell? ⟨gr,0,none⟩=some (.pointer (some ⟨g,0,none⟩)):=(World.cell?_of_block (a:=⟨gr,0,none⟩) (z.block gr af)).trans d0;have k1:w2.cell? ⟨gr,1,none⟩=some (.pointer (some ⟨gs,0,none⟩)):=(World.cell?_of_block (a:=⟨gr,1,none⟩) (z.block gr af)).trans d1));have a5:Kept (fun x=>x<w.heap.size/\x≠g) w w2:=(Kept.of_below av.out (fun _ h=>h.1)).trans ((Kept.refl _ w0).drew.trans ⟨z.os,z.tape,z.output,z.size,fun b h=>z.block b h.2⟩);have j:Blk w2 w _ _:=(z.block w rW).trans ah.out.drew;have k2:w2.cell? ⟨gr,2,none⟩=some (.pointer (some ⟨gf,0,none⟩)):=(World.cell?_of_block (a:=⟨gr,2,none⟩) (z.block gr af)).trans d2;have aw:=j.lt;have a2:=j.ia 0;have b2:=j.ia 1;have c2:=j.ia 2;have ba:=j.frozen 0;have bc:=j.frozen 1;have bd:=j.frozen 2;have ab:=hid a1;have Y:=hid a5;have E:=hid j;clear a1 z a5 j ah av C2 d0 d1 d2;by_cases he:ge=0
 ·subst he;obtain⟨s,rfl,hs⟩:=aj.out rfl;by_cases aa:s=256
  ·subst aa;have HG:Hid (CJ ls lf bs at_=(⟨0,0,0⟩,false,0,at_+ga)):=(by show _=_;unfold CJ;rw[<-ac.out];rfl);go_wp2_with fail;exact Bx (LW rfl _ _ w.heap.size _ #[.int .u8 0,ij,ij] _ (.bool false) (.int .i64 0) rfl rfl rfl (((E.out.set 0 (.int .u8 0)).set 1 (.int .i64 0)).set 2 (.int .i64 0)) underlying280 rfl IZ) rfl ⟨px,pq,(Kept.set (p:=⟨w,2,none⟩) (Kept.set (p:=⟨w,1,none⟩) (Kept.set (p:=⟨w,0,none⟩) Y.out (fun h=>absurd h.1 (CM _)) _) (fun h=>absurd h.1 (CM _)) _) (fun h=>absurd h.1 (CM _)) _)⟩
  ·have bh:((s:Int)==256)=false:=sj;by_cases bk:s<256
   ·have HG:Hid (CJ ls lf bs at_=(⟨s,0,0⟩,true,0,at_+ga)):=(by show _=_;unfold CJ;rw[<-ac.out];simp only;rw[Aa nj,Aa nj,Ab nj]);clear aa;go_wp2_with fail;exact Bx (LW rfl _ _ w.heap.size _ #[.int .u8 (s:Nat),ij,ij] _ (.bool true) (.int .i64 0) rfl rfl rfl (((E.out.set 0 (.int .u8 (s:Nat))).set 1 (.int .i64 0)).set 2 (.int .i64 0)) underlying280 rfl IZ) rfl ⟨px,pq,(Kept.set (p:=⟨w,2,none⟩) (Kept.set (p:=⟨w,1,none⟩) (Kept.set (p:=⟨w,0,none⟩) Y.out (fun h=>absurd h.1 (CM _)) _) (fun h=>absurd h.1 (CM _)) _) (fun h=>absurd h.1 (CM _)) _)⟩
   ·have aq:Coder w2 J cB gf lf:=HC.out.keep (fun b h1 h2=>Y.out.block b ⟨nj,a0.out b h1 h2⟩);have C3:=lJ w2 gr lo g J cB gf lf bs s (at_+ga) nj nj N k0 k2 nj af be.out a6 aq nj a0.out ab.out;have Z:Hid (CJ ls lf bs at_=((EB lf bs s (at_+ga)).1,decide ((EB lf bs s (at_+ga)).2.1=0),(EB lf bs s (at_+ga)).2.1,(EB lf bs s (at_+ga)).2.2)):=(by show _=_;unfold CJ;rw[<-ac.out];simp only;rw[Aa nj,Aa nj,Aa nj,BD]);unfold Wx at C3;generalize EB lf bs s (at_+ga)=M at *;obtain⟨⟨ta,tb,tc⟩,me,ma⟩:=M;unfold Tk.val at C3;simp only at C3 Z;have C3:=hid C3;clear aa aq;go_wp2_with fail;refine C3.out.mono ?_;rintro e w3 ⟨rfl,am,L⟩;have y:Blk w3 w _ _:=(L.block w ⟨aw,nj⟩).trans E.out;have a3:=y.ia 0;have b3:=y.ia 1;have c3:=y.ia 2;have bm:=y.frozen 0;have bj:=y.frozen 1;have bl:=y.frozen 2;have U:=hid y;have ay:=hid am;have au:Hid (Kept (fun x=>x<w.heap.size/\x≠g) w w3):=Y.out.trans ⟨L.os,L.tape,L.output,L.size,fun b h=>L.block b ⟨mg,h.2⟩⟩;clear y am L C3 a2 b2 c2 ba bc bd;by_cases ae:me=0
    ·subst ae;have HG:Hid (CJ ls lf bs at_=(⟨ta,tb,tc⟩,true,0,ma)):=Z.out;clear Z;go_wp2_with fail;exact Bx (LW rfl _ _ w.heap.size _ #[.int .u8 ta,tb,tc] _ (.bool true) (.int .i64 0) rfl rfl rfl ((((((U.out.set 0 (.int .u8 ta)).set 1 (.int .i64 tb)).set 2 (.int .i64 tc)).set 0 (.int .u8 ta)).set 1 (.int .i64 tb)).set 2 (.int .i64 tc)) underlying280 rfl IZ) rfl ⟨px,pu,(Kept.set (p:=⟨w,2,none⟩) (Kept.set (p:=⟨w,1,none⟩) (Kept.set (p:=⟨w,0,none⟩) (Kept.set (p:=⟨w,2,none⟩) (Kept.set (p:=⟨w,1,none⟩) (Kept.set (p:=⟨w,0,none⟩) au.out (fun h=>absurd h.1 (CM _)) _) (fun h=>absurd h.1 (CM _)) _) (fun h=>absurd h.1 (CM _)) _) (fun h=>absurd h.1 (CM _)) _) (fun h=>absurd h.1 (CM _)) _) (fun h=>absurd h.1 (CM _)) _)⟩
    ·have bi:(me==0)=false:=(by simp[ae]);have HG:Hid (CJ ls lf bs at_=(⟨ta,tb,tc⟩,false,me,ma)):=(by show _=_;rw[Z.out,Be ae]);clear Z ae;go_wp2_with fail;exact Bx (LW rfl _ _ w.heap.size _ #[.int .u8 ta,tb,tc] _ (.bool false) (.int .i64 me) rfl rfl rfl ((((((U.out.set 0 (.int .u8 ta)).set 1 (.int .i64 tb)).set 2 (.int .i64 tc)).set 0 (.int .u8 ta)).set 1 (.int .i64 tb)).set 2 (.int .i64 tc)) underlying280 rfl IZ) rfl ⟨px,pu,(Kept.set (p:=⟨w,2,none⟩) (Kept.set (p:=⟨w,1,none⟩) (Kept.set (p:=⟨w,0,none⟩) (Kept.set (p:=⟨w,2,none⟩) (Kept.set (p:=⟨w,1,none⟩) (Kept.set (p:=⟨w,0,none⟩) au.out (fun h=>absurd h.1 (CM _)) _) (fun h=>absurd h.1 (CM _)) _) (fun h=>absurd h.1 (CM _)) _) (fun h=>absurd h.1 (CM _)) _) (fun h=>absurd h.1 (CM _)) _) (fun h=>absurd h.1 (CM _)) _)⟩
 ·have hb:(ge != 0)=true:=bne_iff_ne.mpr he;have HG:Hid (CJ ls lf bs at_=(⟨0,0,0⟩,false,ge,at_+ga)):=by show _=_;unfold CJ;rw[<-ac.out];simp only;rw[Ab he]
  clear he aj;go_wp2_with fail;exact Bx (LW rfl _ _ w.heap.size _ #[.int .u8 0,ij,ij] _ (.bool false) (.int .i64 ge) rfl rfl rfl (((E.out.set 0 (.int .u8 0)).set 1 (.int .i64 0)).set 2 (.int .i64 0)) underlying280 rfl IZ) rfl ⟨px,pq,(Kept.set (p:=⟨w,2,none⟩) (Kept.set (p:=⟨w,1,none⟩) (Kept.set (p:=⟨w,0,none⟩) Y.out (fun h=>absurd h.1 (CM _)) _) (fun h=>absurd h.1 (CM _)) _) (fun h=>absurd h.1 (CM _)) _)⟩
theorem fW{X th:Nat}(h:(EP ls X th).2.1=0):0<(EP ls X th).2.2:=by
 unfold EP at h ⊢;cases hf:(List.range ls.length).find? (hit ls X th)with
 |some s=>obtain⟨x,hx,i,_⟩:=Ik.1 (List.find?_some hf);simp only[List.getD_eq_getElem?_getD,hx,Option.getD_some];omega
 |none=>rw[hf]at h;simp only at h;split at h<;>cases h
def Kn(t:Tk):Prop:=Bb t.lit t.len t.dist=true/\(0<=t.lit/\t.lit<=255)/\(0<=t.len/\t.len<=257)
theorem pR(i:lf.length<=12)(bs:List Bool){v at_:Nat}(E:257<=v)(z:v<=264)(h:(EB lf bs v at_).2.1=0):Kn (EB lf bs v at_).1/\at_<=(EB lf bs v at_).2.2:=by
 unfold EB at h ⊢;simp only at h ⊢;split at h
 ·cases h
 ·rename_i h1;rw[Aa h1];split at h
  ·rename_i h2;exact absurd h h2
  ·rename_i h2;rw[Aa h2];split at h
   ·cases h
   ·rename_i h3;rw[Aa h3];obtain⟨s,hs,j⟩:=NJ lf _ _ (Decidable.not_not.1 h2);rw[hs]at h h3 ⊢;rw[BD]at h h3 ⊢;have b1:=Hq bs at_ (v-257);have b2:=Hq bs (at_+(v-257)+(EP lf (head bs (at_+(v-257))) (there bs (at_+(v-257)))).2.2) s;generalize AK bs at_ (v-257)=x at *;generalize AK bs (at_+(v-257)+(EP lf (head bs (at_+(v-257))) (there bs (at_+(v-257)))).2.2) s=y at *;have p1:pw ((v:Int)-257)=((2 ^ (v-257):Nat):Int):=(by unfold pw;rw[show((v:Int)-257).toNat=v-257 by omega]);have p2:pw (s:Int)=((2 ^ s:Nat):Int):=(by unfold pw;rw[BD]);have q1:2 ^ (v-257)<=2 ^ 7:=Cm nj nj;have q2:2 ^ s<=2 ^ 11:=Cm nj nj;have q3:=GA (v-257);have q4:=GA s;have hj:=(TR ⟨(v:Int),(x:Int),(s:Int),(y:Int)⟩ sa sa sa sa (by simp only;rw[p1];omega) (by simp only;rw[p2];omega)).1;simp only at hj;rw[p1,p2]at hj;generalize 2 ^ (v-257)=P at *;generalize 2 ^ s=Q at *;refine⟨?_,by show at_<=at_+(v-257)+_+s;omega⟩;rw[hj];refine⟨?_,⟨rX,rX⟩,⟨sa,sa⟩⟩;unfold Bb;simp only;rw[Aa nj,decide_eq_true_eq];exact⟨iz,nj,nj,nj,nj⟩
theorem VA(z:ls.length<=265)(y:lf.length<=12)(bs:List Bool){at_:Nat}(h:(CJ ls lf bs at_).2.2.1=0):
 ((CJ ls lf bs at_).2.1=true->Kn (CJ ls lf bs at_).1)/\at_<(CJ ls lf bs at_).2.2.2:=by
 have j:=NJ ls (head bs at_) (there bs at_);have i:=fW (ls:=ls) (X:=head bs at_) (th:=there bs at_);unfold CJ at h ⊢;simp only at h ⊢;generalize EP ls (head bs at_) (there bs at_)=G at *;obtain⟨gv,ge,ga⟩:=G;simp only at h j i ⊢;by_cases h1:ge=0
 ·subst h1;obtain⟨s,rfl,hs⟩:=j rfl;have ha:=i rfl;rw[Aa rX]at h ⊢;by_cases h2:(s:Int)=256
  ·rw[Ab h2];exact⟨fun e=>(by cases e),sa⟩
  ·rw[Aa h2]at h ⊢;by_cases h3:(s:Int)<256
   ·rw[Ab h3];refine⟨fun _=>⟨?_,⟨sa,sa⟩,⟨rX,rX⟩⟩,sa⟩;unfold Bb;simp
   ·rw[Aa h3,BD]at h ⊢;have hm:=pR y bs (v:=s) (at_:=at_+ga) nj nj h;exact⟨fun _=>hm.1,sa⟩
 ·rw[Ab h1]at h;exact absurd h h1
def EY(ls lf:List Nat)(bs:List Bool):Nat->Int->List Tk->Nat->List Tk×Int
 |0,_,_,_=>([],0)
 |f+1,most,out,at_=>
  let R:=CJ ls lf bs at_
  if R.2.2.1≠0 then([],R.2.2.1)
  else if R.2.1=false then(if Gw bs R.2.2.2=0 then(out,0)else([],2))
  else if most-max 1 R.1.len<0 then([],6)
  else EY ls lf bs f (most-max 1 R.1.len) (out++ [R.1]) R.2.2.2
def CE(lb:List Nat)(most:Int):List Tk×Int:=
 if most<0 then([],13)else
 if(BP (BH lb) 265 266 [] false 0).2.1≠0 then([],(BP (BH lb) 265 266 [] false 0).2.1)else
 if(BP (BH lb) 12 13 [] false (BP (BH lb) 265 266 [] false 0).2.2).2.1≠0 then([],(BP (BH lb) 12 13 [] false (BP (BH lb) 265 266 [] false 0).2.2).2.1)else
 EY (BP (BH lb) 265 266 [] false 0).1 (BP (BH lb) 12 13 [] false (BP (BH lb) 265 266 [] false 0).2.2).1 (BH lb) ((BH lb).length+1) most [] (BP (BH lb) 12 13 [] false (BP (BH lb) 265 266 [] false 0).2.2).2.2
def Cz:List Tk->Int
 | []=>0
 |t :: ts=>max 1 t.len+Cz ts
theorem oT(ts:List Tk)(t:Tk):Cz (ts++ [t])=Cz ts+max 1 t.len:=by
 induction ts with
 |nil=>simp[Cz]
 |cons a ts ih=>rw[Ez,Cz,Cz,ih];omega
theorem Vo{ls lf:List Nat}(z:ls.length<=265)(y:lf.length<=12)(bs:List Bool)(i:Int)(h0:0<=i):∀ (f:Nat) (most:Int) (out:List Tk) (at_:Nat),0<=most->Cz out+most=i->(∀t∈out,Kn t)->∀ts e,EY ls lf bs f most out at_=(ts,e)->
 (e=0->(∀t∈ts,Kn t)/\Cz ts<=i)/\(e≠0->ts= [])
 |0,most,out,at_,hm,hs,hall,ts,e,h=>by rw[EY]at h;injection h with h1 h2;subst h1 h2;exact⟨fun _=>⟨fun t ht=>(by cases ht),by simp only[Cz];omega⟩,fun _=>rfl⟩
 |f+1,most,out,at_,hm,hs,hall,ts,e,h=>by
  rw[EY]at h;split at h
  ·rename_i h1;injection h with e1 e2;subst e1 e2;exact⟨fun e=>absurd e h1,fun _=>rfl⟩
  ·rename_i h1;have j:=VA z y bs (Decidable.not_not.1 h1);split at h
   ·split at h
    ·injection h with e1 e2;subst e1 e2;exact⟨fun _=>⟨hall,nj⟩,fun e=>absurd rfl e⟩
    ·injection h with e1 e2;subst e1 e2;exact⟨fun e=>(by cases e),fun _=>rfl⟩
   ·rename_i h2;have h2:(CJ ls lf bs at_).2.1=true:=sI;split at h
    ·injection h with e1 e2;subst e1 e2;exact⟨fun e=>(by cases e),fun _=>rfl⟩
    ·rename_i h3;refine Vo z y bs i h0 f _ _ _ nj (by rw[oT];omega) ?_ ts e h;intro t ht;rw[BJ,Eo]at ht;rcases ht with ht|rfl
     ·exact hall t ht
     ·exact j.1 h2
theorem OQ(lb:List Nat)(most:Int):((CE lb most).2=0->(∀t∈(CE lb most).1,Kn t)/\Cz (CE lb most).1<=most)/\((CE lb most).2≠0->(CE lb most).1= []):=by
 unfold CE;split
 ·exact⟨fun e=>(by cases e),fun _=>rfl⟩
 ·rename_i h0;split
  ·rename_i h1;exact⟨fun e=>absurd e h1,fun _=>rfl⟩
  ·rename_i h1;split
   ·rename_i h2;exact⟨fun e=>absurd e h2,fun _=>rfl⟩
   ·rename_i h2;have k1:=JW (bs:=BH lb) (n:=265) 266 [] false 0 rX rX (Decidable.not_not.1 h1);have k2:=JW (bs:=BH lb) (n:=12) 13 [] false (BP (BH lb) 265 266 [] false 0).2.2 rX rX (Decidable.not_not.1 h2);exact Vo (by rw[k1.2];omega) (by rw[k2.2];omega) (BH lb) most nj _ most [] _ nj (by simp[Cz]) (fun t ht=>(by cases ht)) _ _ rfl
def L1(R:List Tk×Int)(w:World)(e:Ending)(w':World):Prop:=
 ∃v,e= .returned (.tuple #[v,R.2])/\w'.ownsRow w 280 3 v R.1.length (En R.1)/\Below w w w'
theorem eU(bs:List Bool)(at_:Nat):Gw bs at_=0∨Gw bs at_=2:=by unfold Gw;split<;>simp
theorem nY{bs:List Bool}{at_:Nat}{out:List Tk}{T:Tk×Bool×Int×Nat}(h:CJ ls lf bs at_=T)(he:T.2.2.1≠0):EY ls lf bs (f+1) M out at_=([],T.2.2.1):=by rw[EY,h,Ab he]
theorem m9{bs:List Bool}{at_:Nat}{out:List Tk}{T:Tk×Bool×Int×Nat}(h:CJ ls lf bs at_=T)(he:T.2.2.1=0)(hm:T.2.1=false):EY ls lf bs (f+1) M out at_=if Gw bs T.2.2.2=0 then(out,0)else([],2):=by rw[EY,h,Aa (by rw[he];simp),Ab hm]
theorem ZL{bs:List Bool}{at_:Nat}{out:List Tk}{T:Tk×Bool×Int×Nat}(h:CJ ls lf bs at_=T)(he:T.2.2.1=0)(hm:T.2.1=true)(hl:M-max 1 T.1.len<0):EY ls lf bs (f+1) M out at_=([],6):=by rw[EY,h,Aa (by rw[he];simp),Aa (by rw[hm];simp),Ab hl]
theorem Yj{bs:List Bool}{at_:Nat}{out:List Tk}{T:Tk×Bool×Int×Nat}(h:CJ ls lf bs at_=T)(he:T.2.2.1=0)(hm:T.2.1=true)(hl:¬M-max 1 T.1.len<0):EY ls lf bs (f+1) M out at_=EY ls lf bs f (M-max 1 T.1.len) (out++ [T.1]) T.2.2.2:=by rw[EY,h,Aa (by rw[he];simp),Aa (by rw[hm];simp),Aa hl]
theorem a1b{p:Prop}(h:p:=by go_wp2_with fail;refine C3.out.mono ?_;rintro e w7 ⟨rfl,Q,i⟩;have z7:=i.size;have G:Kept (fun x=>x<w6.heap.size/\x≠g) w6 w7:=ag.out.trans ⟨i.os,i.tape,i.output,i.size,fun b h=>i.block b ⟨mg,h.2⟩⟩;have ar:Hid (Below w w w7):=a5.out.trans (G.below (fun b h=>⟨nj,nj⟩));have aa:Blk w7 gr _ _:=(G.block gr ⟨nj,nj⟩).trans Y.out;have z:w7.ownsRow w6 280 3 _ k (En out):=eZ E (fun x hx=>i.block x lj);go_wp2_with fail;go_ret2;rw[Z.out];exact⟨_,rfl,AI _ _ _ _,pZ nj ar.out⟩):p:=h
theorem Ak4(w:World)(A:Option Addr)(n c:Nat)(lb:List Nat)(most:Int)(cx:0<=most)(cp:most<=9223372036854775807)(hn:lb.length=n)(hN:n<=100000)(h8:∀x∈lb,x<=255)(be:A=none->n=0/\c=0)(ha:Row w w A n 1 (jZ .u8 lb)):
 Calls prog 299 #[.slice A n c,most] w (L1 (CE lb most) w):=by
 obtain⟨j0,cF,cA,cz,cw⟩:=info_parts Od;have C1:=hid (Tt w A n c lb hn hN h8 be ha);have cM:(BH lb).length<=800000:=by rw[Fi,hn];omega
 obtain⟨RT,af⟩:=ii (CE lb most);rw[<-af];unfold CE at af;rw[Aa nj]at af;clear hn h8 be ha;generalize BH lb=bs at *;have a3:=JW (bs:=bs) (n:=265) 266 [] false 0 rX rX;have D1:=hid (fun wx gr g lo (h1:lo<=g) h2 h3=>WI wx gr lo g bs 0 265 nj nj h1 h2 h3)
 change Hid (∀wx gr g lo,lo<=g->_->Rd wx lo g bs 0->Calls _ _ _ _ (Nh (BP bs 265 266 [] false 0) lo g bs wx))at D1
 generalize BP bs 265 266 [] false 0=R1 at D1 a3 af;obtain⟨ls,e1,a1⟩:=R1;simp only at a3 af;have a4:=JW (bs:=bs) (n:=12) 13 [] false a1 rX rX;have D2:=hid (fun wx gr g lo (h1:lo<=g) h2 h3=>WI wx gr lo g bs a1 12 nj nj h1 h2 h3)
 change Hid (∀wx gr g lo,lo<=g->_->Rd wx lo g bs a1->Calls _ _ _ _ (Nh (BP bs 12 13 [] false a1) lo g bs wx))at D2
 generalize BP bs 12 13 [] false a1=R2 at D2 a4 af;obtain⟨lf,e2,a2⟩:=R2;simp only at a4 af;have aq:=hid af;have ci:=hid a3;have b1:=hid a4;clear af a3 a4;go_enter func299,ntmps299;go_wp2_with fail;refine C1.out.mono ?_;rintro e w1 ⟨g,rfl,bp,hg,bm⟩;have z1:=bm.size;have cO:=bp.lt;go_wp2_with fail;have ak:Below w1 w1 (w1.alloc (.cells #[.pointer (some ⟨g,0,none⟩), .pointer none, .pointer none] 419)):=aZ (Ae _ _);have al:Blk (w1.alloc (.cells #[.pointer (some ⟨g,0,none⟩), .pointer none, .pointer none] 419)) w1 419 #[.pointer (some ⟨g,0,none⟩), .pointer none, .pointer none]:=Blk.made _ _ _;generalize w1.alloc (.cells #[.pointer (some ⟨g,0,none⟩), .pointer none, .pointer none] 419)=w2 at *;have cg:Rd w2 w g bs 0:=bp.keep (fun b _ h=>ak.block b nj) hg;have z2:=al.lt;have bb:Below w w w2:=bm.trans (ak.mono z1);refine(D1.out w2 w1 g w hg (al.cell 0) cg).mono ?_;rintro e w3 ⟨J,bi,a6⟩;simp only at J bi;have z3:=a6.size;have U:Blk w3 w1 _ _:=(a6.block w1 ⟨nj,nj⟩).trans al;have p0:=U.ia 0;have p1:=U.ia 1;have p2:=U.ia 2;have f1:=U.frozen 1;have f2:=U.frozen 2;have bh:=hid bb;have bl:=hid a6;have aw:=hid U;have ca:=hid bi;clear bp cg bm ak al bb a6 U bi C1 D1;rcases J with ⟨av,rfl⟩|⟨av,gs,rfl,b8⟩
 ·have hb:(e1 != 0)=true:=bne_iff_ne.mpr av;have ab:Hid (RT=([],e1)):=by show _=_;rw[aq.out,Ab av]
  clear av aq;go_wp2_with fail;go_ret2;rw[ab.out];exact⟨_,rfl,AI _ _ _ _,BS (p:=⟨w1,1,none⟩) z1 (bh.out.trans (bl.out.below (fun b h=>⟨nj,nj⟩)))⟩
 ·subst av;obtain⟨bd,a0⟩:=ci.out rfl;have ce:=hid b8;have bC:=hid bd;have b4:=hid a0;clear b8 bd a0 ci;go_wp2_with fail;have au:=aw.out.set 1 (.pointer (some ⟨gs,0,none⟩));have ah:Kept (fun x=>x<w1.heap.size∨w1.heap.size<x) w3 (w3.setCell ⟨w1,1,none⟩ (.pointer (some ⟨gs,0,none⟩))):=(Kept.refl _ _).set (fun h=>by have h:w1.heap.size<w1.heap.size∨w1.heap.size<w1.heap.size:=h;omega) _;have cy:=ah.size;generalize w3.setCell ⟨w1,1,none⟩ (.pointer (some ⟨gs,0,none⟩))=w4 at *;have cc:Rd w4 w g bs a1:=ca.out.keep (fun b h1 h2=>ah.block b (by left;omega)) hg;have ba:Hid (Coder w4 w2 w3 gs ls):=ce.out.keep (fun b h1 h2=>ah.block b (by right;omega));have bt:Hid (Below w w w4):=(bh.out.trans (bl.out.below (fun b h=>⟨nj,nj⟩))).trans (ah.below (fun b h=>by left;omega));clear p0 p1 p2 f1 f2 aw ca ce bh bl;refine(D2.out w4 w1 g w hg (au.cell 0) cc).mono ?_;rintro e w5 ⟨J,bq,az⟩;simp only at J bq;have z5:=az.size;have ac:Blk w5 w1 _ _:=(az.block w1 ⟨nj,nj⟩).trans au;have p0:=ac.cell 0;have p1:=ac.cell 1;have p2:=ac.cell 2;have f2:=ac.frozen 2;simp at p0 p1 p2;have bf:Hid (Below w w w5):=bt.out.trans (az.below (fun b h=>⟨nj,nj⟩));have a9:Hid (Coder w5 w2 w3 gs ls):=ba.out.kept az (fun b h1 h2=>⟨nj,nj⟩);have ax:=hid ac;have bn:=hid bq;clear cc ah au bq ac az bt ba D2;rcases J with ⟨ay,rfl⟩|⟨ay,gf,rfl,b9⟩
  ·have hb:(e2 != 0)=true:=bne_iff_ne.mpr ay;have ab:Hid (RT=([],e2)):=(by show _=_;rw[aq.out,Aa rX,Ab ay]);clear ay aq;go_wp2_with fail;go_ret2;rw[ab.out];exact⟨_,rfl,AI _ _ _ _,BS (p:=⟨w1,2,none⟩) z1 bf.out⟩
  ·subst ay;obtain⟨a8,bS⟩:=b1.out rfl;have b0:=hid b9;have cm:=hid a8;have cj:=hid bS;have ab:Hid (RT=EY ls lf bs (bs.length+1) most [] a2):=(by show _=_;rw[aq.out,Aa rX,Aa rX]);clear b9 a8 bS b1 aq;have b3:a2<=bs.length:=(by obtain⟨A',n',c',l',h1,h2,h3,h4,h5,h6,h7⟩:=bn.out;rw[h5,Fi,h3];exact h6);go_wp2_with fail;have bc:=ax.out.set 2 (.pointer (some ⟨gf,0,none⟩));have ae:Kept (fun x=>x<w1.heap.size∨w1.heap.size<x) w5 (w5.setCell ⟨w1,2,none⟩ (.pointer (some ⟨gf,0,none⟩))):=(Kept.refl _ _).set (fun h=>by have h:w1.heap.size<w1.heap.size∨w1.heap.size<w1.heap.size:=h;omega) _;have cB:=ae.size;generalize w5.setCell ⟨w1,2,none⟩ (.pointer (some ⟨gf,0,none⟩))=w6 at *;have cd:Hid (Rd w6 w g bs a2):=bn.out.keep (fun b h1 h2=>ae.block b (by left;omega)) hg;have b7:Hid (Coder w6 w2 w6 gs ls):=Coder.mono (a9.out.keep (fun b h1 h2=>ae.block b (by right;omega))) (Ak _) nj;have bN:Hid (Coder w6 w2 w6 gf lf):=Coder.mono (b0.out.keep (fun b h1 h2=>ae.block b (by right;omega))) nj nj;have a5:Hid (Below w w w6):=bf.out.trans (ae.below (fun b h=>by left;omega));have z6:w1.heap.size<w2.heap.size/\w2.heap.size<=w6.heap.size:=nj;have Y:=hid bc;clear p0 p1 p2 f2 ax bn a9 b0 bf ae bc cB cy z5 z3;generalize w1.heap.size=gr at *;generalize w2.heap.size=cr at *;go_wp2_with fail;go_loopw [1,4] (fun m u wr=>∃ (f at_ k:Nat) (M:Int) (out:List Tk),(0<=M/\M<=9223372036854775807)/\m= .int .i64 M/\k<=at_/\at_<=bs.length/\Hid (out.length=k)/\wr.ownsRow w6 280 3 u k (En out)/\Hid (bs.length+1<=f+at_)/\Hid (EY ls lf bs f M out at_=RT)/\Hid (Rd wr w g bs at_)/\Hid (Kept (fun x=>x<w6.heap.size/\x≠g) w6 wr)) (fun m _ _=>(intOf m).toNat)
   case atStart=>exact⟨bs.length+1,a2,0,most,[],⟨cx,cp⟩,rfl,nj,b3,rfl,AI _ _ _ _,rK,ab.out.symm,cd.out,Kept.refl _ _⟩
   case round=>
    clear cd ab;obtain⟨f,at_,k,M,out,⟨c0,c1⟩,rfl,cS,cL,a7,E,hf,aj,bu,ag⟩:=hrel;obtain⟨f,rfl⟩:∃f',f=f'+1:=⟨f-1,by have:=hf.out;omega⟩;have cv:=ag.out.size;have an:Blk wr gr _ _:=(ag.out.block gr ⟨nj,nj⟩).trans Y.out;have C3:=kM wr gr w g cr w6 gs gf ls lf bs at_ hg (an.cell 0) (an.cell 1) (an.cell 2) nj nj bC.out (by rw[b4.out];omega) (b7.out.kept ag.out (fun b h1 h2=>⟨nj,nj⟩)) cm.out (by rw[cj.out];omega) (bN.out.kept ag.out (fun b h1 h2=>⟨nj,nj⟩)) cv (fun b h1 h2=>by omega) bu.out;have N:=VA (ls:=ls) (lf:=lf) (by rw[b4.out];omega) (by rw[cj.out];omega) bs (at_:=at_);unfold Re at C3;clear an;have ai:=fun he hm=>m9 (T:=CJ ls lf bs at_) (bs:=bs) (f:=f) (M:=M) (out:=out) rfl he hm;have am:=fun he=>nY (T:=CJ ls lf bs at_) (bs:=bs) (f:=f) (M:=M) (out:=out) rfl he;have L:=fun he hm hl=>ZL (T:=CJ ls lf bs at_) (bs:=bs) (f:=f) (M:=M) (out:=out) rfl he hm hl;have j:=fun he hm hl=>Yj (T:=CJ ls lf bs at_) (bs:=bs) (f:=f) (M:=M) (out:=out) rfl he hm hl;generalize CJ ls lf bs at_=T at *;obtain⟨⟨lit,len,dist⟩,more,te,ta⟩:=T;simp only[Tk.val]at C3 N ai am L j;have C3:=hid C3;by_cases he:te=0
    ·subst he;clear am;obtain⟨N,cG⟩:=N rfl;cases more
     ·have y:=ai rfl rfl;rw[aj.out]at y;have Z:=hid y;clear ai L j y aj N;go_wp2_with fail;refine C3.out.mono ?_;rintro e w7 ⟨rfl,Q,i⟩;have z7:=i.size;have G:Kept (fun x=>x<w6.heap.size/\x≠g) w6 w7:=ag.out.trans ⟨i.os,i.tape,i.output,i.size,fun b h=>i.block b ⟨mg,h.2⟩⟩;have ar:Hid (Below w w w7):=a5.out.trans (G.below (fun b h=>⟨nj,nj⟩));have aa:Blk w7 gr _ _:=(G.block gr ⟨nj,nj⟩).trans Y.out;have z:w7.ownsRow w6 280 3 _ k (En out):=eZ E (fun x hx=>i.block x lj);have cX:=aa.lt;have p0:=aa.cell 0;simp at p0;go_wp2_with fail;have cf:Hid (Below w w (w7.alloc (.cells #[.int .u8 lit,len,dist] 280))):=pZ nj ar.out;have cl:=z.alloc (.cells #[.int .u8 lit,len,dist] 280);have bO:=Q.keep (w':=w7.alloc (.cells #[.int .u8 lit,len,dist] 280)) (fun b _ h=>EA w7 _ b nj) hg;generalize w7.alloc (.cells #[.int .u8 lit,len,dist] 280)=w8 at *;have C4:=aY w8 w g bs ta bO;rcases eU bs ta with hp|hp
      ·rw[hp]at C4;have bj:Hid (RT=(out,0)):=(by show _=_;rw[Z.out,Ab hp]);have C4:=hid C4;clear hp Z;refine C4.out.mono ?_;rintro e w9 ⟨rfl,q,rfl⟩;go_wp2_with fail;go_ret2;rw[bj.out];refine⟨_,rfl,?_,below_drewN cf.out q⟩;show World.ownsRow _ _ _ _ _ out.length _;rw[a7.out];exact kZ cl nj
      ·rw[hp]at C4;have bj:Hid (RT=([],2)):=(by show _=_;rw[Z.out,Aa (by rw[hp];decide)]);have C4:=hid C4;clear hp Z;refine C4.out.mono ?_;rintro e w9 ⟨rfl,q,rfl⟩;go_wp2_with fail;go_ret2;rw[bj.out];exact⟨_,rfl,AI _ _ _ _,below_drewN cf.out q⟩
     ·obtain⟨hm,⟨cE,cu⟩,co,a0⟩:=N rfl;simp only at hm cE cu co a0;clear ai N;obtain⟨d,hd,cP,cT⟩:∃d:Int,d=max 1 len/\1<=d/\d<=257:=⟨_,rfl,nj,nj⟩;rw[<-hd]at L j;by_cases hl:M-d<0
      ·have y:=L rfl rfl hl;rw[aj.out]at y;have Z:=hid y;clear L j y aj;exact a1b
      ·have y:=j rfl rfl hl;rw[aj.out]at y;have Z:=hid y;clear L j y aj;go_wp2_with fail;refine C3.out.mono ?_;rintro e w7 ⟨rfl,Q,i⟩;have z7:=i.size;have G:Kept (fun x=>x<w6.heap.size/\x≠g) w6 w7:=ag.out.trans ⟨i.os,i.tape,i.output,i.size,fun b h=>i.block b ⟨mg,h.2⟩⟩;have ar:Hid (Below w w w7):=a5.out.trans (G.below (fun b h=>⟨nj,nj⟩));have aa:Blk w7 gr _ _:=(G.block gr ⟨nj,nj⟩).trans Y.out;have z:w7.ownsRow w6 280 3 _ k (En out):=eZ E (fun x hx=>i.block x lj);have b5:k+1<=ta:=nj;have bx:ta<=bs.length:=(by obtain⟨A',n',c',l',h1,h2,h3,h4,h5,h6,h7⟩:=Q;rw[h5,Fi,h3];exact h6);obtain⟨va,vc,rfl⟩:=bZ z;have bg:=hid z;have cq:=hid Q;have cC:=hid G;clear z Q G i E ag bu aa;go_wp2_with(at_builtin;refine iZ rfl (.tmp 57) (.tmp 59) 190 rfl w6 280 j0 _ 3 24 underlying190 cF cA cz cw rfl ip _ _ _ nm ((bg.out.alloc _).alloc _) _ 1 1 [.int .u8 lit, .int .i64 len, .int .i64 dist] nm (Src.of_blk (g:=w7.heap.size+1) (Blk.made_at _ _ _ rX) 1 1 3 rfl) mr sS nj sj ?_;intro v4 w9 bk b6 cH);go_roundw
       case measure=>go_light;show(M-max 1 len).toNat<M.toNat;omega
       case rel=>
        go_light;have ct:∀b,(b<w6.heap.size/\b≠g)->b<((w7.alloc (.cells #[.int .u8 lit,len,dist] 280)).alloc (.cells #[.int .u8 lit,len,dist] 280)).heap.size:=(by intro b h;have:=h.1;simp;omega);refine⟨f,ta,k+1,M-d,out++ [⟨lit,len,dist⟩],⟨hl,nj⟩,by rw[hd],b5,bx,?_,?_,?_,hid Z.out.symm,?_,?_⟩
        ·show(out++ [_]).length=k+1;rw[Ag,a7.out];rfl
        ·rw[LF];exact bk
        ·show _<=_;have:=hf.out;omega
        ·exact cq.out.keep (fun b _ h2=>(b6.block b sj (fun h=>by have:=(Aj bg.out b h.symm).1;omega)).trans ((EA _ _ b sj).trans (EA w7 _ b nj))) hg
        ·exact((cC.out.alloc (fun b h=>by have:=h.1;omega) _).alloc (fun b h=>by have:=h.1;simp;omega) _).grown b6 ct (fun b hb hh=>by have:=(Aj bg.out b hb).1;have:=hh.1;omega)
    ·have hb:(te != 0)=true:=bne_iff_ne.mpr he;have y:=am he;rw[aj.out]at y;have Z:=hid y;clear ai L j y aj N he am;exact a1b
end Go.Proofs.YtfgdoknipbpfhaaGreatDoor
