/- append of zeros, as  -/
import Derived.Test.YtfgdoknipbpfhaaGreatDoorZBodyBlocks16
import Derived.Lib.AppendZeros
namespace Go.Proofs.YtfgdoknipbpfhaaGreatDoor
open Go.Proofs.Tryz
open Go.Lib (hid)
variable{w:World}{m:Nat}
namespace Mem
open Go.RowKit
theorem YP(z:Value)(n:Nat):(Builtin.zeroCells #[z] n).toList=List.replicate n z:=by
 apply List.ext_getElem
 ·simp[Builtin.zeroCells]
 ·intro i h1 h2;simp[Builtin.zeroCells,Nat.mod_one]
section
variable {P:Program}
theorem Yu(w:World)(base:Nat)(t tn ty e:TypeId)(i:TypeInfo)(z:Value)(k kn:IntKind)(ht:P.underlying t=some (.slice e))(ab:P.underlying tn=some (.int kn))(hi:P.info? e=some i)(hz:i.zero=some z)
 (J:i.size=1)(af:i.bytes=1)(ae:z.cells=#[z])(h1:z.oneCell'=true)(g n j m:Nat)(xs:List Value)(E:w.ownsRow base e 1 (.slice (some ⟨g,0,none⟩) n j) n xs)(y:n+m<=j)(hm:0<m)(ah:m<=1000):
 ∃w',(Builtin.append_ #[t,tn] ty #[.slice (some ⟨g,0,none⟩) n j, .int k m]).run P w= .ok (.slice (some ⟨g,0,none⟩) (n+m) j) w'/\
  w'.ownsRow base e 1 (.slice (some ⟨g,0,none⟩) (n+m) j) (n+m) (xs++List.replicate m z)/\w.grownBy w' (some g):=by
 have G:(xs++List.replicate m z).length=(n+m)*1:=by rw[Ae,E.1,Di,Ez,CM m]
 rcases E.2 with ⟨h,_⟩|⟨g',ag,cur,h,U,hg,ai,Z,aa,M⟩
 ·simp at h
 ·simp only[Value.slice.injEq,Option.some.injEq,Addr.mk.injEq,and_true,true_and]at h;obtain⟨rfl,rfl⟩:=h;have Q:n*1+(List.replicate m z).length<=cur.size:=by rw[Di,aa];omega
  have L:=run_storeCells_at P g (n*1) e (List.replicate m z) 0 cur w hg (by simpa using Q) (fun v hv=>by rw[List.eq_of_mem_replicate hv];exact h1);simp only[Nat.add_zero]at L;have hw:IntKind.i64.wrap (m:Int)=(m:Int):=nB
  have N:¬((m:Int)<0):=mw
  have Y:¬(281474976710656<(m:Int)):=mw
  have ac:m≠0:=mw
  refine⟨_,?_,⟨G, .inr ⟨g,j,_,rfl,U,setRow_heap w g cur (cur.toList.take (n*1)++List.replicate m z++cur.toList.drop (n*1+(List.replicate m z).length)).toArray e _ hg,y,Z,?_,?_⟩⟩,⟨rfl,rfl,rfl,oK,fun k _ hk=>setRow_other w g k _ (fun e=>hk (by simp[e]))⟩⟩
  ·simp[Builtin.append_,run_underlying ht,run_underlying ab,sizeOf,typeInfo,zeroValue,hi,hz,J,af,ae,asInt,asIntOf,hw,N,Y,ac,y,YP,Addr.add_lit]at L ⊢;rw[L];rfl
  ·simp only[List.size_toArray,List.length_append,List.length_take,List.length_drop,Array.length_toList];omega
  ·rw[M,<-G];exact List.take_left
theorem Vw{j:Array Oper}{rest:List Oper}{o:Oper}{a:Act}{Q:Exit->Act->World->Prop}(y:o.guard=none)(s x:Operand)(t tn:TypeId)
 (ho:o.op= .call {callee:= .builtin .append,args:=#[s,x],argTypes:=#[t,tn] })
 (base:Nat)(e:TypeId)(i:TypeInfo)(z:Value)(k kn:IntKind)(ht:P.underlying t=some (.slice e))(htn:P.underlying tn=some (.int kn))(hi:P.info? e=some i)(hz:i.zero=some z)
 (hsize:i.size=1)(hby:i.bytes=1)(hzc:z.cells=#[z])(h1:z.oneCell'=true)(g n cap m:Nat)(xs:List Value)(hs:a.eval s= .slice (some ⟨g,0,none⟩) n cap)(hx:a.eval x= .int k m)
 (hown:w.ownsRow base e 1 (.slice (some ⟨g,0,none⟩) n cap) n xs)(hroom:n+m<=cap)(hm:0<m)(hm2:m<=1000)
 (h:∀w',w'.ownsRow base e 1 (.slice (some ⟨g,0,none⟩) (n+m) cap) (n+m) (xs++List.replicate m z)->w.grownBy w' (some g)->wpList P j Q rest (a.put o.dst (.slice (some ⟨g,0,none⟩) (n+m) cap)) w'):wpList P j Q (o :: rest) a w:=by
 refine wpList_plain y fun K hK=> ?_;obtain⟨w',hr,h2,h3⟩:=Yu (P:=P) w base t tn o.type e i z k kn ht htn hi hz hsize hby hzc h1 g n cap m xs hown hroom hm hm2;unfold Oper.wp execOp;simp only[ho,resolve,invoke,builtin,Sem.run_bind,Sem.run_pure,Result.andThen_ok,List.map_toArray,List.map_cons,List.map_nil,hs,hx,hr];exact hK _ _ (h w' h2 h3)
theorem j5{y:Array Oper}{rest:List Oper}{o:Oper}{a:Act}{Q:Exit->Act->World->Prop}(z:o.guard=none)(s x:Operand)(t:TypeId)
 (ho:o.op= .call {callee:= .builtin .append,args:=#[s,x],argTypes:=#[t,t] })
 (base:Nat)(e:TypeId)(i:TypeInfo)(size:Nat)(ht:P.underlying t=some (.slice e))(hi:P.info? e=some i)(hsize:i.size=size)
 (g n cap:Nat)(xs:List Value)(hs:a.eval s= .slice (some ⟨g,0,none⟩) n cap)(hown:w.ownsRow base e size (.slice (some ⟨g,0,none⟩) n cap) n xs)
 (ad:Addr)(m c:Nat)(news:List Value)(hx:a.eval x= .slice (some ad) m c)(hl:news.length=m*size)(hnews:∀j u,news[j]? =some u->w.cell? (ad.add j)=some u)(h1:∀u∈news,u.oneCell'=true)(hroom:n+m<=cap)
 (h:∀w',w'.ownsRow base e size (.slice (some ⟨g,0,none⟩) (n+m) cap) (n+m) (xs++news)->w.grownBy w' (some g)->wpList P y Q rest (a.put o.dst (.slice (some ⟨g,0,none⟩) (n+m) cap)) w'):wpList P y Q (o :: rest) a w:=by
 refine wpList_plain z fun K hK=> ?_;obtain⟨w',hr,h2,h3⟩:=run_append_fits (P:=P) (w:=w) base t o.type e i size ht hi hsize g n cap xs hown ad m c news hl hnews h1 hroom;unfold Oper.wp execOp;simp only[ho,resolve,invoke,builtin,Sem.run_bind,Sem.run_pure,Result.andThen_ok,List.map_toArray,List.map_cons,List.map_nil,hs,hx,hr];exact hK _ _ (h w' h2 h3)
end
end Mem
namespace Huff
open Go.RowKit Mem Canon Own
def Bw(bs:List Bool)(n:Nat):Nat->List Nat->Bool->Nat->List Nat×Int×Nat
 |0,out,_,at_=>(out,0,at_)
 |f+1,out,short,at_=>
  if n<=out.length then(if okB out=true then(out,0,at_)else([],7,at_))
  else if bs.length<at_+4 then([],1,at_)
  else if yZ bs at_ 4≠0 then Bw bs n f (out++ [yZ bs at_ 4]) false (at_+4)
  else if bs.length<at_+10 then([],1,at_+4)
  else if short=true∨n-out.length<=yZ bs (at_+4) 6 then([],7,at_+10)
  else Bw bs n f (out++List.replicate (yZ bs (at_+4) 6+1) 0) (decide (yZ bs (at_+4) 6+1<64)) (at_+10)
section
variable {bs:List Bool} {n f at_:Nat} {out:List Nat} {short:Bool}
theorem OO(h:n<=out.length):Bw bs n (f+1) out short at_=if okB out=true then(out,0,at_)else([],7,at_):=by rw[Bw,Ab h]
theorem Wm(h:¬n<=out.length)(h1:¬at_+4<=bs.length):Bw bs n (f+1) out short at_=([],1,at_):=by rw[Bw,Aa h,Ab mw]
theorem UJ(h:¬n<=out.length)(h1:at_+4<=bs.length)(h2:yZ bs at_ 4≠0):Bw bs n (f+1) out short at_=Bw bs n f (out++ [yZ bs at_ 4]) false (at_+4):=by rw[Bw,Aa h,Aa mw,Ab h2]
theorem X7(h:¬n<=out.length)(h1:at_+4<=bs.length)(h2:yZ bs at_ 4=0)(h3:¬at_+4+6<=bs.length):Bw bs n (f+1) out short at_=([],1,at_+4):=by rw[Bw,Aa h,Aa mw,Aa mw,Ab mw]
theorem Xl(h:¬n<=out.length)(h1:at_+4+6<=bs.length)(h2:yZ bs at_ 4=0)(h3:short=true∨n-out.length<=yZ bs (at_+4) 6):Bw bs n (f+1) out short at_=([],7,at_+4+6):=by rw[Bw,Aa h,Aa mw,Aa mw,Aa mw,Ab h3]
theorem Uw(h:¬n<=out.length)(h1:at_+4+6<=bs.length)(h2:yZ bs at_ 4=0)(h3:¬(short=true∨n-out.length<=yZ bs (at_+4) 6)):
 Bw bs n (f+1) out short at_=Bw bs n f (out++List.replicate (yZ bs (at_+4) 6+1) 0) (decide (yZ bs (at_+4) 6+1<64)) (at_+4+6):=by
 rw[Bw,Aa h,Aa mw,Aa mw,Aa mw,Aa h3]
end
theorem Gs{bs:List Bool}{at_:Nat}(h:at_+m<=bs.length):IL bs at_ m=yZ bs at_ m/\II bs at_ m=0/\IE bs at_ m=at_+m:=by unfold IL II IE;rw[Ab h,Ab h,Ab h];exact⟨rfl,rfl,rfl⟩
theorem Gr{bs:List Bool}{at_:Nat}(h:¬at_+m<=bs.length):IL bs at_ m=0/\II bs at_ m=1/\IE bs at_ m=at_:=by unfold IL II IE;rw[Aa h,Aa h,Aa h];exact⟨rfl,rfl,rfl⟩
theorem WN(m:Nat):List.replicate m (Value.int .u8 0)=cZ .u8 (List.replicate m 0):=oW
theorem Qk(k:IntKind)(a b:List Nat):cZ k (a++b)=cZ k a++cZ k b:=oW
theorem make_u8(n:Nat)(hn:n<=300)(w:World):(Instr.makeSlice 28 (.int .i64 0) (.int .i64 (n:Int))).run prog w=
 .ok (.slice (some ⟨w,0,none⟩) 0 n) (w.alloc (.cells (madeCells #[.int .u8 0] n) 5)):=by
 obtain⟨i0,hi,y,j,i⟩:=info_parts Ee;have h:=run_make (P:=prog) w 28 5 i0 (.int .u8 0) underlying28 hi y .i64 .i64 0 (n:Int) mw mw nS mw;simp only[Int.toNat_natCast]at h;simpa[j,Value.cells]using h
def RV(R:List Nat×Int×Nat)(lo g:Nat)(bs:List Bool)(w:World)(e:Ending)(w':World):Prop:=
 ∃v,e= .returned (.tuple #[v,R.2.1])/\w'.ownsRow w 5 1 v R.1.length (cZ .u8 R.1)/\Rd w' lo g bs R.2.2/\Kept (fun x=>x<w.heap.size/\x≠g) w w'
set_option maxHeartbeats 2000000 in
set_option maxRecDepth 100000 in
theorem Yj(w:World)(lo g:Nat)(bs:List Bool)(ak n:Nat)(bi:0<n)(hn:n<=300)(al:lo<=g)(hR:Rd w lo g bs ak):
 Calls prog 352 #[.pointer (some ⟨g,0,none⟩), .int .i64 (n:Nat)] w (RV (Bw bs n (n+1) [] false ak) lo g bs w):=by
 obtain⟨j0,aw,a5,az,ba⟩:=info_parts Ee;have bh:=make_u8 n hn;have bf:=hR.lt;have HR:=hid hR;clear hR;go_enter func352,ntmps352;go_wp2_with fail;have ah:(w.alloc (.cells (madeCells #[.int .u8 0] n) 5)).ownsRow w 5 1 (.slice (some ⟨w,0,none⟩) 0 n) 0 []:=World.ownsRow_made w _ n (Ak _) pm (by simp[madeCells]);have af:Below w w (w.alloc (.cells (madeCells #[.int .u8 0] n) 5)):=aZ (Ag _ _);generalize w.alloc (.cells (madeCells #[.int .u8 0] n) 5)=w0 at *;have ax:Hid (Rd w0 lo g bs ak):=HR.out.keep (fun b _ h=>af.block b mw) al;have a0:=hid (Kept.of_below (K:=fun x=>x<w.heap.size/\x≠g) af (fun _ h=>h.1));have a3:=hid ah;clear ah af HR
 go_loopw [6,7] (fun u s wr=>∃ (L at_:Nat) (out:List Nat) (sh:Bool),L<=n/\u= .slice (some ⟨w,0,none⟩) L n/\s= .bool sh/\Hid (wr.ownsRow w 5 1 (.slice (some ⟨w,0,none⟩) L n) L (cZ .u8 out))/\Hid (out.length=L)/\
  Hid (∃f,n+1<=f+L/\Bw bs n f out sh at_=Bw bs n (n+1) [] false ak)/\Hid (Rd wr lo g bs at_)/\Hid (Kept (fun x=>x<w.heap.size/\x≠g) w wr)) (fun u _ _=>match u with| .slice _ l _=>n-l|_=>0)
 case atStart=>exact⟨0,ak,[],false,mw,rfl,rfl,a3.out,rfl,⟨n+1,mw,rfl⟩,ax.out,a0.out⟩
 case round=>
  clear ax a0 a3;obtain⟨L,at_,out,sh,hL,rfl,rfl,M,U,z,aj,Y⟩:=hrel;obtain⟨f,hf,z⟩:=z.out;obtain⟨f,rfl⟩:∃f',f=f'+1:=⟨f-1,mw⟩;have HF:=hid hf;by_cases bk:L<n
  ·have C1:=JA wr lo g bs at_ 4 mw aj.out;have aa:¬n<=out.length:=(by rw[U.out];omega);by_cases N:at_+4<=bs.length
   ·rw[(Gs N).1,(Gs N).2.1,(Gs N).2.2]at C1;have aq:=GK bs at_ 4;obtain⟨l,hl⟩:=ii (yZ bs at_ 4);rw[<-hl]at C1 aq;have C1:=hid C1;by_cases ar:l=0
    ·subst ar;have a9:=Y.out.size;have C2:=fun wx (h:Rd wx lo g bs (at_+4))=>JA wx lo g bs (at_+4) 6 mw h;by_cases G:at_+4+6<=bs.length
     ·rw[(Gs G).1,(Gs G).2.1,(Gs G).2.2]at C2;have a1:=GK bs (at_+4) 6;have ac:=fun h=>Xl (f:=f) (short:=sh) aa G hl.symm h;have J:=fun h=>Uw (f:=f) (short:=sh) aa G hl.symm h;obtain⟨k,hk⟩:=ii (yZ bs (at_+4) 6);rw[<-hk]at C2 a1 ac J;rw[U.out]at ac J;have C2:=hid C2;by_cases hb:sh=true∨n-L<=k
      ·rw[ac hb]at z;have HG:=hid z
       have an:sh=true∨(n:Int)-(L:Int)<=(k:Int):=by
        rcases hb with h|h
        ·exact .inl h
        ·exact .inr mw
       clear z aa N hf hl ac J hk hb G;cases sh
       ·have bd:(n:Int)-(L:Int)<=(k:Int):=by
         rcases an with h|h
         ·cases h
         ·exact h
        clear an;go_wp2_with fail;refine C1.out.mono ?_;rintro e w1 ⟨rfl,Q,y⟩;go_wp2_with fail;refine(C2.out _ Q).mono ?_;rintro e w2 ⟨rfl,ae,E⟩;go_wp2_with fail;go_ret2;rw[<-HG.out];exact⟨_,rfl,AI _ _ _ _,ae,Y.out.trans (Kept.trans ⟨y.os,y.tape,y.output,y.size,fun b h=>y.block b h.2⟩ ⟨E.os,E.tape,E.output,E.size,fun b h=>E.block b h.2⟩)⟩
       ·clear an;go_wp2_with fail;refine C1.out.mono ?_;rintro e w1 ⟨rfl,Q,y⟩;go_wp2_with fail;refine(C2.out _ Q).mono ?_;rintro e w2 ⟨rfl,ae,E⟩;go_wp2_with fail;go_ret2;rw[<-HG.out];exact⟨_,rfl,AI _ _ _ _,ae,Y.out.trans (Kept.trans ⟨y.os,y.tape,y.output,y.size,fun b h=>y.block b h.2⟩ ⟨E.os,E.tape,E.output,E.size,fun b h=>E.block b h.2⟩)⟩
      ·rw[J hb]at z;have HG:=hid z;obtain rfl:sh=false:=by cases sh<;>simp_all
       have an:¬(n:Int)-(L:Int)<=(k:Int):=(by intro h;exact hb (.inr mw));have am:L+(k+1)<=n:=mw;clear z aa N hf hl ac J hk hb G;go_wp2_with fail;refine C1.out.mono ?_;rintro e w1 ⟨rfl,Q,y⟩;go_wp2_with fail;refine(C2.out _ Q).mono ?_;rintro e w2 ⟨rfl,ae,E⟩;have Z:Kept (fun x=>x≠g) wr w2:=y.trans E;have av:=eZ M.out (fun x hx=>Z.block x (by have:=(Aj M.out x hx).1;show x≠g;omega));have ay:Hid (Kept (fun x=>x<w.heap.size/\x≠g) w w2):=Y.out.trans ⟨Z.os,Z.tape,Z.output,Z.size,fun b h=>Z.block b h.2⟩;have be:=ay.out.size;have bb:=hid ae;clear y E Z Q ae C1 C2 M Y aj;have ek:((k+1:Nat):Int)=(k:Int)+1:=mw;go_wp2_with(at_builtin;refine Vw rfl (.tmp 57) (.tmp 59) 28 41 rfl w 5 j0 (.int .u8 0) .u64 .u64 underlying28 underlying41 aw a5 az ba rfl rfl w.heap.size L n (k+1) _ mz (by rw[ek];rfl) av am mw mw ?_;intro w3 ab ai);go_roundw
       case measure=>go_light;show n-(L+(k+1))<n-L;omega
       case rel=>
        go_light;rw[WN,<-Qk]at ab;refine⟨L+(k+1),at_+4+6,out++List.replicate (k+1) 0,decide (k+1<64),am,rfl,by congr 1;simp;omega,ab,?_,⟨f,lk,HG.out⟩,?_,?_⟩
        ·show(out++List.replicate (k+1) 0).length=_;rw[Ae,Di,U.out]
        ·exact bb.out.keep (fun b _ h=>ai.block b mw (by intro e;injection e with e;omega)) al
        ·exact ay.out.grown ai (fun b h=>by have:=h.1;omega) (fun b hb h=>by injection hb with hb;have:=h.1;omega)
     ·rw[(Gr G).1,(Gr G).2.1,(Gr G).2.2]at C2;rw[X7 aa N hl.symm G]at z;have C2:=hid C2;have HG:=hid z;clear z aa N hf hl G;go_wp2_with fail;refine C1.out.mono ?_;rintro e w1 ⟨rfl,Q,y⟩;go_wp2_with fail;refine(C2.out _ Q).mono ?_;rintro e w2 ⟨rfl,ae,E⟩;go_wp2_with fail;go_ret2;rw[<-HG.out];exact⟨_,rfl,AI _ _ _ _,ae,Y.out.trans (Kept.trans ⟨y.os,y.tape,y.output,y.size,fun b h=>y.block b h.2⟩ ⟨E.os,E.tape,E.output,E.size,fun b h=>E.block b h.2⟩)⟩
    ·have bc:l<16:=mw;rw[UJ aa N (by rw[<-hl];exact ar),<-hl]at z;have HG:=hid z;have bg:0<l:=mw;clear z aa N hf hl ar aq;go_wp2_with fail;refine C1.out.mono ?_;rintro e w1 ⟨rfl,Q,y⟩;have au:=eZ M.out (fun x hx=>y.block x (by have:=(Aj M.out x hx).1;show x≠g;omega));have a4:Hid (Kept (fun x=>x<w.heap.size/\x≠g) w w1):=Y.out.trans ⟨y.os,y.tape,y.output,y.size,fun b h=>y.block b h.2⟩;have bj:=a4.out.size;have a6:=hid Q;clear y Q C1 M Y aj;go_wp2_with(at_builtin;refine j5 rfl (.tmp 34) (.tmp 37) 28 rfl w 5 j0 1 underlying28 aw az w L n _ mz (au.alloc _) ⟨w1,0,none⟩ 1 1 [.int .u8 (l:Nat)] mz mz (World.news_of_block (cs:=#[.int .u8 (l:Nat)]) (t:=5) (fr:=(0,0)) (heap_alloc_new w1 _)) mp mw ?_;intro w3 ab ai);go_roundw
     case measure=>go_light;show n-(L+1)<n-L;omega
     case rel=>
      go_light;refine⟨L+1,at_+4,out++ [l],false,mw,rfl,rfl,?_,?_,⟨f,lk,HG.out⟩,?_,?_⟩
      ·show World.ownsRow _ _ _ _ _ _ _;rw[Qk];exact ab
      ·show(out++ [l]).length=_;rw[Ae,U.out];rfl
      ·exact a6.out.keep (fun b _ h=>(ai.block b oT (by intro e;injection e with e;omega)).trans (DJ w1 _ b mw)) al
      ·exact(a4.out.alloc (fun b h=>by have:=h.1;omega) _).grown ai (fun b h=>by have:=h.1;simp;omega) (fun b hb h=>by injection hb with hb;have:=h.1;omega)
   ·rw[(Gr N).1,(Gr N).2.1,(Gr N).2.2]at C1;rw[Wm aa N]at z;have C1:=hid C1;have HG:=hid z;clear z aa N hf;go_wp2_with fail;refine C1.out.mono ?_;rintro e w1 ⟨rfl,Q,y⟩;go_wp2_with fail;go_ret2;rw[<-HG.out];exact⟨_,rfl,AI _ _ _ _,Q,Y.out.trans ⟨y.os,y.tape,y.output,y.size,fun b h=>y.block b h.2⟩⟩
  ·obtain rfl:L=n:=by omega
   rw[OO (by rw[U.out];omega)]at z;have J:Row wr wr (some ⟨w,0,none⟩) L 1 (jZ .u8 out):=Row.of_own M.out rfl (fun i j hi hj=>by have e0:j=0:=mw;subst e0;exact numL_get (by rw[U.out];exact hi));have C3:=NO wr (some ⟨w,0,none⟩) L L out U.out mw J;have a9:=Y.out.size;unfold GI at C3;cases hok:okB out
   ·rw[hok]at C3 z;rw[Aa oK]at z;have C3:=hid C3;have HG:=hid z;clear z hok J hf;go_wp2_with fail;refine C3.out.mono ?_;rintro e w1 ⟨rfl,ag⟩;go_wp2_with fail;go_ret2;rw[<-HG.out];exact⟨_,rfl,AI _ _ _ _,aj.out.keep (fun b _ h=>ag.block b mw) al,Y.out.trans (Kept.of_below ag (fun b h=>by have:=h.1;omega))⟩
   ·rw[hok]at C3 z;rw[Ab rfl]at z;have C3:=hid C3;have HG:=hid z;clear z hok J hf;go_wp2_with fail;refine C3.out.mono ?_;rintro e w1 ⟨rfl,ag⟩;go_wp2_with fail;go_ret2;rw[<-HG.out];refine⟨_,rfl,?_,aj.out.keep (fun b _ h=>ag.block b mw) al,Y.out.trans (Kept.of_below ag (fun b h=>by have:=h.1;omega))⟩;show World.ownsRow _ _ _ _ _ out.length _;rw[U.out];exact eZ M.out (fun x hx=>ag.block x (Aj M.out x hx).2)
end Huff
end Go.Proofs.YtfgdoknipbpfhaaGreatDoor
