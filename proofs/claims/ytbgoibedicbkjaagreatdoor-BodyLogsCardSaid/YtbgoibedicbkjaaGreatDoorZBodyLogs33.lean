/- append of zeros, as  -/
import Derived.Test.YtbgoibedicbkjaaGreatDoorZBodyLogs19
import Derived.Lib.AppendZeros
namespace Go.Proofs.YtbgoibedicbkjaaGreatDoor
open Go.Lib (hid)
namespace Mem
open Go.RowKit
theorem U6(z:Value)(n:Nat):(Builtin.zeroCells #[z] n).toList=List.replicate n z:=by
 apply List.ext_getElem
 ·simp[Builtin.zeroCells]
 ·intro i h1 h2;simp[Builtin.zeroCells,Nat.mod_one]
section
variable {P:Program}
theorem UL(w:World)(base:Nat)(t tn ty e:TypeId)(i:TypeInfo)(z:Value)(k kn:IntKind)(ht:P.underlying t=some (.slice e))(ab:P.underlying tn=some (.int kn))(hi:P.info? e=some i)(hz:i.zero=some z)
 (L:i.size=1)(ac:i.bytes=1)(ae:z.cells=#[z])(h1:z.oneCell'=true)(g n j m:Nat)(xs:List Value)(G:w.ownsRow base e 1 (.slice (some ⟨g,0,none⟩) n j) n xs)(y:n+m<=j)(hm:0<m)(ai:m<=1000):
 ∃w',(Builtin.append_ #[t,tn] ty #[.slice (some ⟨g,0,none⟩) n j, .int k m]).run P w= .ok (.slice (some ⟨g,0,none⟩) (n+m) j) w'/\
  w'.ownsRow base e 1 (.slice (some ⟨g,0,none⟩) (n+m) j) (n+m) (xs++List.replicate m z)/\w.grownBy w' (some g):=by
 have E:(xs++List.replicate m z).length=(n+m)*1:=by rw[Ai,G.1,CM,EC,EM m]
 rcases G.2 with ⟨h,_⟩|⟨g',ag,cur,h,af,hg,ah,Z,Y,J⟩
 ·simp at h
 ·simp only[Value.slice.injEq,Option.some.injEq,Addr.mk.injEq,and_true,true_and]at h;obtain⟨rfl,rfl⟩:=h;have N:n*1+(List.replicate m z).length<=cur.size:=by rw[CM,Y];omega
  have M:=run_storeCells_at P g (n*1) e (List.replicate m z) 0 cur w hg (by simpa using N) (fun v hv=>by rw[List.eq_of_mem_replicate hv];exact h1);simp only[Nat.add_zero]at M;have hw:IntKind.i64.wrap (m:Int)=(m:Int):=by rw[IntKind.wrap_i64];omega
  have Q:¬((m:Int)<0):=by omega
  have aa:¬(281474976710656<(m:Int)):=by omega
  have U:m≠0:=by omega
  refine⟨_,?_,⟨E, .inr ⟨g,j,_,rfl,af,setRow_heap w g cur (cur.toList.take (n*1)++List.replicate m z++cur.toList.drop (n*1+(List.replicate m z).length)).toArray e _ hg,y,Z,?_,?_⟩⟩,⟨rfl,rfl,rfl,by simp,fun k _ hk=>setRow_other w g k _ (fun e=>hk (by simp[e]))⟩⟩
  ·simp[Builtin.append_,run_underlying ht,run_underlying ab,sizeOf,typeInfo,zeroValue,hi,hz,L,ac,ae,asInt,asIntOf,hw,Q,aa,U,y,U6,Addr.add_lit]at M ⊢;rw[M];rfl
  ·simp only[List.size_toArray,List.length_append,List.length_take,List.length_drop,Array.length_toList];omega
  ·rw[J,<-E];exact List.take_left
theorem XY{w:World}{j:Array Oper}{rest:List Oper}{o:Oper}{a:Act}{Q:Exit->Act->World->Prop}(y:o.guard=none)(s x:Operand)(t tn:TypeId)
 (ho:o.op= .call {callee:= .builtin .append,args:=#[s,x],argTypes:=#[t,tn] })
 (base:Nat)(e:TypeId)(i:TypeInfo)(z:Value)(k kn:IntKind)(ht:P.underlying t=some (.slice e))(htn:P.underlying tn=some (.int kn))(hi:P.info? e=some i)(hz:i.zero=some z)
 (hsize:i.size=1)(hby:i.bytes=1)(hzc:z.cells=#[z])(h1:z.oneCell'=true)(g n cap m:Nat)(xs:List Value)(hs:a.eval s= .slice (some ⟨g,0,none⟩) n cap)(hx:a.eval x= .int k m)
 (hown:w.ownsRow base e 1 (.slice (some ⟨g,0,none⟩) n cap) n xs)(hroom:n+m<=cap)(hm:0<m)(hm2:m<=1000)
 (h:∀w',w'.ownsRow base e 1 (.slice (some ⟨g,0,none⟩) (n+m) cap) (n+m) (xs++List.replicate m z)->w.grownBy w' (some g)->wpList P j Q rest (a.put o.dst (.slice (some ⟨g,0,none⟩) (n+m) cap)) w'):wpList P j Q (o :: rest) a w:=by
 refine wpList_plain y fun K hK=> ?_;obtain⟨w',hr,h2,h3⟩:=UL (P:=P) w base t tn o.type e i z k kn ht htn hi hz hsize hby hzc h1 g n cap m xs hown hroom hm hm2;unfold Oper.wp execOp;simp only[ho,resolve,invoke,builtin,Sem.run_bind,Sem.run_pure,Result.andThen_ok,List.map_toArray,List.map_cons,List.map_nil,hs,hx,hr];exact hK _ _ (h w' h2 h3)
theorem Uu{w:World}{y:Array Oper}{rest:List Oper}{o:Oper}{a:Act}{Q:Exit->Act->World->Prop}(z:o.guard=none)(s x:Operand)(t:TypeId)
 (ho:o.op= .call {callee:= .builtin .append,args:=#[s,x],argTypes:=#[t,t] })
 (base:Nat)(e:TypeId)(i:TypeInfo)(size:Nat)(ht:P.underlying t=some (.slice e))(hi:P.info? e=some i)(hsize:i.size=size)
 (g n cap:Nat)(xs:List Value)(hs:a.eval s= .slice (some ⟨g,0,none⟩) n cap)(hown:w.ownsRow base e size (.slice (some ⟨g,0,none⟩) n cap) n xs)
 (ad:Addr)(m c:Nat)(news:List Value)(hx:a.eval x= .slice (some ad) m c)(hl:news.length=m*size)(hnews:∀j u,news[j]? =some u->w.cell? (ad.add j)=some u)(h1:∀u∈news,u.oneCell'=true)(hroom:n+m<=cap)
 (h:∀w',w'.ownsRow base e size (.slice (some ⟨g,0,none⟩) (n+m) cap) (n+m) (xs++news)->w.grownBy w' (some g)->wpList P y Q rest (a.put o.dst (.slice (some ⟨g,0,none⟩) (n+m) cap)) w'):wpList P y Q (o :: rest) a w:=by
 refine wpList_plain z fun K hK=> ?_;obtain⟨w',hr,h2,h3⟩:=run_append_fits (P:=P) (w:=w) base t o.type e i size ht hi hsize g n cap xs hown ad m c news hl hnews h1 hroom;unfold Oper.wp execOp;simp only[ho,resolve,invoke,builtin,Sem.run_bind,Sem.run_pure,Result.andThen_ok,List.map_toArray,List.map_cons,List.map_nil,hs,hx,hr];exact hK _ _ (h w' h2 h3)
end
end Mem
namespace Huff
open Go.RowKit Mem Canon Own
def Bd(bs:List Bool)(n:Nat):Nat->List Nat->Bool->Nat->List Nat×Int×Nat
 |0,out,_,at_=>(out,0,at_)
 |f+1,out,short,at_=>
  if n<=out.length then(if okB out=true then(out,0,at_)else([],7,at_))
  else if bs.length<at_+4 then([],1,at_)
  else if sZ bs at_ 4≠0 then Bd bs n f (out++ [sZ bs at_ 4]) false (at_+4)
  else if bs.length<at_+10 then([],1,at_+4)
  else if short=true∨n-out.length<=sZ bs (at_+4) 6 then([],7,at_+10)
  else Bd bs n f (out++List.replicate (sZ bs (at_+4) 6+1) 0) (decide (sZ bs (at_+4) 6+1<64)) (at_+10)
section
variable {bs:List Bool} {n f at_:Nat} {out:List Nat} {short:Bool}
theorem OS(h:n<=out.length):Bd bs n (f+1) out short at_=if okB out=true then(out,0,at_)else([],7,at_):=by rw[Bd,Ab h]
theorem Pt(h:¬n<=out.length)(h1:¬at_+4<=bs.length):Bd bs n (f+1) out short at_=([],1,at_):=by rw[Bd,Aa h,Ab (by omega)]
theorem OG(h:¬n<=out.length)(h1:at_+4<=bs.length)(h2:sZ bs at_ 4≠0):Bd bs n (f+1) out short at_=Bd bs n f (out++ [sZ bs at_ 4]) false (at_+4):=by rw[Bd,Aa h,Aa (by omega),Ab h2]
theorem OI(h:¬n<=out.length)(h1:at_+4<=bs.length)(h2:sZ bs at_ 4=0)(h3:¬at_+4+6<=bs.length):Bd bs n (f+1) out short at_=([],1,at_+4):=by rw[Bd,Aa h,Aa (by omega),Aa (by omega),Ab (by omega)]
theorem Ou(h:¬n<=out.length)(h1:at_+4+6<=bs.length)(h2:sZ bs at_ 4=0)(h3:short=true∨n-out.length<=sZ bs (at_+4) 6):Bd bs n (f+1) out short at_=([],7,at_+4+6):=by rw[Bd,Aa h,Aa (by omega),Aa (by omega),Aa (by omega),Ab h3]
theorem Od(h:¬n<=out.length)(h1:at_+4+6<=bs.length)(h2:sZ bs at_ 4=0)(h3:¬(short=true∨n-out.length<=sZ bs (at_+4) 6)):
 Bd bs n (f+1) out short at_=Bd bs n f (out++List.replicate (sZ bs (at_+4) 6+1) 0) (decide (sZ bs (at_+4) 6+1<64)) (at_+4+6):=by
 rw[Bd,Aa h,Aa (by omega),Aa (by omega),Aa (by omega),Aa h3]
end
theorem Cv{bs:List Bool}{at_ m:Nat}(h:at_+m<=bs.length):FK bs at_ m=sZ bs at_ m/\FJ bs at_ m=0/\FH bs at_ m=at_+m:=by unfold FK FJ FH;rw[Ab h,Ab h,Ab h];exact⟨rfl,rfl,rfl⟩
theorem Cu{bs:List Bool}{at_ m:Nat}(h:¬at_+m<=bs.length):FK bs at_ m=0/\FJ bs at_ m=1/\FH bs at_ m=at_:=by unfold FK FJ FH;rw[Aa h,Aa h,Aa h];exact⟨rfl,rfl,rfl⟩
theorem Xr(m:Nat):List.replicate m (Value.int .u8 0)=cZ .u8 (List.replicate m 0):=by simp[cZ]
theorem Lk(k:IntKind)(a b:List Nat):cZ k (a++b)=cZ k a++cZ k b:=by simp[cZ]
theorem VE(n:Nat)(hn:n<=300)(w:World):(Instr.makeSlice 22 (.int .i64 0) (.int .i64 (n:Int))).run Tryz.prog w=
 .ok (.slice (some ⟨w.heap.size,0,none⟩) 0 n) (w.alloc (.cells (madeCells #[.int .u8 0] n) 5)):=by
 obtain⟨i0,hi,y,i,j⟩:=info_parts Cr;have h:=run_make (P:=Tryz.prog) w 22 5 i0 (.int .u8 0) Tryz.underlying22 hi y .i64 .i64 0 (n:Int) (by omega) (by omega) (by rw[j];omega) (by omega);simp only[Int.toNat_natCast]at h;simpa[i,Value.cells]using h
def Rm(R:List Nat×Int×Nat)(lo g:Nat)(bs:List Bool)(w:World)(e:Ending)(w':World):Prop:=
 ∃v,e= .returned (.tuple #[v, .int .i64 R.2.1])/\w'.ownsRow w.heap.size 5 1 v R.1.length (cZ .u8 R.1)/\Rd w' lo g bs R.2.2/\Kept (fun x=>x<w.heap.size/\x≠g) w w'
set_option maxHeartbeats 2000000 in
set_option maxRecDepth 100000 in
theorem XA(w:World)(lo g:Nat)(bs:List Bool)(al n:Nat)(aR:0<n)(hn:n<=300)(aj:lo<=g)(hR:Rd w lo g bs al):
 Calls Tryz.prog 277 #[.pointer (some ⟨g,0,none⟩), .int .i64 (n:Nat)] w (Rm (Bd bs n (n+1) [] false al) lo g bs w):=by
 obtain⟨j0,aD,aG,aA,aE⟩:=info_parts Cr;have aQ:=VE n hn;have aO:=hR.lt;have HR:=hid hR;clear hR;go_enter Tryz.func277,Tryz.ntmps277;go_wp2_with fail;have ah:(w.alloc (.cells (madeCells #[.int .u8 0] n) 5)).ownsRow w.heap.size 5 1 (.slice (some ⟨w.heap.size,0,none⟩) 0 n) 0 []:=World.ownsRow_made w _ n (Aj _) (by unfold maxLen;omega) (by simp[madeCells]);have af:Below w.heap.size w (w.alloc (.cells (madeCells #[.int .u8 0] n) 5)):=bZ (Ag _ _);generalize w.alloc (.cells (madeCells #[.int .u8 0] n) 5)=w0 at *;have aC:Hid (Rd w0 lo g bs al):=HR.out.keep (fun b _ h=>af.block b (by omega)) aj;have az:=hid (Kept.of_below (K:=fun x=>x<w.heap.size/\x≠g) af (fun _ h=>h.1));have aw:=hid ah;clear ah af HR
 go_loopw [6,7] (fun u s wr=>∃ (L at_:Nat) (out:List Nat) (sh:Bool),L<=n/\u= .slice (some ⟨w.heap.size,0,none⟩) L n/\s= .bool sh/\Hid (wr.ownsRow w.heap.size 5 1 (.slice (some ⟨w.heap.size,0,none⟩) L n) L (cZ .u8 out))/\Hid (out.length=L)/\
  Hid (∃f,n+1<=f+L/\Bd bs n f out sh at_=Bd bs n (n+1) [] false al)/\Hid (Rd wr lo g bs at_)/\Hid (Kept (fun x=>x<w.heap.size/\x≠g) w wr)) (fun u _ _=>match u with| .slice _ l _=>n-l|_=>0)
 case atStart=>exact⟨0,al,[],false,by omega,rfl,rfl,aw.out,rfl,⟨n+1,by omega,rfl⟩,aC.out,az.out⟩
 case round=>
  clear aC az aw;obtain⟨L,at_,out,sh,hL,rfl,rfl,J,U,z,ai,Y⟩:=hrel;obtain⟨f,hf,z⟩:=z.out;obtain⟨f,rfl⟩:∃f',f=f'+1:=⟨f-1,by omega⟩;have HF:=hid hf;by_cases aL:L<n
  ·have C1:=IW wr lo g bs at_ 4 (by omega) ai.out;have aa:¬n<=out.length:=(by rw[U.out];omega);by_cases M:at_+4<=bs.length
   ·rw[(Cv M).1,(Cv M).2.1,(Cv M).2.2]at C1;have aq:=DZ bs at_ 4;obtain⟨l,hl⟩:∃l,l=sZ bs at_ 4:=⟨_,rfl⟩;rw[<-hl]at C1 aq;have C1:=hid C1;by_cases ar:l=0
    ·subst ar;have aI:=Y.out.size;have C2:=fun wx (h:Rd wx lo g bs (at_+4))=>IW wx lo g bs (at_+4) 6 (by omega) h;by_cases G:at_+4+6<=bs.length
     ·rw[(Cv G).1,(Cv G).2.1,(Cv G).2.2]at C2;have ax:=DZ bs (at_+4) 6;have ac:=fun h=>Ou (f:=f) (short:=sh) aa G hl.symm h;have N:=fun h=>Od (f:=f) (short:=sh) aa G hl.symm h;obtain⟨k,hk⟩:∃k,k=sZ bs (at_+4) 6:=⟨_,rfl⟩;rw[<-hk]at C2 ax ac N;rw[U.out]at ac N;have C2:=hid C2;by_cases hb:sh=true∨n-L<=k
      ·rw[ac hb]at z;have HG:=hid z
       have an:sh=true∨(n:Int)-(L:Int)<=(k:Int):=by
        rcases hb with h|h
        ·exact .inl h
        ·exact .inr (by omega)
       clear z aa M hf hl ac N hk hb G;cases sh
       ·have aJ:(n:Int)-(L:Int)<=(k:Int):=by
         rcases an with h|h
         ·cases h
         ·exact h
        clear an;go_wp2_with fail;refine C1.out.mono ?_;rintro e w1 ⟨rfl,Q,y⟩;go_wp2_with fail;refine(C2.out _ Q).mono ?_;rintro e w2 ⟨rfl,ae,E⟩;go_wp2_with fail;go_ret2;rw[<-HG.out];exact⟨_,rfl,Am _ _ _ _,ae,Y.out.trans (Kept.trans ⟨y.os,y.tape,y.output,y.size,fun b h=>y.block b h.2⟩ ⟨E.os,E.tape,E.output,E.size,fun b h=>E.block b h.2⟩)⟩
       ·clear an;go_wp2_with fail;refine C1.out.mono ?_;rintro e w1 ⟨rfl,Q,y⟩;go_wp2_with fail;refine(C2.out _ Q).mono ?_;rintro e w2 ⟨rfl,ae,E⟩;go_wp2_with fail;go_ret2;rw[<-HG.out];exact⟨_,rfl,Am _ _ _ _,ae,Y.out.trans (Kept.trans ⟨y.os,y.tape,y.output,y.size,fun b h=>y.block b h.2⟩ ⟨E.os,E.tape,E.output,E.size,fun b h=>E.block b h.2⟩)⟩
      ·rw[N hb]at z;have HG:=hid z;obtain rfl:sh=false:=by cases sh<;>simp_all
       have an:¬(n:Int)-(L:Int)<=(k:Int):=(by intro h;exact hb (.inr (by omega)));have ak:L+(k+1)<=n:=(by omega);clear z aa M hf hl ac N hk hb G;go_wp2_with fail;refine C1.out.mono ?_;rintro e w1 ⟨rfl,Q,y⟩;go_wp2_with fail;refine(C2.out _ Q).mono ?_;rintro e w2 ⟨rfl,ae,E⟩;have Z:Kept (fun x=>x≠g) wr w2:=y.trans E;have au:=dZ J.out (fun x hx=>Z.block x (by have:=(Ae J.out x hx).1;show x≠g;omega));have aB:Hid (Kept (fun x=>x<w.heap.size/\x≠g) w w2):=Y.out.trans ⟨Z.os,Z.tape,Z.output,Z.size,fun b h=>Z.block b h.2⟩;have aN:=aB.out.size;have aF:=hid ae;clear y E Z Q ae C1 C2 J Y ai;have ek:((k+1:Nat):Int)=(k:Int)+1:=(by omega);go_wp2_with(at_builtin;refine XY rfl (.tmp 57) (.tmp 59) 22 57 rfl w.heap.size 5 j0 (.int .u8 0) .u64 .u64 Tryz.underlying22 Tryz.underlying57 aD aG aA aE rfl rfl w.heap.size L n (k+1) _ (by rfl) (by rw[ek];rfl) au ak (by omega) (by omega) ?_;intro w3 ab am);go_roundw
       case measure=>go_light;show n-(L+(k+1))<n-L;omega
       case rel=>
        go_light;rw[Xr,<-Lk]at ab;refine⟨L+(k+1),at_+4+6,out++List.replicate (k+1) 0,decide (k+1<64),ak,rfl,by congr 1;simp;omega,ab,?_,⟨f,by have:=HF.out;omega,HG.out⟩,?_,?_⟩
        ·show(out++List.replicate (k+1) 0).length=_;rw[Ai,CM,U.out]
        ·exact aF.out.keep (fun b _ h=>am.block b (by omega) (by intro e;injection e with e;omega)) aj
        ·exact aB.out.grown am (fun b h=>by have:=h.1;omega) (fun b hb h=>by injection hb with hb;have:=h.1;omega)
     ·rw[(Cu G).1,(Cu G).2.1,(Cu G).2.2]at C2;rw[OI aa M hl.symm G]at z;have C2:=hid C2;have HG:=hid z;clear z aa M hf hl G;go_wp2_with fail;refine C1.out.mono ?_;rintro e w1 ⟨rfl,Q,y⟩;go_wp2_with fail;refine(C2.out _ Q).mono ?_;rintro e w2 ⟨rfl,ae,E⟩;go_wp2_with fail;go_ret2;rw[<-HG.out];exact⟨_,rfl,Am _ _ _ _,ae,Y.out.trans (Kept.trans ⟨y.os,y.tape,y.output,y.size,fun b h=>y.block b h.2⟩ ⟨E.os,E.tape,E.output,E.size,fun b h=>E.block b h.2⟩)⟩
    ·have aK:l<16:=(by omega);rw[OG aa M (by rw[<-hl];exact ar),<-hl]at z;have HG:=hid z;have aM:0<l:=(by omega);clear z aa M hf hl ar aq;go_wp2_with fail;refine C1.out.mono ?_;rintro e w1 ⟨rfl,Q,y⟩;have av:=dZ J.out (fun x hx=>y.block x (by have:=(Ae J.out x hx).1;show x≠g;omega));have ay:Hid (Kept (fun x=>x<w.heap.size/\x≠g) w w1):=Y.out.trans ⟨y.os,y.tape,y.output,y.size,fun b h=>y.block b h.2⟩;have aP:=ay.out.size;have aH:=hid Q;clear y Q C1 J Y ai;go_wp2_with(at_builtin;refine Uu rfl (.tmp 34) (.tmp 37) 22 rfl w.heap.size 5 j0 1 Tryz.underlying22 aD aA w.heap.size L n _ (by rfl) (av.alloc _) ⟨w1.heap.size,0,none⟩ 1 1 [.int .u8 (l:Nat)] (by rfl) (by rfl) (World.news_of_block (cs:=#[.int .u8 (l:Nat)]) (t:=5) (fr:=(0,0)) (heap_alloc_new w1 _)) (by intro u hu;simp at hu;subst hu;rfl) (by omega) ?_;intro w3 ab am);go_roundw
     case measure=>go_light;show n-(L+1)<n-L;omega
     case rel=>
      go_light;refine⟨L+1,at_+4,out++ [l],false,by omega,rfl,rfl,?_,?_,⟨f,by have:=HF.out;omega,HG.out⟩,?_,?_⟩
      ·show World.ownsRow _ _ _ _ _ _ _;rw[Lk];exact ab
      ·show(out++ [l]).length=_;rw[Ai,U.out];rfl
      ·exact aH.out.keep (fun b _ h=>(am.block b (by simp;omega) (by intro e;injection e with e;omega)).trans (BI w1 _ b (by omega))) aj
      ·exact(ay.out.alloc (fun b h=>by have:=h.1;omega) _).grown am (fun b h=>by have:=h.1;simp;omega) (fun b hb h=>by injection hb with hb;have:=h.1;omega)
   ·rw[(Cu M).1,(Cu M).2.1,(Cu M).2.2]at C1;rw[Pt aa M]at z;have C1:=hid C1;have HG:=hid z;clear z aa M hf;go_wp2_with fail;refine C1.out.mono ?_;rintro e w1 ⟨rfl,Q,y⟩;go_wp2_with fail;go_ret2;rw[<-HG.out];exact⟨_,rfl,Am _ _ _ _,Q,Y.out.trans ⟨y.os,y.tape,y.output,y.size,fun b h=>y.block b h.2⟩⟩
  ·obtain rfl:L=n:=by omega
   rw[OS (by rw[U.out];omega)]at z;have N:Row wr wr.heap.size (some ⟨w.heap.size,0,none⟩) L 1 (iZ .u8 out):=Row.of_own J.out rfl (fun i j hi hj=>by have e0:j=0:=(by omega);subst e0;exact numL_get (by rw[U.out];exact hi));have C3:=PD wr (some ⟨w.heap.size,0,none⟩) L L out U.out (by omega) N;have aI:=Y.out.size;unfold Fg at C3;cases hok:okB out
   ·rw[hok]at C3 z;rw[Aa (by simp)]at z;have C3:=hid C3;have HG:=hid z;clear z hok N hf;go_wp2_with fail;refine C3.out.mono ?_;rintro e w1 ⟨rfl,ag⟩;go_wp2_with fail;go_ret2;rw[<-HG.out];exact⟨_,rfl,Am _ _ _ _,ai.out.keep (fun b _ h=>ag.block b (by omega)) aj,Y.out.trans (Kept.of_below ag (fun b h=>by have:=h.1;omega))⟩
   ·rw[hok]at C3 z;rw[Ab rfl]at z;have C3:=hid C3;have HG:=hid z;clear z hok N hf;go_wp2_with fail;refine C3.out.mono ?_;rintro e w1 ⟨rfl,ag⟩;go_wp2_with fail;go_ret2;rw[<-HG.out];refine⟨_,rfl,?_,ai.out.keep (fun b _ h=>ag.block b (by omega)) aj,Y.out.trans (Kept.of_below ag (fun b h=>by have:=h.1;omega))⟩;show World.ownsRow _ _ _ _ _ out.length _;rw[U.out];exact dZ J.out (fun x hx=>ag.block x (Ae J.out x hx).2)
end Huff
end Go.Proofs.YtbgoibedicbkjaaGreatDoor
