/- append of zeros, as  -/
import Derived.Test.YtfgdoknipbpfhaaGreatDoorZBodyBack16
import Derived.Lib.AppendZeros
namespace Go.Proofs.YtfgdoknipbpfhaaGreatDoor
open Go.Proofs.Tryz
open Go.Lib (hid)
variable{w:World}{m:Nat}
namespace Mem
open Go.RowKit
theorem kD(z:Value)(n:Nat):(Builtin.zeroCells #[z] n).toList=List.replicate n z:=by
 apply List.ext_getElem
 ·simp[Builtin.zeroCells]
 ·intro i h1 h2;simp[Builtin.zeroCells,Nat.mod_one]
section
variable {P:Program}
theorem jL(w:World)(base:Nat)(t tn ty e:TypeId)(i:TypeInfo)(z:Value)(k kn:IntKind)(ht:P.underlying t=some (.slice e))(ae:P.underlying tn=some (.int kn))(hi:P.info? e=some i)(hz:i.zero=some z)
 (M:i.size=1)(Y:i.bytes=1)(aa:z.cells=#[z])(h1:z.oneCell'=true)(g n j m:Nat)(xs:List Value)(G:w.ownsRow base e 1 (.slice (some ⟨g,0,none⟩) n j) n xs)(y:n+m<=j)(hm:0<m)(ah:m<=1000):
 ∃w',(Builtin.append_ #[t,tn] ty #[.slice (some ⟨g,0,none⟩) n j, .int k m]).run P w= .ok (.slice (some ⟨g,0,none⟩) (n+m) j) w'/\
  w'.ownsRow base e 1 (.slice (some ⟨g,0,none⟩) (n+m) j) (n+m) (xs++List.replicate m z)/\w.grownBy w' (some g):=by
 have E:(xs++List.replicate m z).length=(n+m)*1:=by rw[Ag,G.1,DQ,EU,CO m]
 rcases G.2 with ⟨h,_⟩|⟨g',ag,cur,h,ab,hg,ai,Z,af,J⟩
 ·simp at h
 ·simp only[Value.slice.injEq,Option.some.injEq,Addr.mk.injEq,and_true,true_and]at h;obtain⟨rfl,rfl⟩:=h;have Q:n*1+(List.replicate m z).length<=cur.size:=by rw[DQ,af];omega
  have L:=run_storeCells_at P g (n*1) e (List.replicate m z) 0 cur w hg (by simpa using Q) (fun v hv=>by rw[List.eq_of_mem_replicate hv];exact h1);simp only[Nat.add_zero]at L;have hw:IntKind.i64.wrap (m:Int)=(m:Int):=pY
  have N:¬((m:Int)<0):=nj
  have U:¬(281474976710656<(m:Int)):=nj
  have ac:m≠0:=nj
  refine⟨_,?_,⟨E, .inr ⟨g,j,_,rfl,ab,setRow_heap w g cur (cur.toList.take (n*1)++List.replicate m z++cur.toList.drop (n*1+(List.replicate m z).length)).toArray e _ hg,y,Z,?_,?_⟩⟩,⟨rfl,rfl,rfl,qT,fun k _ hk=>setRow_other w g k _ (fun e=>hk (by simp[e]))⟩⟩
  ·simp[Builtin.append_,run_underlying ht,run_underlying ae,sizeOf,typeInfo,zeroValue,hi,hz,M,Y,aa,asInt,asIntOf,hw,N,U,ac,y,kD,Addr.add_lit]at L ⊢;rw[L];rfl
  ·simp only[List.size_toArray,List.length_append,List.length_take,List.length_drop,Array.length_toList];omega
  ·rw[J,<-E];exact List.take_left
theorem gH{j:Array Oper}{rest:List Oper}{o:Oper}{a:Act}{Q:Exit->Act->World->Prop}(y:o.guard=none)(s x:Operand)(t tn:TypeId)
 (ho:o.op= .call {callee:= .builtin .append,args:=#[s,x],argTypes:=#[t,tn] })
 (base:Nat)(e:TypeId)(i:TypeInfo)(z:Value)(k kn:IntKind)(ht:P.underlying t=some (.slice e))(htn:P.underlying tn=some (.int kn))(hi:P.info? e=some i)(hz:i.zero=some z)
 (hsize:i.size=1)(hby:i.bytes=1)(hzc:z.cells=#[z])(h1:z.oneCell'=true)(g n cap m:Nat)(xs:List Value)(hs:a.eval s= .slice (some ⟨g,0,none⟩) n cap)(hx:a.eval x= .int k m)
 (hown:w.ownsRow base e 1 (.slice (some ⟨g,0,none⟩) n cap) n xs)(hroom:n+m<=cap)(hm:0<m)(hm2:m<=1000)
 (h:∀w',w'.ownsRow base e 1 (.slice (some ⟨g,0,none⟩) (n+m) cap) (n+m) (xs++List.replicate m z)->w.grownBy w' (some g)->wpList P j Q rest (a.put o.dst (.slice (some ⟨g,0,none⟩) (n+m) cap)) w'):wpList P j Q (o :: rest) a w:=by
 refine wpList_plain y fun K hK=> ?_;obtain⟨w',hr,h2,h3⟩:=jL (P:=P) w base t tn o.type e i z k kn ht htn hi hz hsize hby hzc h1 g n cap m xs hown hroom hm hm2;unfold Oper.wp execOp;simp only[ho,resolve,invoke,builtin,Sem.run_bind,Sem.run_pure,Result.andThen_ok,List.map_toArray,List.map_cons,List.map_nil,hs,hx,hr];exact hK _ _ (h w' h2 h3)
theorem bQ{y:Array Oper}{rest:List Oper}{o:Oper}{a:Act}{Q:Exit->Act->World->Prop}(z:o.guard=none)(s x:Operand)(t:TypeId)
 (ho:o.op= .call {callee:= .builtin .append,args:=#[s,x],argTypes:=#[t,t] })
 (base:Nat)(e:TypeId)(i:TypeInfo)(size:Nat)(ht:P.underlying t=some (.slice e))(hi:P.info? e=some i)(hsize:i.size=size)
 (g n cap:Nat)(xs:List Value)(hs:a.eval s= .slice (some ⟨g,0,none⟩) n cap)(hown:w.ownsRow base e size (.slice (some ⟨g,0,none⟩) n cap) n xs)
 (ad:Addr)(m c:Nat)(news:List Value)(hx:a.eval x= .slice (some ad) m c)(hl:news.length=m*size)(hnews:∀j u,news[j]? =some u->w.cell? (ad.add j)=some u)(h1:∀u∈news,u.oneCell'=true)(hroom:n+m<=cap)
 (h:∀w',w'.ownsRow base e size (.slice (some ⟨g,0,none⟩) (n+m) cap) (n+m) (xs++news)->w.grownBy w' (some g)->wpList P y Q rest (a.put o.dst (.slice (some ⟨g,0,none⟩) (n+m) cap)) w'):wpList P y Q (o :: rest) a w:=by
 refine wpList_plain z fun K hK=> ?_;obtain⟨w',hr,h2,h3⟩:=run_append_fits (P:=P) (w:=w) base t o.type e i size ht hi hsize g n cap xs hown ad m c news hl hnews h1 hroom;unfold Oper.wp execOp;simp only[ho,resolve,invoke,builtin,Sem.run_bind,Sem.run_pure,Result.andThen_ok,List.map_toArray,List.map_cons,List.map_nil,hs,hx,hr];exact hK _ _ (h w' h2 h3)
end
end Mem
namespace Huff
open Go.RowKit Mem Canon Own
def Bz(bs:List Bool)(n:Nat):Nat->List Nat->Bool->Nat->List Nat×Int×Nat
 |0,out,_,at_=>(out,0,at_)
 |f+1,out,short,at_=>
  if n<=out.length then(if okB out=true then(out,0,at_)else([],7,at_))
  else if bs.length<at_+4 then([],1,at_)
  else if yZ bs at_ 4≠0 then Bz bs n f (out++ [yZ bs at_ 4]) false (at_+4)
  else if bs.length<at_+10 then([],1,at_+4)
  else if short=true∨n-out.length<=yZ bs (at_+4) 6 then([],7,at_+10)
  else Bz bs n f (out++List.replicate (yZ bs (at_+4) 6+1) 0) (decide (yZ bs (at_+4) 6+1<64)) (at_+10)
section
variable {bs:List Bool} {n f at_:Nat} {out:List Nat} {short:Bool}
theorem Pk(h:n<=out.length):Bz bs n (f+1) out short at_=if okB out=true then(out,0,at_)else([],7,at_):=by rw[Bz,Ab h]
theorem Xj(h:¬n<=out.length)(h1:¬at_+4<=bs.length):Bz bs n (f+1) out short at_=([],1,at_):=by rw[Bz,Aa h,Ab nj]
theorem TC(h:¬n<=out.length)(h1:at_+4<=bs.length)(h2:yZ bs at_ 4≠0):Bz bs n (f+1) out short at_=Bz bs n f (out++ [yZ bs at_ 4]) false (at_+4):=by rw[Bz,Aa h,Aa nj,Ab h2]
theorem iT(h:¬n<=out.length)(h1:at_+4<=bs.length)(h2:yZ bs at_ 4=0)(h3:¬at_+4+6<=bs.length):Bz bs n (f+1) out short at_=([],1,at_+4):=by rw[Bz,Aa h,Aa nj,Aa nj,Ab nj]
theorem jY(h:¬n<=out.length)(h1:at_+4+6<=bs.length)(h2:yZ bs at_ 4=0)(h3:short=true∨n-out.length<=yZ bs (at_+4) 6):Bz bs n (f+1) out short at_=([],7,at_+4+6):=by rw[Bz,Aa h,Aa nj,Aa nj,Aa nj,Ab h3]
theorem Tt(h:¬n<=out.length)(h1:at_+4+6<=bs.length)(h2:yZ bs at_ 4=0)(h3:¬(short=true∨n-out.length<=yZ bs (at_+4) 6)):
 Bz bs n (f+1) out short at_=Bz bs n f (out++List.replicate (yZ bs (at_+4) 6+1) 0) (decide (yZ bs (at_+4) 6+1<64)) (at_+4+6):=by
 rw[Bz,Aa h,Aa nj,Aa nj,Aa nj,Aa h3]
end
theorem GE{bs:List Bool}{at_:Nat}(h:at_+m<=bs.length):IW bs at_ m=yZ bs at_ m/\IU bs at_ m=0/\IS bs at_ m=at_+m:=by unfold IW IU IS;rw[Ab h,Ab h,Ab h];exact⟨rfl,rfl,rfl⟩
theorem GD{bs:List Bool}{at_:Nat}(h:¬at_+m<=bs.length):IW bs at_ m=0/\IU bs at_ m=1/\IS bs at_ m=at_:=by unfold IW IU IS;rw[Aa h,Aa h,Aa h];exact⟨rfl,rfl,rfl⟩
theorem lG(m:Nat):List.replicate m (Value.int .u8 0)=cZ .u8 (List.replicate m 0):=rk
theorem QQ(k:IntKind)(a b:List Nat):cZ k (a++b)=cZ k a++cZ k b:=rk
theorem make_u8(n:Nat)(hn:n<=300)(w:World):(Instr.makeSlice 28 (.int .i64 0) (.int .i64 (n:Int))).run prog w=
 .ok (.slice (some ⟨w,0,none⟩) 0 n) (w.alloc (.cells (madeCells #[.int .u8 0] n) 5)):=by
 obtain⟨i0,hi,y,i,j⟩:=info_parts Eg;have h:=run_make (P:=prog) w 28 5 i0 (.int .u8 0) underlying28 hi y .i64 .i64 0 (n:Int) nj nj qu nj;simp only[Int.toNat_natCast]at h;simpa[i,Value.cells]using h
def Vs(R:List Nat×Int×Nat)(lo g:Nat)(bs:List Bool)(w:World)(e:Ending)(w':World):Prop:=
 ∃v,e= .returned (.tuple #[v,R.2.1])/\w'.ownsRow w 5 1 v R.1.length (cZ .u8 R.1)/\Rd w' lo g bs R.2.2/\Kept (fun x=>x<w.heap.size/\x≠g) w w'
set_option maxHeartbeats 2000000 in
set_option maxRecDepth 100000 in
theorem jT(w:World)(lo g:Nat)(bs:List Bool)(ai n:Nat)(bf:0<n)(hn:n<=300)(ak:lo<=g)(hR:Rd w lo g bs ai):
 Calls prog 352 #[.pointer (some ⟨g,0,none⟩), .int .i64 (n:Nat)] w (Vs (Bz bs n (n+1) [] false ai) lo g bs w):=by
 obtain⟨j0,a4,ba,ay,bb⟩:=info_parts Eg;have bg:=make_u8 n hn;have bj:=hR.lt;have HR:=hid hR;clear hR;go_enter func352,ntmps352;go_wp2_with fail;have aj:(w.alloc (.cells (madeCells #[.int .u8 0] n) 5)).ownsRow w 5 1 (.slice (some ⟨w,0,none⟩) 0 n) 0 []:=World.ownsRow_made w _ n (Ak _) rE (by simp[madeCells]);have af:Below w w (w.alloc (.cells (madeCells #[.int .u8 0] n) 5)):=aZ (Ae _ _);generalize w.alloc (.cells (madeCells #[.int .u8 0] n) 5)=w0 at *;have a3:Hid (Rd w0 lo g bs ai):=HR.out.keep (fun b _ h=>af.block b nj) ak;have a0:=hid (Kept.of_below (K:=fun x=>x<w.heap.size/\x≠g) af (fun _ h=>h.1));have aw:=hid aj;clear aj af HR
 go_loopw [6,7] (fun u s wr=>∃ (L at_:Nat) (out:List Nat) (sh:Bool),L<=n/\u= .slice (some ⟨w,0,none⟩) L n/\s= .bool sh/\Hid (wr.ownsRow w 5 1 (.slice (some ⟨w,0,none⟩) L n) L (cZ .u8 out))/\Hid (out.length=L)/\
  Hid (∃f,n+1<=f+L/\Bz bs n f out sh at_=Bz bs n (n+1) [] false ai)/\Hid (Rd wr lo g bs at_)/\Hid (Kept (fun x=>x<w.heap.size/\x≠g) w wr)) (fun u _ _=>match u with| .slice _ l _=>n-l|_=>0)
 case atStart=>exact⟨0,ai,[],false,nj,rfl,rfl,aw.out,rfl,⟨n+1,nj,rfl⟩,a3.out,a0.out⟩
 case round=>
  clear a3 a0 aw;obtain⟨L,at_,out,sh,hL,rfl,rfl,N,U,z,ah,Y⟩:=hrel;obtain⟨f,hf,z⟩:=z.out;obtain⟨f,rfl⟩:∃f',f=f'+1:=⟨f-1,nj⟩;have HF:=hid hf;by_cases bk:L<n
  ·have C1:=Kb wr lo g bs at_ 4 nj ah.out;have aa:¬n<=out.length:=qb;by_cases J:at_+4<=bs.length
   ·rw[(GE J).1,(GE J).2.1,(GE J).2.2]at C1;have aq:=Ha bs at_ 4;obtain⟨l,hl⟩:=ii (yZ bs at_ 4);rw[<-hl]at C1 aq;have C1:=hid C1;by_cases au:l=0
    ·subst au;have a6:=Y.out.size;have C2:=fun wx (h:Rd wx lo g bs (at_+4))=>Kb wx lo g bs (at_+4) 6 nj h;by_cases G:at_+4+6<=bs.length
     ·rw[(GE G).1,(GE G).2.1,(GE G).2.2]at C2;have ax:=Ha bs (at_+4) 6;have ac:=fun h=>jY (f:=f) (short:=sh) aa G hl.symm h;have M:=fun h=>Tt (f:=f) (short:=sh) aa G hl.symm h;obtain⟨k,hk⟩:=ii (yZ bs (at_+4) 6);rw[<-hk]at C2 ax ac M;rw[U.out]at ac M;have C2:=hid C2;by_cases hb:sh=true∨n-L<=k
      ·rw[ac hb]at z;have HG:=hid z
       have an:sh=true∨(n:Int)-(L:Int)<=(k:Int):=by
        rcases hb with h|h
        ·exact .inl h
        ·exact .inr nj
       clear z aa J hf hl ac M hk hb G;cases sh
       ·have bd:(n:Int)-(L:Int)<=(k:Int):=by
         rcases an with h|h
         ·cases h
         ·exact h
        clear an;go_wp2_with fail;refine C1.out.mono ?_;rintro e w1 ⟨rfl,Q,y⟩;go_wp2_with fail;refine(C2.out _ Q).mono ?_;rintro e w2 ⟨rfl,ae,E⟩;go_wp2_with fail;go_ret2;rw[<-HG.out];exact⟨_,rfl,AE _ _ _ _,ae,Y.out.trans (Kept.trans ⟨y.os,y.tape,y.output,y.size,fun b h=>y.block b h.2⟩ ⟨E.os,E.tape,E.output,E.size,fun b h=>E.block b h.2⟩)⟩
       ·clear an;go_wp2_with fail;refine C1.out.mono ?_;rintro e w1 ⟨rfl,Q,y⟩;go_wp2_with fail;refine(C2.out _ Q).mono ?_;rintro e w2 ⟨rfl,ae,E⟩;go_wp2_with fail;go_ret2;rw[<-HG.out];exact⟨_,rfl,AE _ _ _ _,ae,Y.out.trans (Kept.trans ⟨y.os,y.tape,y.output,y.size,fun b h=>y.block b h.2⟩ ⟨E.os,E.tape,E.output,E.size,fun b h=>E.block b h.2⟩)⟩
      ·rw[M hb]at z;have HG:=hid z;obtain rfl:sh=false:=by cases sh<;>simp_all
       have an:¬(n:Int)-(L:Int)<=(k:Int):=(by intro h;exact hb (.inr nj));have al:L+(k+1)<=n:=nj;clear z aa J hf hl ac M hk hb G;go_wp2_with fail;refine C1.out.mono ?_;rintro e w1 ⟨rfl,Q,y⟩;go_wp2_with fail;refine(C2.out _ Q).mono ?_;rintro e w2 ⟨rfl,ae,E⟩;have Z:Kept (fun x=>x≠g) wr w2:=y.trans E;have av:=eZ N.out (fun x hx=>Z.block x (by have:=(Aj N.out x hx).1;show x≠g;omega));have a1:Hid (Kept (fun x=>x<w.heap.size/\x≠g) w w2):=Y.out.trans ⟨Z.os,Z.tape,Z.output,Z.size,fun b h=>Z.block b h.2⟩;have bh:=a1.out.size;have a9:=hid ae;clear y E Z Q ae C1 C2 N Y ah;have ek:((k+1:Nat):Int)=(k:Int)+1:=nj;go_wp2_with(at_builtin;refine gH rfl (.tmp 57) (.tmp 59) 28 41 rfl w 5 j0 (.int .u8 0) .u64 .u64 underlying28 underlying41 a4 ba ay bb rfl rfl w.heap.size L n (k+1) _ nm (by rw[ek];rfl) av al nj nj ?_;intro w3 ab am);go_roundw
       case measure=>go_light;show n-(L+(k+1))<n-L;omega
       case rel=>
        go_light;rw[lG,<-QQ]at ab;refine⟨L+(k+1),at_+4+6,out++List.replicate (k+1) 0,decide (k+1<64),al,rfl,by congr 1;simp;omega,ab,?_,⟨f,lx,HG.out⟩,?_,?_⟩
        ·show(out++List.replicate (k+1) 0).length=_;rw[Ag,DQ,U.out]
        ·exact a9.out.keep (fun b _ h=>am.block b nj (by intro e;injection e with e;omega)) ak
        ·exact a1.out.grown am (fun b h=>by have:=h.1;omega) (fun b hb h=>by injection hb with hb;have:=h.1;omega)
     ·rw[(GD G).1,(GD G).2.1,(GD G).2.2]at C2;rw[iT aa J hl.symm G]at z;have C2:=hid C2;have HG:=hid z;clear z aa J hf hl G;go_wp2_with fail;refine C1.out.mono ?_;rintro e w1 ⟨rfl,Q,y⟩;go_wp2_with fail;refine(C2.out _ Q).mono ?_;rintro e w2 ⟨rfl,ae,E⟩;go_wp2_with fail;go_ret2;rw[<-HG.out];exact⟨_,rfl,AE _ _ _ _,ae,Y.out.trans (Kept.trans ⟨y.os,y.tape,y.output,y.size,fun b h=>y.block b h.2⟩ ⟨E.os,E.tape,E.output,E.size,fun b h=>E.block b h.2⟩)⟩
    ·have bc:l<16:=nj;rw[TC aa J (by rw[<-hl];exact au),<-hl]at z;have HG:=hid z;have bi:0<l:=nj;clear z aa J hf hl au aq;go_wp2_with fail;refine C1.out.mono ?_;rintro e w1 ⟨rfl,Q,y⟩;have ar:=eZ N.out (fun x hx=>y.block x (by have:=(Aj N.out x hx).1;show x≠g;omega));have az:Hid (Kept (fun x=>x<w.heap.size/\x≠g) w w1):=Y.out.trans ⟨y.os,y.tape,y.output,y.size,fun b h=>y.block b h.2⟩;have be:=az.out.size;have a5:=hid Q;clear y Q C1 N Y ah;go_wp2_with(at_builtin;refine bQ rfl (.tmp 34) (.tmp 37) 28 rfl w 5 j0 1 underlying28 a4 ay w L n _ nm (ar.alloc _) ⟨w1,0,none⟩ 1 1 [.int .u8 (l:Nat)] nm nm (World.news_of_block (cs:=#[.int .u8 (l:Nat)]) (t:=5) (fr:=(0,0)) (heap_alloc_new w1 _)) mv nj ?_;intro w3 ab am);go_roundw
     case measure=>go_light;show n-(L+1)<n-L;omega
     case rel=>
      go_light;refine⟨L+1,at_+4,out++ [l],false,nj,rfl,rfl,?_,?_,⟨f,lx,HG.out⟩,?_,?_⟩
      ·show World.ownsRow _ _ _ _ _ _ _;rw[QQ];exact ab
      ·show(out++ [l]).length=_;rw[Ag,U.out];rfl
      ·exact a5.out.keep (fun b _ h=>(am.block b rg (by intro e;injection e with e;omega)).trans (Ej w1 _ b nj)) ak
      ·exact(az.out.alloc (fun b h=>by have:=h.1;omega) _).grown am (fun b h=>by have:=h.1;simp;omega) (fun b hb h=>by injection hb with hb;have:=h.1;omega)
   ·rw[(GD J).1,(GD J).2.1,(GD J).2.2]at C1;rw[Xj aa J]at z;have C1:=hid C1;have HG:=hid z;clear z aa J hf;go_wp2_with fail;refine C1.out.mono ?_;rintro e w1 ⟨rfl,Q,y⟩;go_wp2_with fail;go_ret2;rw[<-HG.out];exact⟨_,rfl,AE _ _ _ _,Q,Y.out.trans ⟨y.os,y.tape,y.output,y.size,fun b h=>y.block b h.2⟩⟩
  ·obtain rfl:L=n:=by omega
   rw[Pk qb]at z;have M:Row wr wr (some ⟨w,0,none⟩) L 1 (jZ .u8 out):=Row.of_own N.out rfl (fun i j hi hj=>by have e0:j=0:=nj;subst e0;exact numL_get (by rw[U.out];exact hi));have C3:=Qw wr (some ⟨w,0,none⟩) L L out U.out nj M;have a6:=Y.out.size;unfold G5 at C3;cases hok:okB out
   ·rw[hok]at C3 z;rw[Aa qT]at z;have C3:=hid C3;have HG:=hid z;clear z hok M hf;go_wp2_with fail;refine C3.out.mono ?_;rintro e w1 ⟨rfl,ag⟩;go_wp2_with fail;go_ret2;rw[<-HG.out];exact⟨_,rfl,AE _ _ _ _,ah.out.keep (fun b _ h=>ag.block b nj) ak,Y.out.trans (Kept.of_below ag (fun b h=>by have:=h.1;omega))⟩
   ·rw[hok]at C3 z;rw[Ab rfl]at z;have C3:=hid C3;have HG:=hid z;clear z hok M hf;go_wp2_with fail;refine C3.out.mono ?_;rintro e w1 ⟨rfl,ag⟩;go_wp2_with fail;go_ret2;rw[<-HG.out];refine⟨_,rfl,?_,ah.out.keep (fun b _ h=>ag.block b nj) ak,Y.out.trans (Kept.of_below ag (fun b h=>by have:=h.1;omega))⟩;show World.ownsRow _ _ _ _ _ out.length _;rw[U.out];exact eZ N.out (fun x hx=>ag.block x (Aj N.out x hx).2)
end Huff
end Go.Proofs.YtfgdoknipbpfhaaGreatDoor
