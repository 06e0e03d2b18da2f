/- A number's high and  -/
import Derived.Test.YtfgdoknipbpfhaaGreatDoorZBodyIndex24
import Derived.Test.YtfgdoknipbpfhaaGreatDoorZBodyIndex19
namespace Go.Proofs.YtfgdoknipbpfhaaGreatDoor
open Go.Proofs.Tryz
open Go.Lib (hid)
set_option maxHeartbeats 4000000
set_option maxRecDepth 100000
variable{e t:TypeId}{w w' w1 w3:World}{W b2 base c g gd i k m n s x y:Nat}{hs ls:List Nat}{u uH uT v' v3 vH vL x2:Value}{xs:List Value}{er:Int}{A:Option Addr}
namespace Ef
open Go.RowKit Mem Own Canon Huff NumPut
structure Prt (t:TypeId) (w:World) (base g W:Nat) (hs ls:List Nat) (vH vL:Value):Prop where
 blk:Blk w g t #[.int .i64 (W:Nat),vH,vL]
 oh:w.ownsRow base 3 1 vH hs.length (bZ .i64 hs)
 ol:w.ownsRow base 25 1 vL ls.length (bZ .u16 ls)
 gb:base<=g
theorem YW:(prog.info? 25).map (fun i=>(i.zero,i.size,i.bytes))=some (some (.int .u16 0),1,2):=ni
theorem Rh:(prog.info? 3).map (fun i=>(i.zero,i.size,i.bytes))=some (some (.int .i64 0),1,8):=ni
theorem Prt.highs(j:3≠t)(L:25≠t)(h:Prt t w base g W hs ls vH vL)(hb:Below w w w1)(hg:w1.grownBy w3 vH.ownBlock)
 (i:w3.ownsRow base 3 1 v3 (hs.length+1) (bZ .i64 hs++ [.int .i64 (x:Nat)])):Prt t (w3.setCell ⟨g,1,none⟩ v3) base g W (hs++ [x]) ls v3 vL:=by
 have G:vH.ownBlock≠some g:=iZ h.oh h.blk j;have b1:=h.blk.step hb;have b3:Blk w3 g t #[.int .i64 (W:Nat),vH,vL]:=b1.grown hg (By G);have o1:w1.ownsRow base 25 1 vL ls.length (bZ .u16 ls):=eZ h.ol (fun y hy=>hb.block y (Ai h.ol y hy).2)
 have o3:w3.ownsRow base 25 1 vL ls.length (bZ .u16 ls):=eZ o1 (fun y hy=>hg.block y (Ai o1 y hy).2 (fun e=>by
  rcases EN h.oh h.ol ji with e2|e2
  ·rw[e2]at e;cases e
  ·exact e2 (by rw[<-e,hy])))
 have E:v3.ownBlock≠some g:=iZ i b3 j;have J:vL.ownBlock≠some g:=iZ o3 b3 L;refine⟨by simpa using b3.set 1 v3,?_,eZ o3 (fun y hy=>Be _ _ _ y (fun e=>J pj)),h.gb⟩;have e1:bZ .i64 (hs++ [x])=bZ .i64 hs++ [.int .i64 (x:Nat)]:=p7
 rw[Aj,e1];exact eZ i (fun y hy=>Be _ _ _ y (fun e=>E pj))
theorem Prt.lows(E:3≠t)(j:25≠t)(h:Prt t w base g W hs ls vH vL)(hb:Below w w w1)(hg:w1.grownBy w3 vL.ownBlock)
 (i:w3.ownsRow base 25 1 v3 (ls.length+1) (bZ .u16 ls++ [.int .u16 (x:Nat)])):Prt t (w3.setCell ⟨g,2,none⟩ v3) base g W hs (ls++ [x]) vH v3:=by
 have J:vL.ownBlock≠some g:=iZ h.ol h.blk j;have b1:=h.blk.step hb;have b3:Blk w3 g t #[.int .i64 (W:Nat),vH,vL]:=b1.grown hg (By J);have o1:w1.ownsRow base 3 1 vH hs.length (bZ .i64 hs):=eZ h.oh (fun y hy=>hb.block y (Ai h.oh y hy).2)
 have o3:w3.ownsRow base 3 1 vH hs.length (bZ .i64 hs):=eZ o1 (fun y hy=>hg.block y (Ai o1 y hy).2 (fun e=>by
  rcases EN h.ol h.oh ji with e2|e2
  ·rw[e2]at e;cases e
  ·exact e2 (by rw[<-e,hy])))
 have G:v3.ownBlock≠some g:=iZ i b3 j;have L:vH.ownBlock≠some g:=iZ o3 b3 E;refine⟨by simpa using b3.set 2 v3,eZ o3 (fun y hy=>Be _ _ _ y (fun e=>L pj)),?_,h.gb⟩;have e1:bZ .u16 (ls++ [x])=bZ .u16 ls++ [.int .u16 (x:Nat)]:=p7
 rw[Aj,e1];exact eZ i (fun y hy=>Be _ _ _ y (fun e=>G pj))
theorem YD:∀n:Int,0<=n->n<2 ^ 20->IntKind.i64.wrap n=n:=fun n h0 h1=>Az _ nB
theorem XX(x W:Nat)(hx:x<=100000)(hW:W<=14):IntKind.u16.wrap (bits .and .i64 (x:Int) (IntKind.i64.wrap (IntKind.i64.wrap (2 ^ W)-1)))=((x % 2 ^ W:Nat):Int):=by
 have h1:2 ^ W<=2 ^ 14:=Cf nB hW;have h0:1<=2 ^ W:=Nat.one_le_two_pow;have e0:((2:Int) ^ W)=((2 ^ W:Nat):Int):=pR
 have h:x % 2 ^ W<2 ^ W:=Nat.mod_lt _ nB;rw[e0,Az ((2 ^ W:Nat):Int) nB];have e1:(((2 ^ W:Nat):Int)-1)=((2 ^ W-1:Nat):Int):=nB
 rw[e1,Az ((2 ^ W-1:Nat):Int) nB,(bits_nat .i64 20 ji YD x (2 ^ W-1) nB nB).1,NF,IntKind.wrap_u16];omega
theorem Ym(t:TypeId)(aa:3≠t)(Z:25≠t)(w:World)(base g W:Nat)(hs ls:List Nat)(vH vL:Value)(x:Nat)(hx:x<=100000)(hW:W<=14)(hh:hs.length<=100000)(hl:ls.length<=100000)(hP:Prt t w base g W hs ls vH vL):
 Calls prog 174 #[.pointer (some ⟨g,0,none⟩), .int .i64 (x:Nat)] w fun e w'=>e= .returned (.tuple #[])/\∃vH' vL',Prt t w' base g W (hs++ [x / 2 ^ W]) (ls++ [x % 2 ^ W]) vH' vL'/\Below base w w'/\Kept (fun y=>y<w.heap.size/\y≠g/\vH.ownBlock≠some y/\vL.ownBlock≠some y) w w'/\(∀y,y<w.heap.size->vL'.ownBlock=some y->vL.ownBlock=some y):=by
 obtain⟨j0,a9,ay,a3,a4⟩:=info_parts Rh;obtain⟨k0,a5,aq,aw,az⟩:=info_parts YW;have c0:=hP.blk.iy 0;have c1:=hP.blk.iy 1;have c2:=hP.blk.iy 2;have f1:=hP.blk.frozen 1;have f2:=hP.blk.frozen 2;have ax:=hP.blk.lt;have ah:=hP.gb;have M:=hP.oh;have ag:some g≠vH.ownBlock:=By (iZ hP.oh hP.blk aa);obtain⟨p,hp⟩:=jc hs.length;obtain⟨q,hq⟩:=jc ls.length;rw[<-hp]at M hh;obtain⟨AH,cH,rfl⟩:=aZ M;have HP:=hid hP;have a1:=hid hp;have ac:=hid hq;have a0:=hid hl;obtain⟨hi,Q⟩:=jc (x / 2 ^ W);obtain⟨lo,U⟩:=jc (x % 2 ^ W);rw[<-Q,<-U];have eh:(x:Int) / 2 ^ W=(hi:Int):=by rw[Q];simp
 have el:IntKind.u16.wrap (bits .and .i64 (x:Int) (IntKind.i64.wrap (IntKind.i64.wrap (2 ^ W)-1)))=(lo:Int):=by rw[U];exact XX x W hx hW
 have bd:=hid Q;have bb:=hid U;clear hP hp hq Q U hl;go_enter func174,ntmps174;go_upto_region 0 with fail;go_region_law((refine step_append_lies _ nC _ _ _ nC base 3 j0 _ 1 8 underlying37 a9 ay a3 a4 rfl nB (.slice AH p cH) p (bZ .i64 hs) nC ((M.alloc _).drew) ⟨w,0,none⟩ 1 1 [.int .i64 (hi:Nat)] nC nC (World.news_of_block (cs:=#[.int .i64 (hi:Nat)]) (t:=3) (fr:=(0,0)) (heap_alloc_new w _)) na nB qn nB p5 (w.heap.size+1) pR ?_;intro g3 E w3 N j am ak;have gb:w3.heap[g]? =w.heap[g]? :=(j.block g p5 ag).trans (EA w _ g ax);have p0:=(World.cell?_of_block (a:=⟨g,0,none⟩) gb).trans c0;have p1:=(World.cell?_of_block (a:=⟨g,1,none⟩) gb).trans c1;have p2:=(World.cell?_of_block (a:=⟨g,2,none⟩) gb).trans c2;have q1:=(World.frozen?_of_block (a:=⟨g,1,none⟩) gb).trans f1))
 all_goals
  have J:Prt t (w3.setCell ⟨g,1,none⟩ (.slice (some ⟨g3,0,none⟩) (p+1) E)) base g W (hs++ [hi]) ls (.slice (some ⟨g3,0,none⟩) (p+1) E) vL:=HP.out.highs aa Z (cZ (Ak _ w)).drew j (by rw[<-a1.out];exact N);have aj:Below base w (w3.setCell ⟨g,1,none⟩ (.slice (some ⟨g3,0,none⟩) (p+1) E)):=(((Ak base w).alloc nB _).drew.grown j p5 (fun y hy=>(Ai M y hy).1)).setCell (p:=⟨g,1,none⟩) ah _;have af:Hid (Kept (fun y=>y<w.heap.size/\y≠g/\(Value.slice AH p cH).ownBlock≠some y/\vL.ownBlock≠some y) w (w3.setCell ⟨g,1,none⟩ (.slice (some ⟨g3,0,none⟩) (p+1) E))):=((((Kept.refl _ w).alloc (fun y hy=>hy.1) _).drew.grown j (fun y hy=>by have:=hy.1;simp;omega) (fun y hy hk=>hk.2.2.1 hy))).set (fun h=>h.2.1 rfl) _;generalize w3.setCell ⟨g,1,none⟩ (.slice (some ⟨g3,0,none⟩) (p+1) E)=wb at *;clear N j am ak gb p0 p1 p2 q1;have au:=hid aj;have d0:=J.blk.iy 0;have d2:=J.blk.iy 2;have e2:=J.blk.frozen 2;have ae:=J.blk.lt;have G:=J.ol;have ai:some g≠vL.ownBlock:=By (iZ J.ol J.blk Z);rw[<-ac.out]at G;obtain⟨AL,cL,rfl⟩:=aZ G;have ar:=hid J;have bc:q<=100000:=by rw[ac.out];exact a0.out
  clear J aj c0 c1 c2 f1 f2 ag M;go_upto_region 1 with fail;go_region_law((refine step_append_lies _ nC _ _ _ nC base 25 k0 _ 1 2 underlying227 a5 aq aw az rfl nB (.slice AL q cL) q (bZ .u16 ls) nC ((G.alloc _).drew) ⟨wb,0,none⟩ 1 1 [.int .u16 (lo:Nat)] nC nC (World.news_of_block (cs:=#[.int .u16 (lo:Nat)]) (t:=25) (fr:=(0,0)) (heap_alloc_new wb _)) na nB qn nB p5 (wb.heap.size+1) pR ?_;intro g4 L w4 ab i Y ba;have gb:w4.heap[g]? =wb.heap[g]? :=(i.block g p5 ai).trans (EA wb _ g ae);have p0:=(World.cell?_of_block (a:=⟨g,0,none⟩) gb).trans d0;have p2:=(World.cell?_of_block (a:=⟨g,2,none⟩) gb).trans d2;have q2:=(World.frozen?_of_block (a:=⟨g,2,none⟩) gb).trans e2))
  all_goals
   have a6:Prt t (w4.setCell ⟨g,2,none⟩ (.slice (some ⟨g4,0,none⟩) (q+1) L)) base g W (hs++ [hi]) (ls++ [lo]) (.slice (some ⟨g3,0,none⟩) (p+1) E) (.slice (some ⟨g4,0,none⟩) (q+1) L):=ar.out.lows aa Z (cZ (Ak _ wb)).drew i (by rw[<-ac.out];exact ab);have av:Below base w (w4.setCell ⟨g,2,none⟩ (.slice (some ⟨g4,0,none⟩) (q+1) L)):=((au.out.alloc nB _).drew.grown i p5 (fun y hy=>(Ai G y hy).1)).setCell (p:=⟨g,2,none⟩) ah _;have zz:=af.out.size;have al:Hid (Kept (fun y=>y<w.heap.size/\y≠g/\(Value.slice AH p cH).ownBlock≠some y/\(Value.slice AL q cL).ownBlock≠some y) w (w4.setCell ⟨g,2,none⟩ (.slice (some ⟨g4,0,none⟩) (q+1) L))):=(((af.out.alloc (fun y hy=>by have:=hy.1;omega) _).drew.grown i (fun y hy=>by have:=hy.1;simp;omega) (fun y hy hk=>hk.2.2.2 hy))).set (fun h=>h.2.1 rfl) _
   have an:Hid (∀y,y<w.heap.size->(Value.slice (some ⟨g4,0,none⟩) (q+1) L).ownBlock=some y->(Value.slice AL q cL).ownBlock=some y):=fun y hy he=>by
    rcases Y with h|h
    ·rw[h];exact he
    ·have e:g4=y:=(by injection he);omega
   clear Y;go_wp2_with fail
   go_end0
   exact⟨rfl,_,_,a6,av,al.out,an.out⟩
end Ef
namespace Body
open Go.RowKit Mem Own Canon Nums
theorem own_far{e':TypeId}{s' n':Nat}{v:Value}{E:List Value}(h:w.ownsRow base e s v n xs)(h2:w.ownsRow i e' s' v' n' E)(j:e'≠e)(hg:w.grownBy w' v'.ownBlock):w'.ownsRow base e s v n xs:=
 eZ h fun y hy=>hg.block y (Ai h y hy).2 fun e2=>by
  rcases EN h2 h j with e3|e3
  ·rw[e3]at e2;cases e2
  ·exact e3 (by rw[<-e2,hy])
theorem OE{P:Program}{j:Array Oper}{o:Oper}{a:Act}{K:Act->World->Prop}{Q:Exit->Act->World->Prop}{E:Prop}(G:o.guard=none)(s x:Operand)(t:TypeId)
 (ho:o.op= .call {callee:= .builtin .append,args:=#[s,x],argTypes:=#[t,t] })
 (base:Nat)(e:TypeId)(i:TypeInfo)(z:Value)(size bytes:Nat)(ht:P.underlying t=some (.slice e))(hi:P.info? e=some i)(hz:i.zero=some z)
 (hsize:i.size=size)(hby:i.bytes=bytes)(hzs:z.cells.size=size)(hsz:0<size)
 (v:Value)(n:Nat)(xs:List Value)(hs:a.eval s=v)(hown:w.ownsRow base e size v n xs)
 (A:Option Addr)(m c:Nat)(news:List Value)(hx:a.eval x= .slice A m c)(hsrc:Src w A m c size news)(h1:∀u∈news,u.oneCell'=true)
 (h63:n+m<=maxLen)(hbytes:(n+m)*bytes<=140737488355328)(hbase:base<=w.heap.size)
 (h:∀A' c' w',w'.ownsRow base e size (.slice A' (n+m) c') (n+m) (xs++news)->w.grownBy w' v.ownBlock->((Value.slice A' (n+m) c').ownBlock=v.ownBlock∨(Value.slice A' (n+m) c').ownBlock=some w.heap.size)->K (a.put o.dst (.slice A' (n+m) c')) w'):
 if Region.wanted o (yielded j a.tmps)=true then Oper.wp P o a w K Q else E:=by
 have hw:Region.wanted o (yielded j a.tmps)=true:=by simp[Region.wanted,G]
 rw[Ag hw];obtain⟨v',w',hr,h2,h3,h4⟩:=NZ (P:=P) w base t o.type e i z size bytes ht hi hz hsize hby hzs hsz v n xs hown A m c news hsrc h1 h63 hbytes hbase;obtain⟨A',c',rfl⟩:=aZ h2;unfold Oper.wp execOp;simp only[ho,resolve,invoke,builtin,Sem.run_bind,Sem.run_pure,Result.andThen_ok,List.map_toArray,List.map_cons,List.map_nil,hs,hx,hr];exact h A' c' w' h2 h3 h4
def Fa(rec:Nat)(ls:List Nat):Nat->Nat->Int->List Nat->List Nat->List Nat×List Nat×Nat×Int
 |0,at_,er,cs,ss=>(cs,ss,at_,er)
 |k+1,at_,er,cs,ss=>if er≠0 then(cs,ss,at_,er)else Fa rec ls k (AR 8388608 ls (AR rec ls at_ 0) (AU rec ls at_ 0)) (AU 8388608 ls (AR rec ls at_ 0) (AU rec ls at_ 0)) (cs++ [Bh rec ls at_ 0]) (ss++ [Bh 8388608 ls (AR rec ls at_ 0) (AU rec ls at_ 0)])
theorem XE{rec:Nat}{at_:Nat}{cs ss:List Nat}(h:er≠0):Fa rec ls k at_ er cs ss=(cs,ss,at_,er):=by
 cases k with
 |zero=>rfl
 |succ k=>exact Ag h
def EB(ls:List Nat):Nat:=Bh 20000 ls 0 0
def Hx(ls:List Nat):Nat:=Bh (EB ls) ls (AR 20000 ls 0 0) (AU 20000 ls 0 0)
def Gu(ls:List Nat):List Nat×List Nat×Nat×Int:=Fa (EB ls) ls (Hx ls) (AR (EB ls) ls (AR 20000 ls 0 0) (AU 20000 ls 0 0)) (AU (EB ls) ls (AR 20000 ls 0 0) (AU 20000 ls 0 0)) [] []
def Ed(ls:List Nat):List Nat:=(Gu ls).1
def Er(ls:List Nat):List Nat:=(Gu ls).2.1
def dP(ls:List Nat):Nat:=Bh 8388608 ls (Gu ls).2.2.1 (Gu ls).2.2.2
def dPA(ls:List Nat):Nat:=AR 8388608 ls (Gu ls).2.2.1 (Gu ls).2.2.2
def dPE(ls:List Nat):Int:=AU 8388608 ls (Gu ls).2.2.1 (Gu ls).2.2.2
def dQ(ls:List Nat):Nat:=Bh 8388608 ls (dPA ls) (dPE ls)
def dE(ls:List Nat):Int:=GV ls (AR 8388608 ls (dPA ls) (dPE ls)) (AU 8388608 ls (dPA ls) (dPE ls))
def Gs(room:Nat)(ls:List Nat):Int:=if dE ls≠0 then dE ls else if 0∈Ed ls∨(Ed ls).sum≠EB ls∨(Er ls).sum+dP ls+dQ ls≠room then 2 else 0
theorem PV{rec:Nat}{ls:List Nat}:∀ (k at_:Nat) (er:Int) (cs ss:List Nat),cs.length=ss.length->(Fa rec ls k at_ er cs ss).1.length=(Fa rec ls k at_ er cs ss).2.1.length/\(Fa rec ls k at_ er cs ss).1.length<=cs.length+k/\((Fa rec ls k at_ er cs ss).2.2.2=0->(Fa rec ls k at_ er cs ss).1.length=cs.length+k)
 |0,_,_,_,_,h=>⟨h,Am _,fun _=>rfl⟩
 |k+1,at_,er,cs,ss,h=>by
  unfold Fa;split
  ·rename_i he;exact⟨h,Nat.le_add_right _ _,fun h2=>absurd h2 he⟩
  ·obtain⟨h1,h2,h3⟩:=PV (rec:=rec) (ls:=ls) k (AR 8388608 ls (AR rec ls at_ 0) (AU rec ls at_ 0)) (AU 8388608 ls (AR rec ls at_ 0) (AU rec ls at_ 0)) (cs++ [Bh rec ls at_ 0]) (ss++ [Bh 8388608 ls (AR rec ls at_ 0) (AU rec ls at_ 0)]) (by rw[Aj,Aj,h];rfl);rw[Aj]at h2 h3;exact⟨h1,by simp at h2;omega,fun h4=>by have:=h3 h4;simp at this;omega⟩
theorem TA{rec:Nat}{ls:List Nat}(h8:∀x∈ls,x<=255):∀ (k at_:Nat) (er:Int) (cs ss:List Nat),(∀x∈cs,x<=rec)->(∀x∈ss,x<=8388608)->(∀x∈(Fa rec ls k at_ er cs ss).1,x<=rec)/\(∀x∈(Fa rec ls k at_ er cs ss).2.1,x<=8388608)
 |0,_,_,_,_,h,h2=>⟨h,h2⟩
 |k+1,at_,er,cs,ss,h,h2=>by
  unfold Fa;split
  ·exact⟨h,h2⟩
  ·refine TA h8 k _ _ _ _ (fun x hx=> ?_) (fun x hx=> ?_)
   ·rcases Bx.1 hx with h'|h'
    ·exact h x h'
    ·rw[Em]at h';rw[h'];exact Gr h8 _ _
   ·rcases Bx.1 hx with h|h'
    ·exact h2 x h
    ·rw[Em]at h';rw[h'];exact Gr h8 _ _
theorem LI:∀ (l:List Nat) (m:Nat),(∀x∈l,x<=m)->l.sum<=l.length*m
 | [],_,_=>pR
 |x :: l,m,h=>by rw[GH,AI,I7];have h1:=LI l m (fun y hy=>h y (Cm _ hy));have h2:=h x (CP ..);omega
structure DrI (w wr:World) (gb:Nat) (t:TypeId) (rest:List Value) (g:Nat) (ls:List Nat) (B:Option Addr) (d at_:Nat) (er:Int) (C S:List Nat) (vc vs:Value):Prop where
 cur:Cur wr g w ls B d at_ er
 blk:Blk wr gb t (vc :: vs :: rest).toArray
 oc:wr.ownsRow w 3 1 vc C.length (bZ .i64 C)
 os:wr.ownsRow w 3 1 vs S.length (bZ .i64 S)
 ap:∀y,vc.ownBlock=some y->vs.ownBlock≠some y
 kept:Kept (fun x=>x<w.heap.size/\x≠gb) w wr
 lt:gb<w.heap.size
 ti:3≠t
 tu:5≠t
section
variable {w wr w1 w2 w3:World} {gb:Nat} {t:TypeId} {rest:List Value} {g:Nat} {ls:List Nat} {B:Option Addr} {d at_ a2:Nat} {er e2:Int} {C S:List Nat} {vc vs v3:Value} {x:Nat}
theorem DrI.call(h:DrI w wr gb t rest g ls B d at_ er C S vc vs)(j:Cur w2 g w ls B d a2 e2)(i:Kept (BL g wr) wr w2):DrI w w2 gb t rest g ls B d a2 e2 C S vc vs:=
 have hz:=h.kept.size;have G:=h.cur.lo;have E:=h.lt
 ⟨j,(i.block gb ⟨h.blk.lt,nB⟩).trans h.blk,eZ h.oc (fun y hy=>i.block y ⟨(Ai h.oc y hy).2,fun e=>iZ h.oc h.cur.blk ji (e ▸ hy)⟩),eZ h.os (fun y hy=>i.block y ⟨(Ai h.os y hy).2,fun e=>iZ h.os h.cur.blk ji (e ▸ hy)⟩),h.ap,h.kept.trans ⟨i.os,i.tape,i.output,i.size,fun y hy=>i.block y ⟨mX,mX⟩⟩,h.lt,h.ti,h.tu⟩
theorem DrI.cs(h:DrI w wr gb t rest g ls B d at_ er C S vc vs):wr.cell? ⟨gb,0,none⟩=some vc/\wr.cell? ⟨gb,1,none⟩=some vs:=by have h0:=h.blk.iy 0;have h1:=h.blk.iy 1;exact⟨h0,h1⟩
theorem DrI.third{x2:Value}(h:DrI w wr gb t (x2 :: rest) g ls B d at_ er C S vc vs){u:Value}:DrI w (wr.setCell ⟨gb,2,none⟩ u) gb t (u :: rest) g ls B d at_ er C S vc vs:=by have j:=h.cur.lo;have i:=h.lt;exact⟨⟨h.cur.blk.far pP _,Cb h.cur.own (iZ h.cur.own h.blk h.tu) _,h.cur.le,h.cur.lo⟩,by simpa using h.blk.set 2 u,Cb h.oc (iZ h.oc h.blk h.ti) _,Cb h.os (iZ h.os h.blk h.ti) _,h.ap,h.kept.set (fun hk=>hk.2 rfl) _,h.lt,h.ti,h.tu⟩
theorem DrI.fourth{x2 x3:Value}(h:DrI w wr gb t (x2 :: x3 :: rest) g ls B d at_ er C S vc vs){u:Value}:DrI w (wr.setCell ⟨gb,3,none⟩ u) gb t (x2 :: u :: rest) g ls B d at_ er C S vc vs:=by have j:=h.cur.lo;have i:=h.lt;exact⟨⟨h.cur.blk.far pP _,Cb h.cur.own (iZ h.cur.own h.blk h.tu) _,h.cur.le,h.cur.lo⟩,by simpa using h.blk.set 3 u,Cb h.oc (iZ h.oc h.blk h.ti) _,Cb h.os (iZ h.os h.blk h.ti) _,h.ap,h.kept.set (fun hk=>hk.2 rfl) _,h.lt,h.ti,h.tu⟩
theorem own_ints{E:List Nat}(h:w.ownsRow base 3 1 (.slice A n c) n (bZ .i64 E))(hn:E.length=n):Row w w A n 1 (kZ .i64 E):=
 Row.of_own h rfl fun i j hi hj=>by
  obtain rfl:j=0:=nB
  unfold bZ;rw[EK,Cw,BR,AD nB];unfold kZ;rw[Aq,AD nB];rfl
theorem DrI.count(h:DrI w wr gb t rest g ls B d at_ er C S vc vs)(hb:Below wr wr w1)(hg:w1.grownBy w3 vc.ownBlock)(i:w3.ownsRow w 3 1 v3 (C.length+1) (bZ .i64 C++ [.int .i64 (x:Nat)]))(E:v3.ownBlock=vc.ownBlock∨v3.ownBlock=some w1.heap.size):
 DrI w (w3.setCell ⟨gb,0,none⟩ v3) gb t rest g ls B d at_ er (C++ [x]) S v3 vs:=by
 have b3:=(h.blk.step hb).grown hg (By (iZ h.oc h.blk h.ti));have o1:w1.ownsRow w 3 1 vs S.length (bZ .i64 S):=eZ h.os (fun y hy=>hb.block y (Ai h.os y hy).2);have o3:w3.ownsRow w 3 1 vs S.length (bZ .i64 S):=eZ o1 (fun y hy=>hg.block y (Ai o1 y hy).2 (fun e=>h.ap y e.symm hy));have c1:=h.cur.step hb;have j:w1.ownsRow w 3 1 vc C.length (bZ .i64 C):=eZ h.oc (fun y hy=>hb.block y (Ai h.oc y hy).2);have c3:Cur w3 g w ls B d at_ er:=⟨c1.blk.grown hg (By (iZ j c1.blk ji)),own_far c1.own j ji hg,c1.le,c1.lo⟩;have J:=h.cur.lo;have G:=h.lt;refine⟨⟨c3.blk.far pP _,Cb c3.own (iZ c3.own b3 h.tu) _,c3.le,c3.lo⟩,by simpa using b3.set 0 v3,?_,Cb o3 (iZ o3 b3 h.ti) _,?_,?_,h.lt,h.ti,h.tu⟩
 ·rw[Aj,show bZ .i64 (C++ [x])=bZ .i64 C++ [.int .i64 (x:Nat)] by simp[bZ]];exact Cb i (iZ i b3 h.ti) _
 ·intro y hy hh;rcases E with e|e
  ·exact h.ap y (by rw[<-e];exact hy) hh
  ·rw[e]at hy;injection hy with hy;have:=(Ai h.os y hh).2;have:=hb.size;omega
 ·have hz:=h.kept.size;exact((h.kept.trans (Kept.of_below hb (fun y hy=>by have:=hy.1;omega))).grown hg (fun y hy=>by have:=hy.1;have:=hb.size;omega) (fun y hy hk=>by have:=(Ai h.oc y hy).1;have:=hk.1;omega)).set (fun hk=>hk.2 rfl) _
theorem DrI.size(h:DrI w wr gb t rest g ls B d at_ er C S vc vs)(hb:Below wr wr w1)(hg:w1.grownBy w3 vs.ownBlock)(i:w3.ownsRow w 3 1 v3 (S.length+1) (bZ .i64 S++ [.int .i64 (x:Nat)]))(E:v3.ownBlock=vs.ownBlock∨v3.ownBlock=some w1.heap.size):
 DrI w (w3.setCell ⟨gb,1,none⟩ v3) gb t rest g ls B d at_ er C (S++ [x]) vc v3:=by
 have b3:=(h.blk.step hb).grown hg (By (iZ h.os h.blk h.ti));have o1:w1.ownsRow w 3 1 vc C.length (bZ .i64 C):=eZ h.oc (fun y hy=>hb.block y (Ai h.oc y hy).2);have o3:w3.ownsRow w 3 1 vc C.length (bZ .i64 C):=eZ o1 (fun y hy=>hg.block y (Ai o1 y hy).2 (fun e=>h.ap y hy e.symm));have c1:=h.cur.step hb;have j:w1.ownsRow w 3 1 vs S.length (bZ .i64 S):=eZ h.os (fun y hy=>hb.block y (Ai h.os y hy).2);have c3:Cur w3 g w ls B d at_ er:=⟨c1.blk.grown hg (By (iZ j c1.blk ji)),own_far c1.own j ji hg,c1.le,c1.lo⟩;have J:=h.cur.lo;have G:=h.lt;refine⟨⟨c3.blk.far pP _,Cb c3.own (iZ c3.own b3 h.tu) _,c3.le,c3.lo⟩,by simpa using b3.set 1 v3,Cb o3 (iZ o3 b3 h.ti) _,?_,?_,?_,h.lt,h.ti,h.tu⟩
 ·rw[Aj,show bZ .i64 (S++ [x])=bZ .i64 S++ [.int .i64 (x:Nat)] by simp[bZ]];exact Cb i (iZ i b3 h.ti) _
 ·intro y hy hh;rcases E with e|e
  ·exact h.ap y hy (by rw[<-e];exact hh)
  ·rw[e]at hh;injection hh with hh;have:=(Ai h.oc y hy).2;have:=hb.size;omega
 ·have hz:=h.kept.size;exact((h.kept.trans (Kept.of_below hb (fun y hy=>by have:=hy.1;omega))).grown hg (fun y hy=>by have:=hy.1;have:=hb.size;omega) (fun y hy hk=>by have:=(Ai h.os y hy).1;have:=hk.1;omega)).set (fun hk=>hk.2 rfl) _
end
end Body
namespace Idx
open Go.RowKit Mem Own Canon Sift
open NumPut Recs Crc Block
theorem PT(s:Str):BY (bs s)=Dt s:=by unfold BY Dt;rw[Dr];rfl
theorem Nw{s:Str}(h:s.length<=25):(Dt s).length<=28:=by have h1:=LF (s:=bs s) (by rw[Dr];omega);rw[PT,Dr]at h1;omega
theorem X3{l:List Str}{x:Str}(h:l[k]? =some x):(l.take (k+1)).getLast?=some x:=by rw[Ca,h];simp
theorem Wc{l:List Str}{x y:Str}(hx:l[k]? =some x)(hy:l[k+1]? =some y):vZ (l.take (k+1+1))=vZ (l.take (k+1))++(gZ (Bl x y)++Dt (y.drop (Bl x y))):=by rw[Ca (i:=k+1),hy];refine WR ?_ y x (X3 hx);rw[Ca,hx];simp
theorem Kq(h:x<=127):(gZ x).length=1:=by rw[Fe nB];rfl
theorem Xl(s:Str)(a:Nat)(ha:a<=s.length)(w:World):(Instr.slice 9 (.string (bs s)) (some (.int .i64 (a:Int))) none none).run prog w= .ok (.string (bs (s.drop a))) w:=by
 have hz:=Dr s;rw[run_slice_string_l w (t:=9) (s:=bs s) (ht:=underlying9) .i64 (a:Int) nB nB,Br];have e:(bs s).extract a (bs s).size=bs (s.drop a):=by refine ByteArray.ext (Array.ext' ?_);rw[S8,IB,hz,Bp (by rw[AZ];exact Am _)];rfl
 rw[e]
end Idx
namespace Idx
open Go.RowKit Mem Own Canon
open NumPut (gZ sZ)
def Db(size:Nat)(l:List Str)(k:Nat):List Str:=(l.drop (k*size)).take size
def nCh(size n:Nat):Nat:=(n+size-1) / size
theorem Lr{size:Nat}(h:1<=size):k<nCh size n↔k*size<n:=by unfold nCh;rw[Nat.lt_iff_add_one_le,Nat.le_div_iff_mul_le nB,Ex];omega
theorem VT{size:Nat}(h:1<=size):nCh size 0=0:=by unfold nCh;exact Nat.div_eq_of_lt nB
theorem WY{size:Nat}(h:1<=size)(hn:1<=n):nCh size n=nCh size (n-size)+1:=by
 unfold nCh;by_cases hs:size<=n
 ·have e:n+size-1=(n-size+size-1)+size:=by omega
  rw[e,Nat.add_div_right _ nB]
 ·have e:n-size=0:=by omega
  rw[e,B0,Nat.div_eq_of_lt (by omega:size-1<size)];have e2:n+size-1=(n-1)+size:=nB
  rw[e2,Nat.add_div_right _ nB,Nat.div_eq_of_lt nB]
theorem Nm{size:Nat}(h:1<=size):nCh size n<=n:=by refine Kv fun hn=> ?_;have h1:=(Lr (n:=n) (k:=n) h).1 nB;have h2:n*1<=n*size:=Nat.mul_le_mul_left n h;omega
theorem Y3(size:Nat)(l:List Str):Db size l 0=l.take size:=by simp[Db]
theorem YJ(size:Nat)(l:List Str)(k:Nat):Db size l (k+1)=Db size (l.drop size) k:=by unfold Db;rw[List.drop_drop,Ex,Nat.one_mul,Nat.add_comm]
theorem VN{size:Nat}(h:1<=size):∀ (f:Nat) (l:List Str),l.length<=f->Ee size f l=(List.range (nCh size l.length)).map (Db size l)
 |0,l,hl=>by
  have e:l.length=0:=nB
  rw[e,VT h];rfl
 |f+1,l,hl=>by
  rw[Ee];by_cases e:l= []
  ·rw[Ag e,e];show []=(List.range (nCh size 0)).map _;rw[VT h];rfl
  ·have hp:1<=l.length:=FW.2 e;rw[Ae e,WY h hp,List.range_succ_eq_map,CE,List.map_map,Y3,VN h f (l.drop size) nM,AZ];congr 1;exact Hj fun k _=>(YJ size l k).symm
theorem Xa{size:Nat}(h:1<=size)(l:List Str):GR size l=(List.range (nCh size l.length)).map (Db size l):=VN h _ l (Am _)
theorem Mq{size:Nat}(h:1<=size)(l:List Str):CO size l=(gZ l.length++(List.range (nCh size l.length)).flatMap (fun k=>gZ (vZ (Db size l k)).length))++(List.range (nCh size l.length)).flatMap (fun k=>vZ (Db size l k)):=by unfold CO;rw[Xa h,List.flatMap_map,List.flatMap_map]
theorem Q2:∀ (t:List Str) (i:Str),(∀s∈t,s.length<=25)->i.length<=25->(EF i t).length<=31*t.length
 | [],_,_,_=>by simp[EF]
 |x :: t,i,h,hw=>by have hx:=h x CP;have ih:=Q2 t x (fun s hs=>h s (Cm _ hs)) hx;have ha:=(Lx i x).2;rw[EF,Aj,Aj,AI,Kq nB];have:=Nw (s:=x.drop (Bl i x)) nM;omega
theorem MQ{l:List Str}(h:∀s∈l,s.length<=25):(vZ l).length<=31*l.length:=by
 cases l with
 |nil=>simp[vZ]
 |cons x t=>rw[vZ,Aj,AI];have:=Nw (h x CP);have:=Q2 t x (fun s hs=>h s (Cm _ hs)) (h x CP);omega
theorem UK{size:Nat}{l:List Str}{s:Str}(h:s∈Db size l k):s∈l:=Cg (CN h)
theorem Uw(size k:Nat)(l:List Str):(Db size l k).length=min size (l.length-k*size):=by unfold Db;rw[Bc,AZ]
def Apt(v u:Value):Prop:=∀x,v.ownBlock=some x->u.ownBlock=some x->False
theorem Apt.symm{v:Value}(h:Apt v u):Apt u v:=fun x a b=>h x b a
theorem Hs{v:Value}{ys:List Value}(hu:w.ownsRow base e s u m ys)(ha:Apt v u)(hg:w.grownBy w' v.ownBlock)(i:v'.ownBlock=v.ownBlock∨v'.ownBlock=some w.heap.size):
 w'.ownsRow base e s u m ys/\Apt v' u:=by
 refine⟨eZ hu fun y hy=>hg.block y (Ai hu y hy).2 fun e=>ha y e.symm hy,fun x hx hy=> ?_⟩;rcases i with h|h
 ·exact ha x (h ▸ hx) hy
 ·rw[h]at hx;have:=(Ai hu x hy).2;injection hx;omega
theorem L4{v:Value}{B:Nat}(hv:w.ownsRow base e s v m xs)(hB:B<=base)(hu:∀x,u.ownBlock=some x->x<B):Apt v u:=
 fun x a b=>by have:=(Ai hv x a).1;have:=hu x b;omega
theorem XH{l:List Str}{r:Nat}{x y:Str}(hx:l[i+r]? =some x)(hy:l[i+r+1]? =some y):vZ ((l.drop i).take (r+1+1))=vZ ((l.drop i).take (r+1))++(gZ (Bl x y)++Dt (y.drop (Bl x y))):=
 Wc (by rw[FX];exact hx) (by rw[FX,<-Nat.add_assoc];exact hy)
theorem Ui{l:List Str}{x:Str}(hx:l[i]? =some x):vZ ((l.drop i).take (0+1))=Dt x:=by
 have h:(l.drop i)[0]? =some x:=by rw[FX,Cw];exact hx
 rw[Ca,h];simp[vZ,EF]
theorem Sa:∀ (l:List Str) (i:Str),Cv i l=true->∀s∈l,1<=s.length/\s.length<=25
 | [],_,_,s,hs=>by cases hs
 |x :: t,i,h,s,hs=>by
  rw[Cv,Ch]at h;rcases BK.1 hs with rfl|hs
  ·have h1:=h.1;unfold Dh at h1;rw[Ch,Ch,decide_eq_true_iff,decide_eq_true_iff]at h1;exact⟨h1.1,h1.2.1⟩
  ·exact Sa t x h.2 s hs
theorem IN{l:List Str}(h:EC l=true):∀s∈l,1<=s.length/\s.length<=25:=by unfold EC at h;rw[Ch]at h;exact Sa l [] h.1
def hdB(size:Nat)(l:List Str)(q:Nat):List Nat:=gZ l.length++(List.range q).flatMap (fun k=>gZ (vZ (Db size l k)).length)
def bdB(size:Nat)(l:List Str)(q:Nat):List Nat:=(List.range q).flatMap (fun k=>vZ (Db size l k))
theorem VE(size:Nat)(l:List Str)(q:Nat):hdB size l (q+1)=hdB size l q++gZ (vZ (Db size l q)).length:=by simp[hdB,List.range_succ]
theorem PM(size:Nat)(l:List Str)(q:Nat):bdB size l (q+1)=bdB size l q++vZ (Db size l q):=by simp[bdB,List.range_succ]
theorem Oq{size:Nat}{l:List Str}(hs:∀s∈l,s.length<=25)(h2:size<=64)(q:Nat):(vZ (Db size l q)).length<=1984:=by have h:=MQ (l:=Db size l q) (fun s hs'=>hs s (UK hs'));rw[Uw]at h;omega
theorem Lp{size:Nat}{l:List Str}(hs:∀s∈l,s.length<=25)(h2:size<=64)(hl:l.length<=1000000):∀q,(hdB size l q).length<=10+10*q
 |0=>by have:=sZ (x:=l.length) nB;simp[hdB];omega
 |q+1=>by have ih:=Lp hs h2 hl q;have hc:=Oq hs h2 q;have:=sZ (x:=(vZ (Db size l q)).length) nB;rw[VE,Aj];omega
theorem Tl{size:Nat}{l:List Str}(hs:∀s∈l,s.length<=25)(h2:size<=64):∀q,(bdB size l q).length<=1984*q
 |0=>by simp[bdB]
 |q+1=>by have ih:=Tl hs h2 q;have hc:=Oq hs h2 q;rw[PM,Aj];omega
theorem Mk{size:Nat}{l:List Str}(hs:∀s∈l,s.length<=25)(h1:1<=size):∀q,(bdB size l q).length<=31*min (q*size) l.length
 |0=>by simp[bdB]
 |q+1=>by have ih:=Mk hs h1 q;have hc:=MQ (l:=Db size l q) (fun s hs'=>hs s (UK hs'));rw[Uw]at hc;rw[PM,Aj,Ex,Nat.one_mul];omega
end Idx
namespace Idx
open Go.RowKit Mem Own Canon
open NumPut Recs Crc Block
def Cn(x:Nat):List Nat:= [x % 256,x / 256 % 256,x / 65536 % 256,x / 16777216 % 256]
def GT(x:Nat):Nat->Array Value
 |0=>#[.int .u8 0, .int .u8 0, .int .u8 0, .int .u8 0]
 |1=>#[.int .u8 ((x:Int) % 256), .int .u8 0, .int .u8 0, .int .u8 0]
 |2=>#[.int .u8 ((x:Int) % 256), .int .u8 ((x:Int) / 256 % 256), .int .u8 0, .int .u8 0]
 |3=>#[.int .u8 ((x:Int) % 256), .int .u8 ((x:Int) / 256 % 256), .int .u8 ((x:Int) / 65536 % 256), .int .u8 0]
 |_=>#[.int .u8 ((x:Int) % 256), .int .u8 ((x:Int) / 256 % 256), .int .u8 ((x:Int) / 65536 % 256), .int .u8 ((x:Int) / 16777216 % 256)]
theorem WF(x:Nat):(GT x 4).toList=bZ .u8 (Cn x):=by simp[GT,Cn,bZ]
theorem Vq:(prog.info? 5).map (fun i=>(i.zero,i.size,i.bytes))=some (some (.int .u8 0),1,1):=ni
theorem Xq(w:World):(Instr.makeSlice 28 (.int .i64 4) (.int .i64 4)).run prog w= .ok (.slice (some ⟨w,0,none⟩) 4 4) (w.alloc (.cells #[.int .u8 0, .int .u8 0, .int .u8 0, .int .u8 0] 5)):=by
 obtain⟨i0,hi,j,i,E⟩:=info_parts Vq;have h:=run_make (P:=prog) w 28 5 i0 (.int .u8 0) underlying28 hi j .i64 .i64 (4:Int) (4:Int) nB (Int.le_refl _) n8 nB;rw[h,i];have e:madeCells (Value.int IntKind.u8 0).cells (Int.toNat 4*1)=#[.int .u8 0, .int .u8 0, .int .u8 0, .int .u8 0]:=ni
 rw[e];rfl
theorem Ll(x:Int):IntKind.u8.wrap x=x % 256:=IntKind.wrap_u8 x
theorem WN(w:World)(x:Nat)(hx:x<4294967296):
 Calls prog 54 #[.int .u64 x, .int .i64 4] w fun e w'=>∃v,e= .returned (.tuple #[v,jd])/\w'.ownsRow w 5 1 v 4 (bZ .u8 (Cn x))/\Below w w w':=by
 have hd:(((x:Int) / 4294967296) != 0)=false:=p5
 have hm:=Xq;have w0:=Ll (x:Int);have w1:=Ll ((x:Int) / 256);have w2:=Ll ((x:Int) / 65536);have w3:=Ll ((x:Int) / 16777216);go_enter func54,ntmps54;go_wp2_with fail;have j:Hid (Blk (w.alloc (.cells #[.int .u8 0, .int .u8 0, .int .u8 0, .int .u8 0] 5)) w 5 (GT x 0)):=Blk.made _ _ _;have E:Hid (Below w w (w.alloc (.cells #[.int .u8 0, .int .u8 0, .int .u8 0, .int .u8 0] 5))):=cZ (Ak _ _);generalize w.alloc (.cells #[.int .u8 0, .int .u8 0, .int .u8 0, .int .u8 0] 5)=wa at *;go_loopw [29] (fun iv wr=>∃k:Nat,k<=4/\iv= .int .i64 k/\Hid (Blk wr w 5 (GT x k))/\Hid (Below w w wr)) (fun iv _=>4-(intOf iv).toNat)
 case atStart=>exact⟨0,nB,rfl,j.out,E.out⟩
 case round=>
  obtain⟨k,hk,rfl,HX,HB⟩:=hrel;clear j E hm;have G:k=0∨k=1∨k=2∨k=3∨k=4:=nB
  rcases G with rfl|rfl|rfl|rfl|rfl
  ·have c:=HX.out.cell 0;have f:=HX.out.frozen 0;have i:Hid (Blk (wr.setCell ⟨w,0,none⟩ (.int .u8 ((x:Int) % 256))) w 5 (GT x 1)):=HX.out.set 0 _;have h:Hid (Below w w (wr.setCell ⟨w,0,none⟩ (.int .u8 ((x:Int) % 256)))):=BN (Am _) HB.out;simp[GT]at c;clear HX HB;go_wp2_with fail;exact⟨⟨1,nB,rfl,i,h⟩,qb⟩
  ·have c:=HX.out.cell 1;have f:=HX.out.frozen 1;have i:Hid (Blk (wr.setCell ⟨w,1,none⟩ (.int .u8 ((x:Int) / 256 % 256))) w 5 (GT x 2)):=HX.out.set 1 _;have h:Hid (Below w w (wr.setCell ⟨w,1,none⟩ (.int .u8 ((x:Int) / 256 % 256)))):=BN (Am _) HB.out;simp[GT]at c;clear HX HB;go_wp2_with fail;exact⟨⟨2,nB,rfl,i,h⟩,qb⟩
  ·have c:=HX.out.cell 2;have f:=HX.out.frozen 2;have i:Hid (Blk (wr.setCell ⟨w,2,none⟩ (.int .u8 ((x:Int) / 65536 % 256))) w 5 (GT x 3)):=HX.out.set 2 _;have h:Hid (Below w w (wr.setCell ⟨w,2,none⟩ (.int .u8 ((x:Int) / 65536 % 256)))):=BN (Am _) HB.out;simp[GT]at c;clear HX HB;go_wp2_with fail;exact⟨⟨3,nB,rfl,i,h⟩,qb⟩
  ·have c:=HX.out.cell 3;have f:=HX.out.frozen 3;have i:Hid (Blk (wr.setCell ⟨w,3,none⟩ (.int .u8 ((x:Int) / 16777216 % 256))) w 5 (GT x 4)):=HX.out.set 3 _;have h:Hid (Below w w (wr.setCell ⟨w,3,none⟩ (.int .u8 ((x:Int) / 16777216 % 256)))):=BN (Am _) HB.out;simp[GT]at c;clear HX HB;go_wp2_with fail;exact⟨⟨4,nB,rfl,i,h⟩,qb⟩
  ·go_wp2_with fail;go_ret2;refine⟨_,rfl,⟨rfl, .inr ⟨w.heap.size,4,_,rfl,Am _,HX.out,nB,qn,rfl,?_⟩⟩,HB.out⟩;rw[<-WF];rfl
def Hd(x k:Nat):List Nat:=(List.range k).map fun i=>x / 256 ^ i % 256
theorem W7(x:Nat):Hd x 4=Cn x:=by simp[Hd,Cn,List.range_succ]
theorem WK(x k:Nat):Hd x (k+1)=Hd x k++ [x / 256 ^ k % 256]:=by simp[Hd,List.range_succ]
theorem Vx(w:World)(x:Nat)(hx:x<4294967296):
 Calls prog 79 #[.int .u64 x, .int .i64 4] w fun e w'=>∃v,e= .returned (.tuple #[v,jd])/\w'.ownsRow w 5 1 v 4 (bZ .u8 (Cn x))/\Below w w w':=by
 obtain⟨j0,Q,M,G,L⟩:=info_parts Vq;go_enter func79,ntmps79;go_wp2_with fail;go_loopw [0,6,7] (fun xv uv iv wr=>∃k y:Nat,k<=4/\y<4294967296/\iv= .int .i64 k/\xv= .int .u64 y/\Hid (y=x / 256 ^ k)/\Hid (wr.ownsRow w 5 1 uv k (bZ .u8 (Hd x k)))/\Hid (Below w w wr)) (fun _ _ iv _=>4-(intOf iv).toNat)
 case atStart=>exact⟨0,x,nB,hx,rfl,rfl,(by show x=x / 256 ^ 0;simp),AE _ _ _ _,Ak _ _⟩
 case round=>
  obtain⟨k,y,hk,hy,rfl,rfl,HY,HO,HB⟩:=hrel;obtain⟨wi,rfl⟩:=jc wr;obtain⟨A1,c1,rfl⟩:=aZ HO.out;by_cases Z:k<4
  ·have gk:=ja ((k:Int)<4);have aa:=ja (k<4);have u1:IntKind.u8.wrap ((y:Int) % 256)=((y % 256:Nat):Int):=(by rw[Ll];omega);have U:=HB.out.size;have Y:Hid (y / 256=x / 256 ^ (k+1)):=(by show _=_;rw[HY.out,LK,Dl]);have HL:Hid (Hd x (k+1)=Hd x k++ [y % 256]):=(by show _=_;rw[WK,HY.out]);clear HY;go_wp2_with(at_builtin;refine fZ rfl (.tmp 19) (.tmp 23) 28 rfl w 5 j0 _ 1 1 underlying28 Q M G L rfl ji _ _ _ nC (HO.out.alloc _) _ 1 1 [.int .u8 (y % 256:Nat)] nC (Src.of_blk (Blk.made_at _ _ _ pR) 1 1 1 rfl) mY qn nB p5 ?_;intro v6 w6 h j i;obtain⟨A6,c6,rfl⟩:=aZ h);have J:Hid (w6.ownsRow w 5 1 (.slice A6 (k+1) c6) (k+1) (bZ .u8 (Hd x (k+1)))):=(by show World.ownsRow _ _ _ _ _ _ _;rw[HL.out,show bZ .u8 (Hd x k++ [y % 256])=bZ .u8 (Hd x k)++ [.int .u8 (y % 256:Nat)] by simp[bZ]];exact h);have N:Hid (Below w w w6):=(mZ U HB.out).grown j p5 (fun z hz=>(Ai HO.out z hz).1);clear h j i HO HB HL;go_roundw
   case measure=>exact ld
   case rel=>go_light;exact⟨k+1,y / 256,nB,nB,jk,jk,Y.out,J.out,N.out⟩
  ·obtain rfl:k=4:=by omega
   have E:y=0:=(by rw[HY.out];exact Nat.div_eq_of_lt nB);subst E;clear HY;go_wp2_with fail;go_ret2;exact⟨_,rfl,by rw[<-W7];exact HO.out,HB.out⟩
end Idx
namespace Ef
open Go.RowKit Mem Own Canon Huff NumPut
open Block (wZ)
theorem own_row{k:IntKind}(h:w.ownsRow base e 1 (.slice A n c) n (bZ k ls))(hn:ls.length=n):Row w w A n 1 (kZ k ls):=
 Row.of_own h rfl (fun i j hi hj=>by have e0:j=0:=nB;subst e0;exact numL_get nB)
end Ef
namespace Ef
open Go.RowKit Mem Own Canon Huff NumPut
def ER(W:Nat)(bs:List Bool)(n:Nat):List Nat:=(List.range n).map fun i=>AN bs (i*W) W
theorem RD(W:Nat)(bs:List Bool)(n:Nat):(ER W bs n).length=n:=by simp[ER]
theorem Wl(W:Nat)(bs:List Bool)(n:Nat):∀x∈ER W bs n,x<2 ^ W:=by intro x hx;obtain⟨i,_,rfl⟩:=Cl.1 hx;exact GS _ _ _
def rowN(bound W:Nat)(bs:List Bool):List Nat->Nat->Nat->List Nat->List Nat×Nat×Int
 | [],at_,_,acc=>(acc,at_,0)
 |x :: xs,at_,high,acc=>
  if unE bs at_≠0 then([],at_,unE bs at_)
  else if acc≠ []/\(high+unV bs at_)*2 ^ W+x<=acc.getLast?.getD 0 then([],at_,2)
  else if bound<=(high+unV bs at_)*2 ^ W+x then([],at_,8)
  else rowN bound W bs xs (unA bs at_) (high+unV bs at_) (acc++ [(high+unV bs at_)*2 ^ W+x])
def Hw(at_:Nat):Nat:=(8-at_ % 8) % 8
def Hu(bound n:Nat)(bs:List Bool):List Nat×Nat×Int:=
 if bs.length<n*efW bound n then([],0,1)
 else if(rowN bound (efW bound n) bs (ER (efW bound n) bs n) (n*efW bound n) 0 []).2.2≠0 then([],0,(rowN bound (efW bound n) bs (ER (efW bound n) bs n) (n*efW bound n) 0 []).2.2)
 else if AN bs (rowN bound (efW bound n) bs (ER (efW bound n) bs n) (n*efW bound n) 0 []).2.1 (Hw (rowN bound (efW bound n) bs (ER (efW bound n) bs n) (n*efW bound n) 0 []).2.1)≠0 then([],0,2)
 else((rowN bound (efW bound n) bs (ER (efW bound n) bs n) (n*efW bound n) 0 []).1,((rowN bound (efW bound n) bs (ER (efW bound n) bs n) (n*efW bound n) 0 []).2.1+7) / 8,0)
theorem Qv{bs:List Bool}{at_:Nat}(h:at_<=bs.length):unA bs at_<=bs.length:=by unfold unA;split<;>omega
theorem mH(bs:List Bool)(at_:Nat):unV bs at_<=bs.length:=by unfold unV;split<;>omega
theorem Ta{bound W:Nat}{bs:List Bool}:∀ (xs:List Nat) (at_ i:Nat) (j:List Nat),at_<=bs.length->(rowN bound W bs xs at_ i j).2.1<=bs.length
 | [],at_,_,_,h=>h
 |x :: xs,at_,i,j,h=>by
  unfold rowN;split
  ·exact h
  ·split
   ·exact h
   ·split
    ·exact h
    ·exact Ta xs _ _ _ (Qv h)
theorem zV(h x W:Nat)(hx:x<2 ^ W):(h*2 ^ W |||x)=h*2 ^ W+x:=by rw[Nat.mul_comm,Nat.two_pow_add_eq_or_of_lt hx]
end Ef
namespace Ef
open Go.RowKit Mem Own Canon Huff NumPut
def Dd(W:Nat)(bs:List Bool)(n k:Nat):List Value:=(List.range n).map fun i=>Value.int .u16 ((if i<k then AN bs (i*W) W else 0:Nat):Int)
theorem Yr(W:Nat)(bs:List Bool)(n k:Nat):(Dd W bs n k).length=n:=by simp[Dd]
theorem Mf{bs:List Bool}(h:i<n):(Dd W bs n k)[i]? =some (.int .u16 ((if i<k then AN bs (i*W) W else 0:Nat):Int)):=by simp[Dd,h]
theorem V0{bs:List Bool}:(Dd W bs n k).toArray.setIfInBounds k (.int .u16 (AN bs (k*W) W:Nat))=(Dd W bs n (k+1)).toArray:=by
 apply Array.ext_getElem?
 intro i;rw[Hm];by_cases e:k=i
 ·subst e;by_cases hk:k<n
  ·rw[Ag rfl,Ag (by simpa[Dd]using hk)];simp only[List.getElem?_toArray];rw[Mf hk,Ag nB]
  ·rw[Ag rfl,Ae (by simpa[Dd]using hk)];simp[Dd,hk]
 ·rw[Ae e];simp only[List.getElem?_toArray];by_cases hi:i<n
  ·rw[Mf hi,Mf hi];congr 3;by_cases h2:i<k
   ·rw[Ag h2,Ag nB]
   ·rw[Ae h2,Ae nB]
  ·simp[Dd,hi]
theorem QP(W:Nat)(bs:List Bool)(n:Nat):Dd W bs n n=bZ .u16 (ER W bs n):=by unfold Dd ER bZ;rw[List.map_map];apply Hj;intro i hi;simp only[Function.comp];rw[Ag (FA.1 hi)]
theorem V5(W:Nat)(bs:List Bool)(n:Nat):madeCells #[.int .u16 0] n=(Dd W bs n 0).toArray:=by
 apply Array.ext_getElem?
 intro i;by_cases h:i<n
 ·simp[Dd,madeCells,h,Nat.mod_one]
 ·simp[Dd,madeCells,h]
theorem l6:(prog.info? 25).map (fun i=>(i.zero,i.size,i.bytes))=some (some (.int .u16 0),1,2):=ni
theorem lG(n:Nat)(hn:n<=8388608)(w:World):(Instr.makeSlice 227 (.int .i64 (n:Int)) (.int .i64 (n:Int))).run prog w=
 .ok (.slice (some ⟨w,0,none⟩) n n) (w.alloc (.cells (madeCells #[.int .u16 0] n) 25)):=by
 obtain⟨i0,hi,j,i,E⟩:=info_parts l6;have h:=run_make (P:=prog) w 227 25 i0 (.int .u16 0) underlying227 hi j .i64 .i64 (n:Int) (n:Int) nB (Int.le_refl _) n8 nB;simp only[Int.toNat_natCast]at h;simpa[i,Value.cells]using h
def PH(w:World)(lo g:Nat)(bs:List Bool)(n W:Nat)(e:Ending)(w':World):Prop:=
 Kept (fun x=>x<w.heap.size/\x≠g) w w'/\if bs.length<n*W then e= .returned (.tuple #[(), .int .i64 1])
 else ∃v,e= .returned (.tuple #[v,jd])/\w'.ownsRow w 25 1 v n (bZ .u16 (ER W bs n))/\Rd w' lo g bs (n*W)
theorem mM(w:World)(lo g:Nat)(bs:List Bool)(n W:Nat)(hn:n<=20000)(hW:W<=14)(aj:lo<=g)(hR:Rd w lo g bs 0):
 Calls prog 295 #[.pointer (some ⟨g,0,none⟩), .int .i64 (n:Nat), .int .i64 (W:Nat)] w (PH w lo g bs n W):=by
 have ay:=hR.lt;have hz:bs.length<=800000:=nj
 have D0:=hid (left_any w lo g bs 0 hR);have HR:=hid hR;have am:n*W<=280000:=Bm (Hh hn hW) ji;obtain⟨N,hN⟩:=jc (n*W);have ax:IntKind.i64.wrap ((n:Int)*(W:Int))=(N:Int):=by rw[show(n:Int)*(W:Int)=(N:Int) by rw[hN];simp,Az _ nB]
 have ae:=lG n nB;rw[V5 W bs n]at ae;unfold PH;rw[<-hN]at am ⊢;have HN:=hid hN;rw[Nat.sub_zero]at D0;clear hR hN;by_cases G:bs.length<N
 ·simp only[if_pos G];have g1:=ja ((bs.length:Int)<N)
  have L:=ja (bs.length<N)
  clear G;generalize bs.length=z at *;go_enter func295,ntmps295;go_wp2_with fail;refine D0.out.mono ?_;rintro e w1 ⟨rfl,q,rfl⟩;go_wp2_with fail;go_ret2;exact⟨(Kept.refl _ _).drewN q,rfl⟩
 ·simp only[if_neg G];have g1:=jb ((bs.length:Int)<N)
  have L:=jb (bs.length<N)
  have an:Hid (N<=bs.length):=pE
  obtain⟨z,aa⟩:=jc bs.length;rw[<-aa]at D0 g1 L hz;clear G aa;go_enter func295,ntmps295;go_wp2_with fail;refine D0.out.mono ?_;rintro e w1 ⟨rfl,q,hq⟩;have aq:Hid (Rd w1 lo g bs 0):=by rw[hq];exact HR.out.drewN q
  have ar:Hid (Kept (fun x=>x<w.heap.size/\x≠g) w w1):=pi
  have ak:w1.heap.size=w.heap.size:=by rw[hq];rfl
  clear hq;go_wp2_with fail;have M:Blk (w1.alloc (.cells (Dd W bs n 0).toArray 25)) w1 25 (Dd W bs n 0).toArray:=Blk.made _ _ _;have ab:Hid (Rd (w1.alloc (.cells (Dd W bs n 0).toArray 25)) lo g bs 0):=aq.out.keep (fun b hb1 hb2=>EA w1 _ b nB) aj;have Y:Hid (Kept (fun x=>x<w.heap.size/\x≠g) w (w1.alloc (.cells (Dd W bs n 0).toArray 25))):=ar.out.alloc (fun x hx=>by have:=hx.1;omega) _;generalize w1.alloc (.cells (Dd W bs n 0).toArray 25)=w2 at *;have Z:=hid M;clear M ae D0;rw[ak]at *;clear ak;generalize ah:w.heap.size=b at *;have au:=hid ah;clear ah;go_loopw [22] (fun iv wr=>∃k:Nat,k<=n/\iv= .int .i64 k/\Hid (Blk wr b 25 (Dd W bs n k).toArray)/\Hid (Rd wr lo g bs (k*W))/\Hid (Kept (fun x=>x<b/\x≠g) w wr)) (fun iv _=>n-(intOf iv).toNat)
  case atStart=>exact⟨0,nB,rfl,Z.out,by rw[Nat.zero_mul];exact ab.out,Y.out⟩
  case round=>
   obtain⟨k,hk,rfl,HB,J,HK⟩:=hrel;clear Z ab Y;by_cases ag:k<n
   ·have gk:=ja ((k:Int)<n);have az:=ja (k<n);have j:k*W+W<=bs.length:=(by have h1:(k+1)*W<=n*W:=GG W ag;rw[I7]at h1;have:=HN.out;have:=an.out;omega);have D:=JX wr lo g bs (k*W) W nB J.out;unfold I4 I2 I1 at D;rw[Ag j,Ag j,Ag j]at D;have hv:AN bs (k*W) W<2 ^ W:=GS _ _ _;have a0:AN bs (k*W) W<16384:=Fi hv my;have HS:Hid ((Dd W bs n k).toArray.setIfInBounds k (.int .u16 (AN bs (k*W) W:Nat))=(Dd W bs n (k+1)).toArray):=V0;have ai:k*W+W=(k+1)*W:=(by rw[I7]);rw[ai]at D;generalize AN bs (k*W) W=y at *;have a1:IntKind.u16.wrap (y:Int)=(y:Int):=(by rw[IntKind.wrap_u16];omega);have D:=hid D;have x0:(0:Int)<=(k:Int):=nB;have x1:(k:Int)<(n:Int):=nB;have Q:Hid (∃u,(Dd W bs n k).toArray[k]? =some u):=⟨_,by simp only[List.getElem?_toArray];exact Mf ag⟩;clear j hv ai;go_wp2_with fail;refine D.out.mono ?_;rintro e w3 ⟨rfl,af,i⟩;have E:Hid (Blk w3 b 25 (Dd W bs n k).toArray):=(i.block b nB).trans HB.out;have U:Hid (Kept (fun x=>x<b/\x≠g) w w3):=HK.out.trans ⟨i.os,i.tape,i.output,i.size,fun x hx=>i.block x hx.2⟩;have ac:=hid af;obtain⟨u,hu⟩:=Q.out;have c3:w3.cell? ⟨b,k,none⟩=some u:=(E.out.cell k).trans hu;have f3:=E.out.frozen k;clear af i HB J HK D hu Q;go_wp2_with fail;have av:Hid (Blk (w3.setCell ⟨b,k,none⟩ (.int .u16 (y:Nat))) b 25 (Dd W bs n (k+1)).toArray):=(by rw[<-HS.out];exact E.out.set k _);have aw:Hid (Rd (w3.setCell ⟨b,k,none⟩ (.int .u16 (y:Nat))) lo g bs ((k+1)*W)):=ac.out.keep (fun x _ hx2=>Be w3 _ _ x (show x≠b by omega)) aj;have al:Hid (Kept (fun x=>x<b/\x≠g) w (w3.setCell ⟨b,k,none⟩ (.int .u16 (y:Nat)))):=U.out.set (p:=⟨b,k,none⟩) (fun h=>absurd h.1 pR) _;clear E ac U c3 f3;go_roundw
    case measure=>exact ld
    case rel=>go_light;exact⟨k+1,nB,jk,av.out,aw.out,al.out⟩
   ·obtain rfl:k=n:=by omega
    have gk:=jb ((k:Int)<k);go_wp2_with fail;go_ret2;rw[au.out];refine⟨HK.out,_,rfl,⟨by rw[<-QP,Yr];simp, .inr ⟨b,k,_,rfl,Am _,HB.out,Am _,qn,by simp[Dd],?_⟩⟩,by rw[HN.out];exact J.out⟩;rw[<-QP,EK];exact Bp (by simp[Dd])
end Ef
namespace Idx
open Go.RowKit Mem Own Canon Sift
open NumPut Recs Crc Block
open Nums
def toS(ls:List Nat):Str:=ls.map UInt8.ofNat
theorem lQ(ls:List Nat):FY ls=bs (toS ls):=rfl
def nxN(ls:List Nat)(was:Str)(first:Bool)(at_:Nat):Nat:=if first then 0 else Bh was.length ls at_ 0
def nxA(ls:List Nat)(was:Str)(first:Bool)(at_:Nat):Nat:=if first then at_ else AR was.length ls at_ 0
def nxE(ls:List Nat)(was:Str)(first:Bool)(at_:Nat):Int:=if first then 0 else AU was.length ls at_ 0
def nxS(was:Str)(first:Bool)(n:Nat)(t:Str)(a:Nat)(e:Int):Str×Nat×Int:=
 if e≠0 then([],a,e)else if t= []∨Dh was (was.take n++t)=false∨(first=false/\Bl was (was.take n++t)≠n)then(was.take n++t,a,2)else(was.take n++t,a,0)
def Fb(ls:List Nat)(was:Str)(first:Bool)(at_:Nat):Str×Nat×Int:=
 nxS was first (nxN ls was first at_) (toS (Fc 25 ls (nxA ls was first at_) (nxE ls was first at_))) (Et 25 ls (nxA ls was first at_) (nxE ls was first at_)) (Es 25 ls (nxA ls was first at_) (nxE ls was first at_))
theorem run_head(s:Str)(n:Nat)(hn:n<=s.length)(w:World):(Instr.slice 9 (.string (bs s)) none (some (.int .i64 (n:Int))) none).run prog w= .ok (.string (bs (s.take n))) w:=by
 have hz:=Dr s;rw[run_slice_string_h w (t:=9) (s:=bs s) (ht:=underlying9) .i64 (n:Int) nB nB,Br];have e:(bs s).extract 0 n=bs (s.take n):=by refine ByteArray.ext (Array.ext' ?_);rw[S8,IB,Ie,Nat.sub_zero];rfl
 rw[e]
theorem kX(a b:Str):bs a++bs b=bs (a++b):=by refine ByteArray.ext (Array.ext' ?_);simp[bs]
theorem lV{most:Nat}(h8:∀x∈ls,x<=255)(at_:Nat)(er:Int):(Fc most ls at_ er).length<=most:=by
 unfold Fc;split
 ·exact Da _
 ·exact(L6 most (ls.drop at_) fun x hx=>h8 x (Cg hx)).1
theorem lB(w:World)(g base:Nat)(ls:List Nat)(A:Option Addr)(c at_:Nat)(i:Str)(first:Bool)(ai:ls.length<=100000)(h8:∀x∈ls,x<=255)(ba:i.length<=25)(h:Cur w g base ls A c at_ 0):
 Calls prog 245 #[.pointer (some ⟨g,0,none⟩), .string (bs i),first] w fun e w'=>e= .returned (.string (bs (Fb ls i first at_).1))/\Cur w' g base ls A c (Fb ls i first at_).2.1 (Fb ls i first at_).2.2/\Kept (BL g w) w w':=by
 have hz:=Dr i;have bb:=h.blk.lt;obtain⟨R,hR⟩:=jc (Fb ls i first at_);rw[<-hR];unfold Fb at hR;have D1:=hid (fun wx hx=>I5 wx g base ls A c at_ 0 i.length ai h8 nB hx)
 have hn:nxN ls i first at_<=i.length:=by
  unfold nxN;split
  ·exact Da _
  ·exact Gr h8 _ _
 have D2:=hid (fun wx hx=>Pn wx g base ls A c (nxA ls i first at_) (nxE ls i first at_) 25 ai h8 nB hx);have aq:=lV (most:=25) h8 (nxA ls i first at_) (nxE ls i first at_);rw[lQ]at D2
 have HN:Hid ((first=true->nxN ls i first at_=0/\nxA ls i first at_=at_/\nxE ls i first at_=0)/\(first=false->nxN ls i first at_=Bh i.length ls at_ 0/\nxA ls i first at_=AR i.length ls at_ 0/\nxE ls i first at_=AU i.length ls at_ 0)):=by
  constructor
  ·intro hf;subst hf;exact⟨rfl,rfl,rfl⟩
  ·intro hf;subst hf;exact⟨rfl,rfl,rfl⟩
 generalize nxN ls i first at_=n at *;generalize nxA ls i first at_=a1 at *;generalize nxE ls i first at_=e1 at *;obtain⟨t,ht⟩:=jc (toS (Fc 25 ls a1 e1));have a5:t.length<=25:=by rw[ht];unfold toS;rw[Bk];exact aq
 rw[<-ht]at D2 hR;generalize Et 25 ls a1 e1=a2 at *;generalize Es 25 ls a1 e1=e2 at *;have H:=hid h;unfold nxS at hR;clear h h8 ai ht aq;have KH:=fun wx=>run_head i n hn wx;have a9:(i.take n).length<=25:=nY
 obtain⟨s,hs⟩:=jc (i.take n++t);have bc:s.length<=50:=by rw[hs,Aj];omega
 have HS:=hid hs;rw[<-hs]at hR;have av:Hid (bs (i.take n)++bs t=bs s):=by show _=_;rw[kX,hs]
 have HH:Hid (n=0->i.take n= []):=fun h=>pf
 have HR:=hid hR;clear hR;have DM:=hid (fun wx=>Rw wx i s);have DA:=hid (fun wx=>X7 wx i s nB nB);have HT:Hid ((t= []->((bs t).toList==({data:=#[] }:ByteArray).toList)=true/\((bs t).toList== [])=true/\(bs t).toList.isEmpty=true/\(bs t).toList= [])/\(t≠ []->((bs t).toList==({data:=#[] }:ByteArray).toList)=false/\((bs t).toList== [])=false/\(bs t).toList.isEmpty=false/\¬(bs t).toList= [])):=⟨fun h=>by rw[h];exact Tj,fun h=>QA t h⟩;generalize i.take n=hd at *;have ak:=hid (Dr hd);have ag:=hid (Dr t);obtain⟨be,aw⟩:=jc hd.length;obtain⟨tl,ah⟩:=jc t.length;rw[<-aw]at ak a9;rw[<-ah]at ag a5;clear hs aw ah;have HF:Hid (Gq 0 2=2):=Ag rfl;cases first with
 |true=>
  obtain⟨q1,q2,q3⟩:=HN.out.1 rfl;have ae:Hid (Cur w g base ls A c a1 e1):=by rw[q2,q3];exact H.out
  have ac:Hid (Kept (BL g w) w w):=Kept.refl _ _;have an:=HH.out q1;have ax:s=t:=by rw[HS.out,an];rfl
  have az:bs t=bs s:=by rw[ax]
  rw[az]at HT ag;have z2:=ag.out;clear ax;clear q2 q3 HN H D1 av HH ak an KH HS;subst q1;go_enter func245,ntmps245;go_wp2_with fail;refine(D2.out _ ae.out).mono ?_;rintro e w2 ⟨rfl,ab,N⟩;have Q:Hid (Kept (BL g w) w w2):=ac.out.trans ⟨N.os,N.tape,N.output,N.size,fun x hx=>N.block x ⟨Fi hx.1 ac.out.size,hx.2⟩⟩;have DE:=hid (Ej w2 g base ls A c a2 e2 ab);have U:=hid ab;clear ab N ae ac D2;go_wp2_with fail;refine DE.out.mono ?_;rintro e a0 ⟨rfl,rfl⟩;by_cases he:e2=0
  ·skip
   subst he;rw[Ae (show ¬((0:Int)≠0) from fun h=>h rfl)]at HR;clear DE;by_cases ht:t= []
   ·obtain⟨b1,b2,b3,b4⟩:=HT.out.1 ht;have G:Hid (R=(s,a2,2)):=(by have h:=HR.out;rw[Ag (.inl ht)]at h;exact h);clear ht HT;have L:=U;have J:=Q;go_wp2_with fail;refine(Hf _ g base ls A c a2 0 2 L.out).mono ?_;rintro e w5 ⟨rfl,E,j⟩;rw[HF.out]at E;have aa:=hid E;have Z:Hid (Kept (BL g w) w w5):=J.out.trans ⟨j.os,j.tape,j.output,j.size,fun x hx=>j.block x hx.2⟩;clear E j L J;go_wp2_with fail;go_ret;rw[G.out];exact⟨rfl,aa.out,Z.out⟩
   ·have am:=hid ht;obtain⟨b1,b2,b3,b4⟩:=HT.out.2 ht;clear ht HT;obtain⟨M,hM⟩:=jc (Dh i s);rw[<-hM]at DM;have HM:=hid hM;clear hM;by_cases Y:M=false
    ·have G:Hid (R=(s,a2,2)):=lz;subst Y;go_wp2_with fail;refine(DM.out _).mono ?_;rintro e w3 ⟨rfl,rfl⟩;have L:=U;have J:=Q;go_wp2_with fail;refine(Hf _ g base ls A c a2 0 2 L.out).mono ?_;rintro e w5 ⟨rfl,E,j⟩;rw[HF.out]at E;have aa:=hid E;have Z:Hid (Kept (BL g w) w w5):=J.out.trans ⟨j.os,j.tape,j.output,j.size,fun x hx=>j.block x hx.2⟩;clear E j L J;go_wp2_with fail;go_ret;rw[G.out];exact⟨rfl,aa.out,Z.out⟩
    ·have aj:M=true:=jg;clear Y;subst aj;go_wp2_with fail;refine(DM.out _).mono ?_;rintro e w3 ⟨rfl,rfl⟩;have G:Hid (R=(s,a2,0)):=(by have h:=HR.out;rw[Ae (fun h=>h.elim am.out (fun h=>h.elim (by rw[<-HM.out];decide) (fun h=>by cases h.1)))]at h;exact h);go_wp2_with fail;go_ret;rw[G.out];exact⟨rfl,U.out,Q.out⟩
  ·have gE:(e2 != 0)=true:=qj;have G:Hid (R=([],a2,e2)):=(by have h:=HR.out;rw[Ag he]at h;exact h);clear he HR HT;go_wp2_with fail;go_ret;rw[G.out];exact⟨rfl,U.out,Q.out⟩
 |false=>
  obtain⟨q1,q2,q3⟩:=HN.out.2 rfl;rw[<-q1,<-q2,<-q3]at D1;have z1:=ak.out;have z2:=ag.out;have bd:=av.out;clear q1 q2 q3 HN HH;go_enter func245,ntmps245;go_wp2_with fail;refine(D1.out _ H.out).mono ?_;rintro e w1 ⟨rfl,au,ar⟩;have ae:=hid au;have ac:=hid ar;clear au ar H D1;go_wp2_with fail;refine(D2.out _ ae.out).mono ?_;rintro e w2 ⟨rfl,ab,N⟩;have Q:Hid (Kept (BL g w) w w2):=ac.out.trans ⟨N.os,N.tape,N.output,N.size,fun x hx=>N.block x ⟨Fi hx.1 ac.out.size,hx.2⟩⟩;have DE:=hid (Ej w2 g base ls A c a2 e2 ab);have U:=hid ab;clear ab N ae ac D2;go_wp2_with fail;refine DE.out.mono ?_;rintro e a0 ⟨rfl,rfl⟩;by_cases he:e2=0
  ·skip
   subst he;rw[Ae (show ¬((0:Int)≠0) from fun h=>h rfl)]at HR;clear DE;by_cases ht:t= []
   ·obtain⟨b1,b2,b3,b4⟩:=HT.out.1 ht;have G:Hid (R=(s,a2,2)):=(by have h:=HR.out;rw[Ag (.inl ht)]at h;exact h);clear ht HT;have L:=U;have J:=Q;go_wp2_with fail;refine(Hf _ g base ls A c a2 0 2 L.out).mono ?_;rintro e w5 ⟨rfl,E,j⟩;rw[HF.out]at E;have aa:=hid E;have Z:Hid (Kept (BL g w) w w5):=J.out.trans ⟨j.os,j.tape,j.output,j.size,fun x hx=>j.block x hx.2⟩;clear E j L J;go_wp2_with fail;go_ret;rw[G.out];exact⟨rfl,aa.out,Z.out⟩
   ·have am:=hid ht;obtain⟨b1,b2,b3,b4⟩:=HT.out.2 ht;clear ht HT;obtain⟨M,hM⟩:=jc (Dh i s);rw[<-hM]at DM;have HM:=hid hM;clear hM;by_cases Y:M=false
    ·have G:Hid (R=(s,a2,2)):=lz;subst Y;go_wp2_with fail;refine(DM.out _).mono ?_;rintro e w3 ⟨rfl,rfl⟩;have L:=U;have J:=Q;go_wp2_with fail;refine(Hf _ g base ls A c a2 0 2 L.out).mono ?_;rintro e w5 ⟨rfl,E,j⟩;rw[HF.out]at E;have aa:=hid E;have Z:Hid (Kept (BL g w) w w5):=J.out.trans ⟨j.os,j.tape,j.output,j.size,fun x hx=>j.block x hx.2⟩;clear E j L J;go_wp2_with fail;go_ret;rw[G.out];exact⟨rfl,aa.out,Z.out⟩
    ·have aj:M=true:=jg;clear Y;subst aj;go_wp2_with fail;refine(DM.out _).mono ?_;rintro e w3 ⟨rfl,rfl⟩;by_cases af:Bl i s=n
     ·have a6:((Bl i s:Int) != (n:Int))=false:=(by rw[af];simp);have a3:=hid af;clear af;go_wp2_with fail;refine(DA.out _).mono ?_;rintro e w4 ⟨rfl,q,hq⟩;have a4:Hid (Cur w4 g base ls A c a2 0):=(by rw[hq];exact U.out.drewN q);have ay:Hid (Kept (BL g w) w w4):=(by rw[hq];exact Q.out.drewN q);have G:Hid (R=(s,a2,0)):=(by have h:=HR.out;rw[Ae (fun h=>h.elim am.out (fun h=>h.elim (by rw[<-HM.out];decide) (fun h=>h.2 a3.out)))]at h;exact h);clear hq DM DA U Q;generalize Bl i s=al at *;go_wp2_with fail;go_ret;rw[G.out];exact⟨rfl,a4.out,ay.out⟩
     ·have a6:((Bl i s:Int) != (n:Int))=true:=oX;have G:Hid (R=(s,a2,2)):=(by have h:=HR.out;rw[Ag (.inr (.inr ⟨trivial,af⟩))]at h;exact h);clear af;go_wp2_with fail;refine(DA.out _).mono ?_;rintro e w3 ⟨rfl,q,hq⟩;have L:Hid (Cur w3 g base ls A c a2 0):=(by rw[hq];exact U.out.drewN q);have J:Hid (Kept (BL g w) w w3):=(by rw[hq];exact Q.out.drewN q);clear hq DM DA U Q;generalize Bl i s=al at *;go_wp2_with fail;refine(Hf _ g base ls A c a2 0 2 L.out).mono ?_;rintro e w5 ⟨rfl,E,j⟩;rw[HF.out]at E;have aa:=hid E;have Z:Hid (Kept (BL g w) w w5):=J.out.trans ⟨j.os,j.tape,j.output,j.size,fun x hx=>j.block x hx.2⟩;clear E j L J;go_wp2_with fail;go_ret;rw[G.out];exact⟨rfl,aa.out,Z.out⟩
  ·have gE:(e2 != 0)=true:=qj;have G:Hid (R=([],a2,e2)):=(by have h:=HR.out;rw[Ag he]at h;exact h);clear he HR HT;go_wp2_with fail;go_ret;rw[G.out];exact⟨rfl,U.out,Q.out⟩
end Idx
namespace Idx
open Go.RowKit Mem Own Canon Sift
open NumPut Recs Crc Block
open Nums
def Ds(ls:List Nat):Nat->Bool->Nat->List Str->List Str×Int
 |0,_,at_,acc=>(acc,GV ls at_ 0)
 |k+1,first,at_,acc=>
  if(Fb ls (acc.getLast?.getD []) first at_).2.2≠0 then([],(Fb ls (acc.getLast?.getD []) first at_).2.2)
  else Ds ls k false (Fb ls (acc.getLast?.getD []) first at_).2.1 (acc++ [(Fb ls (acc.getLast?.getD []) first at_).1])
theorem Z5{a s:Str}(h:Dh a s=true):s.length<=25:=by unfold Dh at h;simp at h;exact h.2.1
theorem kE{i:Str}{first:Bool}{at_:Nat}(h:(Fb ls i first at_).2.2=0):(Fb ls i first at_).1.length<=25:=by
 unfold Fb nxS at *;split at h
 ·rename_i he;exact absurd h he
 ·rename_i he;rw[Ae he];split at h
  ·cases h
  ·rename_i hn;rw[Ae hn]
   have hm:Dh i (List.take (nxN ls i first at_) i++toS (Fc 25 ls (nxA ls i first at_) (nxE ls i first at_)))=true:=by
    cases hb:Dh i (List.take (nxN ls i first at_) i++toS (Fc 25 ls (nxA ls i first at_) (nxE ls i first at_)))with
    |true=>rfl
    |false=>exact absurd (.inr (.inl hb)) hn
   exact Z5 hm
structure DAt (w:World) (base gd size:Nat) (ts hs:List Str) (vT vH:Value):Prop where
 blk:Blk w gd 254 #[vT, .int .i64 (size:Nat),vH]
 ot:w.ownsRow base 9 1 vT ts.length (AO ts)
 oh:w.ownsRow base 9 1 vH hs.length (AO hs)
 apart:∀y,vT.ownBlock=some y->vH.ownBlock≠some y
 gb:base<=gd
section
variable {w w1 w3 w':World} {base gd size g:Nat} {ts hs:List Str} {vT vH v3:Value} {s:Str}
theorem DAt.keep(h:DAt w base gd size ts hs vT vH)(hk:∀y,base<=y->y<w.heap.size->w'.heap[y]? =w.heap[y]?):DAt w' base gd size ts hs vT vH:=
 ⟨(hk gd h.gb h.blk.lt).trans h.blk,eZ h.ot (fun y hy=>hk y (Ai h.ot y hy).1 (Ai h.ot y hy).2),eZ h.oh (fun y hy=>hk y (Ai h.oh y hy).1 (Ai h.oh y hy).2),h.apart,h.gb⟩
theorem DAt.oth(h:DAt w base gd size ts hs vT vH){cs:Array Value}(hc:Blk w g 243 cs)(hk:Kept (fun y=>y<w.heap.size/\y≠g) w w'):DAt w' base gd size ts hs vT vH:=
 ⟨(hk.block gd ⟨h.blk.lt,Blk.apart h.blk hc ji⟩).trans h.blk,eZ h.ot (fun y hy=>hk.block y ⟨(Ai h.ot y hy).2,fun e=>iZ h.ot hc ji (e ▸ hy)⟩),eZ h.oh (fun y hy=>hk.block y ⟨(Ai h.oh y hy).2,fun e=>iZ h.oh hc ji (e ▸ hy)⟩),h.apart,h.gb⟩
theorem DAt.texts(h:DAt w base gd size ts hs vT vH)(hb:Below w w w1)(hg:w1.grownBy w3 vT.ownBlock)(i:w3.ownsRow base 9 1 v3 (ts.length+1) (AO ts++ [.string (bs s)]))(E:v3.ownBlock=vT.ownBlock∨v3.ownBlock=some w1.heap.size):
 DAt (w3.setCell ⟨gd,0,none⟩ v3) base gd size (ts++ [s]) hs v3 vH:=by
 have j:vT.ownBlock≠some gd:=iZ h.ot h.blk ji;have b3:=(h.blk.step hb).grown hg (By j);have o1:w1.ownsRow base 9 1 vH hs.length (AO hs):=eZ h.oh (fun y hy=>hb.block y (Ai h.oh y hy).2);have o3:w3.ownsRow base 9 1 vH hs.length (AO hs):=eZ o1 (fun y hy=>hg.block y (Ai o1 y hy).2 (fun e=>h.apart y e.symm hy));have n3:v3.ownBlock≠some gd:=iZ i b3 ji;have nh:vH.ownBlock≠some gd:=iZ o3 b3 ji;refine⟨by simpa using b3.set 0 v3,?_,eZ o3 (fun y hy=>Be _ _ _ y (fun e=>nh pj)),?_,h.gb⟩
 ·rw[Aj,P5];exact eZ i (fun y hy=>Be _ _ _ y (fun e=>n3 pj))
 ·intro y hy hh;rcases E with e|e
  ·exact h.apart y (by rw[<-e];exact hy) hh
  ·rw[e]at hy;injection hy with hy;have:=(Ai h.oh y hh).2;have:=hb.size;omega
theorem DAt.heads(h:DAt w base gd size ts hs vT vH)(hb:Below w w w1)(hg:w1.grownBy w3 vH.ownBlock)(i:w3.ownsRow base 9 1 v3 (hs.length+1) (AO hs++ [.string (bs s)]))(E:v3.ownBlock=vH.ownBlock∨v3.ownBlock=some w1.heap.size):
 DAt (w3.setCell ⟨gd,2,none⟩ v3) base gd size ts (hs++ [s]) vT v3:=by
 have j:vH.ownBlock≠some gd:=iZ h.oh h.blk ji;have b3:=(h.blk.step hb).grown hg (By j);have o1:w1.ownsRow base 9 1 vT ts.length (AO ts):=eZ h.ot (fun y hy=>hb.block y (Ai h.ot y hy).2);have o3:w3.ownsRow base 9 1 vT ts.length (AO ts):=eZ o1 (fun y hy=>hg.block y (Ai o1 y hy).2 (fun e=>h.apart y hy e.symm));have n3:v3.ownBlock≠some gd:=iZ i b3 ji;have nh:vT.ownBlock≠some gd:=iZ o3 b3 ji;refine⟨by simpa using b3.set 2 v3,eZ o3 (fun y hy=>Be _ _ _ y (fun e=>nh pj)),?_,?_,h.gb⟩
 ·rw[Aj,P5];exact eZ i (fun y hy=>Be _ _ _ y (fun e=>n3 pj))
 ·intro y hy hh;rcases E with e|e
  ·exact h.apart y hy (by rw[<-e];exact hh)
  ·rw[e]at hh;injection hh with hh;have:=(Ai h.ot y hy).2;have:=hb.size;omega
theorem Vc{i:List Nat}{at_ ob:Nat}{cs:Array Value}(h:Cur w g base i A c at_ er)(j:Blk w ob 254 cs)(k:Nat)(u:Value):Cur (w.setCell ⟨ob,k,none⟩ u) g base i A c at_ er:=
 ⟨h.blk.far (fun e=>Blk.apart j h.blk ji e.symm) _,Cb h.own (iZ h.own j ji) _,h.le,h.lo⟩
theorem cur_far{j:List Nat}{at_:Nat}{v:Value}(h:Cur w g base j A c at_ er)(ho:w.ownsRow i 9 1 v n xs)(hg:w.grownBy w' v.ownBlock):Cur w' g base j A c at_ er:=
 ⟨h.blk.grown hg (By (iZ ho h.blk ji)),eZ h.own (fun y hy=>hg.block y (Ai h.own y hy).2 (fun e2=>by
  rcases EN ho h.own ji with e3|e3
  ·rw[e3]at e2;cases e2
  ·exact e3 (by rw[<-e2,hy]))),h.le,h.lo⟩
end
theorem kJ:(prog.info? 9).map (fun i=>(i.zero,i.size,i.bytes))=some (some (.string ⟨#[]⟩),1,16):=ni
def Ih(w:World)(gd:Nat)(vT vH:Value)(y:Nat):Prop:=y<w.heap.size/\y≠gd/\vT.ownBlock≠some y/\vH.ownBlock≠some y
structure FI (w wr:World) (g:Nat) (B:Option Addr) (d:Nat) (ls:List Nat) (base gd size:Nat) (vT vH:Value) (at_:Nat) (t2 h2:List Str) (uT uH:Value):Prop where
 cur:Cur wr g w ls B d at_ 0
 dat:DAt wr base gd size t2 h2 uT uH
 kept:Kept (Ih w gd vT vH) w wr
 lt:∀y,y<w.heap.size->uT.ownBlock=some y->vT.ownBlock=some y
 lh:∀y,y<w.heap.size->uH.ownBlock=some y->vH.ownBlock=some y
section
variable {w wr w5:World} {g d base gd size at_:Nat} {B:Option Addr} {ls:List Nat} {vT vH uT uH v5:Value} {t2 h2:List Str} {s:Str} {o:Obj}
theorem FI.next{w2:World}{a2:Nat}(h:FI w wr g B d ls base gd size vT vH at_ t2 h2 uT uH)(hg:w.heap.size<=g)(j:Cur w2 g w ls B d a2 0)(i:Kept (BL g wr) wr w2):FI w w2 g B d ls base gd size vT vH a2 t2 h2 uT uH:=
 have hz:=h.kept.size
 ⟨j,h.dat.oth h.cur.blk i,h.kept.trans ⟨i.os,i.tape,i.output,i.size,fun y hy=>i.block y ⟨mX,fun e=>mX⟩⟩,h.lt,h.lh⟩
theorem FI.texts(h:FI w wr g B d ls base gd size vT vH at_ t2 h2 uT uH)(hg:(wr.alloc o).grownBy w5 uT.ownBlock)(i:w5.ownsRow base 9 1 v5 (t2.length+1) (AO t2++ [.string (bs s)]))(j:v5.ownBlock=uT.ownBlock∨v5.ownBlock=some (wr.alloc o).heap.size):
 FI w (w5.setCell ⟨gd,0,none⟩ v5) g B d ls base gd size vT vH at_ (t2++ [s]) h2 v5 uH:=by
 have hz:=h.kept.size;have hb:Below wr wr (wr.alloc o):=cZ (Ak _ _);have hD:=h.dat.texts hb hg i j;have b5:Blk w5 gd 254 #[uT, .int .i64 (size:Nat),uH]:=(h.dat.blk.step hb).grown hg (By (iZ h.dat.ot h.dat.blk ji));refine⟨Vc (cur_far (h.cur.step hb) (h.dat.ot.alloc o) hg) b5 0 _,hD,?_,?_,h.lh⟩
 ·exact((h.kept.alloc (fun y hy=>by have:=hy.1;omega) o).grown hg (fun y hy=>by have:=hy.1;simp;omega) (fun y hy hk=>hk.2.2.1 (h.lt y hk.1 hy))).set (fun hk=>hk.2.1 rfl) _
 ·intro y hy he;rcases j with e|e
  ·exact h.lt y hy (by rw[<-e];exact he)
  ·rw[e]at he;injection he with he;simp at he;omega
theorem FI.heads(h:FI w wr g B d ls base gd size vT vH at_ t2 h2 uT uH)(hg:(wr.alloc o).grownBy w5 uH.ownBlock)(i:w5.ownsRow base 9 1 v5 (h2.length+1) (AO h2++ [.string (bs s)]))(j:v5.ownBlock=uH.ownBlock∨v5.ownBlock=some (wr.alloc o).heap.size):
 FI w (w5.setCell ⟨gd,2,none⟩ v5) g B d ls base gd size vT vH at_ t2 (h2++ [s]) uT v5:=by
 have hz:=h.kept.size;have hb:Below wr wr (wr.alloc o):=cZ (Ak _ _);have hD:=h.dat.heads hb hg i j;have b5:Blk w5 gd 254 #[uT, .int .i64 (size:Nat),uH]:=(h.dat.blk.step hb).grown hg (By (iZ h.dat.oh h.dat.blk ji));refine⟨Vc (cur_far (h.cur.step hb) (h.dat.oh.alloc o) hg) b5 2 _,hD,?_,h.lt,?_⟩
 ·exact((h.kept.alloc (fun y hy=>by have:=hy.1;omega) o).grown hg (fun y hy=>by have:=hy.1;simp;omega) (fun y hy hk=>hk.2.2.2 (h.lh y hk.1 hy))).set (fun hk=>hk.2.1 rfl) _
 ·intro y hy he;rcases j with e|e
  ·exact h.lh y hy (by rw[<-e];exact he)
  ·rw[e]at he;injection he with he;simp at he;omega
end
def jN(w:World)(base gd size:Nat)(vT vH:Value)(F:List Str×Int)(e:Ending)(w':World):Prop:=
 e= .returned (.int .i64 F.2)/\Kept (Ih w gd vT vH) w w'/\(F.2=0->(∀s∈F.1,s.length<=25)/\∃hs' vT' vH',DAt w' base gd size F.1 hs' vT' vH'/\(∀y,y<w.heap.size->vT'.ownBlock=some y->vT.ownBlock=some y)/\(∀y,y<w.heap.size->vH'.ownBlock=some y->vH.ownBlock=some y)/\hs'.length<=F.1.length)
theorem UZ(w:World)(A:Option Addr)(m c n base gd size:Nat)(ls:List Nat)(ts hs:List Str)(vT vH:Value)(hm:ls.length=m)(bi:m<=100000)(h8:∀x∈ls,x<=255)(ba:A=none->m=0/\c=0)(ha:Row w w A m 1 (kZ .u8 ls))(hn:n<=64)(hD:DAt w base gd size ts hs vT vH)(bk:∀s∈ts,s.length<=25)(ca:ts.length<=1100000)(bS:hs.length<=ts.length):
 Calls prog 196 #[.pointer (some ⟨gd,0,none⟩), .slice A m c, .int .i64 (n:Nat)] w (jN w base gd size vT vH (Ds ls n true 0 ts)):=by
 obtain⟨j0,ax,au,av,aw⟩:=info_parts kJ;have D0:=hid (new_any w A m c ls hm bi ba ha);have bc:ls.length<=100000:=nB
 have H8:=hid h8;have b3:=hid bc;obtain⟨F,hF⟩:=jc (Ds ls n true 0 ts);rw[<-hF];have bj:Hid (Ds ls (n-0) (decide (0=0)) 0 ts=F):=hF.symm;have HD:=hid hD;have bU:=hid bk;have cd:=hD.blk.lt;clear hm ba ha h8 bi bc hF hD bk;go_enter func196,ntmps196;go_wp2_with fail;refine D0.out.mono ?_;rintro e w1 ⟨g,B,d,rfl,a1,a5⟩;have z1:=a5.size;have a9:=a1.lo;have ce:=a1.blk.lt;have bu:=hid a1;have bn:Hid (DAt w1 base gd size ts hs vT vH):=HD.out.keep (fun y _ hy=>a5.block y hy);have bq:Hid (Kept (Ih w gd vT vH) w w1):=Kept.of_below a5 (fun y hy=>hy.1);clear a1 a5 D0 HD;go_wp2_with fail;go_loopw [15] (fun iv wr=>∃ (i at_:Nat) (t2 h2:List Str) (uT uH:Value),i<=n/\iv= .int .i64 i/\t2.length<=1100000+i/\h2.length<=t2.length/\Hid (FI w wr g B d ls base gd size vT vH at_ t2 h2 uT uH)/\Hid (∀s∈t2,s.length<=25)/\Hid (Ds ls (n-i) (decide (i=0)) at_ t2=F)) (fun iv _=>n-(intOf iv).toNat)
 case atStart=>exact⟨0,0,ts,hs,vT,vH,nB,rfl,nB,bS,⟨bu.out,bn.out,bq.out,fun _ _ h=>h,fun _ _ h=>h⟩,bU.out,bj.out⟩
 case round=>
  obtain⟨i,at_,t2,h2,uT,uH,hi,rfl,b1,a6,HI,ar,HG⟩:=hrel;have zr:=HI.out.kept.size;clear bu bn bq bj;by_cases b8:i<n
  ·have gi:=ja ((i:Int)<n);have cc:=ja (i<n);have hG:=HG.out;rw[show n-i=(n-(i+1))+1 by omega,Ds]at hG;obtain⟨fb,a4⟩:∃fb,fb=decide (i=0):=⟨_,rfl⟩
   have gz:((i:Int)==0)=fb:=by
    rw[a4];by_cases h:i=0
    ·subst h;rfl
    ·rw[AV h,GF];omega
   obtain⟨ab,an⟩:=jc (t2.getLast?.getD [])
   have bp:ab.length<=25:=by
    rw[an];cases hl:t2.getLast? with
    |none=>exact Da _
    |some y=>exact ar.out y (List.mem_of_getLast? hl)
   rw[<-a4,<-an]at hG;have DN:=hid (fun wx hx=>lB wx g w ls B d at_ ab fb b3.out H8.out bp hx);have ak:Hid ((Fb ls ab fb at_).2.2=0->(Fb ls ab fb at_).1.length<=25):=kE;generalize Fb ls ab fb at_=S at *;obtain⟨s,a2,e2⟩:=S;simp only at hG DN ak;have ac:=hid hG;have cf:=hid a4;have bb:=hid an;have c0:=HI.out.dat.blk.iy 0;have aq:=HI.out.dat.ot;obtain⟨p,hp⟩:=jc t2.length;rw[<-hp]at aq b1 a6;obtain⟨Au,cu,rfl⟩:=aZ aq;have HP:=hid hp;have a3:=hid aq;have b6:=HI.out.dat.blk.lt;have cg:base<=wr.heap.size:=(by have:=HI.out.dat.gb;omega);clear hG HG a4 an hp aq bp;by_cases bg:p=0
   ·have gp:=jb ((0:Int)<p);have bF:=jb (0<p);have bO:ab= []:=(by rw[bb.out,Hl (HP.out.symm.trans bg)];rfl);subst bO;have bt:Hid (∀wx,Cur wx g w ls B d at_ 0->Calls prog 245 #[.pointer (some ⟨g,0,none⟩), .string ⟨#[]⟩,fb] wx fun e w'=>e= .returned (.string (bs s))/\Cur w' g w ls B d a2 e2/\Kept (BL g wx) wx w'):=DN.out;clear DN bg;go_wp2_with fail;refine(bt.out _ HI.out.cur).mono ?_;rintro e w2 ⟨rfl,aj,E⟩;clear bt;have bh:=HI.out.cur.blk;have z2:=E.size;have al:=hid (fun he:e2=0=>HI.out.next a9 (he ▸ aj) E);have be:Hid (Kept (Ih w gd vT vH) w w2):=HI.out.kept.trans ⟨E.os,E.tape,E.output,E.size,fun y hy=>E.block y ⟨mX,fun e=>mX⟩⟩;have DE:=hid (Ej w2 g w ls B d a2 e2 aj);clear aj E HI c0 bh a3;go_wp2_with fail;refine DE.out.mono ?_;rintro e w3 ⟨rfl,rfl⟩;by_cases he:e2=0
    ·subst he;have J:=al.out rfl;have ae:=hid J;have hG:=ac.out;rw[Ae (show ¬((0:Int)≠0) from fun h=>h rfl)]at hG;have az:=hid hG;have ag:=hid (ak.out rfl);have k0:=J.dat.blk.iy 0;have U:=J.dat.ot;rw[<-HP.out]at U;have Q:=hid U;have bl:base<=w3.heap.size:=nB;have kf:=J.dat.blk.frozen 0;have kb:=J.dat.blk;have a0:=By (iZ J.dat.ot J.dat.blk ji:_≠some gd);have ai:=hid kb;have Y:=hid a0;clear J hG ac ak al DE U kf kb a0;cases fb with
     |false=>
      go_wp2_with(at_builtin;refine fZ rfl (.tmp 54) (.tmp 56) 50 rfl base 9 j0 _ 1 16 underlying50 ax au av aw rfl ji _ _ _ nC (Q.out.alloc _) _ 1 1 [.string (bs s)] nC (Src.of_blk (Blk.made_at _ _ _ pR) 1 1 1 rfl) mY qn nB p5 ?_;intro v5 w5 j M L;obtain⟨A5,c5,rfl⟩:=aZ j;have b5:=(ai.out.alloc (.cells #[.string (bs s)] 9)).grown M Y.out;have q0:=b5.iy 0;have q1:=b5.frozen 0);have G:=hid (ae.out.texts (s:=s) M nF L);clear j M L b5 q0 q1 ae Q ai Y k0;go_roundw
      case measure=>exact ld
      case rel=>exact js
     |true=>
      have ah:=ae.out.dat.oh;obtain⟨q,hq⟩:=jc h2.length;rw[<-hq]at ah a6;obtain⟨Ah,ch,rfl⟩:=aZ ah;have HQ:=hid hq;clear ah hq;go_wp2_with(first|(at_builtin;refine fZ rfl (.tmp 54) (.tmp 56) 50 rfl base 9 j0 _ 1 16 underlying50 ax au av aw rfl ji _ _ _ nC (Q.out.alloc _) _ 1 1 [.string (bs s)] nC (Src.of_blk (Blk.made_at _ _ _ pR) 1 1 1 rfl) mY qn nB p5 ?_;intro v5 w5 j M L;obtain⟨A5,c5,rfl⟩:=aZ j;have b5:=(ai.out.alloc (.cells #[.string (bs s)] 9)).grown M Y.out;have q0:=b5.iy 0;have q1:=b5.frozen 0;have G:=hid (ae.out.texts (s:=s) M nF L);have r0:=G.out.dat.blk.iy 2;have r1:=G.out.dat.blk.frozen 2;have bM:base<=w5.heap.size:=(by have h1:=G.out.dat.gb;have h2:=b5.lt;omega);have aa:=G.out.dat.oh;rw[<-HQ.out]at aa;have ay:=hid aa;clear aa j M L)|(at_builtin;refine fZ rfl (.tmp 67) (.tmp 69) 50 rfl base 9 j0 _ 1 16 underlying50 ax au av aw rfl ji _ _ _ nC (ay.out.alloc _) _ 1 1 [.string (bs s)] nC (Src.of_blk (Blk.made_at _ _ _ pR) 1 1 1 rfl) mY qn nB p5 ?_;intro v7 w7 N am af;obtain⟨A7,c7,rfl⟩:=aZ N;have b7:=(G.out.dat.blk.alloc (.cells #[.string (bs s)] 9)).grown am (By (iZ G.out.dat.oh G.out.dat.blk ji));have s0:=b7.iy 2;have s1:=b7.frozen 2;have bf:=hid (G.out.heads (s:=s) am (by rw[<-HQ.out];exact N) af);clear N am af));go_roundw
      case measure=>exact ld
      case rel=>exact jr
    ·have gE:(e2 != 0)=true:=qj;have bd:Hid (F=([],e2)):=(by have h:=ac.out;rw[Ag he]at h;exact h.symm);have Y:=hid he;clear he ac ak al DE;go_wp2_with fail;go_ret;rw[bd.out];exact⟨rfl,be.out,fun h=>absurd h Y.out⟩
   ·obtain⟨gq,cq,b0,b9,_⟩:=a3.out.form nB;injection b0 with q1 q2 q3;subst q1 q3;clear q2;have bm:t2[p-1]? =some ab:=(by have h:=bb.out;rw[List.getLast?_eq_getElem?,<-HP.out,AD (by have:=HP.out;omega)]at h;rw[AD (by have:=HP.out;omega),h];rfl);have cy:wr.cell? ⟨gq,p-1,none⟩=some (.string (bs ab)):=(by rw[a3.out.cellAt (p-1) nB];exact Ip bm);obtain⟨p1,bC⟩:=jc (p-1);rw[<-bC]at cy;have sp:IntKind.i64.wrap ((p:Int)-1)=(p1:Int):=nX;have gp:=ja ((0:Int)<p);have bF:=ja (0<p);have bG:(0:Int)<=(p1:Int):=nB;have bW:(p1:Int)<(p:Int):=nB;clear bm bC bg;go_wp2_with fail;go_quiet (fail);go_wp2_with fail;refine(DN.out _ (HI.out.cur.drewN _)).mono ?_;rintro e w2 ⟨rfl,aj,E⟩;clear DN;have E:Kept (BL g wr) wr w2:=⟨E.os,E.tape,E.output,E.size,E.block⟩;have bh:=HI.out.cur.blk;clear cy sp gp bF bG bW;have z2:=E.size;have al:=hid (fun he:e2=0=>HI.out.next a9 (he ▸ aj) E);have be:Hid (Kept (Ih w gd vT vH) w w2):=HI.out.kept.trans ⟨E.os,E.tape,E.output,E.size,fun y hy=>E.block y ⟨mX,fun e=>mX⟩⟩;have DE:=hid (Ej w2 g w ls B d a2 e2 aj);clear aj E HI c0 bh a3;go_wp2_with fail;refine DE.out.mono ?_;rintro e w3 ⟨rfl,rfl⟩;by_cases he:e2=0
    ·subst he;have J:=al.out rfl;have ae:=hid J;have hG:=ac.out;rw[Ae (show ¬((0:Int)≠0) from fun h=>h rfl)]at hG;have az:=hid hG;have ag:=hid (ak.out rfl);have k0:=J.dat.blk.iy 0;have U:=J.dat.ot;rw[<-HP.out]at U;have Q:=hid U;have bl:base<=w3.heap.size:=nB;have kf:=J.dat.blk.frozen 0;have kb:=J.dat.blk;have a0:=By (iZ J.dat.ot J.dat.blk ji:_≠some gd);have ai:=hid kb;have Y:=hid a0;clear J hG ac ak al DE U kf kb a0;cases fb with
     |false=>
      go_wp2_with(at_builtin;refine fZ rfl (.tmp 54) (.tmp 56) 50 rfl base 9 j0 _ 1 16 underlying50 ax au av aw rfl ji _ _ _ nC (Q.out.alloc _) _ 1 1 [.string (bs s)] nC (Src.of_blk (Blk.made_at _ _ _ pR) 1 1 1 rfl) mY qn nB p5 ?_;intro v5 w5 j M L;obtain⟨A5,c5,rfl⟩:=aZ j;have b5:=(ai.out.alloc (.cells #[.string (bs s)] 9)).grown M Y.out;have q0:=b5.iy 0;have q1:=b5.frozen 0);have G:=hid (ae.out.texts (s:=s) M nF L);clear j M L b5 q0 q1 ae Q ai Y k0;go_roundw
      case measure=>exact ld
      case rel=>exact js
     |true=>
      have ah:=ae.out.dat.oh;obtain⟨q,hq⟩:=jc h2.length;rw[<-hq]at ah a6;obtain⟨Ah,ch,rfl⟩:=aZ ah;have HQ:=hid hq;clear ah hq;go_wp2_with(first|(at_builtin;refine fZ rfl (.tmp 54) (.tmp 56) 50 rfl base 9 j0 _ 1 16 underlying50 ax au av aw rfl ji _ _ _ nC (Q.out.alloc _) _ 1 1 [.string (bs s)] nC (Src.of_blk (Blk.made_at _ _ _ pR) 1 1 1 rfl) mY qn nB p5 ?_;intro v5 w5 j M L;obtain⟨A5,c5,rfl⟩:=aZ j;have b5:=(ai.out.alloc (.cells #[.string (bs s)] 9)).grown M Y.out;have q0:=b5.iy 0;have q1:=b5.frozen 0;have G:=hid (ae.out.texts (s:=s) M nF L);have r0:=G.out.dat.blk.iy 2;have r1:=G.out.dat.blk.frozen 2;have bM:base<=w5.heap.size:=(by have h1:=G.out.dat.gb;have h2:=b5.lt;omega);have aa:=G.out.dat.oh;rw[<-HQ.out]at aa;have ay:=hid aa;clear aa j M L)|(at_builtin;refine fZ rfl (.tmp 67) (.tmp 69) 50 rfl base 9 j0 _ 1 16 underlying50 ax au av aw rfl ji _ _ _ nC (ay.out.alloc _) _ 1 1 [.string (bs s)] nC (Src.of_blk (Blk.made_at _ _ _ pR) 1 1 1 rfl) mY qn nB p5 ?_;intro v7 w7 N am af;obtain⟨A7,c7,rfl⟩:=aZ N;have b7:=(G.out.dat.blk.alloc (.cells #[.string (bs s)] 9)).grown am (By (iZ G.out.dat.oh G.out.dat.blk ji));have s0:=b7.iy 2;have s1:=b7.frozen 2;have bf:=hid (G.out.heads (s:=s) am (by rw[<-HQ.out];exact N) af);clear N am af));go_roundw
      case measure=>exact ld
      case rel=>exact jr
    ·have gE:(e2 != 0)=true:=qj;have bd:Hid (F=([],e2)):=(by have h:=ac.out;rw[Ag he]at h;exact h.symm);have Y:=hid he;clear he ac ak al DE;go_wp2_with fail;go_ret;rw[bd.out];exact⟨rfl,be.out,fun h=>absurd h Y.out⟩
  ·obtain rfl:i=n:=by omega
   have hG:=HG.out;rw[Gl,Ds]at hG;have gi:=jb ((i:Int)<i);have DE:=hid (Va wr g w ls B d at_ 0 HI.out.cur);have ac:=hid hG;clear hG HG;generalize GV ls at_ 0=ee at *;go_wp2_with fail;refine DE.out.mono ?_;rintro e w5 ⟨rfl,bX,Z⟩;have bN:Hid (Kept (Ih w gd vT vH) w w5):=HI.out.kept.trans ⟨Z.os,Z.tape,Z.output,Z.size,fun y hy=>Z.block y (fun e=>by have:=hy.1;omega)⟩;have b4:Hid (DAt w5 base gd size t2 h2 uT uH):=HI.out.dat.oth HI.out.cur.blk ⟨Z.os,Z.tape,Z.output,Z.size,fun y hy=>Z.block y hy.2⟩;clear bX Z;go_wp2_with fail;go_ret;rw[<-ac.out];exact⟨rfl,bN.out,fun _=>⟨ar.out,h2,uT,uH,b4.out,HI.out.lt,HI.out.lh,a6⟩⟩
end Idx
namespace Idx
open Go.RowKit Mem Own Canon Sift
open NumPut Recs Crc Block
open Nums
def szR(n size:Nat)(ls:List Nat):Nat->Nat->Nat->List Nat->List Nat×Nat×Int
 |0,at_,_,acc=>(acc,at_,0)
 |f+1,at_,x,acc=>if n<=x then(acc,at_,0)else if AU 2000 ls at_ 0≠0 then([],AR 2000 ls at_ 0,AU 2000 ls at_ 0)else szR n size ls f (AR 2000 ls at_ 0) (x+size) (acc++ [Bh 2000 ls at_ 0])
theorem SF{size:Nat}{f at_:Nat}{i:List Nat}(h:n<=x):szR n size ls f at_ x i=(i,at_,0):=by
 cases f with
 |zero=>rfl
 |succ f=>exact Ag h
def bkR(size:Nat)(ls:List Nat):List Nat->Nat->Nat->List Str->List Str×Nat×Int
 | [],_,at_,acc=>(acc,at_,0)
 |k :: ks,r,at_,acc=>if Cj ls at_ 0 k≠0 then([],0,Cj ls at_ 0 k)
  else if(Ds (BJ ls at_ 0 k) (min size r) true 0 acc).2≠0 then([],0,(Ds (BJ ls at_ 0 k) (min size r) true 0 acc).2)
  else bkR size ls ks (r-size) (takeA ls at_ 0 k) (Ds (BJ ls at_ 0 k) (min size r) true 0 acc).1
def GL(size:Nat)(ls:List Nat):List Nat×Nat×Int:=
 if AU 1048576 ls 0 0≠0 then([],AR 1048576 ls 0 0,AU 1048576 ls 0 0)else szR (Bh 1048576 ls 0 0) size ls (Bh 1048576 ls 0 0) (AR 1048576 ls 0 0) 0 []
def Gi(size:Nat)(ls:List Nat):List Str×Nat×Int:=
 if(GL size ls).2.2≠0 then([],0,(GL size ls).2.2)else bkR size ls (GL size ls).1 (Bh 1048576 ls 0 0) (GL size ls).2.1 []
def UO(w:World)(R:List Str×Nat×Int)(e:Ending)(w':World):Prop:=
 Below w w w'/\(R.2.2≠0->e= .returned (.tuple #[.pointer none,jd,R.2.2]))/\(R.2.2=0->∃gd size hs vT vH,e= .returned (.tuple #[.pointer (some ⟨gd,0,none⟩), .int .i64 (R.2.1:Nat),jd])/\DAt w' w gd size R.1 hs vT vH)
theorem JO{R:List Str×Nat×Int}(hR:R=([],0,er))(he:er≠0)(hb:Below w w w'):UO w R (.returned (.tuple #[.pointer none,jd,er])) w':=qm
theorem Wu{row:Option Nat}{at_:Nat}{i:List Nat}(h:Cur w g base i A c at_ er)(hg:w.grownBy w' row)(B:Nat)(E:g<B)(j:∀x,(Value.slice A i.length c).ownBlock=some x->x<B)(hr:∀x,row=some x->B<=x):Cur w' g base i A c at_ er:=
 ⟨h.blk.grown hg (fun e=>by have:=hr g e.symm;omega),eZ h.own (fun x hx=>hg.block x (Ai h.own x hx).2 (fun e=>by have:=j x hx;have:=hr x e.symm;omega)),h.le,h.lo⟩
theorem Sp{size:Nat}{ts hs:List Str}(hD:DAt w base gd size ts hs uT uH)(hy:y<w.heap.size)(hb:y<base):Ih w gd uT uH y:=
 ⟨hy,by have:=hD.gb;omega,fun e=>by have:=(Ai hD.ot y e).1;omega,fun e=>by have:=(Ai hD.oh y e).1;omega⟩
theorem Pz{size:Nat}{ts hs:List Str}{v:Value}(hD:DAt w base gd size ts hs uT uH)(h:w.ownsRow b2 e 1 v n xs)(he:9≠e)(hd:e≠254)(hy:v.ownBlock=some y):Ih w gd uT uH y:=
 ⟨(Ai h y hy).2,fun e2=>iZ h hD.blk hd (e2 ▸ hy),fun e2=>by
   rcases EN hD.ot h he with e3|e3
   ·rw[e3]at e2;cases e2
   ·exact e3 (by rw[e2,hy]),fun e2=>by
   rcases EN hD.oh h he with e3|e3
   ·rw[e3]at e2;cases e2
   ·exact e3 (by rw[e2,hy])⟩
theorem UD{size at_:Nat}{ts hs:List Str}(h:Cur w g b2 ls A c at_ er)(hD:DAt w base gd size ts hs uT uH)(hk:Kept (Ih w gd uT uH) w w'):Cur w' g b2 ls A c at_ er:=
 ⟨(hk.block g ⟨h.blk.lt,fun e=>Blk.apart hD.blk h.blk ji e.symm,iZ hD.ot h.blk ji,iZ hD.oh h.blk ji⟩).trans h.blk,eZ h.own (fun y hy=>hk.block y (Pz hD h.own ji ji hy)),h.le,h.lo⟩
theorem Ns(ls:List Nat):∀ (k:Nat) (first:Bool) (at_:Nat) (i:List Str),(Ds ls k first at_ i).2=0->(Ds ls k first at_ i).1.length=i.length+k
 |0,_,_,_,_=>rfl
 |k+1,first,at_,i,h=>by
  unfold Ds at h ⊢;split at h
  ·rename_i he;exact absurd h he
  ·rename_i he;rw[Ae he];rw[Ns ls k false _ _ h,Aj];simp;omega
theorem jS:(prog.info? 3).map (fun i=>(i.zero,i.size,i.bytes))=some (some (.int .i64 0),1,8):=ni
theorem i8(w:World)(A:Option Addr)(m c size:Nat)(ls:List Nat)(hm:ls.length=m)(b6:m<=100000)(h8:∀x∈ls,x<=255)(bk:A=none->m=0/\c=0)(ha:Row w w A m 1 (kZ .u8 ls))(c4:1<=size)(cT:size<=64):
 Calls prog 118 #[.int .i64 (size:Nat), .slice A m c] w (UO w (Gi size ls)):=by
 obtain⟨j0,cG,cx,cC,cF⟩:=info_parts jS;have D0:=hid (new_any w A m c ls hm b6 bk ha);have bd:ls.length<=100000:=nB
 have b4:=hid bd;have H8:=hid h8;have D1:=hid (fun wx g B d h=>I5 wx g w ls B d 0 0 1048576 bd h8 nB h);have c6:=jb ((size:Int)<1)
 have cL:=jb (size<1)
 have cX:=jb ((64:Int)<size)
 have cJ:=jb (64<size)
 obtain⟨R,hR⟩:=jc (Gi size ls);rw[<-hR];unfold Gi at hR;obtain⟨Z,hZ⟩:=jc (GL size ls);rw[<-hZ]at hR;unfold GL at hZ;have c3:Bh 1048576 ls 0 0<=1048576:=Gr h8 0 0;have b7:AU 1048576 ls 0 0≠0->Bh 1048576 ls 0 0=0:=by intro h;unfold AU at h;rw[Ae pR]at h;unfold Bh;rw[Ae pR];exact((Hv 1048576 (ls.drop 0) fun x hx=>h8 x (Cg hx)).2.2.2.1 h).1
 generalize Bh 1048576 ls 0 0=n at *;generalize AR 1048576 ls 0 0=a0 at *;generalize AU 1048576 ls 0 0=e0 at *;have b0:Hid ((e0=0->∃f,n<=f+0/\szR n size ls f a0 0 []=Z)/\(e0≠0->Z=([],a0,e0))):=⟨fun h=>⟨n,nB,by rw[hZ,Ae p8]⟩,fun h=>by rw[hZ,Ag h]⟩;have HR:=hid hR;have cw:=hid b7;clear hm h8 bk ha hR hZ b7 b6 bd;go_enter func118,ntmps118;go_wp2_with fail;refine D0.out.mono ?_;rintro e w1 ⟨g,B,d,rfl,ba,bO⟩;have DI:=hid (D1.out w1 g B d ba);have b9:=hid bO;have cH:=ba.lo;have cP:=ba.blk.lt;have c0:=bO.size;have cy:Hid (∀y,(Value.slice B ls.length d).ownBlock=some y->y<w1.heap.size):=fun y hy=>(Ai ba.own y hy).2;clear ba bO D0 D1;go_wp2_with fail;refine DI.out.mono ?_;rintro e w2 ⟨rfl,ce,ay⟩;have b8:Hid (Below w w w2):=b9.out.trans (ay.below fun b h=>⟨nB,nB⟩);have z2:=ay.size;have cg:=hid ce;clear ce ay b9 DI;go_wp2_with fail;go_loopw [9,10] (fun v xv wr=>∃ (x at_ q:Nat) (er:Int) (G:List Nat),x<=n+64/\q<=x/\xv= .int .i64 x/\Hid (G.length=q)/\Hid (q*size=x)/\Hid (0<q->x<n+size)/\Hid (∀y∈G,y<=2000)/\Hid (Cur wr g w ls B d at_ er)/\Hid (wr.ownsRow w2 3 1 v q (bZ .i64 G))/\Hid (Kept (fun y=>y<w2.heap.size/\y≠g) w2 wr)/\Hid (er=0->∃f,n<=f+x/\szR n size ls f at_ x G=Z)/\Hid (er≠0->Z.2.2=er/\(n=0∨0<q))) (fun _ xv _=>n+64-(intOf xv).toNat)
 case atStart=>exact⟨0,a0,0,e0,[],nB,nB,rfl,rfl,pH,fun h=>nB,fun y hy=>by simp at hy,cg.out,AE _ _ _ _,Kept.refl _ _,b0.out.1,fun h=>⟨by rw[b0.out.2 h], .inl (cw.out h)⟩⟩
 case round=>
  obtain⟨x,at_,q,er,G,hx,c1,rfl,HQ,bj,bm,HA,HC,HO,HK,HT,HE⟩:=hrel;have zk:=HK.out.size;obtain⟨va,vc,rfl⟩:=aZ HO.out;clear b0 cg;by_cases c2:x<n
  ·have g1:=ja ((x:Int)<n);have ch:=ja (x<n);have DE:=hid (Ej wr g w ls B d at_ er HC.out);by_cases he:er=0
   ·subst he;obtain⟨f,hf,hT⟩:=HT.out rfl;obtain⟨f,rfl⟩:∃f',f=f'+1:=⟨f-1,nB⟩;rw[szR,Ae nB]at hT;have D:=hid (fun wx hx=>I5 wx g w ls B d at_ 0 2000 b4.out H8.out nB hx);have ay:Bh 2000 ls at_ 0<=2000:=Gr H8.out _ _;generalize Bh 2000 ls at_ 0=k at *;generalize AR 2000 ls at_ 0=a2 at *;generalize AU 2000 ls at_ 0=e2 at *;have sx:IntKind.i64.wrap ((x:Int)+(size:Int))=((x+size:Nat):Int):=nX;have N:Hid ((e2=0->∃f',n<=f'+(x+size)/\szR n size ls f' a2 (x+size) (G++ [k])=Z)/\(e2≠0->Z.2.2=e2/\(n=0∨0<q+1))):=⟨fun h=>⟨f,nB,by rw[Ae p8]at hT;exact hT⟩,fun h=>by rw[Ag h]at hT;rw[<-hT];exact⟨rfl, .inr nB⟩⟩
    have cz:Hid (∀y∈G++ [k],y<=2000):=fun y hy=>by
     rcases Bx.1 hy with h|h
     ·exact HA.out y h
     ·rw[Em]at h;omega
    have cd:Hid ((q+1)*size=x+size):=(by show _=_;rw[I7,bj.out]);clear hT HT HE hf HA bj bm;go_wp2_with fail;refine DE.out.mono ?_;rintro e w3 ⟨rfl,rfl⟩;go_wp2_with fail;refine(D.out _ HC.out).mono ?_;rintro e w4 ⟨rfl,af,J⟩;have z4:=J.size;have ai:=hid af;have Q:Hid (w4.ownsRow w2 3 1 (.slice va q vc) q (bZ .i64 G)):=eZ HO.out (fun y hy=>J.block y ⟨(Ai HO.out y hy).2,by have:=(Ai HO.out y hy).1;omega⟩);have bl:Hid (Kept (fun y=>y<w2.heap.size/\y≠g) w2 w4):=HK.out.trans ⟨J.os,J.tape,J.output,J.size,fun y hy=>J.block y ⟨mX,hy.2⟩⟩;clear af J HC HO HK DE D;go_wp2_with(at_builtin;refine fZ rfl (.tmp 39) (.tmp 42) 37 rfl w2 3 j0 _ 1 8 underlying37 cG cx cC cF rfl ji _ _ _ nC (Q.out.alloc _) _ 1 1 [.int .i64 (k:Nat)] nC (Src.of_blk (Blk.made_at _ _ _ pR) 1 1 1 rfl) mY qn nB p5 ?_;intro v5 w5 aq bn cf;obtain⟨A5,c5,rfl⟩:=aZ aq);have bu:=fun(y:Nat) hy=>(Ai Q.out y hy).1;have cS:=bl.out.size;have cc:=Wu (ai.out.step (cZ (o:= .cells #[.int .i64 (k:Nat)] 3) (Ak w4 w4))) bn w2 nB (fun y hy=>by have:=cy.out y hy;omega) bu;have cE:=hid cc;have co:Hid (Kept (fun y=>y<w2.heap.size/\y≠g) w2 w5):=(bl.out.alloc (fun y hy=>by have:=hy.1;omega) _).grown bn (fun y hy=>by have:=hy.1;simp;omega) (fun y hy hh=>by have:=bu y hy;have:=hh.1;omega);have cu:Hid (w5.ownsRow w2 3 1 (.slice A5 (q+1) c5) (q+1) (bZ .i64 (G++ [k]))):=(by show World.ownsRow _ _ _ _ _ _ _;rw[show bZ .i64 (G++ [k])=bZ .i64 G++ [.int .i64 (k:Nat)] by simp[bZ]];exact aq);clear aq bn cf bu cc ai Q bl;go_roundw
    case measure=>exact ld
    case rel=>go_light;exact⟨x+size,a2,q+1,e2,G++ [k],nB,nB,jk,by show _=_;rw[Aj,HQ.out];rfl,cd.out,fun _=>nB,cz.out,cE.out,cu.out,co.out,N.out.1,N.out.2⟩
   ·have gE:(er==0)=false:=qj;have al:Hid ((er=0->Z=(G,at_,0))/\(er≠0->Z.2.2=er)):=⟨fun h=>absurd h he,fun h=>(HE.out h).1⟩;clear he HT HE;go_wp2_with fail;refine DE.out.mono ?_;rintro e w3 ⟨rfl,rfl⟩;clear DE;go_wp2_with fail;have au:Hid ((er=0->R=bkR size ls (G.drop 0) (n-0) at_ [])/\(er≠0->R=([],0,er))):=⟨fun h=>mu,fun h=>mw⟩;have a6:Hid (DAt (w3.alloc (.cells #[(), .int .i64 (size:Nat),()] 254)) w w3 size [] [] (.slice none 0 0) (.slice none 0 0)):=⟨Blk.made _ _ _,AE _ _ _ _,AE _ _ _ _,(fun y h=>by cases h),nB⟩;have be:Hid (Cur (w3.alloc (.cells #[(), .int .i64 (size:Nat),()] 254)) g w ls B d at_ er):=HC.out.step (cZ (Ak _ _));have az:Hid ((w3.alloc (.cells #[(), .int .i64 (size:Nat),()] 254)).ownsRow w2 3 1 (.slice va q vc) q (bZ .i64 G)):=HO.out.alloc _;have ar:Hid (Below w w w3):=b8.out.trans (HK.out.below fun b h=>⟨nB,nB⟩);have a5:Hid (Below w w (w3.alloc (.cells #[(), .int .i64 (size:Nat),()] 254))):=mZ ar.out.size ar.out;generalize bt:w3.heap.size=gd at *;clear bt al HR HC HO HK ar;go_loopw [49] (fun iv wr=>∃ (i y E:Nat) (j:Int) (ts hs:List Str) (uT uH:Value),i<=q/\iv= .int .i64 i/\Hid (y=i*size)/\ts.length<=y/\hs.length<=ts.length/\Hid (∀s∈ts,s.length<=25)/\Hid (Cur wr g w ls B d E j)/\Hid (DAt wr w gd size ts hs uT uH)/\Hid (wr.ownsRow w2 3 1 (.slice va q vc) q (bZ .i64 G))/\Hid (Below w w wr)/\Hid (j=0->R=bkR size ls (G.drop i) (n-y) E ts)/\Hid (j≠0->R=([],0,j))) (fun iv _=>q-(intOf iv).toNat)
    case atStart=>exact⟨0,0,at_,er,[],[], .slice none 0 0, .slice none 0 0,nB,rfl,pH,pR,pR,(fun s hs=>by simp at hs),be.out,a6.out,az.out,a5.out,au.out.1,au.out.2⟩
    case round=>
     obtain⟨i,y,E,j,ts,hs,uT,uH,hi,rfl,HY,cl,bU,bp,HC,HD,HO,HB,HT,HE⟩:=hrel;clear be a6 az a5 au;have zr:=HB.out.size;by_cases bW:i<q
     ·have gi:=ja ((i:Int)<q);have cq:=ja (i<q);have cr:y+size<=x:=lk;have cA:=bm.out nB;obtain⟨k,hk⟩:∃k,G[i]? =some k:=⟨_,AD mS⟩;have ay:=HA.out k (AY hk);have Y:G.drop i=k :: G.drop (i+1):=(by obtain⟨hl,e⟩:=BS.1 hk;rw[Dx hl,e]);obtain⟨gv,cv,bG,ci,_⟩:=HO.out.form nB;injection bG with q1 q2 q3;subst q1 q3;clear q2;have ck:wr.cell? ⟨gv,i,none⟩=some (.int .i64 (k:Nat)):=oC;have cj:(0:Int)<=(i:Int):=nB;have ct:(i:Int)<(q:Int):=nB;have DT:=JY wr g w ls B d E j k b4.out nB HC.out;unfold JZ at DT;have hT:j=0->R=bkR size ls (k :: G.drop (i+1)) (n-y) E ts:=fun h=>by rw[<-Y];exact HT.out h
      unfold bkR at hT;have a9:j≠0->Cj ls E j k=j:=fun h=>Ag h
      have ak:∀z∈BJ ls E j k,z<=255:=fun z hz=>by
       unfold BJ at hz;split at hz
       ·simp at hz
       ·split at hz
        ·simp at hz
        ·exact H8.out z (Cg (CN hz))
      have cm:=UF ls E j k;have a1:j=0->Cj ls E 0 k=Cj ls E j k/\BJ ls E 0 k=BJ ls E j k/\takeA ls E 0 k=takeA ls E j k:=fun h=>by subst h;exact⟨rfl,rfl,rfl⟩
      have N:Hid (j=0->R=if Cj ls E j k≠0 then([],0,Cj ls E j k)else if(Ds (BJ ls E j k) (min size (n-y)) true 0 ts).2≠0 then([],0,(Ds (BJ ls E j k) (min size (n-y)) true 0 ts).2)else bkR size ls (G.drop (i+1)) (n-y-size) (takeA ls E j k) (Ds (BJ ls E j k) (min size (n-y)) true 0 ts).1):=fun h=>nr
      have ah:=hid a9;have HK:=hid hk;generalize Cj ls E j k=e3 at *;generalize BJ ls E j k=pt at *;generalize takeA ls E j k=a3 at *;have bh:=hid ak;have DT:=hid DT;clear Y hk hT a9 ak a1 HT;go_wp2_with fail;refine DT.out.mono ?_;rintro e w4 ⟨v4,rfl,M,af,J⟩;obtain⟨Ap,cp,rfl⟩:=aZ M;have z4:=J.size;have ai:=hid af;have aa:Hid (DAt w4 w gd size ts hs uT uH):=HD.out.oth HC.out.blk J;have Q:Hid (w4.ownsRow w2 3 1 (.slice (some ⟨gv,0,none⟩) q vc) q (bZ .i64 G)):=eZ HO.out (fun z hz=>J.block z ⟨(Ai HO.out z hz).2,by have:=(Ai HO.out z hz).1;omega⟩);have aw:Hid (Below w w w4):=HB.out.trans (J.below fun b h=>⟨nB,nB⟩);have ax:=hid M;have DE:=hid (Ej w4 g w ls B d a3 e3 af);clear M af J DT HC HD HO HB ck;go_wp2_with fail;refine DE.out.mono ?_;rintro e w5 ⟨rfl,rfl⟩;by_cases U:e3=0
      ·subst U;have aj:j=0:=LM fun h=>h (ah.out h).symm;have hr:=N.out aj;rw[Ae (show ¬((0:Int)≠0) from fun h=>h rfl)]at hr;obtain⟨r,bf⟩:=jc (n-y);obtain⟨mn,am⟩:=jc (min size r);have sy:IntKind.i64.wrap ((i:Int)*(size:Int))=(y:Int):=pz;have sr:IntKind.i64.wrap ((n:Int)-(y:Int))=(r:Int):=nX;have cB:min (size:Int) (r:Int)=(mn:Int):=nB;rw[<-bf,<-am]at hr;have DF:=UZ w5 Ap pt.length cp mn w gd size pt ts hs uT uH rfl nB bh.out (Jj ax.out) (own_row ax.out) nB aa.out bp.out nB bU;have an:=Ns pt mn true 0 ts;generalize Ds pt mn true 0 ts=F at *;obtain⟨f1,f2⟩:=F;simp only at hr an;have ca:mn<=size:=(by rw[am];exact Nat.min_le_left _ _);have bg:Hid (r-size=n-(y+size)):=pH;have DF:=hid DF;have ag:=hid hr;clear hr ax N ah bh am DE bf aj;go_wp2_with fail;refine DF.out.mono ?_;rintro e w6 ⟨rfl,ae,av⟩;have a4:Hid (Below w w w6):=aw.out.trans (ae.below fun b hb=>Sp aa.out nB hb);by_cases hf:f2=0
       ·subst hf;obtain⟨bi,h6,bq,b5,bb,_,_,bc⟩:=av rfl;have bC:=hid (UD ai.out aa.out ae);have bN:Hid (w6.ownsRow w2 3 1 (.slice (some ⟨gv,0,none⟩) q vc) q (bZ .i64 G)):=eZ Q.out (fun z hz=>ae.block z (Pz aa.out Q.out ji ji hz));have bM:=hid bb;have b3:=hid bi;have bF:=an rfl;have bX:Hid (R=bkR size ls (G.drop (i+1)) (n-(y+size)) a3 f1):=mq;have b1:Hid (y+size=(i+1)*size):=(by show _=_;rw[I7,HY.out]);have bS:f1.length<=y+size:=nB;simp only at bc;clear ae av bi bb ag DF ai aa Q aw bF an bg;go_wp2_with fail;go_roundw
        case measure=>exact ld
        case rel=>exact jx
       ·have gE:(f2 != 0)=true:=(by simpa using hf);have L:Hid (R=([],0,f2)):=(by have h:=ag.out;rw[Ag hf]at h;exact h);have ac:=hid hf;clear hf ag av ae DF HE;go_wp2_with fail
        go_ret3
        exact JO L.out ac.out a4.out
      ·have gE:(e3 != 0)=true:=by simpa using U
       have L:Hid (R=([],0,e3)):=by
        by_cases h:j=0
        ·have h2:=N.out h;rw[Ag U]at h2;exact h2
        ·rw[ah.out h];exact HE.out h
       have ac:=hid U;clear U N HE ah DE;go_wp2_with fail
       go_ret3
       exact JO L.out ac.out aw.out
     ·obtain rfl:i=q:=by omega
      have gi:=jb ((i:Int)<i);have DE:=hid (Ej wr g w ls B d E j HC.out);have DA:=hid (JK wr g w ls B d E j HC.out);by_cases ab:j=0
      ·subst ab;have L:Hid (R=(ts,E,0)):=mh;clear HT HE;go_wp2_with fail;refine DE.out.mono ?_;rintro e w5 ⟨rfl,rfl⟩;go_wp2_with fail;refine DA.out.mono ?_;rintro e w6 ⟨rfl,rfl⟩;go_wp2_with fail
       go_ret3
       rw[L.out];exact⟨HB.out,fun h=>absurd rfl h,fun _=>⟨gd,size,hs,uT,uH,rfl,HD.out⟩⟩
      ·have gE:(j != 0)=true:=(by simpa using ab);have L:Hid (R=([],0,j)):=HE.out ab;have ac:=hid ab;clear ab HT HE DA;go_wp2_with fail;refine DE.out.mono ?_;rintro e w5 ⟨rfl,rfl⟩;go_wp2_with fail
       go_ret3
       exact JO L.out ac.out HB.out
  ·have g1:=jb ((x:Int)<n);have ch:=jb (x<n);have al:Hid ((er=0->Z=(G,at_,0))/\(er≠0->Z.2.2=er)):=⟨fun h=>by obtain⟨f,_,h2⟩:=HT.out h;rw[SF nB]at h2;exact h2.symm,fun h=>(HE.out h).1⟩;clear HT HE;obtain⟨w3,rfl⟩:=jc wr;go_wp2_with fail;have au:Hid ((er=0->R=bkR size ls (G.drop 0) (n-0) at_ [])/\(er≠0->R=([],0,er))):=⟨fun h=>mu,fun h=>mw⟩;have a6:Hid (DAt (w3.alloc (.cells #[(), .int .i64 (size:Nat),()] 254)) w w3 size [] [] (.slice none 0 0) (.slice none 0 0)):=⟨Blk.made _ _ _,AE _ _ _ _,AE _ _ _ _,(fun y h=>by cases h),nB⟩;have be:Hid (Cur (w3.alloc (.cells #[(), .int .i64 (size:Nat),()] 254)) g w ls B d at_ er):=HC.out.step (cZ (Ak _ _));have az:Hid ((w3.alloc (.cells #[(), .int .i64 (size:Nat),()] 254)).ownsRow w2 3 1 (.slice va q vc) q (bZ .i64 G)):=HO.out.alloc _;have ar:Hid (Below w w w3):=b8.out.trans (HK.out.below fun b h=>⟨nB,nB⟩);have a5:Hid (Below w w (w3.alloc (.cells #[(), .int .i64 (size:Nat),()] 254))):=mZ ar.out.size ar.out;generalize bt:w3.heap.size=gd at *;clear bt al HR HC HO HK ar;go_loopw [49] (fun iv wr=>∃ (i y E:Nat) (j:Int) (ts hs:List Str) (uT uH:Value),i<=q/\iv= .int .i64 i/\Hid (y=i*size)/\ts.length<=y/\hs.length<=ts.length/\Hid (∀s∈ts,s.length<=25)/\Hid (Cur wr g w ls B d E j)/\Hid (DAt wr w gd size ts hs uT uH)/\Hid (wr.ownsRow w2 3 1 (.slice va q vc) q (bZ .i64 G))/\Hid (Below w w wr)/\Hid (j=0->R=bkR size ls (G.drop i) (n-y) E ts)/\Hid (j≠0->R=([],0,j))) (fun iv _=>q-(intOf iv).toNat)
   case atStart=>exact⟨0,0,at_,er,[],[], .slice none 0 0, .slice none 0 0,nB,rfl,pH,pR,pR,(fun s hs=>by simp at hs),be.out,a6.out,az.out,a5.out,au.out.1,au.out.2⟩
   case round=>
    obtain⟨i,y,E,j,ts,hs,uT,uH,hi,rfl,HY,cl,bU,bp,HC,HD,HO,HB,HT,HE⟩:=hrel;clear be a6 az a5 au;have zr:=HB.out.size;by_cases bW:i<q
    ·have gi:=ja ((i:Int)<q);have cq:=ja (i<q);have cr:y+size<=x:=lk;have cA:=bm.out nB;obtain⟨k,hk⟩:∃k,G[i]? =some k:=⟨_,AD mS⟩;have ay:=HA.out k (AY hk);have Y:G.drop i=k :: G.drop (i+1):=(by obtain⟨hl,e⟩:=BS.1 hk;rw[Dx hl,e]);obtain⟨gv,cv,bG,ci,_⟩:=HO.out.form nB;injection bG with q1 q2 q3;subst q1 q3;clear q2;have ck:wr.cell? ⟨gv,i,none⟩=some (.int .i64 (k:Nat)):=oC;have cj:(0:Int)<=(i:Int):=nB;have ct:(i:Int)<(q:Int):=nB;have DT:=JY wr g w ls B d E j k b4.out nB HC.out;unfold JZ at DT;have hT:j=0->R=bkR size ls (k :: G.drop (i+1)) (n-y) E ts:=fun h=>by rw[<-Y];exact HT.out h
     unfold bkR at hT;have a9:j≠0->Cj ls E j k=j:=fun h=>Ag h
     have ak:∀z∈BJ ls E j k,z<=255:=fun z hz=>by
      unfold BJ at hz;split at hz
      ·simp at hz
      ·split at hz
       ·simp at hz
       ·exact H8.out z (Cg (CN hz))
     have cm:=UF ls E j k;have a1:j=0->Cj ls E 0 k=Cj ls E j k/\BJ ls E 0 k=BJ ls E j k/\takeA ls E 0 k=takeA ls E j k:=fun h=>by subst h;exact⟨rfl,rfl,rfl⟩
     have N:Hid (j=0->R=if Cj ls E j k≠0 then([],0,Cj ls E j k)else if(Ds (BJ ls E j k) (min size (n-y)) true 0 ts).2≠0 then([],0,(Ds (BJ ls E j k) (min size (n-y)) true 0 ts).2)else bkR size ls (G.drop (i+1)) (n-y-size) (takeA ls E j k) (Ds (BJ ls E j k) (min size (n-y)) true 0 ts).1):=fun h=>nr
     have ah:=hid a9;have HK:=hid hk;generalize Cj ls E j k=e3 at *;generalize BJ ls E j k=pt at *;generalize takeA ls E j k=a3 at *;have bh:=hid ak;have DT:=hid DT;clear Y hk hT a9 ak a1 HT;go_wp2_with fail;refine DT.out.mono ?_;rintro e w4 ⟨v4,rfl,M,af,J⟩;obtain⟨Ap,cp,rfl⟩:=aZ M;have z4:=J.size;have ai:=hid af;have aa:Hid (DAt w4 w gd size ts hs uT uH):=HD.out.oth HC.out.blk J;have Q:Hid (w4.ownsRow w2 3 1 (.slice (some ⟨gv,0,none⟩) q vc) q (bZ .i64 G)):=eZ HO.out (fun z hz=>J.block z ⟨(Ai HO.out z hz).2,by have:=(Ai HO.out z hz).1;omega⟩);have aw:Hid (Below w w w4):=HB.out.trans (J.below fun b h=>⟨nB,nB⟩);have ax:=hid M;have DE:=hid (Ej w4 g w ls B d a3 e3 af);clear M af J DT HC HD HO HB ck;go_wp2_with fail;refine DE.out.mono ?_;rintro e w5 ⟨rfl,rfl⟩;by_cases U:e3=0
     ·subst U;have aj:j=0:=LM fun h=>h (ah.out h).symm;have hr:=N.out aj;rw[Ae (show ¬((0:Int)≠0) from fun h=>h rfl)]at hr;obtain⟨r,bf⟩:=jc (n-y);obtain⟨mn,am⟩:=jc (min size r);have sy:IntKind.i64.wrap ((i:Int)*(size:Int))=(y:Int):=pz;have sr:IntKind.i64.wrap ((n:Int)-(y:Int))=(r:Int):=nX;have cB:min (size:Int) (r:Int)=(mn:Int):=nB;rw[<-bf,<-am]at hr;have DF:=UZ w5 Ap pt.length cp mn w gd size pt ts hs uT uH rfl nB bh.out (Jj ax.out) (own_row ax.out) nB aa.out bp.out nB bU;have an:=Ns pt mn true 0 ts;generalize Ds pt mn true 0 ts=F at *;obtain⟨f1,f2⟩:=F;simp only at hr an;have ca:mn<=size:=(by rw[am];exact Nat.min_le_left _ _);have bg:Hid (r-size=n-(y+size)):=pH;have DF:=hid DF;have ag:=hid hr;clear hr ax N ah bh am DE bf aj;go_wp2_with fail;refine DF.out.mono ?_;rintro e w6 ⟨rfl,ae,av⟩;have a4:Hid (Below w w w6):=aw.out.trans (ae.below fun b hb=>Sp aa.out nB hb);by_cases hf:f2=0
      ·subst hf;obtain⟨bi,h6,bq,b5,bb,_,_,bc⟩:=av rfl;have bC:=hid (UD ai.out aa.out ae);have bN:Hid (w6.ownsRow w2 3 1 (.slice (some ⟨gv,0,none⟩) q vc) q (bZ .i64 G)):=eZ Q.out (fun z hz=>ae.block z (Pz aa.out Q.out ji ji hz));have bM:=hid bb;have b3:=hid bi;have bF:=an rfl;have bX:Hid (R=bkR size ls (G.drop (i+1)) (n-(y+size)) a3 f1):=mq;have b1:Hid (y+size=(i+1)*size):=(by show _=_;rw[I7,HY.out]);have bS:f1.length<=y+size:=nB;simp only at bc;clear ae av bi bb ag DF ai aa Q aw bF an bg;go_wp2_with fail;go_roundw
       case measure=>exact ld
       case rel=>exact jx
      ·have gE:(f2 != 0)=true:=(by simpa using hf);have L:Hid (R=([],0,f2)):=(by have h:=ag.out;rw[Ag hf]at h;exact h);have ac:=hid hf;clear hf ag av ae DF HE;go_wp2_with fail
       go_ret3
       exact JO L.out ac.out a4.out
     ·have gE:(e3 != 0)=true:=by simpa using U
      have L:Hid (R=([],0,e3)):=by
       by_cases h:j=0
       ·have h2:=N.out h;rw[Ag U]at h2;exact h2
       ·rw[ah.out h];exact HE.out h
      have ac:=hid U;clear U N HE ah DE;go_wp2_with fail
      go_ret3
      exact JO L.out ac.out aw.out
    ·obtain rfl:i=q:=by omega
     have gi:=jb ((i:Int)<i);have DE:=hid (Ej wr g w ls B d E j HC.out);have DA:=hid (JK wr g w ls B d E j HC.out);by_cases ab:j=0
     ·subst ab;have L:Hid (R=(ts,E,0)):=mh;clear HT HE;go_wp2_with fail;refine DE.out.mono ?_;rintro e w5 ⟨rfl,rfl⟩;go_wp2_with fail;refine DA.out.mono ?_;rintro e w6 ⟨rfl,rfl⟩;go_wp2_with fail
      go_ret3
      rw[L.out];exact⟨HB.out,fun h=>absurd rfl h,fun _=>⟨gd,size,hs,uT,uH,rfl,HD.out⟩⟩
     ·have gE:(j != 0)=true:=(by simpa using ab);have L:Hid (R=([],0,j)):=HE.out ab;have ac:=hid ab;clear ab HT HE DA;go_wp2_with fail;refine DE.out.mono ?_;rintro e w5 ⟨rfl,rfl⟩;go_wp2_with fail
      go_ret3
      exact JO L.out ac.out HB.out
end Idx
namespace Ef
open Go.RowKit Mem Own Canon Huff NumPut
open Recs (Ck)
theorem Ro(w:World)(bound:Nat)(A:Option Addr)(n c:Nat)(ls:List Nat)(hn:ls.length=n)(h1:1<=n)(bN:n<=bound)(hb:bound<=20000)(hm:Cd bound none ls=true)(ha:Row w w A n 1 (kZ .i64 ls)):
 Calls prog 73 #[bound, .slice A n c] w fun e w'=>∃v,e= .returned (.tuple #[v,jd])/\w'.ownsRow w 5 1 v (efO bound ls).length (bZ .u8 (efO bound ls))/\Below w w w':=by
 have HN:=hid hn;have HA:=hid ha;have DM:=hid (OA w bound A n c ls hn nB ha);rw[hm]at DM;have hq:1<=bound / n:=(Nat.one_le_div_iff nB).2 bN;have b1:bound / n<=bound:=ID _ _;have DN:=hid (fun wx=>OK wx n nB);have DW:=hid (fun wx=>Xt wx (bound / n) hq nB);have b8:=sZ (x:=n) nB;have y1:=jb ((bound:Int)<0)
 have y2:=jb ((20000:Int)<bound)
 have b0:=jb (20000<bound)
 have u1:IntKind.u64.wrap (n:Int)=(n:Int):=n4
 have z1:((n:Int)==0)=false:=p5
 have b4:¬(n:Int)=0:=nB
 have a4:Hid (∀x∈ls,x<bound):=Ho bound ls none hm;have bS:Hid (∀ (k x y:Nat),ls[k]? =some x->ls[k+1]? =some y->x<y):=ND bound ls none hm;have af:=Kb (q:=bound / n) nB;have HE:Hid (efO bound ls=gZ n++bytesOf (FU (Nat.log2 (bound / n)) ls)):=by show _=_;unfold efO;rw[Ae (fun e=>by rw[e]at hn;simp at hn;omega),hn];rfl
 obtain⟨j0,bU,bq,bt,bu⟩:=info_parts CW;obtain⟨W,hW⟩:=jc (Nat.log2 (bound / n));rw[<-hW]at DW HE af;obtain⟨P,hP⟩:=jc (2 ^ W);rw[<-hP]at DW af;have b7:1<=P:=by rw[hP];exact Nat.one_le_two_pow
 have ae:W<=14:=by refine Kv fun h=> ?_;have h2:2 ^ 15<=2 ^ W:=Cf nB nB;rw[<-hP]at h2;omega
 have ai:=hid hP;clear hn ha hm hW hP;go_enter func73,ntmps73;go_wp2_with fail;refine DM.out.mono ?_;rintro e w1 ⟨rfl,bh⟩;have aq:Hid (Below w w w1):=by obtain⟨q,rfl⟩:=bh;exact below_drewN (Ak _ _) q
 clear bh DM;go_wp2_with fail;refine(DN.out _).mono ?_;rintro e w2 ⟨v2,rfl,au,ba⟩;obtain⟨A2,c2,rfl⟩:=aZ au;have M:Hid (Below w w w2):=dZ ba aq.out;have ar:Hid (w2.ownsRow w 5 1 (.slice A2 (gZ n).length c2) (gZ n).length (bZ .u8 (gZ n))):=lZ au aq.out.size;clear au ba DN aq;go_wp2_with fail;refine(DW.out _).mono ?_;rintro e w3 ⟨rfl,rfl⟩;go_wp2_with fail;have ag:Below w3 w3 (w3.alloc (.cells #[()] 186)):=cZ (Ak _ _);have bd:Hid (RW (fun k=>k<w3.heap.size) (w3.alloc (.cells #[()] 186)) w3 w3 (Dj W (ls.take 0)) (.slice none 0 0)):=RW.start (w:=w3) (Blk.made _ _ _) (Am _) (fun k hk=>hk) ag.size;generalize w3.alloc (.cells #[()] 186)=w4 at *;have a3:Hid (Kept (fun k=>k<w3.heap.size) w3 w4):=Kept.of_below ag (fun k hk=>hk);clear ag;go_loopw [10] (fun iv wr=>∃ (k:Nat) (v':Value),k<=n/\iv= .int .i64 k/\Hid (RW (fun k=>k<w3.heap.size) wr w3 w3 (Dj W (ls.take k)) v')/\Hid (Kept (fun k=>k<w3.heap.size) w3 wr)) (fun iv _=>n-(intOf iv).toNat)
 case atStart=>exact⟨0,_,nB,rfl,bd.out,a3.out⟩
 case round=>
  obtain⟨k,v',hk,rfl,E,HK⟩:=hrel;clear bd a3;obtain⟨wi,rfl⟩:=jc wr;have ab:Row wi w A n 1 (kZ .i64 ls):=fun h=>by obtain⟨b,N,hA,L,hc⟩:=(HA.out.below M.out) h;exact⟨b,N,hA,L,fun i j hi hj=>(World.cell?_of_block (a:=⟨b,_,none⟩) (HK.out.block b (Fi L M.out.size))).trans (hc i j hi hj)⟩
  by_cases am:k<n
  ·have gk:=ja ((k:Int)<n);have az:=ja (k<n);have x0:(0:Int)<=(k:Int):=nB;have x1:(k:Int)<(n:Int):=nB;obtain⟨b,N,x,rfl,_,hx,ck⟩:=Dg ab HN.out am;have a5:=a4.out x (AY hx);have bj:¬(P:Int)=0:=nB;have bm:(Dj W (ls.take k)).length<=400000:=(by rw[Ht,Bc];have:min k ls.length<=20000:=nB;have h2:min k ls.length*W<=20000*14:=Hh this ae;omega);have G:Dj W (ls.take (k+1))=Dj W (ls.take k)++msb (x % P) W W:=(by rw[Ca,hx,ai.out];exact Y1 W _ x);have D0:=(IZ (fun k=>k<w3.heap.size) wi w3 w3 v' _ (x % P) W (by rw[<-ai.out];exact Nat.mod_lt _ nB) nB nB E.out);have um:IntKind.u64.wrap ((x:Int) % (P:Int))=(x:Int) % (P:Int):=(by have e1:=Int.emod_nonneg (x:Int) bj;have e2:=Int.emod_lt_of_pos (x:Int) (show(0:Int)<(P:Int) by omega);generalize (x:Int) % (P:Int)=r at *;rw[Bj];omega);have ex:((x % P:Nat):Int)=(x:Int) % (P:Int):=pR;rw[<-G,ex]at D0;have D:=hid D0;clear D0;clear G hx bm E a5 ex;go_wp2_with fail
   with_reducible refine D.out.mono ?_
   rintro e w6 ⟨rfl,v6,Z,Q⟩;have av:=hid Z;have ah:Hid (Kept (fun k=>k<w3.heap.size) w3 w6):=HK.out.trans Q;clear Z Q D HK;go_wp2_with fail;go_roundw
   case measure=>exact ld
   case rel=>go_light;exact⟨k+1,v6,nB,jk,av.out,ah.out⟩
  ·obtain rfl:k=n:=by omega
   have gk:=jb ((k:Int)<k);have az:=jb (k<k);have aa:ls.take k=ls:=Bp oz;rw[aa]at E;have ax:Hid (RW (fun k=>k<w3.heap.size) wi w3 w3 (Dj W ls++Dz 0 ((ls.take 0).map (·/ P))) v'):=(by show RW _ _ _ _ _ _;rw[List.take_zero,Gm,Dz,Cx];exact E.out);have bO:Hid ((Dj W ls).length<=300000):=(by show _<=_;rw[Ht,HN.out];have h2:k*W<=20000*14:=Hh nB ae;omega);have al:Hid ((Dj W ls++Dz 0 ((ls.take 0).map (·/ P))).length<=300000):=(by show _<=_;rw[List.take_zero,Gm,Dz,Cx];exact bO.out);have bk:Hid (0=((ls.take 0).map (·/ P)).getLast?.getD 0):=rfl;have J:Hid (Dj W ls++Dz 0 ((ls.take k).map (·/ P))=FU W ls):=(by show _=_;rw[aa,ai.out];rfl);have bf:=hid HK.out;clear E HK aa ab;obtain⟨BT,ac⟩:∃BT:Nat->List Bool,BT=fun j=>Dj W ls++Dz 0 ((ls.take j).map (·/ P)):=⟨_,rfl⟩;have bC:=hid ac;rw[show Dj W ls++Dz 0 ((ls.take 0).map (·/ P))=BT 0 by rw[ac]]at ax al;rw[show Dj W ls++Dz 0 ((ls.take k).map (·/ P))=BT k by rw[ac]]at J;clear ac;go_wp2_with fail;go_loopw [11,12] (fun uv iv wr=>∃ (j u:Nat) (v':Value),j<=k/\u<=20000/\iv= .int .i64 j/\uv= .int .i64 u/\Hid (u=((ls.take j).map (·/ P)).getLast?.getD 0)/\Hid (RW (fun k=>k<w3.heap.size) wr w3 w3 (BT j) v')/\Hid ((BT j).length<=300000+j+u)/\Hid (Kept (fun k=>k<w3.heap.size) w3 wr)) (fun _ iv _=>k-(intOf iv).toNat)
   case atStart=>exact⟨0,0,_,nB,nB,rfl,rfl,bk.out,ax.out,al.out,bf.out⟩
   case round=>
    obtain⟨j,u,v2,hj,hu,rfl,rfl,HU,E,U,HK⟩:=hrel;clear ax al bf bk;obtain⟨wj,rfl⟩:=jc wr;by_cases am:j<k
    ·have ab:Row wj w A k 1 (kZ .i64 ls):=fun h=>by obtain⟨b,N,hA,L,hc⟩:=(HA.out.below M.out) h;exact⟨b,N,hA,L,fun i j hi hj=>(World.cell?_of_block (a:=⟨b,_,none⟩) (HK.out.block b (Fi L M.out.size))).trans (hc i j hi hj)⟩
     have gk:=ja ((j:Int)<k);have az:=ja (j<k);have x0:(0:Int)<=(j:Int):=nB;have x1:(j:Int)<(k:Int):=nB;obtain⟨b,N,x,rfl,L,hx,ck⟩:=Dg ab HN.out am;have a5:=a4.out x (AY hx);have bj:¬(P:Int)=0:=nB;have bg:=Yh P hx bS.out;rw[<-HU.out]at bg;have aj:=ZB P hx;have G:=Zm P hx;rw[<-HU.out]at G;obtain⟨q,hq⟩:=jc (x / P);rw[<-hq]at bg aj G;have b6:q<=x:=(by rw[hq];exact ID _ _);have ud:(x:Int) / (P:Int)=(q:Int):=(by rw[hq];simp);have b5:IntKind.i64.wrap (Int.tdiv (x:Int) (P:Int))=(q:Int):=(by rw[Int.tdiv_eq_ediv_of_nonneg nB,ud,Az _ nB]);obtain⟨d,hd⟩:=jc (q-u);rw[<-hd]at G;have us:IntKind.i64.wrap ((q:Int)-(u:Int))=(d:Int):=nX;have bm:(BT j).length<=350000:=(by have:=U.out;omega);have b9:d<=20000:=nB;have Y:BT (j+1)=BT j++unary d:=(by rw[bC.out];show _++_=_++_++_;rw[G,AK]);have be:Hid ((BT (j+1)).length<=300000+(j+1)+q):=(by show _<=_;rw[Y,Aj,Kn];have:=U.out;omega);have D0:=lL (fun k=>k<w3.heap.size) wj w3 w3 v2 _ d nB nB E.out;rw[<-Y]at D0;have D:=hid D0;have bn:Hid (q=((ls.take (j+1)).map (·/ P)).getLast?.getD 0):=aj.symm;have CK:Hid (∀w6,Kept (fun k=>k<w3.heap.size) wj w6->w6.cell? ⟨b,N+j,none⟩=some (.int .i64 (x:Nat))):=fun w6 h=>(World.cell?_of_block (a:=⟨b,_,none⟩) (h.block b (Fi L M.out.size))).trans ck;clear D0 G Y aj hx hq hd E U HU ab;go_wp2_with fail;refine D.out.mono ?_;rintro e w6 ⟨rfl,v6,Z,Q⟩;have av:=hid Z;have ah:Hid (Kept (fun k=>k<w3.heap.size) w3 w6):=HK.out.trans Q;have b3:=CK.out w6 Q;clear Z Q D HK CK ck;go_wp2_with fail;go_roundw
     case measure=>exact ld
     case rel=>go_light;exact⟨j+1,q,v6,nB,nB,jk,jk,bn.out,av.out,be.out,ah.out⟩
    ·obtain rfl:j=k:=by omega
     have gk:=jb ((j:Int)<j);have az:=jb (j<j);obtain⟨A3,c3,rfl⟩:=aZ E.out.own;obtain⟨bl,bb⟩:=E.out.rowOf;have ay:=E.out.blk.iy 0;have D:=hid (rbytes_any wj w3 A3 _ c3 (BT j) bl (by have:=U.out;omega) ay E.out.blk.lt bb);rw[J.out]at D;have a1:Hid ((bytesOf (FU W ls)).length<=1000000):=(by show _<=_;rw[<-J.out,bytesOf_length];have:=U.out;omega);clear bl bb ay E HU U;obtain⟨BO,bi⟩:=jc (bytesOf (FU W ls));rw[<-bi]at D HE a1;obtain⟨bo,aw⟩:=jc BO.length;rw[<-aw]at D a1;have bp:=hid aw;clear aw bi;go_wp2_with fail;refine D.out.mono ?_;rintro e w8 ⟨v8,rfl,ak,a0⟩;obtain⟨A8,c8,rfl⟩:=aZ ak;have bM:Hid (Src w8 A8 bo c8 1 (bZ .u8 BO)):=Ck ak;have bW:bo<=1000000:=a1.out;have bc:Hid (Below w w w8):=dZ (zZ a0 HK.out.size (HK.out.below (fun k h=>h))) M.out;have a6:Hid (w8.ownsRow w 5 1 (.slice A2 (gZ j).length c2) (gZ j).length (bZ .u8 (gZ j))):=eZ ar.out (fun y hy=>((HK.out.below (fun k h=>h)).trans (a0.mono HK.out.size)).block y (Ai ar.out y hy).2);have a9:=bc.out.size;clear ak a0 HK D ar M;go_wp2_with(at_builtin;refine fZ rfl (.tmp 78) (.tmp 79) 28 rfl w 5 j0 _ 1 1 underlying28 bU bq bt bu rfl ji _ _ _ nC a6.out _ _ _ _ nC bM.out (qZ _ _) qn nB a9 ?_;intro v9 w9 an bF bX);have bG:Hid (Below w w w9):=bc.out.grown bF a9 (fun y hy=>(Ai a6.out y hy).1);go_ret2;refine⟨v9,by first|rfl|simp,?_,bG.out⟩;rw[HE.out];have e2:bZ .u8 (gZ j++BO)=bZ .u8 (gZ j)++bZ .u8 BO:=p7;rw[Aj,<-bp.out,e2];exact an
end Ef
namespace Idx
open Go.RowKit Mem Own Canon Sift
open NumPut Recs Crc Block
theorem gA(w:World)(size:Nat)(A:Option Addr)(n c:Nat)(ls:List Str)(hn:ls.length=n)(h1:1<=size)(h2:size<=64)(hN:n<=20000)(hm:EC ls=true)(ha:Row w w A n 1 (Ei ls)):
 Calls prog 72 #[.int .i64 (size:Nat), .slice A n c] w fun e w'=>∃v,e= .returned (.tuple #[v,jd])/\w'.ownsRow w 5 1 v (CO size ls).length (bZ .u8 (CO size ls))/\Below w w w':=by
 obtain⟨j0,bb,az,a9,ba⟩:=info_parts CW;have HN:=hid hn;have HA:=hid ha;have DM:=hid (U6 w A n c ls hn nB ha);rw[hm]at DM;have DN:=hid (fun wx=>Fx wx n nB);have bl:∀s∈ls,s.length<=25:=fun s hs=>(IN hm s hs).2;have b8:Hid (∀ (k:Nat) (x:Str),ls[k]? =some x->x.length<=25):=fun k x h=>bl x (AY h);have y1:=jb ((size:Int)<1)
 have ep:=jb (size<1)
 have y2:=jb ((64:Int)<size)
 have ew:=jb (64<size)
 have u1:IntKind.u64.wrap (n:Int)=(n:Int):=n4
 have b3:Hid (CO size ls=hdB size ls (nCh size n)++bdB size ls (nCh size n)):=by show _=_;rw[Mq h1,hn];unfold hdB bdB;rw[hn]
 have cu:Hid (gZ n=hdB size ls 0):=by show _=_;unfold hdB;rw[hn];simp
 have cc:Hid ([]=bdB size ls 0):=by show _=_;simp[bdB]
 have cq:Hid (∀q,hdB size ls (q+1)=hdB size ls q++gZ (vZ (Db size ls q)).length):=VE size ls;have cp:Hid (∀q,bdB size ls (q+1)=bdB size ls q++vZ (Db size ls q)):=PM size ls;have bU:Hid (∀q,(hdB size ls q).length<=10+10*q):=Lp bl h2 nB;have b0:Hid (∀q,(bdB size ls q).length<=1984*q):=Tl bl h2;have ci:Hid (∀q,(vZ (Db size ls q)).length<=1984):=Oq bl h2;have cv:Hid (∀q,q<nCh size n↔q*size<n):=fun q=>Lr h1;have dy:nCh size n<=n:=Nm h1;have dj:Hid (∀q r i,i=q*size->r+1=min size (n-i)->vZ ((ls.drop i).take (r+1))=vZ (Db size ls q)):=fun q r i hi hr=>by unfold Db;rw[<-hi,hr];congr 1;rw[List.take_eq_take_iff,AZ,hn];omega
 obtain⟨HD,dd⟩:=jc (hdB size ls);obtain⟨BD,dl⟩:=jc (bdB size ls);obtain⟨C,hC⟩:∃C:Nat->List Nat,C=fun q=>vZ (Db size ls q):=⟨_,rfl⟩;have eC:∀q,vZ (Db size ls q)=C q:=fun q=>by rw[hC]
 obtain⟨m,cG⟩:=jc (nCh size n);simp only[<-dd,<-dl,<-cG,eC]at b3 cu cc cq cp bU b0 ci cv dy dj;clear hn ha hm bl dd dl hC eC cG;go_enter func72,ntmps72;go_wp2_with fail;refine DM.out.mono ?_;rintro e w1 ⟨rfl,dh⟩;have ce:Hid (Below w w w1):=by obtain⟨q,rfl⟩:=dh;exact below_drewN (Ak _ _) q
 clear dh DM;go_wp2_with fail;refine(DN.out _).mono ?_;rintro e w2 ⟨v2,rfl,df,cT⟩;have cS:Hid (Below w w w2):=dZ cT ce.out;have cX:Hid (w2.ownsRow w 5 1 v2 (HD 0).length (bZ .u8 (HD 0))):=by rw[<-cu.out];exact lZ df ce.out.size
 have dm:Hid (w2.ownsRow w 5 1 (.slice none 0 0) (BD 0).length (bZ .u8 (BD 0))):=by rw[<-cc.out];exact AE _ _ _ _
 have c1:Hid (Apt v2 (.slice none 0 0)):=fun x _ h=>jh
 clear df cT DN ce cu cc;go_wp2_with fail;go_loopw [6,7,8] (fun hv bv iv wr=>∃ (q i:Nat),q<=m/\i<=20064/\iv= .int .i64 i/\Hid (i=q*size)/\Hid (wr.ownsRow w 5 1 hv (HD q).length (bZ .u8 (HD q)))/\Hid (wr.ownsRow w 5 1 bv (BD q).length (bZ .u8 (BD q)))/\Hid (Apt hv bv)/\Hid (Below w w wr)) (fun _ _ iv _=>n+size-(intOf iv).toNat)
 case atStart=>exact⟨0,0,nB,nB,rfl,by show 0=_;omega,cX.out,dm.out,c1.out,cS.out⟩
 case round=>
  obtain⟨q,i,hq,hi,rfl,HI,aj,ah,bc,HB⟩:=hrel;clear cX dm c1 cS;obtain⟨wi,rfl⟩:=jc wr;obtain⟨AH,cH,rfl⟩:=aZ aj.out;obtain⟨AB,cB,rfl⟩:=aZ ah.out;by_cases dg:i<n
  ·have dk:q<m:=(cv.out q).2 (by rw[<-HI.out];exact dg);have gk:=ja ((i:Int)<n);have ec:=ja (i<n);have x0:(0:Int)<=(i:Int):=nB;have x1:(i:Int)<(n:Int):=nB;have cJ:Row wi w A n 1 (Ei ls):=HA.out.below HB.out;obtain⟨b,bf,x,rfl,_,hx,ck⟩:=Row.str cJ HN.out dg;have bW:=b8.out i x hx;have ds:=Dr x;have DT:=hid (Mb wi (bs x) nB);rw[PT,<-Ui hx]at DT;obtain⟨PB,bm⟩:∃PB:Nat->List Nat,PB=fun r=>vZ ((ls.drop i).take (r+1)):=⟨_,rfl⟩;have eg:Hid (∀ (r:Nat) (x y:Str),ls[i+r]? =some x->ls[i+r+1]? =some y->PB (r+1)=PB r++(gZ (Bl x y)++Dt (y.drop (Bl x y)))):=fun r x y hx hy=>by rw[bm];exact XH hx hy
   have cA:Hid (∀r,r+1=min size (n-i)->PB r=C q):=fun r hr=>by rw[bm];exact dj.out q r i HI.out hr
   rw[show vZ ((ls.drop i).take (0+1))=PB 0 by rw[bm]]at DT;have ex:(PB 0).length<=31:=(by rw[bm];show(vZ ((ls.drop i).take (0+1))).length<=31;rw[Ui hx];have:=Nw bW;omega);have s1:IntKind.i64.wrap ((i:Int)+1)=((i+1:Nat):Int):=nX;have s2:IntKind.i64.wrap ((i:Int)+(size:Int))=((i+size:Nat):Int):=nX;clear hx bW ds bm cJ;go_wp2_with fail;refine DT.out.mono ?_;rintro e w3 ⟨v3,rfl,c3,di⟩;have cE:=hid c3;have c8:=hid di;clear c3 di DT ck;go_wp2_with fail;have ej:=Dr x;go_loopw [9,10] (fun pv kv wx=>∃k:Nat,i+1<=k/\k<=i+size/\k<=n/\kv= .int .i64 k/\Hid (wx.ownsRow wi 5 1 pv (PB (k-i-1)).length (bZ .u8 (PB (k-i-1))))/\Hid ((PB (k-i-1)).length<=31*(k-i))/\Hid (Below wi wi wx)) (fun _ kv _=>n-(intOf kv).toNat)
   case atStart=>exact⟨i+1,nB,nB,nB,jk,by rw[show i+1-i-1=0 by omega];exact cE.out,by rw[show i+1-i-1=0 by omega];show _<=_;omega,c8.out⟩
   case round=>
    obtain⟨k,es,eo,ev,rfl,j,bX,J⟩:=hrel;clear cE c8 ej;obtain⟨wl,rfl⟩:=jc wr;by_cases et:k<i+size
    ·have g1:=ja ((k:Int)<((i+size:Nat):Int));have dt:=ja ((k:Int)<(i:Int)+(size:Int));have dn:=ja (k<i+size);by_cases d3:k<n
     ·obtain⟨k0,rfl⟩:∃k0,k=k0+1:=⟨k-1,nB⟩;have em:=ja ((k0:Int)+1<(i:Int)+(size:Int));have g2:=ja ((k0:Int)+1<(n:Int));have d0:=ja (k0+1<n);have bn:Row wl w (some ⟨b,bf,none⟩) n 1 (Ei ls):=HA.out.below (zZ J.out HB.out.size HB.out);obtain⟨b',dc,y,a1,eu,hy,cy⟩:=Row.str bn HN.out d3;injection a1 with a1;injection a1 with e1 e2;subst e1 e2;obtain⟨b',dc,x,a1,_,hx,cx⟩:=Row.str bn HN.out (k:=k0) nB;injection a1 with a1;injection a1 with e1 e2;subst e1 e2;have eb:Hid (∀wx,Below wl wl wx->wx.cell? ⟨b,bf+(k0+1),none⟩=some (.string (bs y))):=fun wx h=>(h.cell (p:=⟨b,bf+(k0+1),none⟩) (by show b<_;have:=HB.out.size;have:=J.out.size;omega)).trans cy;have bW:=b8.out k0 x hx;have dC:=b8.out (k0+1) y hy;have dr:=Lx x y;have bO:=eg.out (k0-i) x y (by rw[show i+(k0-i)=k0 by omega];exact hx) (by rw[show i+(k0-i)+1=k0+1 by omega];exact hy);rw[show k0-i+1=k0+1-i by omega]at bO;have DS:=hid (fun wx=>XL wx x y nB nB);obtain⟨a,dp⟩:=jc (Bl x y);rw[<-dp]at dr bO DS;have dw:=Dr y;have ei:(y.drop a).length<=25:=nM;have c0:=Dr (y.drop a);have kl:=fun wx=>Xl y a dr.2 wx;have co:=hid (fun wx=>Fx wx a nB);have DX:=hid (fun wx=>Mb wx (bs (y.drop a)) (by rw[c0];omega));rw[PT]at DX;have u2:IntKind.u64.wrap (a:Int)=(a:Int):=n4;have z0:(0:Int)<=(k0:Int):=nB;have z1:(k0:Int)<(n:Int):=nB;have z2:(0:Int)<=(k0:Int)+1:=nB;have z3:(k0:Int)+1<(n:Int):=nB;have z4:((k0:Int)+1).toNat=k0+1:=nB;have dx:(gZ a).length<=1:=(by rw[Kq nB];omega);have eh:=Nw ei;generalize bs (y.drop a)=Y2 at *;generalize Dt (y.drop a)=X2 at *;generalize gZ a=X1 at *;obtain⟨bg,b5⟩:=jc X1.length;obtain⟨b1,b6⟩:=jc X2.length;rw[show k0+1-i-1=k0-i by omega]at j bX;obtain⟨p,hp⟩:=jc ((PB (k0-i)).length);rw[<-hp]at j bX;rw[<-b5]at co dx;rw[<-b6]at DX eh;have en:p<=2000:=(by have:=bX.out;omega);have de:Hid (bZ .u8 (PB (k0+1-i))=bZ .u8 (PB (k0-i))++bZ .u8 X1++bZ .u8 X2):=(by show _=_;rw[bO];simp[bZ]);have cw:Hid ((PB (k0+1-i)).length=p+bg+b1):=(by show _=_;rw[bO,Aj,Aj];omega);obtain⟨Y9,ca⟩:=jc (PB (k0+1-i));rw[<-ca]at de cw;have dq:Hid (PB (k0+1-i)=Y9):=ca.symm;clear ca;generalize PB (k0-i)=Y8 at *;obtain⟨A4,c4,rfl⟩:=aZ j.out;clear bO hx hy dp bW dC dw c0 b5 b6 hp bn;go_wp2_with fail;go_quiet ((go_at_call 132;exact Calls.quiet_of (DS.out _)));go_wp2_with fail;refine(co.out _).mono ?_;rintro e w5 ⟨v5,rfl,b9,cF⟩;obtain⟨A5,c5,rfl⟩:=aZ b9;have da:Hid (Src w5 A5 bg c5 1 (bZ .u8 X1)):=Ck b9;have bS:Hid (Below wl wl w5):=zZ cF (Am _) (below_drewN (Ak _ _) nq);have cf:Hid (w5.ownsRow wi 5 1 (.slice A4 p c4) p (bZ .u8 Y8)):=eZ j.out (fun y hy=>bS.out.block y (Ai j.out y hy).2);have cg:wi.heap.size<=w5.heap.size:=Bm J.out.size bS.out.size;have b4:Hid (∀wx,Below wi wi wx->wx.cell? ⟨b,bf+(k0+1),none⟩=some (.string (bs y))):=fun wx h=>(h.cell (p:=⟨b,bf+(k0+1),none⟩) (by show b<_;have:=HB.out.size;omega)).trans ((J.out.cell (p:=⟨b,bf+(k0+1),none⟩) (by show b<_;have:=HB.out.size;omega)).symm.trans cy);have b7:Hid (Below wi wi w5):=zZ bS.out J.out.size J.out;clear b9 cF co DS cx cy eb j bS;go_wp2_with(at_builtin;refine fZ rfl (.tmp 64) (.tmp 67) 28 rfl wi 5 j0 _ 1 1 underlying28 bb az a9 ba rfl ji _ _ _ nC cf.out _ _ _ _ nC da.out (qZ _ _) qn nB cg ?_;intro v6 w6 ax cC cz;obtain⟨A6,c6,rfl⟩:=aZ ax;have bd:Hid (Below wi wi w6):=b7.out.grown cC cg (fun y hy=>(Ai cf.out y hy).1);have cj:=hid ax;have ee:=b4.out w6 bd.out;clear ax cC cz cf da b7 cg);refine(DX.out _).mono ?_;rintro e w7 ⟨v7,rfl,cl,ct⟩;obtain⟨A7,c7,rfl⟩:=aZ cl;have be:Hid (Src w7 A7 b1 c7 1 (bZ .u8 X2)):=Ck cl;have ch:Hid (w7.ownsRow wi 5 1 (.slice A6 (p+bg) c6) (p+bg) (bZ .u8 Y8++bZ .u8 X1)):=eZ cj.out (fun y hy=>ct.block y (Ai cj.out y hy).2);have bF:Hid (Below wi wi w7):=zZ ct bd.out.size bd.out;have ak:=bF.out.size;clear cl ct DX ee b4 cj bd;go_wp2_with(at_builtin;refine fZ rfl (.tmp 69) (.tmp 76) 28 rfl wi 5 j0 _ 1 1 underlying28 bb az a9 ba rfl ji _ _ _ nC ch.out _ _ _ _ nC be.out (qZ _ _) qn nB ak ?_;intro v8 w8 E ag Y);have cP:Hid (Below wi wi w8):=bF.out.grown ag ak (fun y hy=>(Ai ch.out y hy).1);have dz:Hid (w8.ownsRow wi 5 1 v8 Y9.length (bZ .u8 Y9)):=(by rw[de.out,cw.out];exact E);have d4:Hid (Y9.length<=31*(k0+1+1-i)):=(by show _<=_;have:=cw.out;have:=bX.out;omega);clear E ag Y ch be bF ak;go_roundw
      case measure=>exact ld
      case rel=>go_light;exact⟨k0+1+1,nB,nB,nB,jk,by rw[show k0+1+1-i-1=k0+1-i by omega,dq.out];exact dz.out,by rw[show k0+1+1-i-1=k0+1-i by omega,dq.out];exact d4.out,cP.out⟩
     ·have g2:=jb ((k:Int)<n);have d0:=jb (k<n);have bp:=cA.out (k-i-1) nB;rw[bp]at j;obtain⟨A9,c9,rfl⟩:=aZ j.out;have ek:=ci.out q;have cL:=bU.out q;have c2:=b0.out q;have al:=cq.out q;have ai:=cp.out q;have cm:Hid (i+size=(q+1)*size):=pL;have bC:Hid (bZ .u8 (HD (q+1))=bZ .u8 (HD q)++bZ .u8 (gZ (C q).length)):=(by show _=_;rw[al];simp[bZ]);have bq:Hid (bZ .u8 (BD (q+1))=bZ .u8 (BD q)++bZ .u8 (C q)):=(by show _=_;rw[ai];simp[bZ]);have bt:Hid ((HD (q+1)).length=(HD q).length+(gZ (C q).length).length):=(by show _=_;rw[al,Aj]);have bu:Hid ((BD (q+1)).length=(BD q).length+(C q).length):=(by show _=_;rw[ai,Aj]);have bG:=hid (fun wx=>Fx wx (C q).length nB);have ed:=sZ (x:=(C q).length) nB;have ar:Hid (Apt (.slice AH (HD q).length cH) (.slice A9 (C q).length c9)):=(L4 j.out (Am _) (fun x hx=>(Ai aj.out x hx).2)).symm;have Z:Hid (wl.ownsRow w 5 1 (.slice AH (HD q).length cH) (HD q).length (bZ .u8 (HD q))):=eZ aj.out (fun y hy=>J.out.block y (Ai aj.out y hy).2);have M:Hid (wl.ownsRow w 5 1 (.slice AB (BD q).length cB) (BD q).length (bZ .u8 (BD q))):=eZ ah.out (fun y hy=>J.out.block y (Ai ah.out y hy).2);have L:Hid (Below w w wl):=zZ J.out HB.out.size HB.out;obtain⟨U,ab⟩:=jc (HD (q+1));obtain⟨ae,aa⟩:=jc (BD (q+1));rw[<-ab]at al bC bt;rw[<-aa]at ai bq bu;have bh:Hid (HD (q+1)=U):=ab.symm;have bi:Hid (BD (q+1)=ae):=aa.symm;clear ab aa;generalize HD q=aq at *;generalize BD q=an at *;generalize C q=CQ at *;generalize gZ CQ.length=NC at *;have u3:IntKind.u64.wrap (CQ.length:Int)=(CQ.length:Int):=n4;clear al ai bp;go_wp2_with fail;refine(bG.out _).mono ?_;rintro e w6 ⟨v6,rfl,a6,ac⟩;obtain⟨A6,c6,rfl⟩:=aZ a6;have bM:Hid (Src w6 A6 NC.length c6 1 (bZ .u8 NC)):=Ck a6;have Q:Hid (w6.ownsRow w 5 1 (.slice AH aq.length cH) aq.length (bZ .u8 aq)):=eZ Z.out (fun y hy=>ac.block y (Ai Z.out y hy).2);have au:Hid (w6.ownsRow w 5 1 (.slice AB an.length cB) an.length (bZ .u8 an)):=eZ M.out (fun y hy=>ac.block y (Ai M.out y hy).2);have bj:Hid (w6.ownsRow wi 5 1 (.slice A9 CQ.length c9) CQ.length (bZ .u8 CQ)):=eZ j.out (fun y hy=>ac.block y (Ai j.out y hy).2);have ay:Hid (Below w w w6):=zZ ac L.out.size L.out;have a4:=ay.out.size;clear a6 ac Z M j L bG J;go_wp2_with(first|(at_builtin;refine fZ rfl (.tmp 78) (.tmp 82) 28 rfl w 5 j0 _ 1 1 underlying28 bb az a9 ba rfl ji _ _ _ nC Q.out _ _ _ _ nC bM.out (qZ _ _) qn nB a4 ?_;intro v7 w7 N am af;have a0:Hid (Below w w w7):=ay.out.grown am a4 (fun y hy=>(Ai Q.out y hy).1);have av:=hid N;have G:=hid (Hs au.out bc.out am af);have aw:=hid (Hs bj.out ar.out am af);have be:Hid (Src w7 A9 CQ.length c9 1 (bZ .u8 CQ)):=Ck aw.out.1;have ak:=a0.out.size;clear N am af Q au bj ay a4 bM bc ar)|(at_builtin;refine fZ rfl (.tmp 84) (.tmp 85) 28 rfl w 5 j0 _ 1 1 underlying28 bb az a9 ba rfl ji _ _ _ nC G.out.1 _ _ _ _ nC be.out (qZ _ _) qn nB ak ?_;intro v8 w8 E ag Y));have cr:Hid (Below w w w8):=a0.out.grown ag ak (fun y hy=>(Ai G.out.1 y hy).1);have a3:=hid (Hs av.out G.out.2.symm ag Y);have bk:Hid (w8.ownsRow w 5 1 v7 U.length (bZ .u8 U)):=(by rw[bC.out,bt.out];exact a3.out.1);have bN:Hid (w8.ownsRow w 5 1 v8 ae.length (bZ .u8 ae)):=(by rw[bq.out,bu.out];exact E);have a5:Hid (Apt v7 v8):=a3.out.2.symm;clear E ag Y av G aw a0 a3;go_roundw
      case measure=>exact ld
      case rel=>exact ku
    ·have g1:=jb ((k:Int)<((i+size:Nat):Int));have dt:=jb ((k:Int)<(i:Int)+(size:Int));have dn:=jb (k<i+size);have bp:=cA.out (k-i-1) nB;rw[bp]at j;obtain⟨A9,c9,rfl⟩:=aZ j.out;have ek:=ci.out q;have cL:=bU.out q;have c2:=b0.out q;have al:=cq.out q;have ai:=cp.out q;have cm:Hid (i+size=(q+1)*size):=pL;have bC:Hid (bZ .u8 (HD (q+1))=bZ .u8 (HD q)++bZ .u8 (gZ (C q).length)):=(by show _=_;rw[al];simp[bZ]);have bq:Hid (bZ .u8 (BD (q+1))=bZ .u8 (BD q)++bZ .u8 (C q)):=(by show _=_;rw[ai];simp[bZ]);have bt:Hid ((HD (q+1)).length=(HD q).length+(gZ (C q).length).length):=(by show _=_;rw[al,Aj]);have bu:Hid ((BD (q+1)).length=(BD q).length+(C q).length):=(by show _=_;rw[ai,Aj]);have bG:=hid (fun wx=>Fx wx (C q).length nB);have ed:=sZ (x:=(C q).length) nB;have ar:Hid (Apt (.slice AH (HD q).length cH) (.slice A9 (C q).length c9)):=(L4 j.out (Am _) (fun x hx=>(Ai aj.out x hx).2)).symm;have Z:Hid (wl.ownsRow w 5 1 (.slice AH (HD q).length cH) (HD q).length (bZ .u8 (HD q))):=eZ aj.out (fun y hy=>J.out.block y (Ai aj.out y hy).2);have M:Hid (wl.ownsRow w 5 1 (.slice AB (BD q).length cB) (BD q).length (bZ .u8 (BD q))):=eZ ah.out (fun y hy=>J.out.block y (Ai ah.out y hy).2);have L:Hid (Below w w wl):=zZ J.out HB.out.size HB.out;obtain⟨U,ab⟩:=jc (HD (q+1));obtain⟨ae,aa⟩:=jc (BD (q+1));rw[<-ab]at al bC bt;rw[<-aa]at ai bq bu;have bh:Hid (HD (q+1)=U):=ab.symm;have bi:Hid (BD (q+1)=ae):=aa.symm;clear ab aa;generalize HD q=aq at *;generalize BD q=an at *;generalize C q=CQ at *;generalize gZ CQ.length=NC at *;have u3:IntKind.u64.wrap (CQ.length:Int)=(CQ.length:Int):=n4;clear al ai bp;go_wp2_with fail;refine(bG.out _).mono ?_;rintro e w6 ⟨v6,rfl,a6,ac⟩;obtain⟨A6,c6,rfl⟩:=aZ a6;have bM:Hid (Src w6 A6 NC.length c6 1 (bZ .u8 NC)):=Ck a6;have Q:Hid (w6.ownsRow w 5 1 (.slice AH aq.length cH) aq.length (bZ .u8 aq)):=eZ Z.out (fun y hy=>ac.block y (Ai Z.out y hy).2);have au:Hid (w6.ownsRow w 5 1 (.slice AB an.length cB) an.length (bZ .u8 an)):=eZ M.out (fun y hy=>ac.block y (Ai M.out y hy).2);have bj:Hid (w6.ownsRow wi 5 1 (.slice A9 CQ.length c9) CQ.length (bZ .u8 CQ)):=eZ j.out (fun y hy=>ac.block y (Ai j.out y hy).2);have ay:Hid (Below w w w6):=zZ ac L.out.size L.out;have a4:=ay.out.size;clear a6 ac Z M j L bG J;go_wp2_with(first|(at_builtin;refine fZ rfl (.tmp 78) (.tmp 82) 28 rfl w 5 j0 _ 1 1 underlying28 bb az a9 ba rfl ji _ _ _ nC Q.out _ _ _ _ nC bM.out (qZ _ _) qn nB a4 ?_;intro v7 w7 N am af;have a0:Hid (Below w w w7):=ay.out.grown am a4 (fun y hy=>(Ai Q.out y hy).1);have av:=hid N;have G:=hid (Hs au.out bc.out am af);have aw:=hid (Hs bj.out ar.out am af);have be:Hid (Src w7 A9 CQ.length c9 1 (bZ .u8 CQ)):=Ck aw.out.1;have ak:=a0.out.size;clear N am af Q au bj ay a4 bM bc ar)|(at_builtin;refine fZ rfl (.tmp 84) (.tmp 85) 28 rfl w 5 j0 _ 1 1 underlying28 bb az a9 ba rfl ji _ _ _ nC G.out.1 _ _ _ _ nC be.out (qZ _ _) qn nB ak ?_;intro v8 w8 E ag Y));have cr:Hid (Below w w w8):=a0.out.grown ag ak (fun y hy=>(Ai G.out.1 y hy).1);have a3:=hid (Hs av.out G.out.2.symm ag Y);have bk:Hid (w8.ownsRow w 5 1 v7 U.length (bZ .u8 U)):=(by rw[bC.out,bt.out];exact a3.out.1);have bN:Hid (w8.ownsRow w 5 1 v8 ae.length (bZ .u8 ae)):=(by rw[bq.out,bu.out];exact E);have a5:Hid (Apt v7 v8):=a3.out.2.symm;clear E ag Y av G aw a0 a3;go_roundw
     case measure=>exact ld
     case rel=>exact ku
  ·have dk:q=m:=by
    have:¬q<m:=fun h=>by have:=(cv.out q).1 h;have:=HI.out;omega
    omega
   subst dk;have gk:=jb ((i:Int)<n);have ec:=jb (i<n);have cL:=bU.out q;have c2:=b0.out q;have ea:Hid (Src wi AB (BD q).length cB 1 (bZ .u8 (BD q))):=Ck ah.out;have ef:Hid ((CO size ls).length=(HD q).length+(BD q).length):=(by show _=_;rw[b3.out,Aj]);have du:Hid (bZ .u8 (CO size ls)=bZ .u8 (HD q)++bZ .u8 (BD q)):=(by show _=_;rw[b3.out];simp[bZ]);have hz:=HB.out.size;generalize HD q=aq at *;generalize BD q=an at *;clear b3;go_wp2_with(at_builtin;refine fZ rfl (.tmp 87) (.tmp 88) 28 rfl w 5 j0 _ 1 1 underlying28 bb az a9 ba rfl ji _ _ _ nC aj.out _ _ _ _ nC ea.out (qZ _ _) qn nB hz ?_;intro v9 w9 cd dv el);have dF:Hid (Below w w w9):=HB.out.grown dv hz (fun y hy=>(Ai aj.out y hy).1);go_ret2;refine⟨v9,rfl,?_,dF.out⟩;rw[ef.out,du.out];exact cd
end Idx
end Go.Proofs.YtfgdoknipbpfhaaGreatDoor
