/- A number's high and  -/
import Derived.Test.YtfgdoknipbpfhaaGreatDoorZBodyBack27
import Derived.Test.YtfgdoknipbpfhaaGreatDoorZBodyBack22
namespace Go.Proofs.YtfgdoknipbpfhaaGreatDoor
open Go.Proofs.Tryz
open Go.Lib (hid)
set_option maxHeartbeats 4000000
set_option maxRecDepth 100000
variable{e t:TypeId}{w w' w1 w3:World}{W b2 base c g gd i k m n s x y:Nat}{hs j ls:List Nat}{u uH uT v' v3 vH vL x2:Value}{xs:List Value}{er:Int}{A:Option Addr}
namespace Ef
open Go.RowKit Mem Own Canon Huff NumPut
structure Prt (t:TypeId) (w:World) (base g W:Nat) (hs ls:List Nat) (vH vL:Value):Prop where
 blk:Blk w g t #[.int .i64 (W:Nat),vH,vL]
 oh:w.ownsRow base 3 1 vH hs.length (cZ .i64 hs)
 ol:w.ownsRow base 25 1 vL ls.length (cZ .u16 ls)
 gb:base<=g
theorem Zf:(prog.info? 25).map (fun i=>(i.zero,i.size,i.bytes))=some (some (.int .u16 0),1,2):=my
theorem Sw:(prog.info? 3).map (fun i=>(i.zero,i.size,i.bytes))=some (some (.int .i64 0),1,8):=my
theorem Prt.highs(j:3≠t)(G:25≠t)(h:Prt t w base g W hs ls vH vL)(hb:Below w w w1)(hg:w1.grownBy w3 vH.ownBlock)
 (i:w3.ownsRow base 3 1 v3 (hs.length+1) (cZ .i64 hs++ [.int .i64 (x:Nat)])):Prt t (w3.setCell ⟨g,1,none⟩ v3) base g W (hs++ [x]) ls v3 vL:=by
 have E:vH.ownBlock≠some g:=fZ h.oh h.blk j;have b1:=h.blk.step hb;have b3:Blk w3 g t #[.int .i64 (W:Nat),vH,vL]:=b1.grown hg (AZ E);have o1:w1.ownsRow base 25 1 vL ls.length (cZ .u16 ls):=eZ h.ol (fun y hy=>hb.block y (Aj h.ol y hy).2)
 have o3:w3.ownsRow base 25 1 vL ls.length (cZ .u16 ls):=eZ o1 (fun y hy=>hg.block y (Aj o1 y hy).2 (fun e=>by
  rcases EY h.oh h.ol ip with e2|e2
  ·rw[e2]at e;cases e
  ·exact e2 (by rw[<-e,hy])))
 have J:v3.ownBlock≠some g:=fZ i b3 j;have z:vL.ownBlock≠some g:=fZ o3 b3 G;refine⟨by simpa using b3.set 1 v3,?_,eZ o3 (fun y hy=>AY _ _ _ y (fun e=>z qs)),h.gb⟩;have e1:cZ .i64 (hs++ [x])=cZ .i64 hs++ [.int .i64 (x:Nat)]:=rk
 rw[Ag,e1];exact eZ i (fun y hy=>AY _ _ _ y (fun e=>J qs))
theorem Prt.lows(G:3≠t)(j:25≠t)(h:Prt t w base g W hs ls vH vL)(hb:Below w w w1)(hg:w1.grownBy w3 vL.ownBlock)
 (i:w3.ownsRow base 25 1 v3 (ls.length+1) (cZ .u16 ls++ [.int .u16 (x:Nat)])):Prt t (w3.setCell ⟨g,2,none⟩ v3) base g W hs (ls++ [x]) vH v3:=by
 have E:vL.ownBlock≠some g:=fZ h.ol h.blk j;have b1:=h.blk.step hb;have b3:Blk w3 g t #[.int .i64 (W:Nat),vH,vL]:=b1.grown hg (AZ E);have o1:w1.ownsRow base 3 1 vH hs.length (cZ .i64 hs):=eZ h.oh (fun y hy=>hb.block y (Aj h.oh y hy).2)
 have o3:w3.ownsRow base 3 1 vH hs.length (cZ .i64 hs):=eZ o1 (fun y hy=>hg.block y (Aj o1 y hy).2 (fun e=>by
  rcases EY h.ol h.oh ip with e2|e2
  ·rw[e2]at e;cases e
  ·exact e2 (by rw[<-e,hy])))
 have J:v3.ownBlock≠some g:=fZ i b3 j;have z:vH.ownBlock≠some g:=fZ o3 b3 G;refine⟨by simpa using b3.set 2 v3,eZ o3 (fun y hy=>AY _ _ _ y (fun e=>z qs)),?_,h.gb⟩;have e1:cZ .u16 (ls++ [x])=cZ .u16 ls++ [.int .u16 (x:Nat)]:=rk
 rw[Ag,e1];exact eZ i (fun y hy=>AY _ _ _ y (fun e=>J qs))
theorem YW:∀n:Int,0<=n->n<2 ^ 20->IntKind.i64.wrap n=n:=fun n h0 h1=>Ar _ nj
theorem W6(x W:Nat)(hx:x<=100000)(hW:W<=14):IntKind.u16.wrap (bits .and .i64 (x:Int) (IntKind.i64.wrap (IntKind.i64.wrap (2 ^ W)-1)))=((x % 2 ^ W:Nat):Int):=by
 have h1:2 ^ W<=2 ^ 14:=Cn nj hW;have h0:1<=2 ^ W:=Nat.one_le_two_pow;have e0:((2:Int) ^ W)=((2 ^ W:Nat):Int):=qT
 have h:x % 2 ^ W<2 ^ W:=Nat.mod_lt _ nj;rw[e0,Ar ((2 ^ W:Nat):Int) nj];have e1:(((2 ^ W:Nat):Int)-1)=((2 ^ W-1:Nat):Int):=nj
 rw[e1,Ar ((2 ^ W-1:Nat):Int) nj,(bits_nat .i64 20 ip YW x (2 ^ W-1) nj nj).1,NZ,IntKind.wrap_u16];omega
theorem Sh(t:TypeId)(Z:3≠t)(ab:25≠t)(w:World)(base g W:Nat)(hs ls:List Nat)(vH vL:Value)(x:Nat)(hx:x<=100000)(hW:W<=14)(hh:hs.length<=100000)(hl:ls.length<=100000)(hP:Prt t w base g W hs ls vH vL):
 Calls prog 174 #[.pointer (some ⟨g,0,none⟩), .int .i64 (x:Nat)] w fun e w'=>e= .returned (.tuple #[])/\∃vH' vL',Prt t w' base g W (hs++ [x / 2 ^ W]) (ls++ [x % 2 ^ W]) vH' vL'/\Below base w w'/\Kept (fun y=>y<w.heap.size/\y≠g/\vH.ownBlock≠some y/\vL.ownBlock≠some y) w w'/\(∀y,y<w.heap.size->vL'.ownBlock=some y->vL.ownBlock=some y):=by
 obtain⟨j0,a4,a3,aq,a5⟩:=info_parts Sw;obtain⟨k0,au,ar,an,aw⟩:=info_parts Zf;have c0:=hP.blk.ia 0;have c1:=hP.blk.ia 1;have c2:=hP.blk.ia 2;have f1:=hP.blk.frozen 1;have f2:=hP.blk.frozen 2;have ax:=hP.blk.lt;have ah:=hP.gb;have L:=hP.oh;have ac:some g≠vH.ownBlock:=AZ (fZ hP.oh hP.blk Z);obtain⟨p,hp⟩:=ii hs.length;obtain⟨q,hq⟩:=ii ls.length;rw[<-hp]at L hh;obtain⟨AH,cH,rfl⟩:=bZ L;have HP:=hid hP;have az:=hid hp;have Y:=hid hq;have av:=hid hl;obtain⟨hi,N⟩:=ii (x / 2 ^ W);obtain⟨lo,Q⟩:=ii (x % 2 ^ W);rw[<-N,<-Q];have eh:(x:Int) / 2 ^ W=(hi:Int):=by rw[N];simp
 have el:IntKind.u16.wrap (bits .and .i64 (x:Int) (IntKind.i64.wrap (IntKind.i64.wrap (2 ^ W)-1)))=(lo:Int):=by rw[Q];exact W6 x W hx hW
 have bb:=hid N;have bc:=hid Q;clear hP hp hq N Q hl;go_enter func174,ntmps174;go_upto_region 0 with fail;go_region_law((refine step_append_lies _ nm _ _ _ nm base 3 j0 _ 1 8 underlying37 a4 a3 aq a5 rfl nj (.slice AH p cH) p (cZ .i64 hs) nm ((L.alloc _).drew) ⟨w,0,none⟩ 1 1 [.int .i64 (hi:Nat)] nm nm (World.news_of_block (cs:=#[.int .i64 (hi:Nat)]) (t:=3) (fr:=(0,0)) (heap_alloc_new w _)) mv nj rE nj rg (w.heap.size+1) qT ?_;intro g3 z w3 M j ay af;have gb:w3.heap[g]? =w.heap[g]? :=(j.block g rg ac).trans (Ej w _ g ax);have p0:=(World.cell?_of_block (a:=⟨g,0,none⟩) gb).trans c0;have p1:=(World.cell?_of_block (a:=⟨g,1,none⟩) gb).trans c1;have p2:=(World.cell?_of_block (a:=⟨g,2,none⟩) gb).trans c2;have q1:=(World.frozen?_of_block (a:=⟨g,1,none⟩) gb).trans f1))
 all_goals
  have G:Prt t (w3.setCell ⟨g,1,none⟩ (.slice (some ⟨g3,0,none⟩) (p+1) z)) base g W (hs++ [hi]) ls (.slice (some ⟨g3,0,none⟩) (p+1) z) vL:=HP.out.highs Z ab (aZ (Ae _ w)).drew j (by rw[<-az.out];exact M);have ai:Below base w (w3.setCell ⟨g,1,none⟩ (.slice (some ⟨g3,0,none⟩) (p+1) z)):=(((Ae base w).alloc nj _).drew.grown j rg (fun y hy=>(Aj L y hy).1)).setCell (p:=⟨g,1,none⟩) ah _;have ag:Hid (Kept (fun y=>y<w.heap.size/\y≠g/\(Value.slice AH p cH).ownBlock≠some y/\vL.ownBlock≠some y) w (w3.setCell ⟨g,1,none⟩ (.slice (some ⟨g3,0,none⟩) (p+1) z))):=((((Kept.refl _ w).alloc (fun y hy=>hy.1) _).drew.grown j (fun y hy=>by have:=hy.1;simp;omega) (fun y hy hk=>hk.2.2.1 hy))).set (fun h=>h.2.1 rfl) _;generalize w3.setCell ⟨g,1,none⟩ (.slice (some ⟨g3,0,none⟩) (p+1) z)=wb at *;clear M j ay af gb p0 p1 p2 q1;have al:=hid ai;have d0:=G.blk.ia 0;have d2:=G.blk.ia 2;have e2:=G.blk.frozen 2;have aj:=G.blk.lt;have E:=G.ol;have ae:some g≠vL.ownBlock:=AZ (fZ G.ol G.blk ab);rw[<-Y.out]at E;obtain⟨AL,cL,rfl⟩:=bZ E;have a1:=hid G;have ba:q<=100000:=by rw[Y.out];exact av.out
  clear G ai c0 c1 c2 f1 f2 ac L;go_upto_region 1 with fail;go_region_law((refine step_append_lies _ nm _ _ _ nm base 25 k0 _ 1 2 underlying227 au ar an aw rfl nj (.slice AL q cL) q (cZ .u16 ls) nm ((E.alloc _).drew) ⟨wb,0,none⟩ 1 1 [.int .u16 (lo:Nat)] nm nm (World.news_of_block (cs:=#[.int .u16 (lo:Nat)]) (t:=25) (fr:=(0,0)) (heap_alloc_new wb _)) mv nj rE nj rg (wb.heap.size+1) qT ?_;intro g4 J w4 aa i U a9;have gb:w4.heap[g]? =wb.heap[g]? :=(i.block g rg ae).trans (Ej wb _ g aj);have p0:=(World.cell?_of_block (a:=⟨g,0,none⟩) gb).trans d0;have p2:=(World.cell?_of_block (a:=⟨g,2,none⟩) gb).trans d2;have q2:=(World.frozen?_of_block (a:=⟨g,2,none⟩) gb).trans e2))
  all_goals
   have am:Prt t (w4.setCell ⟨g,2,none⟩ (.slice (some ⟨g4,0,none⟩) (q+1) J)) base g W (hs++ [hi]) (ls++ [lo]) (.slice (some ⟨g3,0,none⟩) (p+1) z) (.slice (some ⟨g4,0,none⟩) (q+1) J):=a1.out.lows Z ab (aZ (Ae _ wb)).drew i (by rw[<-Y.out];exact aa);have a0:Below base w (w4.setCell ⟨g,2,none⟩ (.slice (some ⟨g4,0,none⟩) (q+1) J)):=((al.out.alloc nj _).drew.grown i rg (fun y hy=>(Aj E y hy).1)).setCell (p:=⟨g,2,none⟩) ah _;have zz:=ag.out.size;have a6:Hid (Kept (fun y=>y<w.heap.size/\y≠g/\(Value.slice AH p cH).ownBlock≠some y/\(Value.slice AL q cL).ownBlock≠some y) w (w4.setCell ⟨g,2,none⟩ (.slice (some ⟨g4,0,none⟩) (q+1) J))):=(((ag.out.alloc (fun y hy=>by have:=hy.1;omega) _).drew.grown i (fun y hy=>by have:=hy.1;simp;omega) (fun y hy hk=>hk.2.2.2 hy))).set (fun h=>h.2.1 rfl) _
   have ak:Hid (∀y,y<w.heap.size->(Value.slice (some ⟨g4,0,none⟩) (q+1) J).ownBlock=some y->(Value.slice AL q cL).ownBlock=some y):=fun y hy he=>by
    rcases U with h|h
    ·rw[h];exact he
    ·have e:g4=y:=(by injection he);omega
   clear U;go_wp2_with fail
   go_end0
   exact⟨rfl,_,_,am,a0,a6.out,ak.out⟩
theorem pR(t:TypeId)(i:3≠t)(h:25≠t)(w:World)(base g W:Nat)(hs ls:List Nat)(vH vL:Value)(x:Nat)(hx:x<=100000)(hW:W<=14)(hh:hs.length<=100000)(hl:ls.length<=100000)(hP:Prt t w base g W hs ls vH vL):
 Calls prog 174 #[.pointer (some ⟨g,0,none⟩), .int .i64 (x:Nat)] w fun e w'=>e= .returned (.tuple #[])/\∃vH' vL',Prt t w' base g W (hs++ [x / 2 ^ W]) (ls++ [x % 2 ^ W]) vH' vL'/\Below base w w':=
 (Sh t i h w base g W hs ls vH vL x hx hW hh hl hP).mono fun _ _ ⟨h1,vH',vL',h2,h3,_⟩=>⟨h1,vH',vL',h2,h3⟩
end Ef
namespace Body
open Go.RowKit Mem Own Canon Nums
theorem own_far{e':TypeId}{s' n':Nat}{v:Value}{z:List Value}(h:w.ownsRow base e s v n xs)(h2:w.ownsRow i e' s' v' n' z)(j:e'≠e)(hg:w.grownBy w' v'.ownBlock):w'.ownsRow base e s v n xs:=
 eZ h fun y hy=>hg.block y (Aj h y hy).2 fun e2=>by
  rcases EY h2 h j with e3|e3
  ·rw[e3]at e2;cases e2
  ·exact e3 (by rw[<-e2,hy])
theorem Qp{P:Program}{j:Array Oper}{o:Oper}{a:Act}{K:Act->World->Prop}{Q:Exit->Act->World->Prop}{E:Prop}(y:o.guard=none)(s x:Operand)(t:TypeId)
 (ho:o.op= .call {callee:= .builtin .append,args:=#[s,x],argTypes:=#[t,t] })
 (base:Nat)(e:TypeId)(i:TypeInfo)(z:Value)(size bytes:Nat)(ht:P.underlying t=some (.slice e))(hi:P.info? e=some i)(hz:i.zero=some z)
 (hsize:i.size=size)(hby:i.bytes=bytes)(hzs:z.cells.size=size)(hsz:0<size)
 (v:Value)(n:Nat)(xs:List Value)(hs:a.eval s=v)(hown:w.ownsRow base e size v n xs)
 (A:Option Addr)(m c:Nat)(news:List Value)(hx:a.eval x= .slice A m c)(hsrc:Src w A m c size news)(h1:∀u∈news,u.oneCell'=true)
 (h63:n+m<=maxLen)(hbytes:(n+m)*bytes<=140737488355328)(hbase:base<=w.heap.size)
 (h:∀A' c' w',w'.ownsRow base e size (.slice A' (n+m) c') (n+m) (xs++news)->w.grownBy w' v.ownBlock->((Value.slice A' (n+m) c').ownBlock=v.ownBlock∨(Value.slice A' (n+m) c').ownBlock=some w.heap.size)->K (a.put o.dst (.slice A' (n+m) c')) w'):
 if Region.wanted o (yielded j a.tmps)=true then Oper.wp P o a w K Q else E:=by
 have hw:Region.wanted o (yielded j a.tmps)=true:=by simp[Region.wanted,y]
 rw[Ab hw];obtain⟨v',w',hr,h2,h3,h4⟩:=LK (P:=P) w base t o.type e i z size bytes ht hi hz hsize hby hzs hsz v n xs hown A m c news hsrc h1 h63 hbytes hbase;obtain⟨A',c',rfl⟩:=bZ h2;unfold Oper.wp execOp;simp only[ho,resolve,invoke,builtin,Sem.run_bind,Sem.run_pure,Result.andThen_ok,List.map_toArray,List.map_cons,List.map_nil,hs,hx,hr];exact h A' c' w' h2 h3 h4
def EM(rec:Nat)(ls:List Nat):Nat->Nat->Int->List Nat->List Nat->List Nat×List Nat×Nat×Int
 |0,at_,er,cs,ss=>(cs,ss,at_,er)
 |k+1,at_,er,cs,ss=>if er≠0 then(cs,ss,at_,er)else EM rec ls k (AJ 8388608 ls (AJ rec ls at_ 0) (AM rec ls at_ 0)) (AM 8388608 ls (AJ rec ls at_ 0) (AM rec ls at_ 0)) (cs++ [Bd rec ls at_ 0]) (ss++ [Bd 8388608 ls (AJ rec ls at_ 0) (AM rec ls at_ 0)])
theorem oV{rec:Nat}{at_:Nat}{cs ss:List Nat}(h:er≠0):EM rec ls k at_ er cs ss=(cs,ss,at_,er):=by
 cases k with
 |zero=>rfl
 |succ k=>exact Ab h
def En(ls:List Nat):Nat:=Bd 20000 ls 0 0
def Hl(ls:List Nat):Nat:=Bd (En ls) ls (AJ 20000 ls 0 0) (AM 20000 ls 0 0)
def Gm(ls:List Nat):List Nat×List Nat×Nat×Int:=EM (En ls) ls (Hl ls) (AJ (En ls) ls (AJ 20000 ls 0 0) (AM 20000 ls 0 0)) (AM (En ls) ls (AJ 20000 ls 0 0) (AM 20000 ls 0 0)) [] []
def Do(ls:List Nat):List Nat:=(Gm ls).1
def Ed(ls:List Nat):List Nat:=(Gm ls).2.1
def dP(ls:List Nat):Nat:=Bd 8388608 ls (Gm ls).2.2.1 (Gm ls).2.2.2
def dPA(ls:List Nat):Nat:=AJ 8388608 ls (Gm ls).2.2.1 (Gm ls).2.2.2
def dPE(ls:List Nat):Int:=AM 8388608 ls (Gm ls).2.2.1 (Gm ls).2.2.2
def dQ(ls:List Nat):Nat:=Bd 8388608 ls (dPA ls) (dPE ls)
def dE(ls:List Nat):Int:=GL ls (AJ 8388608 ls (dPA ls) (dPE ls)) (AM 8388608 ls (dPA ls) (dPE ls))
def Gl(room:Nat)(ls:List Nat):Int:=if dE ls≠0 then dE ls else if 0∈Do ls∨(Do ls).sum≠En ls∨(Ed ls).sum+dP ls+dQ ls≠room then 2 else 0
theorem QL{rec:Nat}{ls:List Nat}:∀ (k at_:Nat) (er:Int) (cs ss:List Nat),cs.length=ss.length->(EM rec ls k at_ er cs ss).1.length=(EM rec ls k at_ er cs ss).2.1.length/\(EM rec ls k at_ er cs ss).1.length<=cs.length+k/\((EM rec ls k at_ er cs ss).2.2.2=0->(EM rec ls k at_ er cs ss).1.length=cs.length+k)
 |0,_,_,_,_,h=>⟨h,Ak _,fun _=>rfl⟩
 |k+1,at_,er,cs,ss,h=>by
  unfold EM;split
  ·rename_i he;exact⟨h,Nat.le_add_right _ _,fun h2=>absurd h2 he⟩
  ·obtain⟨h1,h2,h3⟩:=QL (rec:=rec) (ls:=ls) k (AJ 8388608 ls (AJ rec ls at_ 0) (AM rec ls at_ 0)) (AM 8388608 ls (AJ rec ls at_ 0) (AM rec ls at_ 0)) (cs++ [Bd rec ls at_ 0]) (ss++ [Bd 8388608 ls (AJ rec ls at_ 0) (AM rec ls at_ 0)]) (by rw[Ag,Ag,h];rfl);rw[Ag]at h2 h3;exact⟨h1,by simp at h2;omega,fun h4=>by have:=h3 h4;simp at this;omega⟩
theorem RP{rec:Nat}{ls:List Nat}(h8:∀x∈ls,x<=255):∀ (k at_:Nat) (er:Int) (cs ss:List Nat),(∀x∈cs,x<=rec)->(∀x∈ss,x<=8388608)->(∀x∈(EM rec ls k at_ er cs ss).1,x<=rec)/\(∀x∈(EM rec ls k at_ er cs ss).2.1,x<=8388608)
 |0,_,_,_,_,h,h2=>⟨h,h2⟩
 |k+1,at_,er,cs,ss,h,h2=>by
  unfold EM;split
  ·exact⟨h,h2⟩
  ·refine RP h8 k _ _ _ _ (fun x hx=> ?_) (fun x hx=> ?_)
   ·rcases BQ.1 hx with h'|h'
    ·exact h x h'
    ·rw[Ex]at h';rw[h'];exact Gp h8 _ _
   ·rcases BQ.1 hx with h|h'
    ·exact h2 x h
    ·rw[Ex]at h';rw[h'];exact Gp h8 _ _
theorem LR:∀ (l:List Nat) (m:Nat),(∀x∈l,x<=m)->l.sum<=l.length*m
 | [],_,_=>qT
 |x :: l,m,h=>by rw[GU,AD,Jf];have h1:=LR l m (fun y hy=>h y (Ce _ hy));have h2:=h x (CG ..);omega
structure DrI (w wr:World) (gb:Nat) (t:TypeId) (rest:List Value) (g:Nat) (ls:List Nat) (B:Option Addr) (d at_:Nat) (er:Int) (C S:List Nat) (vc vs:Value):Prop where
 cur:Cur wr g w ls B d at_ er
 blk:Blk wr gb t (vc :: vs :: rest).toArray
 oc:wr.ownsRow w 3 1 vc C.length (cZ .i64 C)
 os:wr.ownsRow w 3 1 vs S.length (cZ .i64 S)
 ap:∀y,vc.ownBlock=some y->vs.ownBlock≠some y
 kept:Kept (fun x=>x<w.heap.size/\x≠gb) w wr
 lt:gb<w.heap.size
 ti:3≠t
 tu:5≠t
section
variable {w wr w1 w2 w3:World} {gb:Nat} {t:TypeId} {rest:List Value} {g:Nat} {ls:List Nat} {B:Option Addr} {d at_ a2:Nat} {er e2:Int} {C S:List Nat} {vc vs v3:Value} {x:Nat}
theorem DrI.call(h:DrI w wr gb t rest g ls B d at_ er C S vc vs)(j:Cur w2 g w ls B d a2 e2)(i:Kept (BE g wr) wr w2):DrI w w2 gb t rest g ls B d a2 e2 C S vc vs:=
 have hz:=h.kept.size;have E:=h.cur.lo;have z:=h.lt
 ⟨j,(i.block gb ⟨h.blk.lt,nj⟩).trans h.blk,eZ h.oc (fun y hy=>i.block y ⟨(Aj h.oc y hy).2,fun e=>fZ h.oc h.cur.blk ip (e ▸ hy)⟩),eZ h.os (fun y hy=>i.block y ⟨(Aj h.os y hy).2,fun e=>fZ h.os h.cur.blk ip (e ▸ hy)⟩),h.ap,h.kept.trans ⟨i.os,i.tape,i.output,i.size,fun y hy=>i.block y ⟨mp,mp⟩⟩,h.lt,h.ti,h.tu⟩
theorem DrI.cs(h:DrI w wr gb t rest g ls B d at_ er C S vc vs):wr.cell? ⟨gb,0,none⟩=some vc/\wr.cell? ⟨gb,1,none⟩=some vs:=by have h0:=h.blk.ia 0;have h1:=h.blk.ia 1;exact⟨h0,h1⟩
theorem DrI.third{x2:Value}(h:DrI w wr gb t (x2 :: rest) g ls B d at_ er C S vc vs){u:Value}:DrI w (wr.setCell ⟨gb,2,none⟩ u) gb t (u :: rest) g ls B d at_ er C S vc vs:=by have j:=h.cur.lo;have i:=h.lt;exact⟨⟨h.cur.blk.far qR _,BR h.cur.own (fZ h.cur.own h.blk h.tu) _,h.cur.le,h.cur.lo⟩,by simpa using h.blk.set 2 u,BR h.oc (fZ h.oc h.blk h.ti) _,BR h.os (fZ h.os h.blk h.ti) _,h.ap,h.kept.set (fun hk=>hk.2 rfl) _,h.lt,h.ti,h.tu⟩
theorem DrI.fourth{x2 x3:Value}(h:DrI w wr gb t (x2 :: x3 :: rest) g ls B d at_ er C S vc vs){u:Value}:DrI w (wr.setCell ⟨gb,3,none⟩ u) gb t (x2 :: u :: rest) g ls B d at_ er C S vc vs:=by have j:=h.cur.lo;have i:=h.lt;exact⟨⟨h.cur.blk.far qR _,BR h.cur.own (fZ h.cur.own h.blk h.tu) _,h.cur.le,h.cur.lo⟩,by simpa using h.blk.set 3 u,BR h.oc (fZ h.oc h.blk h.ti) _,BR h.os (fZ h.os h.blk h.ti) _,h.ap,h.kept.set (fun hk=>hk.2 rfl) _,h.lt,h.ti,h.tu⟩
theorem own_ints{y:List Nat}(h:w.ownsRow base 3 1 (.slice A n c) n (cZ .i64 y))(hn:y.length=n):Row w w A n 1 (jZ .i64 y):=
 Row.of_own h rfl fun i j hi hj=>by
  obtain rfl:j=0:=nj
  unfold cZ;rw[CO,Bi,BI,Aw nj];unfold jZ;rw[Am,Aw nj];rfl
theorem DrI.count(h:DrI w wr gb t rest g ls B d at_ er C S vc vs)(hb:Below wr wr w1)(hg:w1.grownBy w3 vc.ownBlock)(i:w3.ownsRow w 3 1 v3 (C.length+1) (cZ .i64 C++ [.int .i64 (x:Nat)]))(z:v3.ownBlock=vc.ownBlock∨v3.ownBlock=some w1.heap.size):
 DrI w (w3.setCell ⟨gb,0,none⟩ v3) gb t rest g ls B d at_ er (C++ [x]) S v3 vs:=by
 have b3:=(h.blk.step hb).grown hg (AZ (fZ h.oc h.blk h.ti));have o1:w1.ownsRow w 3 1 vs S.length (cZ .i64 S):=eZ h.os (fun y hy=>hb.block y (Aj h.os y hy).2);have o3:w3.ownsRow w 3 1 vs S.length (cZ .i64 S):=eZ o1 (fun y hy=>hg.block y (Aj o1 y hy).2 (fun e=>h.ap y e.symm hy));have c1:=h.cur.step hb;have j:w1.ownsRow w 3 1 vc C.length (cZ .i64 C):=eZ h.oc (fun y hy=>hb.block y (Aj h.oc y hy).2);have c3:Cur w3 g w ls B d at_ er:=⟨c1.blk.grown hg (AZ (fZ j c1.blk ip)),own_far c1.own j ip hg,c1.le,c1.lo⟩;have E:=h.cur.lo;have G:=h.lt;refine⟨⟨c3.blk.far qR _,BR c3.own (fZ c3.own b3 h.tu) _,c3.le,c3.lo⟩,by simpa using b3.set 0 v3,?_,BR o3 (fZ o3 b3 h.ti) _,?_,?_,h.lt,h.ti,h.tu⟩
 ·rw[Ag,show cZ .i64 (C++ [x])=cZ .i64 C++ [.int .i64 (x:Nat)] by simp[cZ]];exact BR i (fZ i b3 h.ti) _
 ·intro y hy hh;rcases z with e|e
  ·exact h.ap y (by rw[<-e];exact hy) hh
  ·rw[e]at hy;injection hy with hy;have:=(Aj h.os y hh).2;have:=hb.size;omega
 ·have hz:=h.kept.size;exact((h.kept.trans (Kept.of_below hb (fun y hy=>by have:=hy.1;omega))).grown hg (fun y hy=>by have:=hy.1;have:=hb.size;omega) (fun y hy hk=>by have:=(Aj h.oc y hy).1;have:=hk.1;omega)).set (fun hk=>hk.2 rfl) _
theorem DrI.size(h:DrI w wr gb t rest g ls B d at_ er C S vc vs)(hb:Below wr wr w1)(hg:w1.grownBy w3 vs.ownBlock)(i:w3.ownsRow w 3 1 v3 (S.length+1) (cZ .i64 S++ [.int .i64 (x:Nat)]))(z:v3.ownBlock=vs.ownBlock∨v3.ownBlock=some w1.heap.size):
 DrI w (w3.setCell ⟨gb,1,none⟩ v3) gb t rest g ls B d at_ er C (S++ [x]) vc v3:=by
 have b3:=(h.blk.step hb).grown hg (AZ (fZ h.os h.blk h.ti));have o1:w1.ownsRow w 3 1 vc C.length (cZ .i64 C):=eZ h.oc (fun y hy=>hb.block y (Aj h.oc y hy).2);have o3:w3.ownsRow w 3 1 vc C.length (cZ .i64 C):=eZ o1 (fun y hy=>hg.block y (Aj o1 y hy).2 (fun e=>h.ap y hy e.symm));have c1:=h.cur.step hb;have j:w1.ownsRow w 3 1 vs S.length (cZ .i64 S):=eZ h.os (fun y hy=>hb.block y (Aj h.os y hy).2);have c3:Cur w3 g w ls B d at_ er:=⟨c1.blk.grown hg (AZ (fZ j c1.blk ip)),own_far c1.own j ip hg,c1.le,c1.lo⟩;have E:=h.cur.lo;have G:=h.lt;refine⟨⟨c3.blk.far qR _,BR c3.own (fZ c3.own b3 h.tu) _,c3.le,c3.lo⟩,by simpa using b3.set 1 v3,BR o3 (fZ o3 b3 h.ti) _,?_,?_,?_,h.lt,h.ti,h.tu⟩
 ·rw[Ag,show cZ .i64 (S++ [x])=cZ .i64 S++ [.int .i64 (x:Nat)] by simp[cZ]];exact BR i (fZ i b3 h.ti) _
 ·intro y hy hh;rcases z with e|e
  ·exact h.ap y hy (by rw[<-e];exact hh)
  ·rw[e]at hh;injection hh with hh;have:=(Aj h.oc y hy).2;have:=hb.size;omega
 ·have hz:=h.kept.size;exact((h.kept.trans (Kept.of_below hb (fun y hy=>by have:=hy.1;omega))).grown hg (fun y hy=>by have:=hy.1;have:=hb.size;omega) (fun y hy hk=>by have:=(Aj h.os y hy).1;have:=hk.1;omega)).set (fun hk=>hk.2 rfl) _
end
end Body
namespace Idx
open Go.RowKit Mem Own Canon Sift
open NumPut Recs Crc Block
theorem QG(s:Str):BH (bs s)=De s:=by unfold BH De;rw[Eh];rfl
theorem L3{s:Str}(h:s.length<=25):(De s).length<=28:=by have h1:=LL (s:=bs s) (by rw[Eh];omega);rw[QG,Eh]at h1;omega
theorem YD{l:List Str}{x:Str}(h:l[k]? =some x):(l.take (k+1)).getLast?=some x:=by rw[BN,h];simp
theorem nO{l:List Str}{x y:Str}(hx:l[k]? =some x)(hy:l[k+1]? =some y):tZ (l.take (k+1+1))=tZ (l.take (k+1))++(gZ (Bq x y)++De (y.drop (Bq x y))):=by rw[BN (i:=k+1),hy];refine pJ ?_ y x (YD hx);rw[BN,hx];simp
theorem Kt(h:x<=127):(gZ x).length=1:=by rw[EZ nj];rfl
theorem nX(s:Str)(a:Nat)(ha:a<=s.length)(w:World):(Instr.slice 9 (.string (bs s)) (some (.int .i64 (a:Int))) none none).run prog w= .ok (.string (bs (s.drop a))) w:=by
 have hz:=Eh s;rw[run_slice_string_l w (t:=9) (s:=bs s) (ht:=underlying9) .i64 (a:Int) nj nj,Bu];have e:(bs s).extract a (bs s).size=bs (s.drop a):=by refine ByteArray.ext (Array.ext' ?_);rw[Wu,IF,hz,Bw (by rw[AO];exact Ak _)];rfl
 rw[e]
def OH(bs:List Nat)(w:World)(e:Ending)(w':World):Prop:=
 ∃v,e= .returned v/\w'.ownsRow w 5 1 v bs.length (cZ .u8 bs)/\Below w w w'
theorem bB(w:World)(A:Option Addr)(n c:Nat)(ls:List Str)(hn:ls.length=n)(h1:1<=n)(hN:n<=64)(a0:n<=c)(hs:∀s∈ls,s.length<=25)(ha:Row w w A n 1 (Ee ls)):
 Calls prog 171 #[.slice A n c] w (OH (tZ ls) w):=by
 have HN:=hid hn;have J:Hid (∀ (k:Nat) (x:Str),ls[k]? =some x->x.length<=25):=fun k x h=>hs x (Be h);obtain⟨b,bq,x0,hA,bn,G,aw⟩:=Row.str ha hn (k:=0) nj;have N:tZ (ls.take (0+1))=De x0:=by rw[BN,G];simp[tZ,El]
 have DT:=hid (MQ w (bs x0) (by rw[Eh];have:=J.out 0 x0 G;omega));rw[QG,<-N]at DT;have az:(tZ (ls.take (0+1))).length<=28:=by rw[N];exact L3 (J.out 0 x0 G)
 have ks:=fun wx=>FK (P:=prog) (t:=50) (s:=1) underlying50 (fun _=>by kernel_rfl) A n c .i64 (1:Int) 1 rfl h1 wx;have am:Row w w (AR A 1 c 1) (n-1) 1 (fun i j=>Ee ls (i+1) j):=Row.cut ha 1 (n-1) nj a0 fun i j _ _=>by rw[Nat.add_comm]
 generalize AR A 1 c 1=A1 at *;generalize c-1=c1 at *;obtain⟨m,hm⟩:=ii (n-1);rw[<-hm]at ks am;have bl:m+1=n:=nj
 have E:Hid (tZ (ls.take (m+1))=tZ ls):=by show _=_;rw[Bw nj]
 unfold OH;obtain⟨R,hR⟩:=ii (tZ ls);rw[<-hR]at E ⊢;obtain⟨B,hB⟩:∃B:Nat->List Nat,B=fun k=>tZ (ls.take (k+1)):=⟨_,rfl⟩;have bd:Hid (∀ (k:Nat) (x y:Str),ls[k]? =some x->ls[k+1]? =some y->B (k+1)=B k++(gZ (Bq x y)++De (y.drop (Bq x y)))):=fun k x y hx hy=>by rw[hB];exact nO hx hy
 have Z:Hid (B m=R):=by rw[hB];exact E.out
 rw[show tZ (ls.take (0+1))=B 0 by rw[hB]]at DT az;subst hA;rw[Bi]at aw;clear hn hs G N E hR hB hm;go_enter func171,ntmps171;go_wp2_with fail;refine DT.out.mono ?_;rintro e w1 ⟨v1,rfl,M,al⟩;obtain⟨A2,c2,rfl⟩:=bZ M;have aj:=hid M;have ak:=hid al;clear M al DT;go_wp2_with fail;go_loopw [3,14] (fun uv iv wr=>∃ (k p:Nat),k<=m/\p<=28+31*k/\iv= .int .i64 k/\Hid ((B k).length=p)/\Hid (wr.ownsRow w 5 1 uv p (cZ .u8 (B k)))/\Hid (Below w w wr)) (fun _ iv _=>m-(intOf iv).toNat)
 case atStart=>exact⟨0,(B 0).length,nj,nj,rfl,rfl,aj.out,ak.out⟩
 case round=>
  obtain⟨k,p,hk,hp,rfl,HP,HO,HB⟩:=hrel;clear aj ak;obtain⟨wi,rfl⟩:=ii wr;obtain⟨A3,c3,rfl⟩:=bZ HO.out;by_cases bg:k<m
  ·have L:(B k).length=p:=HP.out;subst L;have gk:=ic ((k:Int)<m);have av:=ic (k<m);have bp:(0:Int)<=(k:Int):=nj;have x1:(k:Int)<(m:Int):=nj;have x2:(k:Int)<(n:Int):=nj;obtain⟨b',bh,x,U,_,hx,cx⟩:=Row.str (ha.below HB.out) HN.out (k:=k) nj;injection U with U;injection U with e1 e2;subst e1 e2;obtain⟨y,hy⟩:∃y,ls[k+1]? =some y:=⟨_,Aw md⟩;obtain⟨b1,ah,hA1,_,ag⟩:=(am.below HB.out) nj;subst hA1;have cy:wi.cell? ⟨b1,ah+k,none⟩=some (.string (bs y)):=(by have h:=ag k 0 bg nj;rw[CO,Bi]at h;rw[h];show some (Value.string (bs (ls.getD (k+1) [])))=_;rw[Am,hy];rfl);have ba:=J.out k x hx;have ar:=J.out (k+1) y hy;have ai:=LG x y;have Q:=bd.out k x y hx hy;have DS:=hid (VQ wi x y nj nj);obtain⟨a,ab⟩:=ii (Bq x y);rw[<-ab]at ai Q DS;have ax:=Eh y;have bf:(y.drop a).length<=25:=oi;have an:=Eh (y.drop a);have kl:=fun wx=>nX y a ai.2 wx;have DN:=hid (fun wx=>Gu wx a nj);have DX:=hid (fun wx=>MQ wx (bs (y.drop a)) (by rw[an];omega));rw[QG]at DX;have u1:IntKind.u64.wrap (a:Int)=(a:Int):=pk;have bi:(gZ a).length<=3:=(by rw[Kt nj];omega);have bk:=L3 bf;have PB:Hid (∀wx,Below wi wi wx->Part.Ok (⟨A3,c3,B k⟩:Part) wx):=fun wx hb=>by have h:=nZ (eZ HO.out (fun z hz=>hb.block z (Aj HO.out z hz).2)) HP.out;exact h
   generalize bs (y.drop a)=Y2 at *;generalize De (y.drop a)=X2 at *;generalize gZ a=X1 at *;have Y:=hid Q;have bj:(B k).length<=2000:=mf;have ay:∀a1 a2 a3 a4 a5 a6,BV [(⟨a1,a2,B k⟩:Part),⟨a3,a4,X1⟩,⟨a5,a6,X2⟩]<=1000000:=fun _ _ _ _ _ _=>rh
   clear Q hx hy ab ba ar ax an ag;go_wp2_with fail;refine DS.out.mono ?_;rintro e w2 ⟨rfl,hq⟩;have ac:Hid (Below wi wi w2):=(by obtain⟨q,rfl⟩:=hq;exact below_drewN (Ae _ _) q);clear hq DS;have bm:=ac.out.size;go_upto_region 6 with fail;have b2:Below wi wi w2.drew:=ac.out.drew;go_region_held3 (fun _=>True) (trivial) (first|(go_at_call 99;(with_reducible refine(DN.out _).mono ?_);rintro e wA ⟨vA,rfl,af,bb⟩;obtain⟨AA,cA,rfl⟩:=bZ af;have BA:Below wi wi wA:=uZ bb iu rF;have zA:=BA.size;have PA:Part.Ok (⟨AA,cA,X1⟩:Part) wA:=nZ af rfl)|(go_at_call 165;(with_reducible refine(DX.out _).mono ?_);rintro e wB ⟨vB,rfl,aq,a9⟩;obtain⟨AB,cB,rfl⟩:=bZ aq;have BB:Below wi wi wB:=uZ a9 iu rF;have zB:=BB.size;have PX:Part.Ok (⟨AB,cB,X2⟩:Part) wB:=nZ aq rfl)|(go_at_call 55;(refine(FZ _ _ 3 [(⟨A3,c3,B k⟩:Part),(⟨AA,cA,X1⟩:Part),(⟨AB,cB,X2⟩:Part)] rfl nj (ay _ _ _ _ _ _) (fun p hp=>by{rcases AV.1 hp with rfl|hp;exact PB.out _ rF;rcases AV.1 hp with rfl|hp;exact PA.step rF;rcases AV.1 hp with rfl|hp;exact PX.step rF;cases hp}) iq).mono ?_);rintro e w7 ⟨v7,rfl,aa,ae⟩;obtain⟨A7,c7,rfl⟩:=bZ aa;have B7:Below wi wi w7:=uZ ae iu rF))
   all_goals
    have bc:Hid ((B (k+1)).length=(B k).length+(X1.length+X2.length)):=(by show _=_;rw[Y.out,Ag,Ag]);have au:Hid (w7.ownsRow w 5 1 (.slice A7 ((B k).length+(X1.length+X2.length)) c7) ((B k).length+(X1.length+X2.length)) (cZ .u8 (B (k+1)))):=(by have h:=lZ aa (show w.heap.size<=_ by have:=HB.out.size;have:=zA;have:=zB;first|omega|(simp;omega));simp only[List.flatMap_cons,List.flatMap_nil,List.append_nil,List.length_append]at h;show World.ownsRow _ _ _ _ _ _ _;rw[Y.out];exact h);have be:Hid (Below w w w7):=dZ B7 HB.out;clear aa ae PA PX PB HO HB HP Y B7;go_wp2_with fail;go_roundw
    case measure=>exact jq
    case rel=>go_light;exact⟨k+1,_,nj,nj,iw,bc.out,au.out,be.out⟩
  ·obtain rfl:k=m:=by omega
   have gk:=ig ((k:Int)<k);have av:=ig (k<k);have L:(B k).length=p:=HP.out;subst L;go_wp2_with fail;go_ret;exact⟨_,rfl,by rw[<-Z.out];exact HO.out,HB.out⟩
end Idx
namespace Idx
open Go.RowKit Mem Own Canon
open NumPut (gZ sZ)
def C7(size:Nat)(l:List Str)(k:Nat):List Str:=(l.drop (k*size)).take size
def nCh(size n:Nat):Nat:=(n+size-1) / size
theorem Oy{size:Nat}(h:1<=size):k<nCh size n↔k*size<n:=by unfold nCh;rw[Nat.lt_iff_add_one_le,Nat.le_div_iff_mul_le nj,EU];omega
theorem VV{size:Nat}(h:1<=size):nCh size 0=0:=by unfold nCh;exact Nat.div_eq_of_lt nj
theorem mY{size:Nat}(h:1<=size)(hn:1<=n):nCh size n=nCh size (n-size)+1:=by
 unfold nCh;by_cases hs:size<=n
 ·have e:n+size-1=(n-size+size-1)+size:=by omega
  rw[e,Nat.add_div_right _ nj]
 ·have e:n-size=0:=by omega
  rw[e,BP,Nat.div_eq_of_lt (by omega:size-1<size)];have e2:n+size-1=(n-1)+size:=nj
  rw[e2,Nat.add_div_right _ nj,Nat.div_eq_of_lt nj]
theorem NE{size:Nat}(h:1<=size):nCh size n<=n:=by refine KA fun hn=> ?_;have h1:=(Oy (n:=n) (k:=n) h).1 nj;have h2:n*1<=n*size:=Nat.mul_le_mul_left n h;omega
theorem YK(size:Nat)(l:List Str):C7 size l 0=l.take size:=by simp[C7]
theorem Yq(size:Nat)(l:List Str)(k:Nat):C7 size l (k+1)=C7 size (l.drop size) k:=by unfold C7;rw[List.drop_drop,EU,Nat.one_mul,Nat.add_comm]
theorem TE{size:Nat}(h:1<=size):∀ (f:Nat) (l:List Str),l.length<=f->Dq size f l=(List.range (nCh size l.length)).map (C7 size l)
 |0,l,hl=>by
  have e:l.length=0:=nj
  rw[e,VV h];rfl
 |f+1,l,hl=>by
  rw[Dq];by_cases e:l= []
  ·rw[Ab e,e];show []=(List.range (nCh size 0)).map _;rw[VV h];rfl
  ·have hp:1<=l.length:=FP.2 e;rw[Aa e,mY h hp,List.range_succ_eq_map,Cp,List.map_map,YK,TE h f (l.drop size) oi,AO];congr 1;exact Kz fun k _=>(Yq size l k).symm
theorem aG{size:Nat}(h:1<=size)(l:List Str):GQ size l=(List.range (nCh size l.length)).map (C7 size l):=TE h _ l (Ak _)
theorem QA{size:Nat}(h:1<=size)(l:List Str):Dh size l=(gZ l.length++(List.range (nCh size l.length)).flatMap (fun k=>gZ (tZ (C7 size l k)).length))++(List.range (nCh size l.length)).flatMap (fun k=>tZ (C7 size l k)):=by unfold Dh;rw[aG h,List.flatMap_map,List.flatMap_map]
theorem RX:∀ (t:List Str) (i:Str),(∀s∈t,s.length<=25)->i.length<=25->(El i t).length<=31*t.length
 | [],_,_,_=>by simp[El]
 |x :: t,i,h,hw=>by have hx:=h x CG;have ih:=RX t x (fun s hs=>h s (Ce _ hs)) hx;have ha:=(LG i x).2;rw[El,Ag,Ag,AD,Kt nj];have:=L3 (s:=x.drop (Bq i x)) oi;omega
theorem MZ{l:List Str}(h:∀s∈l,s.length<=25):(tZ l).length<=31*l.length:=by
 cases l with
 |nil=>simp[tZ]
 |cons x t=>rw[tZ,Ag,AD];have:=L3 (h x CG);have:=RX t x (fun s hs=>h s (Ce _ hs)) (h x CG);omega
theorem QH{size:Nat}{l:List Str}{s:Str}(h:s∈C7 size l k):s∈l:=Ck (Dc h)
theorem QC(size k:Nat)(l:List Str):(C7 size l k).length=min size (l.length-k*size):=by unfold C7;rw[Ba,AO]
def Apt(v u:Value):Prop:=∀x,v.ownBlock=some x->u.ownBlock=some x->False
theorem Apt.symm{v:Value}(h:Apt v u):Apt u v:=fun x a b=>h x b a
theorem G8{v:Value}{ys:List Value}(hu:w.ownsRow base e s u m ys)(ha:Apt v u)(hg:w.grownBy w' v.ownBlock)(i:v'.ownBlock=v.ownBlock∨v'.ownBlock=some w.heap.size):
 w'.ownsRow base e s u m ys/\Apt v' u:=by
 refine⟨eZ hu fun y hy=>hg.block y (Aj hu y hy).2 fun e=>ha y e.symm hy,fun x hx hy=> ?_⟩;rcases i with h|h
 ·exact ha x (h ▸ hx) hy
 ·rw[h]at hx;have:=(Aj hu x hy).2;injection hx;omega
theorem Jr{v:Value}{B:Nat}(hv:w.ownsRow base e s v m xs)(hB:B<=base)(hu:∀x,u.ownBlock=some x->x<B):Apt v u:=
 fun x a b=>by have:=(Aj hv x a).1;have:=hu x b;omega
theorem VG:∀ (l:List Str) (i:Str),Dd i l=true->∀s∈l,1<=s.length/\s.length<=25
 | [],_,_,s,hs=>by cases hs
 |x :: t,i,h,s,hs=>by
  rw[Dd,Cf]at h;rcases AV.1 hs with rfl|hs
  ·have h1:=h.1;unfold Eo at h1;rw[Cf,Cf,decide_eq_true_iff,decide_eq_true_iff]at h1;exact⟨h1.1,h1.2.1⟩
  ·exact VG t x h.2 s hs
theorem Jv{l:List Str}(h:Gn l=true):∀s∈l,1<=s.length/\s.length<=25:=by unfold Gn at h;rw[Cf]at h;exact VG l [] h.1
def hdB(size:Nat)(l:List Str)(q:Nat):List Nat:=gZ l.length++(List.range q).flatMap (fun k=>gZ (tZ (C7 size l k)).length)
def bdB(size:Nat)(l:List Str)(q:Nat):List Nat:=(List.range q).flatMap (fun k=>tZ (C7 size l k))
theorem mB(size:Nat)(l:List Str)(q:Nat):hdB size l (q+1)=hdB size l q++gZ (tZ (C7 size l q)).length:=by simp[hdB,List.range_succ]
theorem lI(size:Nat)(l:List Str)(q:Nat):bdB size l (q+1)=bdB size l q++tZ (C7 size l q):=by simp[bdB,List.range_succ]
theorem L0{size:Nat}{l:List Str}(hs:∀s∈l,s.length<=25)(h2:size<=64)(q:Nat):(tZ (C7 size l q)).length<=1984:=by have h:=MZ (l:=C7 size l q) (fun s hs'=>hs s (QH hs'));rw[QC]at h;omega
theorem ME{size:Nat}{l:List Str}(hs:∀s∈l,s.length<=25)(h2:size<=64)(hl:l.length<=1000000):∀q,(hdB size l q).length<=10+10*q
 |0=>by have:=sZ (x:=l.length) nj;simp[hdB];omega
 |q+1=>by have ih:=ME hs h2 hl q;have hc:=L0 hs h2 q;have:=sZ (x:=(tZ (C7 size l q)).length) nj;rw[mB,Ag];omega
theorem NN{size:Nat}{l:List Str}(hs:∀s∈l,s.length<=25)(h1:1<=size):∀q,(bdB size l q).length<=31*min (q*size) l.length
 |0=>by simp[bdB]
 |q+1=>by have ih:=NN hs h1 q;have hc:=MZ (l:=C7 size l q) (fun s hs'=>hs s (QH hs'));rw[QC]at hc;rw[lI,Ag,EU,Nat.one_mul];omega
end Idx
namespace Idx
open Go.RowKit Mem Own Canon
open NumPut Recs Crc Block
def CR(x:Nat):List Nat:= [x % 256,x / 256 % 256,x / 65536 % 256,x / 16777216 % 256]
def GJ(x:Nat):Nat->Array Value
 |0=>#[.int .u8 0, .int .u8 0, .int .u8 0, .int .u8 0]
 |1=>#[.int .u8 ((x:Int) % 256), .int .u8 0, .int .u8 0, .int .u8 0]
 |2=>#[.int .u8 ((x:Int) % 256), .int .u8 ((x:Int) / 256 % 256), .int .u8 0, .int .u8 0]
 |3=>#[.int .u8 ((x:Int) % 256), .int .u8 ((x:Int) / 256 % 256), .int .u8 ((x:Int) / 65536 % 256), .int .u8 0]
 |_=>#[.int .u8 ((x:Int) % 256), .int .u8 ((x:Int) / 256 % 256), .int .u8 ((x:Int) / 65536 % 256), .int .u8 ((x:Int) / 16777216 % 256)]
theorem kJ(x:Nat):(GJ x 4).toList=cZ .u8 (CR x):=by simp[GJ,CR,cZ]
theorem VM:(prog.info? 5).map (fun i=>(i.zero,i.size,i.bytes))=some (some (.int .u8 0),1,1):=my
theorem Yj(w:World):(Instr.makeSlice 28 (.int .i64 4) (.int .i64 4)).run prog w= .ok (.slice (some ⟨w,0,none⟩) 4 4) (w.alloc (.cells #[.int .u8 0, .int .u8 0, .int .u8 0, .int .u8 0] 5)):=by
 obtain⟨i0,hi,y,i,j⟩:=info_parts VM;have h:=run_make (P:=prog) w 28 5 i0 (.int .u8 0) underlying28 hi y .i64 .i64 (4:Int) (4:Int) nj (Int.le_refl _) qu nj;rw[h,i];have e:madeCells (Value.int IntKind.u8 0).cells (Int.toNat 4*1)=#[.int .u8 0, .int .u8 0, .int .u8 0, .int .u8 0]:=my
 rw[e];rfl
theorem LF(x:Int):IntKind.u8.wrap x=x % 256:=IntKind.wrap_u8 x
theorem ZW(w:World)(x:Nat)(hx:x<4294967296):
 Calls prog 54 #[.int .u64 x, .int .i64 4] w fun e w'=>∃v,e= .returned (.tuple #[v,ij])/\w'.ownsRow w 5 1 v 4 (cZ .u8 (CR x))/\Below w w w':=by
 have hd:(((x:Int) / 4294967296) != 0)=false:=rg
 have hm:=Yj;have w0:=LF (x:Int);have w1:=LF ((x:Int) / 256);have w2:=LF ((x:Int) / 65536);have w3:=LF ((x:Int) / 16777216);go_enter func54,ntmps54;go_wp2_with fail;have j:Hid (Blk (w.alloc (.cells #[.int .u8 0, .int .u8 0, .int .u8 0, .int .u8 0] 5)) w 5 (GJ x 0)):=Blk.made _ _ _;have y:Hid (Below w w (w.alloc (.cells #[.int .u8 0, .int .u8 0, .int .u8 0, .int .u8 0] 5))):=aZ (Ae _ _);generalize w.alloc (.cells #[.int .u8 0, .int .u8 0, .int .u8 0, .int .u8 0] 5)=wa at *;go_loopw [29] (fun iv wr=>∃k:Nat,k<=4/\iv= .int .i64 k/\Hid (Blk wr w 5 (GJ x k))/\Hid (Below w w wr)) (fun iv _=>4-(intOf iv).toNat)
 case atStart=>exact⟨0,nj,rfl,j.out,y.out⟩
 case round=>
  obtain⟨k,hk,rfl,HX,HB⟩:=hrel;clear j y hm;have z:k=0∨k=1∨k=2∨k=3∨k=4:=nj
  rcases z with rfl|rfl|rfl|rfl|rfl
  ·have c:=HX.out.cell 0;have f:=HX.out.frozen 0;have h:Hid (Blk (wr.setCell ⟨w,0,none⟩ (.int .u8 ((x:Int) % 256))) w 5 (GJ x 1)):=HX.out.set 0 _;have i:Hid (Below w w (wr.setCell ⟨w,0,none⟩ (.int .u8 ((x:Int) % 256)))):=BF (Ak _) HB.out;simp[GJ]at c;clear HX HB;go_wp2_with fail;exact⟨⟨1,nj,rfl,h,i⟩,rq⟩
  ·have c:=HX.out.cell 1;have f:=HX.out.frozen 1;have h:Hid (Blk (wr.setCell ⟨w,1,none⟩ (.int .u8 ((x:Int) / 256 % 256))) w 5 (GJ x 2)):=HX.out.set 1 _;have i:Hid (Below w w (wr.setCell ⟨w,1,none⟩ (.int .u8 ((x:Int) / 256 % 256)))):=BF (Ak _) HB.out;simp[GJ]at c;clear HX HB;go_wp2_with fail;exact⟨⟨2,nj,rfl,h,i⟩,rq⟩
  ·have c:=HX.out.cell 2;have f:=HX.out.frozen 2;have h:Hid (Blk (wr.setCell ⟨w,2,none⟩ (.int .u8 ((x:Int) / 65536 % 256))) w 5 (GJ x 3)):=HX.out.set 2 _;have i:Hid (Below w w (wr.setCell ⟨w,2,none⟩ (.int .u8 ((x:Int) / 65536 % 256)))):=BF (Ak _) HB.out;simp[GJ]at c;clear HX HB;go_wp2_with fail;exact⟨⟨3,nj,rfl,h,i⟩,rq⟩
  ·have c:=HX.out.cell 3;have f:=HX.out.frozen 3;have h:Hid (Blk (wr.setCell ⟨w,3,none⟩ (.int .u8 ((x:Int) / 16777216 % 256))) w 5 (GJ x 4)):=HX.out.set 3 _;have i:Hid (Below w w (wr.setCell ⟨w,3,none⟩ (.int .u8 ((x:Int) / 16777216 % 256)))):=BF (Ak _) HB.out;simp[GJ]at c;clear HX HB;go_wp2_with fail;exact⟨⟨4,nj,rfl,h,i⟩,rq⟩
  ·go_wp2_with fail;go_ret2;refine⟨_,rfl,⟨rfl, .inr ⟨w.heap.size,4,_,rfl,Ak _,HX.out,nj,rE,rfl,?_⟩⟩,HB.out⟩;rw[<-kJ];rfl
def Hb(x k:Nat):List Nat:=(List.range k).map fun i=>x / 256 ^ i % 256
theorem XV(x:Nat):Hb x 4=CR x:=by simp[Hb,CR,List.range_succ]
theorem Xx(x k:Nat):Hb x (k+1)=Hb x k++ [x / 256 ^ k % 256]:=by simp[Hb,List.range_succ]
theorem X5(w:World)(x:Nat)(hx:x<4294967296):
 Calls prog 79 #[.int .u64 x, .int .i64 4] w fun e w'=>∃v,e= .returned (.tuple #[v,ij])/\w'.ownsRow w 5 1 v 4 (cZ .u8 (CR x))/\Below w w w':=by
 obtain⟨j0,Q,M,G,U⟩:=info_parts VM;go_enter func79,ntmps79;go_wp2_with fail;go_loopw [0,6,7] (fun xv uv iv wr=>∃k y:Nat,k<=4/\y<4294967296/\iv= .int .i64 k/\xv= .int .u64 y/\Hid (y=x / 256 ^ k)/\Hid (wr.ownsRow w 5 1 uv k (cZ .u8 (Hb x k)))/\Hid (Below w w wr)) (fun _ _ iv _=>4-(intOf iv).toNat)
 case atStart=>exact⟨0,x,nj,hx,rfl,rfl,(by show x=x / 256 ^ 0;simp),AE _ _ _ _,Ae _ _⟩
 case round=>
  obtain⟨k,y,hk,hy,rfl,rfl,HY,HO,HB⟩:=hrel;obtain⟨wi,rfl⟩:=ii wr;obtain⟨A1,c1,rfl⟩:=bZ HO.out;by_cases aa:k<4
  ·have gk:=ic ((k:Int)<4);have Z:=ic (k<4);have u1:IntKind.u8.wrap ((y:Int) % 256)=((y % 256:Nat):Int):=(by rw[LF];omega);have L:=HB.out.size;have Y:Hid (y / 256=x / 256 ^ (k+1)):=(by show _=_;rw[HY.out,NY,FA]);have HL:Hid (Hb x (k+1)=Hb x k++ [y % 256]):=(by show _=_;rw[Xx,HY.out]);clear HY;go_wp2_with(at_builtin;refine iZ rfl (.tmp 19) (.tmp 23) 28 rfl w 5 j0 _ 1 1 underlying28 Q M G U rfl ip _ _ _ nm (HO.out.alloc _) _ 1 1 [.int .u8 (y % 256:Nat)] nm (Src.of_blk (Blk.made_at _ _ _ qT) 1 1 1 rfl) mq rE nj rg ?_;intro v6 w6 h i E;obtain⟨A6,c6,rfl⟩:=bZ h);have N:Hid (w6.ownsRow w 5 1 (.slice A6 (k+1) c6) (k+1) (cZ .u8 (Hb x (k+1)))):=(by show World.ownsRow _ _ _ _ _ _ _;rw[HL.out,show cZ .u8 (Hb x k++ [y % 256])=cZ .u8 (Hb x k)++ [.int .u8 (y % 256:Nat)] by simp[cZ]];exact h);have J:Hid (Below w w w6):=(mZ L HB.out).grown i rg (fun z hz=>(Aj HO.out z hz).1);clear h i E HO HB HL;go_roundw
   case measure=>exact jq
   case rel=>go_light;exact⟨k+1,y / 256,nj,nj,iw,iw,Y.out,N.out,J.out⟩
  ·obtain rfl:k=4:=by omega
   have j:y=0:=(by rw[HY.out];exact Nat.div_eq_of_lt nj);subst j;clear HY;go_wp2_with fail;go_ret2;exact⟨_,rfl,by rw[<-XV];exact HO.out,HB.out⟩
end Idx
namespace Ef
open Go.RowKit Mem Own Canon Huff NumPut
open Block (nZ)
theorem own_row{k:IntKind}(h:w.ownsRow base e 1 (.slice A n c) n (cZ k ls))(hn:ls.length=n):Row w w A n 1 (jZ k ls):=
 Row.of_own h rfl (fun i j hi hj=>by have e0:j=0:=nj;subst e0;exact numL_get nj)
theorem Tv(w:World)(bound:Nat)(A:Option Addr)(n c:Nat)(ls:List Nat)(hn:ls.length=n)(h1:1<=n)(bS:n<=bound)(hb:bound<=20000)(hm:Cj bound none ls=true)(ha:Row w w A n 1 (jZ .i64 ls)):
 Calls prog 105 #[bound, .slice A n c] w fun e w'=>∃v,e= .returned (.tuple #[v,ij])/\w'.ownsRow w 5 1 v (efO bound ls).length (cZ .u8 (efO bound ls))/\Below w w w':=by
 have HN:=hid hn;have HA:=hid ha;have DM:=hid (ZF w bound A n c ls hn nj ha);rw[hm]at DM;have hq:1<=bound / n:=(Nat.one_le_div_iff nj).2 bS;have DN:=hid (fun wx=>Gu wx n nj);have DW:=hid (fun wx=>SK wx bound n h1 bS nj);have cm:=sZ (x:=n) nj;have y1:=ig ((bound:Int)<0)
 have y2:=ig ((20000:Int)<bound)
 have cl:=ig (20000<bound)
 have u1:IntKind.u64.wrap (n:Int)=(n:Int):=pk
 have z1:((n:Int)==0)=false:=rg
 have cj:¬(n:Int)=0:=nj
 have ba:Hid (∀x∈ls,x<bound):=Hs bound ls none hm;have b4:Hid (∀ (k x y:Nat),ls[k]? =some x->ls[k+1]? =some y->x<y):=L7 bound ls none hm;have HE:Hid (efO bound ls=gZ n++bytesOf (FH (efW bound n) ls)):=by show _=_;unfold efO;rw[Aa (fun e=>by rw[e]at hn;simp at hn;omega),hn]
 have G:efW bound n<=14:=by refine KA fun h=> ?_;have h2:2 ^ 15<=2 ^ efW bound n:=Cn nj nj;have h3:=KI (q:=bound / n) nj;have h4:bound / n<=bound:=Hw _ _;unfold efW at h2;omega
 obtain⟨W,hW⟩:=ii (efW bound n);rw[<-hW]at DW HE G;clear hn ha hm hW hq;go_enter func105,ntmps105;go_wp2_with fail;refine DM.out.mono ?_;rintro e w1 ⟨rfl,rfl⟩;obtain⟨w,rfl⟩:=ii w1;clear DM;go_wp2_with fail;refine(DN.out _).mono ?_;rintro e w2 ⟨v2,rfl,ax,bq⟩;obtain⟨A2,c2,rfl⟩:=bZ ax;have N:=hid bq;have be:=hid ax;clear ax bq DN;go_wp2_with fail;refine(DW.out _).mono ?_;rintro e w3 ⟨rfl,rfl⟩;go_wp2_with fail;have bb:Below w3 w3 (w3.alloc (.cells #[W,(),()] 229)):=aZ (Ae _ _);have a9:Hid (Prt 229 (w3.alloc (.cells #[W,(),()] 229)) w3 w3 W ((ls.take 0).map (·/ 2 ^ W)) ((ls.take 0).map (·% 2 ^ W)) (.slice none 0 0) (.slice none 0 0)):=⟨Blk.made _ _ _,AE _ _ _ _,AE _ _ _ _,Ak _⟩;generalize w3.alloc (.cells #[W,(),()] 229)=w4 at *;have bh:=hid bb;clear bb;go_loopw [43] (fun iv wr=>∃ (k:Nat) (vH vL:Value),k<=n/\iv= .int .i64 k/\Hid (Prt 229 wr w3 w3 W ((ls.take k).map (·/ 2 ^ W)) ((ls.take k).map (·% 2 ^ W)) vH vL)/\Hid (Below w3 w3 wr)) (fun iv _=>n-(intOf iv).toNat)
 case atStart=>exact⟨0,_,_,nj,rfl,a9.out,bh.out⟩
 case round=>
  obtain⟨k,vH,vL,hk,rfl,HP,HB⟩:=hrel;clear a9 bh;obtain⟨wi,rfl⟩:=ii wr;have ai:Hid (Below w w wi):=uZ HB.out N.out.size N.out;by_cases af:k<n
  ·have bk:Row wi w A n 1 (jZ .i64 ls):=HA.out.below ai.out;have gk:=ic ((k:Int)<n);have M:=ic (k<n);have x0:(0:Int)<=(k:Int):=nj;have x1:(k:Int)<(n:Int):=nj;obtain⟨b,bN,x,rfl,_,hx,ck⟩:=CH bk HN.out af;have ar:=ba.out x (Be hx);have D0:=pR 229 ip ip wi w3 w3 W _ _ vH vL x nj G (by rw[Bc,Ba];omega) (by rw[Bc,Ba];omega) HP.out;have e1:(ls.take (k+1)).map (·/ 2 ^ W)=(ls.take k).map (·/ 2 ^ W)++ [x / 2 ^ W]:=(by rw[BN,hx];simp);have e2:(ls.take (k+1)).map (·% 2 ^ W)=(ls.take k).map (·% 2 ^ W)++ [x % 2 ^ W]:=(by rw[BN,hx];simp);rw[<-e1,<-e2]at D0;have D:=hid D0;clear D0 e1 e2 hx ar HP bk;go_wp2_with fail;refine D.out.mono ?_;rintro e w6 ⟨rfl,b3,ca,bn,bm⟩;have ce:=hid bn;have b9:=hid (HB.out.trans bm);clear bn bm D HB ai;go_wp2_with fail;go_roundw
   case measure=>exact jq
   case rel=>go_light;exact⟨k+1,b3,ca,nj,iw,ce.out,b9.out⟩
  ·obtain rfl:k=n:=by omega
   have gk:=ig ((k:Int)<k);have M:=ig (k<k);have E:ls.take k=ls:=Bw pu;rw[E]at HP;obtain⟨P,hP⟩:=ii (2 ^ W);rw[<-hP]at HP;have ak:=hid hP;have ci:1<=P:=(by rw[hP];exact Nat.one_le_two_pow);obtain⟨HS,am⟩:=ii (ls.map (·/ P));obtain⟨LS,al⟩:=ii (ls.map (·% P));rw[<-am,<-al]at HP;have ah:HS.length=k:=(by rw[am,Bc];exact HN.out);have an:LS.length=k:=(by rw[al,Bc];exact HN.out);have oh:=HP.out.oh;have ol:=HP.out.ol;rw[ah]at oh;rw[an]at ol;obtain⟨AH,cH,rfl⟩:=bZ oh;obtain⟨AL,cL,rfl⟩:=bZ ol;have RH:=hid (own_row oh ah);have RL:=hid (own_row ol an);have b0:=HP.out.blk;have d0:=(b0.alloc (.cells #[(),ij] 234)).cell 0;have d1:=(b0.alloc (.cells #[(),ij] 234)).cell 1;have d2:=(b0.alloc (.cells #[(),ij] 234)).cell 2;simp only[List.getElem?_toArray,List.getElem?_cons_zero,List.getElem?_cons_succ]at d0 d1 d2;have cf:=hid am;have cc:=hid al;have b1:=hid ah;have b8:=hid an;have B0:=hid b0;clear oh ol am al ah an hP E HP b0;go_wp2_with fail;have Z:Hid (Wr (fun q=>q<wi.heap.size) (wi.alloc (.cells #[(),ij] 234)) wi wi 234 [] (Dj W (ls.take 0)) (.slice none 0 0)):=Wr.start4 wi wi _ [] (Ak _) (fun q h=>h);have Y:Hid (Kept (fun q=>q<wi.heap.size) wi (wi.alloc (.cells #[(),ij] 234))):=Kept.of_below (aZ (Ae _ _)) (fun q h=>h);clear d0 d1 d2;generalize wi.alloc (.cells #[(),ij] 234)=wz at *;go_loopw [53] (fun iv wr=>∃ (j:Nat) (v':Value),j<=k/\iv= .int .i64 j/\Hid (Wr (fun q=>q<wi.heap.size) wr wi wi 234 [] (Dj W (ls.take j)) v')/\Hid (Kept (fun q=>q<wi.heap.size) wi wr)) (fun iv _=>k-(intOf iv).toNat)
   case atStart=>exact⟨0,_,nj,rfl,Z.out,Y.out⟩
   case round=>
    obtain⟨j,v',hj,rfl,z,HK⟩:=hrel;clear Z Y;obtain⟨wj,rfl⟩:=ii wr;by_cases af:j<k
    ·have gk:=ic ((j:Int)<k);have M:=ic (j<k);have x0:(0:Int)<=(j:Int):=nj;have x1:(j:Int)<(k:Int):=nj;have bC:Row wj wi AL k 1 (jZ .u16 LS):=RL.out.keep fun p hp=>World.cell?_of_block (HK.out.block p.block hp);obtain⟨b,bN,x,rfl,_,hx,ck⟩:=CH bC b8.out af;obtain⟨y,hy⟩:∃y,ls[j]? =some y:=⟨_,Aw md⟩;have a0:x=y % P:=(by rw[cc.out,BI,hy]at hx;exact(Option.some.inj hx).symm);have bj:x<P:=(by rw[a0];exact Nat.mod_lt _ nj);have cg:P<=2 ^ 14:=(by rw[ak.out];exact Cn nj G);have d0:wj.cell? ⟨w3,0,none⟩=some (.int .i64 (W:Nat)):=(World.cell?_of_block (a:=⟨w3,0,none⟩) (HK.out.block _ B0.out.lt)).trans (B0.out.cell 0);have u2:IntKind.u64.wrap (x:Int)=(x:Int):=pk;have bt:(Dj W (ls.take j)).length<=400000:=(by rw[Hh,Ba];have h2:min j ls.length*W<=20000*14:=Hv nj G;omega);have D0:=put_any (fun q=>q<wi.heap.size) wj wi wi _ [] v' _ x W (by rw[<-ak.out];exact bj) nj nj z.out;have J:Dj W (ls.take (j+1))=Dj W (ls.take j)++msb x W W:=(by rw[BN,hy,a0,ak.out];exact Xg W _ y);rw[<-J]at D0;have D:=hid D0;clear D0 J bt hx a0 hy bj cg z bC;go_wp2_with fail;refine D.out.mono ?_;rintro e w6 ⟨rfl,v6,aa,U⟩;have aw:=hid aa;have a6:Hid (Kept (fun q=>q<wi.heap.size) wi w6):=HK.out.trans U;clear aa U D HK d0 ck;go_wp2_with fail;go_roundw
     case measure=>exact jq
     case rel=>go_light;exact⟨j+1,v6,nj,iw,aw.out,a6.out⟩
    ·obtain rfl:j=k:=by omega
     have gk:=ig ((j:Int)<j);have M:=ig (j<j);have E:ls.take j=ls:=Bw pu;rw[E]at z;obtain⟨BT,aj⟩:∃BT:Nat->List Bool,BT=fun i=>Dj W ls++Ew 0 ((ls.take i).map (·/ P)):=⟨_,rfl⟩;have ai:=hid aj;have az:BT 0=Dj W ls:=(by rw[aj];show Dj W ls++Ew 0 ((ls.take 0).map (·/ P))=_;rw[List.take_zero,FO,Ew,BX]);have Q:Hid (BT j=FH W ls):=(by show _=_;rw[aj];show Dj W ls++Ew 0 ((ls.take j).map (·/ P))=_;rw[E,ak.out];rfl);rw[<-az]at z;have bg:Hid ((BT 0).length<=300000):=(by show _<=_;rw[az,Hh,HN.out];have h2:j*W<=20000*14:=Hv nj G;omega);have bp:Hid (0=((ls.take 0).map (·/ P)).getLast?.getD 0):=rfl;have Z:=hid z.out;have Y:=hid HK.out;have d1:wj.cell? ⟨w3,1,none⟩=some (.slice AH j cH):=(World.cell?_of_block (a:=⟨w3,1,none⟩) (HK.out.block _ B0.out.lt)).trans (B0.out.cell 1);clear z HK E aj az;go_wp2_with fail;clear d1;go_loopw [13,66] (fun uv iv wr=>∃ (i u:Nat) (v':Value),i<=j/\u<=20000/\iv= .int .i64 i/\uv= .int .i64 u/\Hid (u=((ls.take i).map (·/ P)).getLast?.getD 0)/\Hid (Wr (fun q=>q<wi.heap.size) wr wi wi 234 [] (BT i) v')/\Hid ((BT i).length<=300000+i+u)/\Hid (Kept (fun q=>q<wi.heap.size) wi wr)) (fun _ iv _=>j-(intOf iv).toNat)
     case atStart=>exact⟨0,0,_,nj,nj,rfl,rfl,bp.out,Z.out,bg.out,Y.out⟩
     case round=>
      obtain⟨i,u,v2,hi,hu,rfl,rfl,HU,z,L,HK⟩:=hrel;clear Z bg Y bp;obtain⟨wk,rfl⟩:=ii wr;by_cases af:i<j
      ·have gk:=ic ((i:Int)<j);have M:=ic (i<j);have x0:(0:Int)<=(i:Int):=nj;have x1:(i:Int)<(j:Int):=nj;have bu:Row wk wi AH j 1 (jZ .i64 HS):=RH.out.keep fun p hp=>World.cell?_of_block (HK.out.block p.block hp);obtain⟨b,bN,q,rfl,_,hq,ck⟩:=CH bu b1.out af;obtain⟨x,hx⟩:∃x,ls[i]? =some x:=⟨_,Aw md⟩;have ac:q=x / P:=(by rw[cf.out,BI,hx]at hq;exact(Option.some.inj hq).symm);have ar:=ba.out x (Be hx);have cp:q<=20000:=(by rw[ac];exact AN (Hw _ _) nj);have b7:=Xs P hx b4.out;rw[<-HU.out,<-ac]at b7;have a4:=Zy P hx;have J:=Zl P hx;rw[<-HU.out,<-ac]at J;rw[<-ac]at a4;obtain⟨d,hd⟩:=ii (q-u);rw[<-hd]at J;have us:IntKind.i64.wrap ((q:Int)-(u:Int))=(d:Int):=pi;have bt:(BT i).length<=350000:=(by have:=L.out;omega);have co:d<=20000:=nj;have ae:BT (i+1)=BT i++unary d:=(by rw[ai.out];show _++_=_++_++_;rw[J,AI]);have bd:Hid ((BT (i+1)).length<=300000+(i+1)+q):=(by show _<=_;rw[ae,Ag,Kv];have:=L.out;omega);have D0:=WL (fun q=>q<wi.heap.size) wk wi wi _ [] v2 _ d nj nj z.out;rw[<-ae]at D0;have D:=hid D0;have b5:Hid (q=((ls.take (i+1)).map (·/ P)).getLast?.getD 0):=a4.symm;clear D0 J ae a4 hx ac hq hd z L HU bu ar;go_wp2_with fail;refine D.out.mono ?_;rintro e w6 ⟨rfl,v6,aa,U⟩;have aw:=hid aa;have a6:Hid (Kept (fun q=>q<wi.heap.size) wi w6):=HK.out.trans U;clear aa U D HK ck;go_wp2_with fail;go_roundw
       case measure=>exact jq
       case rel=>go_light;exact⟨i+1,q,v6,nj,nj,iw,iw,b5.out,aw.out,bd.out,a6.out⟩
      ·obtain rfl:i=j:=by omega
       have gk:=ig ((i:Int)<i);have M:=ig (i<i);obtain⟨A3,c3,rfl⟩:=bZ z.out.own;obtain⟨bc,bf,ab⟩:=z.out.rowOf;have au:=z.out.blk.ia 0;have a5:=bytesOf_length (BT i);have D:=hid (TD wk wi A3 _ c3 (bytesOf (BT i)) bc (by have:=L.out;omega) ab au bf);rw[Q.out]at D a5;have bi:Hid ((bytesOf (FH W ls)).length<=100000):=(by show _<=_;rw[a5,<-Q.out];have:=L.out;omega);have ag:Below w w wk:=(N.out.trans (HB.out.mono N.out.size)).trans ((HK.out.below (fun q h=>h)).mono (by have:=HB.out.size;have:=N.out.size;omega));have av:Hid (wk.ownsRow w 5 1 (.slice A2 (gZ i).length c2) (gZ i).length (cZ .u8 (gZ i))):=eZ be.out (fun y hy=>((HB.out.trans ((HK.out.below (fun q h=>h)).mono HB.out.size)).block y (Aj be.out y hy).2));have a1:=hid ag;obtain⟨BO,bl⟩:=ii (bytesOf (FH W ls));rw[<-bl]at D HE bi;clear bc bf ab au a5 z L HU bl ag;go_wp2_with fail;refine D.out.mono ?_;rintro e w8 ⟨v8,rfl,a3,ay⟩;obtain⟨A8,c8,rfl⟩:=bZ a3;have P1:Hid (Part.Ok (⟨A2,c2,gZ i⟩:Part) w8):=nZ (eZ av.out (fun y hy=>ay.block y (Aj av.out y hy).2)) rfl;have P2:Hid (Part.Ok (⟨A8,c8,BO⟩:Part) w8):=nZ a3 rfl;have aq:=hid (uZ ay a1.out.size a1.out);have b6:BV [(⟨A2,c2,gZ i⟩:Part),⟨A8,c8,BO⟩]<=1000000:=(by have:=bi.out;simp[BV];omega);clear a3 ay D av a1;go_wp2_with fail;refine(FZ _ _ 2 [(⟨A2,c2,gZ i⟩:Part),⟨A8,c8,BO⟩] rfl nj b6 (fun p hp=>by rcases AV.1 hp with rfl|hp;exact P1.out.step (aZ (Ae _ _));rcases AV.1 hp with rfl|hp;exact P2.out.step (aZ (Ae _ _));cases hp) (Blk.made _ _ _)).mono ?_;rintro e w9 ⟨v9,rfl,cd,ag⟩;go_wp2_with fail;go_ret2;refine⟨v9,rfl,?_,?_⟩
       ·rw[HE.out];have h:=lZ cd (show w.heap.size<=_ by have:=aq.out.size;simp;omega);simp only[List.flatMap_cons,List.flatMap_nil,List.append_nil]at h;exact h
       ·exact uZ ag (by have:=aq.out.size;simp;omega) (mZ aq.out.size aq.out)
end Ef
namespace Ef
open Go.RowKit Mem Own Canon Huff NumPut
def ED(W:Nat)(bs:List Bool)(n:Nat):List Nat:=(List.range n).map fun i=>yZ bs (i*W) W
theorem Vu(W:Nat)(bs:List Bool)(n:Nat):(ED W bs n).length=n:=by simp[ED]
theorem jQ(W:Nat)(bs:List Bool)(n:Nat):∀x∈ED W bs n,x<2 ^ W:=by intro x hx;obtain⟨i,_,rfl⟩:=Co.1 hx;exact Ha _ _ _
def rowN(bound W:Nat)(bs:List Bool):List Nat->Nat->Nat->List Nat->List Nat×Nat×Int
 | [],at_,_,acc=>(acc,at_,0)
 |x :: xs,at_,high,acc=>
  if unE bs at_≠0 then([],at_,unE bs at_)
  else if acc≠ []/\(high+unV bs at_)*2 ^ W+x<=acc.getLast?.getD 0 then([],at_,2)
  else if bound<=(high+unV bs at_)*2 ^ W+x then([],at_,8)
  else rowN bound W bs xs (unA bs at_) (high+unV bs at_) (acc++ [(high+unV bs at_)*2 ^ W+x])
def Hi(at_:Nat):Nat:=(8-at_ % 8) % 8
def Hf(bound n:Nat)(bs:List Bool):List Nat×Nat×Int:=
 if bs.length<n*efW bound n then([],0,1)
 else if(rowN bound (efW bound n) bs (ED (efW bound n) bs n) (n*efW bound n) 0 []).2.2≠0 then([],0,(rowN bound (efW bound n) bs (ED (efW bound n) bs n) (n*efW bound n) 0 []).2.2)
 else if yZ bs (rowN bound (efW bound n) bs (ED (efW bound n) bs n) (n*efW bound n) 0 []).2.1 (Hi (rowN bound (efW bound n) bs (ED (efW bound n) bs n) (n*efW bound n) 0 []).2.1)≠0 then([],0,2)
 else((rowN bound (efW bound n) bs (ED (efW bound n) bs n) (n*efW bound n) 0 []).1,((rowN bound (efW bound n) bs (ED (efW bound n) bs n) (n*efW bound n) 0 []).2.1+7) / 8,0)
theorem QZ{bs:List Bool}{at_:Nat}(h:at_<=bs.length):unA bs at_<=bs.length:=by unfold unA;split<;>omega
theorem X9(bs:List Bool)(at_:Nat):unV bs at_<=bs.length:=by unfold unV;split<;>omega
theorem Ru{bound W:Nat}{bs:List Bool}:∀ (xs:List Nat) (at_ i:Nat) (j:List Nat),at_<=bs.length->(rowN bound W bs xs at_ i j).2.1<=bs.length
 | [],at_,_,_,h=>h
 |x :: xs,at_,i,j,h=>by
  unfold rowN;split
  ·exact h
  ·split
   ·exact h
   ·split
    ·exact h
    ·exact Ru xs _ _ _ (QZ h)
theorem Ri(h x W:Nat)(hx:x<2 ^ W):(h*2 ^ W |||x)=h*2 ^ W+x:=by rw[Nat.mul_comm,Nat.two_pow_add_eq_or_of_lt hx]
end Ef
namespace Ef
open Go.RowKit Mem Own Canon Huff NumPut
def CP(W:Nat)(bs:List Bool)(n k:Nat):List Value:=(List.range n).map fun i=>Value.int .u16 ((if i<k then yZ bs (i*W) W else 0:Nat):Int)
theorem XF(W:Nat)(bs:List Bool)(n k:Nat):(CP W bs n k).length=n:=by simp[CP]
theorem NK{bs:List Bool}(h:i<n):(CP W bs n k)[i]? =some (.int .u16 ((if i<k then yZ bs (i*W) W else 0:Nat):Int)):=by simp[CP,h]
theorem i4{bs:List Bool}:(CP W bs n k).toArray.setIfInBounds k (.int .u16 (yZ bs (k*W) W:Nat))=(CP W bs n (k+1)).toArray:=by
 apply Array.ext_getElem?
 intro i;rw[FQ];by_cases e:k=i
 ·subst e;by_cases hk:k<n
  ·rw[Ab rfl,Ab (by simpa[CP]using hk)];simp only[List.getElem?_toArray];rw[NK hk,Ab nj]
  ·rw[Ab rfl,Aa (by simpa[CP]using hk)];simp[CP,hk]
 ·rw[Aa e];simp only[List.getElem?_toArray];by_cases hi:i<n
  ·rw[NK hi,NK hi];congr 3;by_cases h2:i<k
   ·rw[Ab h2,Ab nj]
   ·rw[Aa h2,Aa nj]
  ·simp[CP,hi]
theorem RF(W:Nat)(bs:List Bool)(n:Nat):CP W bs n n=cZ .u16 (ED W bs n):=by unfold CP ED cZ;rw[List.map_map];apply Kz;intro i hi;simp only[Function.comp];rw[Ab (FN.1 hi)]
theorem WK(W:Nat)(bs:List Bool)(n:Nat):madeCells #[.int .u16 0] n=(CP W bs n 0).toArray:=by
 apply Array.ext_getElem?
 intro i;by_cases h:i<n
 ·simp[CP,madeCells,h,Nat.mod_one]
 ·simp[CP,madeCells,h]
theorem o7:(prog.info? 25).map (fun i=>(i.zero,i.size,i.bytes))=some (some (.int .u16 0),1,2):=my
theorem oA(n:Nat)(hn:n<=8388608)(w:World):(Instr.makeSlice 227 (.int .i64 (n:Int)) (.int .i64 (n:Int))).run prog w=
 .ok (.slice (some ⟨w,0,none⟩) n n) (w.alloc (.cells (madeCells #[.int .u16 0] n) 25)):=by
 obtain⟨i0,hi,y,i,j⟩:=info_parts o7;have h:=run_make (P:=prog) w 227 25 i0 (.int .u16 0) underlying227 hi y .i64 .i64 (n:Int) (n:Int) nj (Int.le_refl _) qu nj;simp only[Int.toNat_natCast]at h;simpa[i,Value.cells]using h
def Qu(w:World)(lo g:Nat)(bs:List Bool)(n W:Nat)(e:Ending)(w':World):Prop:=
 Kept (fun x=>x<w.heap.size/\x≠g) w w'/\if bs.length<n*W then e= .returned (.tuple #[(), .int .i64 1])
 else ∃v,e= .returned (.tuple #[v,ij])/\w'.ownsRow w 25 1 v n (cZ .u16 (ED W bs n))/\Rd w' lo g bs (n*W)
theorem iD(w:World)(lo g:Nat)(bs:List Bool)(n W:Nat)(hn:n<=20000)(hW:W<=14)(ac:lo<=g)(hR:Rd w lo g bs 0):
 Calls prog 295 #[.pointer (some ⟨g,0,none⟩), .int .i64 (n:Nat), .int .i64 (W:Nat)] w (Qu w lo g bs n W):=by
 have a1:=hR.lt;have hz:bs.length<=800000:=mz
 have D0:=hid (left_any w lo g bs 0 hR);have HR:=hid hR;have av:n*W<=280000:=AN (Hv hn hW) ip;obtain⟨N,hN⟩:=ii (n*W);have ax:IntKind.i64.wrap ((n:Int)*(W:Int))=(N:Int):=by rw[show(n:Int)*(W:Int)=(N:Int) by rw[hN];simp,Ar _ nj]
 have Z:=oA n nj;rw[WK W bs n]at Z;unfold Qu;rw[<-hN]at av ⊢;have HN:=hid hN;rw[Nat.sub_zero]at D0;clear hR hN;by_cases G:bs.length<N
 ·simp only[if_pos G];have g1:=ic ((bs.length:Int)<N)
  have M:=ic (bs.length<N)
  clear G;generalize bs.length=z at *;go_enter func295,ntmps295;go_wp2_with fail;refine D0.out.mono ?_;rintro e w1 ⟨rfl,q,rfl⟩;go_wp2_with fail;go_ret2;exact⟨(Kept.refl _ _).drewN q,rfl⟩
 ·simp only[if_neg G];have g1:=ig ((bs.length:Int)<N)
  have M:=ig (bs.length<N)
  have al:Hid (N<=bs.length):=qG
  obtain⟨z,Y⟩:=ii bs.length;rw[<-Y]at D0 g1 M hz;clear G Y;go_enter func295,ntmps295;go_wp2_with fail;refine D0.out.mono ?_;rintro e w1 ⟨rfl,q,hq⟩;have aq:Hid (Rd w1 lo g bs 0):=by rw[hq];exact HR.out.drewN q
  have an:Hid (Kept (fun x=>x<w.heap.size/\x≠g) w w1):=qr
  have af:w1.heap.size=w.heap.size:=by rw[hq];rfl
  clear hq;go_wp2_with fail;have aj:Blk (w1.alloc (.cells (CP W bs n 0).toArray 25)) w1 25 (CP W bs n 0).toArray:=Blk.made _ _ _;have ag:Hid (Rd (w1.alloc (.cells (CP W bs n 0).toArray 25)) lo g bs 0):=aq.out.keep (fun b hb1 hb2=>Ej w1 _ b nj) ac;have U:Hid (Kept (fun x=>x<w.heap.size/\x≠g) w (w1.alloc (.cells (CP W bs n 0).toArray 25))):=an.out.alloc (fun x hx=>by have:=hx.1;omega) _;generalize w1.alloc (.cells (CP W bs n 0).toArray 25)=w2 at *;have Q:=hid aj;clear aj Z D0;rw[af]at *;clear af;generalize ah:w.heap.size=b at *;have au:=hid ah;clear ah;go_loopw [22] (fun iv wr=>∃k:Nat,k<=n/\iv= .int .i64 k/\Hid (Blk wr b 25 (CP W bs n k).toArray)/\Hid (Rd wr lo g bs (k*W))/\Hid (Kept (fun x=>x<b/\x≠g) w wr)) (fun iv _=>n-(intOf iv).toNat)
  case atStart=>exact⟨0,nj,rfl,Q.out,by rw[Nat.zero_mul];exact ag.out,U.out⟩
  case round=>
   obtain⟨k,hk,rfl,HB,J,HK⟩:=hrel;clear Q ag U;by_cases L:k<n
   ·have gk:=ic ((k:Int)<n);have ay:=ic (k<n);have j:k*W+W<=bs.length:=(by have h1:(k+1)*W<=n*W:=GA W L;rw[Jf]at h1;have:=HN.out;have:=al.out;omega);have D:=Kb wr lo g bs (k*W) W nj J.out;unfold IW IU IS at D;rw[Ab j,Ab j,Ab j]at D;have hv:yZ bs (k*W) W<2 ^ W:=Ha _ _ _;have a0:yZ bs (k*W) W<16384:=EE hv lj;have HS:Hid ((CP W bs n k).toArray.setIfInBounds k (.int .u16 (yZ bs (k*W) W:Nat))=(CP W bs n (k+1)).toArray):=i4;have aa:k*W+W=(k+1)*W:=(by rw[Jf]);rw[aa]at D;generalize yZ bs (k*W) W=y at *;have az:IntKind.u16.wrap (y:Int)=(y:Int):=(by rw[IntKind.wrap_u16];omega);have D:=hid D;have x0:(0:Int)<=(k:Int):=nj;have x1:(k:Int)<(n:Int):=nj;have ab:Hid (∃u,(CP W bs n k).toArray[k]? =some u):=⟨_,by simp only[List.getElem?_toArray];exact NK L⟩;clear j hv aa;go_wp2_with fail;refine D.out.mono ?_;rintro e w3 ⟨rfl,ak,i⟩;have E:Hid (Blk w3 b 25 (CP W bs n k).toArray):=(i.block b nj).trans HB.out;have ai:Hid (Kept (fun x=>x<b/\x≠g) w w3):=HK.out.trans ⟨i.os,i.tape,i.output,i.size,fun x hx=>i.block x hx.2⟩;have ae:=hid ak;obtain⟨u,hu⟩:=ab.out;have c3:w3.cell? ⟨b,k,none⟩=some u:=(E.out.cell k).trans hu;have f3:=E.out.frozen k;clear ak i HB J HK D hu ab;go_wp2_with fail;have ar:Hid (Blk (w3.setCell ⟨b,k,none⟩ (.int .u16 (y:Nat))) b 25 (CP W bs n (k+1)).toArray):=(by rw[<-HS.out];exact E.out.set k _);have am:Hid (Rd (w3.setCell ⟨b,k,none⟩ (.int .u16 (y:Nat))) lo g bs ((k+1)*W)):=ae.out.keep (fun x _ hx2=>AY w3 _ _ x (show x≠b by omega)) ac;have aw:Hid (Kept (fun x=>x<b/\x≠g) w (w3.setCell ⟨b,k,none⟩ (.int .u16 (y:Nat)))):=ai.out.set (p:=⟨b,k,none⟩) (fun h=>absurd h.1 qT) _;clear E ae ai c3 f3;go_roundw
    case measure=>exact jq
    case rel=>go_light;exact⟨k+1,nj,iw,ar.out,am.out,aw.out⟩
   ·obtain rfl:k=n:=by omega
    have gk:=ig ((k:Int)<k);go_wp2_with fail;go_ret2;rw[au.out];refine⟨HK.out,_,rfl,⟨by rw[<-RF,XF];simp, .inr ⟨b,k,_,rfl,Ak _,HB.out,Ak _,rE,by simp[CP],?_⟩⟩,by rw[HN.out];exact J.out⟩;rw[<-RF,CO];exact Bw (by simp[CP])
end Ef
namespace Idx
open Go.RowKit Mem Own Canon Sift
open NumPut Recs Crc Block
open Nums
def toS(ls:List Nat):Str:=ls.map UInt8.ofNat
theorem XJ(ls:List Nat):FT ls=bs (toS ls):=rfl
def nxN(ls:List Nat)(was:Str)(first:Bool)(at_:Nat):Nat:=if first then 0 else Bd was.length ls at_ 0
def nxA(ls:List Nat)(was:Str)(first:Bool)(at_:Nat):Nat:=if first then at_ else AJ was.length ls at_ 0
def nxE(ls:List Nat)(was:Str)(first:Bool)(at_:Nat):Int:=if first then 0 else AM was.length ls at_ 0
def nxS(was:Str)(first:Bool)(n:Nat)(t:Str)(a:Nat)(e:Int):Str×Nat×Int:=
 if e≠0 then([],a,e)else if t= []∨Eo was (was.take n++t)=false∨(first=false/\Bq was (was.take n++t)≠n)then(was.take n++t,a,2)else(was.take n++t,a,0)
def EN(ls:List Nat)(was:Str)(first:Bool)(at_:Nat):Str×Nat×Int:=
 nxS was first (nxN ls was first at_) (toS (EP 25 ls (nxA ls was first at_) (nxE ls was first at_))) (D9 25 ls (nxA ls was first at_) (nxE ls was first at_)) (D7 25 ls (nxA ls was first at_) (nxE ls was first at_))
theorem run_head(s:Str)(n:Nat)(hn:n<=s.length)(w:World):(Instr.slice 9 (.string (bs s)) none (some (.int .i64 (n:Int))) none).run prog w= .ok (.string (bs (s.take n))) w:=by
 have hz:=Eh s;rw[run_slice_string_h w (t:=9) (s:=bs s) (ht:=underlying9) .i64 (n:Int) nj nj,Bu];have e:(bs s).extract 0 n=bs (s.take n):=by refine ByteArray.ext (Array.ext' ?_);rw[Wu,IF,IK,Nat.sub_zero];rfl
 rw[e]
theorem Xl(a b:Str):bs a++bs b=bs (a++b):=by refine ByteArray.ext (Array.ext' ?_);simp[bs]
theorem gA{most:Nat}(h8:∀x∈ls,x<=255)(at_:Nat)(er:Int):(EP most ls at_ er).length<=most:=by
 unfold EP;split
 ·exact CA _
 ·exact(Mq most (ls.drop at_) fun x hx=>h8 x (Ck hx)).1
theorem next_any(w:World)(g base:Nat)(ls:List Nat)(A:Option Addr)(c at_:Nat)(i:Str)(first:Bool)(ah:ls.length<=100000)(h8:∀x∈ls,x<=255)(a6:i.length<=25)(h:Cur w g base ls A c at_ 0):
 Calls prog 245 #[.pointer (some ⟨g,0,none⟩), .string (bs i),first] w fun e w'=>e= .returned (.string (bs (EN ls i first at_).1))/\Cur w' g base ls A c (EN ls i first at_).2.1 (EN ls i first at_).2.2/\Kept (BE g w) w w':=by
 have hz:=Eh i;have a9:=h.blk.lt;obtain⟨R,hR⟩:=ii (EN ls i first at_);rw[<-hR];unfold EN at hR;have D1:=hid (fun wx hx=>Jd wx g base ls A c at_ 0 i.length ah h8 nj hx)
 have hn:nxN ls i first at_<=i.length:=by
  unfold nxN;split
  ·exact CA _
  ·exact Gp h8 _ _
 have D2:=hid (fun wx hx=>Of wx g base ls A c (nxA ls i first at_) (nxE ls i first at_) 25 ah h8 nj hx);have au:=gA (most:=25) h8 (nxA ls i first at_) (nxE ls i first at_);rw[XJ]at D2
 have HN:Hid ((first=true->nxN ls i first at_=0/\nxA ls i first at_=at_/\nxE ls i first at_=0)/\(first=false->nxN ls i first at_=Bd i.length ls at_ 0/\nxA ls i first at_=AJ i.length ls at_ 0/\nxE ls i first at_=AM i.length ls at_ 0)):=by
  constructor
  ·intro hf;subst hf;exact⟨rfl,rfl,rfl⟩
  ·intro hf;subst hf;exact⟨rfl,rfl,rfl⟩
 generalize nxN ls i first at_=n at *;generalize nxA ls i first at_=a1 at *;generalize nxE ls i first at_=e1 at *;obtain⟨t,ht⟩:=ii (toS (EP 25 ls a1 e1));have aw:t.length<=25:=by rw[ht];unfold toS;rw[Bc];exact au
 rw[<-ht]at D2 hR;generalize D9 25 ls a1 e1=a2 at *;generalize D7 25 ls a1 e1=e2 at *;have H:=hid h;unfold nxS at hR;clear h h8 ah ht au;have KH:=fun wx=>run_head i n hn wx;have a4:(i.take n).length<=25:=pj
 obtain⟨s,hs⟩:=ii (i.take n++t);have bc:s.length<=50:=by rw[hs,Ag];omega
 have HS:=hid hs;rw[<-hs]at hR;have ar:Hid (bs (i.take n)++bs t=bs s):=by show _=_;rw[Xl,hs]
 have HH:Hid (n=0->i.take n= []):=fun h=>qo
 have HR:=hid hR;clear hR;have DM:=hid (fun wx=>Tc wx i s);have DA:=hid (fun wx=>VQ wx i s nj nj);have HT:Hid ((t= []->((bs t).toList==({data:=#[] }:ByteArray).toList)=true/\((bs t).toList== [])=true/\(bs t).toList.isEmpty=true/\(bs t).toList= [])/\(t≠ []->((bs t).toList==({data:=#[] }:ByteArray).toList)=false/\((bs t).toList== [])=false/\(bs t).toList.isEmpty=false/\¬(bs t).toList= [])):=⟨fun h=>by rw[h];exact Tw,fun h=>Wk t h⟩;generalize i.take n=hd at *;have aj:=hid (Eh hd);have ae:=hid (Eh t);obtain⟨bb,ak⟩:=ii hd.length;obtain⟨tl,af⟩:=ii t.length;rw[<-ak]at aj a4;rw[<-af]at ae aw;clear hs ak af;have HF:Hid (Gk 0 2=2):=Ab rfl;cases first with
 |true=>
  obtain⟨q1,q2,q3⟩:=HN.out.1 rfl;have ab:Hid (Cur w g base ls A c a1 e1):=by rw[q2,q3];exact H.out
  have aa:Hid (Kept (BE g w) w w):=Kept.refl _ _;have aq:=HH.out q1;have an:s=t:=by rw[HS.out,aq];rfl
  have az:bs t=bs s:=by rw[an]
  rw[az]at HT ae;have z2:=ae.out;clear an;clear q2 q3 HN H D1 ar HH aj aq KH HS;subst q1;go_enter func245,ntmps245;go_wp2_with fail;refine(D2.out _ ab.out).mono ?_;rintro e w2 ⟨rfl,Z,J⟩;have L:Hid (Kept (BE g w) w w2):=aa.out.trans ⟨J.os,J.tape,J.output,J.size,fun x hx=>J.block x ⟨EE hx.1 aa.out.size,hx.2⟩⟩;have DE:=hid (Dt w2 g base ls A c a2 e2 Z);have N:=hid Z;clear Z J ab aa D2;go_wp2_with fail;refine DE.out.mono ?_;rintro e ax ⟨rfl,rfl⟩;by_cases he:e2=0
  ·skip
   subst he;rw[Aa (show ¬((0:Int)≠0) from fun h=>h rfl)]at HR;clear DE;by_cases ht:t= []
   ·obtain⟨b1,b2,b3,b4⟩:=HT.out.1 ht;have z:Hid (R=(s,a2,2)):=(by have h:=HR.out;rw[Ab (.inl ht)]at h;exact h);clear ht HT;have E:=N;have G:=L;go_wp2_with fail;refine(GZ _ g base ls A c a2 0 2 E.out).mono ?_;rintro e w5 ⟨rfl,y,j⟩;rw[HF.out]at y;have U:=hid y;have Q:Hid (Kept (BE g w) w w5):=G.out.trans ⟨j.os,j.tape,j.output,j.size,fun x hx=>j.block x hx.2⟩;clear y j E G;go_wp2_with fail;go_ret;rw[z.out];exact⟨rfl,U.out,Q.out⟩
   ·have ag:=hid ht;obtain⟨b1,b2,b3,b4⟩:=HT.out.2 ht;clear ht HT;obtain⟨M,hM⟩:=ii (Eo i s);rw[<-hM]at DM;have HM:=hid hM;clear hM;by_cases Y:M=false
    ·have z:Hid (R=(s,a2,2)):=ki;subst Y;go_wp2_with fail;refine(DM.out _).mono ?_;rintro e w3 ⟨rfl,rfl⟩;have E:=N;have G:=L;go_wp2_with fail;refine(GZ _ g base ls A c a2 0 2 E.out).mono ?_;rintro e w5 ⟨rfl,y,j⟩;rw[HF.out]at y;have U:=hid y;have Q:Hid (Kept (BE g w) w w5):=G.out.trans ⟨j.os,j.tape,j.output,j.size,fun x hx=>j.block x hx.2⟩;clear y j E G;go_wp2_with fail;go_ret;rw[z.out];exact⟨rfl,U.out,Q.out⟩
    ·have ai:M=true:=io;clear Y;subst ai;go_wp2_with fail;refine(DM.out _).mono ?_;rintro e w3 ⟨rfl,rfl⟩;have z:Hid (R=(s,a2,0)):=(by have h:=HR.out;rw[Aa (fun h=>h.elim ag.out (fun h=>h.elim (by rw[<-HM.out];decide) (fun h=>by cases h.1)))]at h;exact h);go_wp2_with fail;go_ret;rw[z.out];exact⟨rfl,N.out,L.out⟩
  ·have gE:(e2 != 0)=true:=rA;have z:Hid (R=([],a2,e2)):=(by have h:=HR.out;rw[Ab he]at h;exact h);clear he HR HT;go_wp2_with fail;go_ret;rw[z.out];exact⟨rfl,N.out,L.out⟩
 |false=>
  obtain⟨q1,q2,q3⟩:=HN.out.2 rfl;rw[<-q1,<-q2,<-q3]at D1;have z1:=aj.out;have z2:=ae.out;have ba:=ar.out;clear q1 q2 q3 HN HH;go_enter func245,ntmps245;go_wp2_with fail;refine(D1.out _ H.out).mono ?_;rintro e w1 ⟨rfl,am,av⟩;have ab:=hid am;have aa:=hid av;clear am av H D1;go_wp2_with fail;refine(D2.out _ ab.out).mono ?_;rintro e w2 ⟨rfl,Z,J⟩;have L:Hid (Kept (BE g w) w w2):=aa.out.trans ⟨J.os,J.tape,J.output,J.size,fun x hx=>J.block x ⟨EE hx.1 aa.out.size,hx.2⟩⟩;have DE:=hid (Dt w2 g base ls A c a2 e2 Z);have N:=hid Z;clear Z J ab aa D2;go_wp2_with fail;refine DE.out.mono ?_;rintro e ax ⟨rfl,rfl⟩;by_cases he:e2=0
  ·skip
   subst he;rw[Aa (show ¬((0:Int)≠0) from fun h=>h rfl)]at HR;clear DE;by_cases ht:t= []
   ·obtain⟨b1,b2,b3,b4⟩:=HT.out.1 ht;have z:Hid (R=(s,a2,2)):=(by have h:=HR.out;rw[Ab (.inl ht)]at h;exact h);clear ht HT;have E:=N;have G:=L;go_wp2_with fail;refine(GZ _ g base ls A c a2 0 2 E.out).mono ?_;rintro e w5 ⟨rfl,y,j⟩;rw[HF.out]at y;have U:=hid y;have Q:Hid (Kept (BE g w) w w5):=G.out.trans ⟨j.os,j.tape,j.output,j.size,fun x hx=>j.block x hx.2⟩;clear y j E G;go_wp2_with fail;go_ret;rw[z.out];exact⟨rfl,U.out,Q.out⟩
   ·have ag:=hid ht;obtain⟨b1,b2,b3,b4⟩:=HT.out.2 ht;clear ht HT;obtain⟨M,hM⟩:=ii (Eo i s);rw[<-hM]at DM;have HM:=hid hM;clear hM;by_cases Y:M=false
    ·have z:Hid (R=(s,a2,2)):=ki;subst Y;go_wp2_with fail;refine(DM.out _).mono ?_;rintro e w3 ⟨rfl,rfl⟩;have E:=N;have G:=L;go_wp2_with fail;refine(GZ _ g base ls A c a2 0 2 E.out).mono ?_;rintro e w5 ⟨rfl,y,j⟩;rw[HF.out]at y;have U:=hid y;have Q:Hid (Kept (BE g w) w w5):=G.out.trans ⟨j.os,j.tape,j.output,j.size,fun x hx=>j.block x hx.2⟩;clear y j E G;go_wp2_with fail;go_ret;rw[z.out];exact⟨rfl,U.out,Q.out⟩
    ·have ai:M=true:=io;clear Y;subst ai;go_wp2_with fail;refine(DM.out _).mono ?_;rintro e w3 ⟨rfl,rfl⟩;by_cases ac:Bq i s=n
     ·have a5:((Bq i s:Int) != (n:Int))=false:=(by rw[ac];simp);have ay:=hid ac;clear ac;go_wp2_with fail;refine(DA.out _).mono ?_;rintro e w4 ⟨rfl,q,hq⟩;have a3:Hid (Cur w4 g base ls A c a2 0):=(by rw[hq];exact N.out.drewN q);have a0:Hid (Kept (BE g w) w w4):=(by rw[hq];exact L.out.drewN q);have z:Hid (R=(s,a2,0)):=(by have h:=HR.out;rw[Aa (fun h=>h.elim ag.out (fun h=>h.elim (by rw[<-HM.out];decide) (fun h=>h.2 ay.out)))]at h;exact h);clear hq DM DA N L;generalize Bq i s=al at *;go_wp2_with fail;go_ret;rw[z.out];exact⟨rfl,a3.out,a0.out⟩
     ·have a5:((Bq i s:Int) != (n:Int))=true:=qg;have z:Hid (R=(s,a2,2)):=(by have h:=HR.out;rw[Ab (.inr (.inr ⟨trivial,ac⟩))]at h;exact h);clear ac;go_wp2_with fail;refine(DA.out _).mono ?_;rintro e w3 ⟨rfl,q,hq⟩;have E:Hid (Cur w3 g base ls A c a2 0):=(by rw[hq];exact N.out.drewN q);have G:Hid (Kept (BE g w) w w3):=(by rw[hq];exact L.out.drewN q);clear hq DM DA N L;generalize Bq i s=al at *;go_wp2_with fail;refine(GZ _ g base ls A c a2 0 2 E.out).mono ?_;rintro e w5 ⟨rfl,y,j⟩;rw[HF.out]at y;have U:=hid y;have Q:Hid (Kept (BE g w) w w5):=G.out.trans ⟨j.os,j.tape,j.output,j.size,fun x hx=>j.block x hx.2⟩;clear y j E G;go_wp2_with fail;go_ret;rw[z.out];exact⟨rfl,U.out,Q.out⟩
  ·have gE:(e2 != 0)=true:=rA;have z:Hid (R=([],a2,e2)):=(by have h:=HR.out;rw[Ab he]at h;exact h);clear he HR HT;go_wp2_with fail;go_ret;rw[z.out];exact⟨rfl,N.out,L.out⟩
end Idx
namespace Idx
open Go.RowKit Mem Own Canon Sift
open NumPut Recs Crc Block
open Nums
def C8(ls:List Nat):Nat->Bool->Nat->List Str->List Str×Int
 |0,_,at_,acc=>(acc,GL ls at_ 0)
 |k+1,first,at_,acc=>
  if(EN ls (acc.getLast?.getD []) first at_).2.2≠0 then([],(EN ls (acc.getLast?.getD []) first at_).2.2)
  else C8 ls k false (EN ls (acc.getLast?.getD []) first at_).2.1 (acc++ [(EN ls (acc.getLast?.getD []) first at_).1])
theorem mU{a s:Str}(h:Eo a s=true):s.length<=25:=by unfold Eo at h;simp at h;exact h.2.1
theorem fE{i:Str}{first:Bool}{at_:Nat}(h:(EN ls i first at_).2.2=0):(EN ls i first at_).1.length<=25:=by
 unfold EN nxS at *;split at h
 ·rename_i he;exact absurd h he
 ·rename_i he;rw[Aa he];split at h
  ·cases h
  ·rename_i hn;rw[Aa hn]
   have hm:Eo i (List.take (nxN ls i first at_) i++toS (EP 25 ls (nxA ls i first at_) (nxE ls i first at_)))=true:=by
    cases hb:Eo i (List.take (nxN ls i first at_) i++toS (EP 25 ls (nxA ls i first at_) (nxE ls i first at_)))with
    |true=>rfl
    |false=>exact absurd (.inr (.inl hb)) hn
   exact mU hm
structure DAt (w:World) (base gd size:Nat) (ts hs:List Str) (vT vH:Value):Prop where
 blk:Blk w gd 254 #[vT, .int .i64 (size:Nat),vH]
 ot:w.ownsRow base 9 1 vT ts.length (zZ ts)
 oh:w.ownsRow base 9 1 vH hs.length (zZ hs)
 apart:∀y,vT.ownBlock=some y->vH.ownBlock≠some y
 gb:base<=gd
section
variable {w w1 w3 w':World} {base gd size g:Nat} {ts hs:List Str} {vT vH v3:Value} {s:Str}
theorem DAt.keep(h:DAt w base gd size ts hs vT vH)(hk:∀y,base<=y->y<w.heap.size->w'.heap[y]? =w.heap[y]?):DAt w' base gd size ts hs vT vH:=
 ⟨(hk gd h.gb h.blk.lt).trans h.blk,eZ h.ot (fun y hy=>hk y (Aj h.ot y hy).1 (Aj h.ot y hy).2),eZ h.oh (fun y hy=>hk y (Aj h.oh y hy).1 (Aj h.oh y hy).2),h.apart,h.gb⟩
theorem DAt.oth(h:DAt w base gd size ts hs vT vH){cs:Array Value}(hc:Blk w g 243 cs)(hk:Kept (fun y=>y<w.heap.size/\y≠g) w w'):DAt w' base gd size ts hs vT vH:=
 ⟨(hk.block gd ⟨h.blk.lt,Blk.apart h.blk hc ip⟩).trans h.blk,eZ h.ot (fun y hy=>hk.block y ⟨(Aj h.ot y hy).2,fun e=>fZ h.ot hc ip (e ▸ hy)⟩),eZ h.oh (fun y hy=>hk.block y ⟨(Aj h.oh y hy).2,fun e=>fZ h.oh hc ip (e ▸ hy)⟩),h.apart,h.gb⟩
theorem DAt.texts(h:DAt w base gd size ts hs vT vH)(hb:Below w w w1)(hg:w1.grownBy w3 vT.ownBlock)(i:w3.ownsRow base 9 1 v3 (ts.length+1) (zZ ts++ [.string (bs s)]))(j:v3.ownBlock=vT.ownBlock∨v3.ownBlock=some w1.heap.size):
 DAt (w3.setCell ⟨gd,0,none⟩ v3) base gd size (ts++ [s]) hs v3 vH:=by
 have z:vT.ownBlock≠some gd:=fZ h.ot h.blk ip;have b3:=(h.blk.step hb).grown hg (AZ z);have o1:w1.ownsRow base 9 1 vH hs.length (zZ hs):=eZ h.oh (fun y hy=>hb.block y (Aj h.oh y hy).2);have o3:w3.ownsRow base 9 1 vH hs.length (zZ hs):=eZ o1 (fun y hy=>hg.block y (Aj o1 y hy).2 (fun e=>h.apart y e.symm hy));have n3:v3.ownBlock≠some gd:=fZ i b3 ip;have nh:vH.ownBlock≠some gd:=fZ o3 b3 ip;refine⟨by simpa using b3.set 0 v3,?_,eZ o3 (fun y hy=>AY _ _ _ y (fun e=>nh qs)),?_,h.gb⟩
 ·rw[Ag,Oe];exact eZ i (fun y hy=>AY _ _ _ y (fun e=>n3 qs))
 ·intro y hy hh;rcases j with e|e
  ·exact h.apart y (by rw[<-e];exact hy) hh
  ·rw[e]at hy;injection hy with hy;have:=(Aj h.oh y hh).2;have:=hb.size;omega
theorem DAt.heads(h:DAt w base gd size ts hs vT vH)(hb:Below w w w1)(hg:w1.grownBy w3 vH.ownBlock)(i:w3.ownsRow base 9 1 v3 (hs.length+1) (zZ hs++ [.string (bs s)]))(j:v3.ownBlock=vH.ownBlock∨v3.ownBlock=some w1.heap.size):
 DAt (w3.setCell ⟨gd,2,none⟩ v3) base gd size ts (hs++ [s]) vT v3:=by
 have z:vH.ownBlock≠some gd:=fZ h.oh h.blk ip;have b3:=(h.blk.step hb).grown hg (AZ z);have o1:w1.ownsRow base 9 1 vT ts.length (zZ ts):=eZ h.ot (fun y hy=>hb.block y (Aj h.ot y hy).2);have o3:w3.ownsRow base 9 1 vT ts.length (zZ ts):=eZ o1 (fun y hy=>hg.block y (Aj o1 y hy).2 (fun e=>h.apart y hy e.symm));have n3:v3.ownBlock≠some gd:=fZ i b3 ip;have nh:vT.ownBlock≠some gd:=fZ o3 b3 ip;refine⟨by simpa using b3.set 2 v3,eZ o3 (fun y hy=>AY _ _ _ y (fun e=>nh qs)),?_,?_,h.gb⟩
 ·rw[Ag,Oe];exact eZ i (fun y hy=>AY _ _ _ y (fun e=>n3 qs))
 ·intro y hy hh;rcases j with e|e
  ·exact h.apart y hy (by rw[<-e];exact hh)
  ·rw[e]at hh;injection hh with hh;have:=(Aj h.ot y hy).2;have:=hb.size;omega
theorem VA{at_ ob:Nat}{cs:Array Value}(h:Cur w g base j A c at_ er)(i:Blk w ob 254 cs)(k:Nat)(u:Value):Cur (w.setCell ⟨ob,k,none⟩ u) g base j A c at_ er:=
 ⟨h.blk.far (fun e=>Blk.apart i h.blk ip e.symm) _,BR h.own (fZ h.own i ip) _,h.le,h.lo⟩
theorem cur_far{at_:Nat}{v:Value}(h:Cur w g base j A c at_ er)(ho:w.ownsRow i 9 1 v n xs)(hg:w.grownBy w' v.ownBlock):Cur w' g base j A c at_ er:=
 ⟨h.blk.grown hg (AZ (fZ ho h.blk ip)),eZ h.own (fun y hy=>hg.block y (Aj h.own y hy).2 (fun e2=>by
  rcases EY ho h.own ip with e3|e3
  ·rw[e3]at e2;cases e2
  ·exact e3 (by rw[<-e2,hy]))),h.le,h.lo⟩
end
theorem nD:(prog.info? 9).map (fun i=>(i.zero,i.size,i.bytes))=some (some (.string ⟨#[]⟩),1,16):=my
def ID(w:World)(gd:Nat)(vT vH:Value)(y:Nat):Prop:=y<w.heap.size/\y≠gd/\vT.ownBlock≠some y/\vH.ownBlock≠some y
structure FI (w wr:World) (g:Nat) (B:Option Addr) (d:Nat) (ls:List Nat) (base gd size:Nat) (vT vH:Value) (at_:Nat) (t2 h2:List Str) (uT uH:Value):Prop where
 cur:Cur wr g w ls B d at_ 0
 dat:DAt wr base gd size t2 h2 uT uH
 kept:Kept (ID w gd vT vH) w wr
 lt:∀y,y<w.heap.size->uT.ownBlock=some y->vT.ownBlock=some y
 lh:∀y,y<w.heap.size->uH.ownBlock=some y->vH.ownBlock=some y
section
variable {w wr w5:World} {g d base gd size at_:Nat} {B:Option Addr} {ls:List Nat} {vT vH uT uH v5:Value} {t2 h2:List Str} {s:Str} {o:Obj}
theorem FI.next{w2:World}{a2:Nat}(h:FI w wr g B d ls base gd size vT vH at_ t2 h2 uT uH)(hg:w.heap.size<=g)(j:Cur w2 g w ls B d a2 0)(i:Kept (BE g wr) wr w2):FI w w2 g B d ls base gd size vT vH a2 t2 h2 uT uH:=
 have hz:=h.kept.size
 ⟨j,h.dat.oth h.cur.blk i,h.kept.trans ⟨i.os,i.tape,i.output,i.size,fun y hy=>i.block y ⟨mp,fun e=>mp⟩⟩,h.lt,h.lh⟩
theorem FI.texts(h:FI w wr g B d ls base gd size vT vH at_ t2 h2 uT uH)(hg:(wr.alloc o).grownBy w5 uT.ownBlock)(j:w5.ownsRow base 9 1 v5 (t2.length+1) (zZ t2++ [.string (bs s)]))(i:v5.ownBlock=uT.ownBlock∨v5.ownBlock=some (wr.alloc o).heap.size):
 FI w (w5.setCell ⟨gd,0,none⟩ v5) g B d ls base gd size vT vH at_ (t2++ [s]) h2 v5 uH:=by
 have hz:=h.kept.size;have hb:Below wr wr (wr.alloc o):=aZ (Ae _ _);have hD:=h.dat.texts hb hg j i;have b5:Blk w5 gd 254 #[uT, .int .i64 (size:Nat),uH]:=(h.dat.blk.step hb).grown hg (AZ (fZ h.dat.ot h.dat.blk ip));refine⟨VA (cur_far (h.cur.step hb) (h.dat.ot.alloc o) hg) b5 0 _,hD,?_,?_,h.lh⟩
 ·exact((h.kept.alloc (fun y hy=>by have:=hy.1;omega) o).grown hg (fun y hy=>by have:=hy.1;simp;omega) (fun y hy hk=>hk.2.2.1 (h.lt y hk.1 hy))).set (fun hk=>hk.2.1 rfl) _
 ·intro y hy he;rcases i with e|e
  ·exact h.lt y hy (by rw[<-e];exact he)
  ·rw[e]at he;injection he with he;simp at he;omega
theorem FI.heads(h:FI w wr g B d ls base gd size vT vH at_ t2 h2 uT uH)(hg:(wr.alloc o).grownBy w5 uH.ownBlock)(j:w5.ownsRow base 9 1 v5 (h2.length+1) (zZ h2++ [.string (bs s)]))(i:v5.ownBlock=uH.ownBlock∨v5.ownBlock=some (wr.alloc o).heap.size):
 FI w (w5.setCell ⟨gd,2,none⟩ v5) g B d ls base gd size vT vH at_ t2 (h2++ [s]) uT v5:=by
 have hz:=h.kept.size;have hb:Below wr wr (wr.alloc o):=aZ (Ae _ _);have hD:=h.dat.heads hb hg j i;have b5:Blk w5 gd 254 #[uT, .int .i64 (size:Nat),uH]:=(h.dat.blk.step hb).grown hg (AZ (fZ h.dat.oh h.dat.blk ip));refine⟨VA (cur_far (h.cur.step hb) (h.dat.oh.alloc o) hg) b5 2 _,hD,?_,h.lt,?_⟩
 ·exact((h.kept.alloc (fun y hy=>by have:=hy.1;omega) o).grown hg (fun y hy=>by have:=hy.1;simp;omega) (fun y hy hk=>hk.2.2.2 (h.lh y hk.1 hy))).set (fun hk=>hk.2.1 rfl) _
 ·intro y hy he;rcases i with e|e
  ·exact h.lh y hy (by rw[<-e];exact he)
  ·rw[e]at he;injection he with he;simp at he;omega
end
def dY(w:World)(base gd size:Nat)(vT vH:Value)(F:List Str×Int)(e:Ending)(w':World):Prop:=
 e= .returned (.int .i64 F.2)/\Kept (ID w gd vT vH) w w'/\(F.2=0->(∀s∈F.1,s.length<=25)/\∃hs' vT' vH',DAt w' base gd size F.1 hs' vT' vH'/\(∀y,y<w.heap.size->vT'.ownBlock=some y->vT.ownBlock=some y)/\(∀y,y<w.heap.size->vH'.ownBlock=some y->vH.ownBlock=some y)/\hs'.length<=F.1.length)
theorem Vm(w:World)(A:Option Addr)(m c n base gd size:Nat)(ls:List Nat)(ts hs:List Str)(vT vH:Value)(hm:ls.length=m)(bn:m<=100000)(h8:∀x∈ls,x<=255)(a9:A=none->m=0/\c=0)(ha:Row w w A m 1 (jZ .u8 ls))(hn:n<=64)(hD:DAt w base gd size ts hs vT vH)(bm:∀s∈ts,s.length<=25)(cp:ts.length<=1100000)(b1:hs.length<=ts.length):
 Calls prog 196 #[.pointer (some ⟨gd,0,none⟩), .slice A m c, .int .i64 (n:Nat)] w (dY w base gd size vT vH (C8 ls n true 0 ts)):=by
 obtain⟨j0,av,au,aq,aw⟩:=info_parts nD;have D0:=hid (new_any w A m c ls hm bn a9 ha);have bb:ls.length<=100000:=nj
 have H8:=hid h8;have b6:=hid bb;obtain⟨F,hF⟩:=ii (C8 ls n true 0 ts);rw[<-hF];have bp:Hid (C8 ls (n-0) (decide (0=0)) 0 ts=F):=hF.symm;have HD:=hid hD;have cc:=hid bm;have ci:=hD.blk.lt;clear hm a9 ha h8 bn bb hF hD bm;go_enter func196,ntmps196;go_wp2_with fail;refine D0.out.mono ?_;rintro e w1 ⟨g,B,d,rfl,a3,a5⟩;have z1:=a5.size;have a6:=a3.lo;have cj:=a3.blk.lt;have bt:=hid a3;have bC:Hid (DAt w1 base gd size ts hs vT vH):=HD.out.keep (fun y _ hy=>a5.block y hy);have bk:Hid (Kept (ID w gd vT vH) w w1):=Kept.of_below a5 (fun y hy=>hy.1);clear a3 a5 D0 HD;go_wp2_with fail;go_loopw [15] (fun iv wr=>∃ (i at_:Nat) (t2 h2:List Str) (uT uH:Value),i<=n/\iv= .int .i64 i/\t2.length<=1100000+i/\h2.length<=t2.length/\Hid (FI w wr g B d ls base gd size vT vH at_ t2 h2 uT uH)/\Hid (∀s∈t2,s.length<=25)/\Hid (C8 ls (n-i) (decide (i=0)) at_ t2=F)) (fun iv _=>n-(intOf iv).toNat)
 case atStart=>exact⟨0,0,ts,hs,vT,vH,nj,rfl,nj,b1,⟨bt.out,bC.out,bk.out,fun _ _ h=>h,fun _ _ h=>h⟩,cc.out,bp.out⟩
 case round=>
  obtain⟨i,at_,t2,h2,uT,uH,hi,rfl,b9,a4,HI,ar,HG⟩:=hrel;have zr:=HI.out.kept.size;clear bt bC bk bp;by_cases cg:i<n
  ·have gi:=ic ((i:Int)<n);have co:=ic (i<n);have hG:=HG.out;rw[show n-i=(n-(i+1))+1 by omega,C8]at hG;obtain⟨fb,a1⟩:∃fb,fb=decide (i=0):=⟨_,rfl⟩
   have gz:((i:Int)==0)=fb:=by
    rw[a1];by_cases h:i=0
    ·subst h;rfl
    ·rw[AU h,Ga];omega
   obtain⟨ab,am⟩:=ii (t2.getLast?.getD [])
   have bu:ab.length<=25:=by
    rw[am];cases hl:t2.getLast? with
    |none=>exact CA _
    |some y=>exact ar.out y (List.mem_of_getLast? hl)
   rw[<-a1,<-am]at hG;have DN:=hid (fun wx hx=>next_any wx g w ls B d at_ ab fb b6.out H8.out bu hx);have ak:Hid ((EN ls ab fb at_).2.2=0->(EN ls ab fb at_).1.length<=25):=fE;generalize EN ls ab fb at_=S at *;obtain⟨s,a2,e2⟩:=S;simp only at hG DN ak;have aa:=hid hG;have cf:=hid a1;have ba:=hid am;have c0:=HI.out.dat.blk.ia 0;have an:=HI.out.dat.ot;obtain⟨p,hp⟩:=ii t2.length;rw[<-hp]at an b9 a4;obtain⟨Au,cu,rfl⟩:=bZ an;have HP:=hid hp;have a0:=hid an;have ce:=HI.out.dat.blk.lt;have cl:base<=wr.heap.size:=(by have:=HI.out.dat.gb;omega);clear hG HG a1 am hp an bu;by_cases bd:p=0
   ·have gp:=ig ((0:Int)<p);have bj:=ig (0<p);have b0:ab= []:=(by rw[ba.out,GC (HP.out.symm.trans bd)];rfl);subst b0;have bl:Hid (∀wx,Cur wx g w ls B d at_ 0->Calls prog 245 #[.pointer (some ⟨g,0,none⟩), .string ⟨#[]⟩,fb] wx fun e w'=>e= .returned (.string (bs s))/\Cur w' g w ls B d a2 e2/\Kept (BE g wx) wx w'):=DN.out;clear DN bd;go_wp2_with fail;refine(bl.out _ HI.out.cur).mono ?_;rintro e w2 ⟨rfl,ag,z⟩;clear bl;have bg:=HI.out.cur.blk;have z2:=z.size;have ai:=hid (fun he:e2=0=>HI.out.next a6 (he ▸ ag) z);have be:Hid (Kept (ID w gd vT vH) w w2):=HI.out.kept.trans ⟨z.os,z.tape,z.output,z.size,fun y hy=>z.block y ⟨mp,fun e=>mp⟩⟩;have DE:=hid (Dt w2 g w ls B d a2 e2 ag);clear ag z HI c0 bg a0;go_wp2_with fail;refine DE.out.mono ?_;rintro e w3 ⟨rfl,rfl⟩;by_cases he:e2=0
    ·subst he;have J:=ai.out rfl;have ac:=hid J;have hG:=aa.out;rw[Aa (show ¬((0:Int)≠0) from fun h=>h rfl)]at hG;have ay:=hid hG;have af:=hid (ak.out rfl);have k0:=J.dat.blk.ia 0;have Z:=J.dat.ot;rw[<-HP.out]at Z;have Q:=hid Z;have bq:base<=w3.heap.size:=nj;have kf:=J.dat.blk.frozen 0;have kb:=J.dat.blk;have ax:=AZ (fZ J.dat.ot J.dat.blk ip:_≠some gd);have aj:=hid kb;have Y:=hid ax;clear J hG aa ak ai DE Z kf kb ax;cases fb with
     |false=>
      go_wp2_with(at_builtin;refine iZ rfl (.tmp 54) (.tmp 56) 50 rfl base 9 j0 _ 1 16 underlying50 av au aq aw rfl ip _ _ _ nm (Q.out.alloc _) _ 1 1 [.string (bs s)] nm (Src.of_blk (Blk.made_at _ _ _ qT) 1 1 1 rfl) mq rE nj rg ?_;intro v5 w5 j M G;obtain⟨A5,c5,rfl⟩:=bZ j;have b5:=(aj.out.alloc (.cells #[.string (bs s)] 9)).grown M Y.out;have q0:=b5.ia 0;have q1:=b5.frozen 0);have E:=hid (ac.out.texts (s:=s) M nu G);clear j M G b5 q0 q1 ac Q aj Y k0;go_roundw
      case measure=>exact jq
      case rel=>exact jc
     |true=>
      have al:=ac.out.dat.oh;obtain⟨q,hq⟩:=ii h2.length;rw[<-hq]at al a4;obtain⟨Ah,ch,rfl⟩:=bZ al;have HQ:=hid hq;clear al hq;go_wp2_with(first|(at_builtin;refine iZ rfl (.tmp 54) (.tmp 56) 50 rfl base 9 j0 _ 1 16 underlying50 av au aq aw rfl ip _ _ _ nm (Q.out.alloc _) _ 1 1 [.string (bs s)] nm (Src.of_blk (Blk.made_at _ _ _ qT) 1 1 1 rfl) mq rE nj rg ?_;intro v5 w5 j M G;obtain⟨A5,c5,rfl⟩:=bZ j;have b5:=(aj.out.alloc (.cells #[.string (bs s)] 9)).grown M Y.out;have q0:=b5.ia 0;have q1:=b5.frozen 0;have E:=hid (ac.out.texts (s:=s) M nu G);have r0:=E.out.dat.blk.ia 2;have r1:=E.out.dat.blk.frozen 2;have cd:base<=w5.heap.size:=(by have h1:=E.out.dat.gb;have h2:=b5.lt;omega);have U:=E.out.dat.oh;rw[<-HQ.out]at U;have az:=hid U;clear U j M G)|(at_builtin;refine iZ rfl (.tmp 67) (.tmp 69) 50 rfl base 9 j0 _ 1 16 underlying50 av au aq aw rfl ip _ _ _ nm (az.out.alloc _) _ 1 1 [.string (bs s)] nm (Src.of_blk (Blk.made_at _ _ _ qT) 1 1 1 rfl) mq rE nj rg ?_;intro v7 w7 L ah ae;obtain⟨A7,c7,rfl⟩:=bZ L;have b7:=(E.out.dat.blk.alloc (.cells #[.string (bs s)] 9)).grown ah (AZ (fZ E.out.dat.oh E.out.dat.blk ip));have s0:=b7.ia 2;have s1:=b7.frozen 2;have bc:=hid (E.out.heads (s:=s) ah (by rw[<-HQ.out];exact L) ae);clear L ah ae));go_roundw
      case measure=>exact jq
      case rel=>exact jb
    ·have gE:(e2 != 0)=true:=rA;have bf:Hid (F=([],e2)):=(by have h:=aa.out;rw[Ab he]at h;exact h.symm);have Y:=hid he;clear he aa ak ai DE;go_wp2_with fail;go_ret;rw[bf.out];exact⟨rfl,be.out,fun h=>absurd h Y.out⟩
   ·obtain⟨gq,cq,ca,cm,_⟩:=a0.out.form nj;injection ca with q1 q2 q3;subst q1 q3;clear q2;have bh:t2[p-1]? =some ab:=(by have h:=ba.out;rw[List.getLast?_eq_getElem?,<-HP.out,Aw mf]at h;rw[Aw mf,h];rfl);have cy:wr.cell? ⟨gq,p-1,none⟩=some (.string (bs ab)):=(by rw[a0.out.cellAt (p-1) nj];exact Ii bh);obtain⟨p1,bi⟩:=ii (p-1);rw[<-bi]at cy;have sp:IntKind.i64.wrap ((p:Int)-1)=(p1:Int):=pi;have gp:=ic ((0:Int)<p);have bj:=ic (0<p);have b8:(0:Int)<=(p1:Int):=nj;have b4:(p1:Int)<(p:Int):=nj;clear bh bi bd;go_wp2_with fail;go_quiet (fail);go_wp2_with fail;refine(DN.out _ (HI.out.cur.drewN _)).mono ?_;rintro e w2 ⟨rfl,ag,z⟩;clear DN;have z:Kept (BE g wr) wr w2:=⟨z.os,z.tape,z.output,z.size,z.block⟩;have bg:=HI.out.cur.blk;clear cy sp gp bj b8 b4;have z2:=z.size;have ai:=hid (fun he:e2=0=>HI.out.next a6 (he ▸ ag) z);have be:Hid (Kept (ID w gd vT vH) w w2):=HI.out.kept.trans ⟨z.os,z.tape,z.output,z.size,fun y hy=>z.block y ⟨mp,fun e=>mp⟩⟩;have DE:=hid (Dt w2 g w ls B d a2 e2 ag);clear ag z HI c0 bg a0;go_wp2_with fail;refine DE.out.mono ?_;rintro e w3 ⟨rfl,rfl⟩;by_cases he:e2=0
    ·subst he;have J:=ai.out rfl;have ac:=hid J;have hG:=aa.out;rw[Aa (show ¬((0:Int)≠0) from fun h=>h rfl)]at hG;have ay:=hid hG;have af:=hid (ak.out rfl);have k0:=J.dat.blk.ia 0;have Z:=J.dat.ot;rw[<-HP.out]at Z;have Q:=hid Z;have bq:base<=w3.heap.size:=nj;have kf:=J.dat.blk.frozen 0;have kb:=J.dat.blk;have ax:=AZ (fZ J.dat.ot J.dat.blk ip:_≠some gd);have aj:=hid kb;have Y:=hid ax;clear J hG aa ak ai DE Z kf kb ax;cases fb with
     |false=>
      go_wp2_with(at_builtin;refine iZ rfl (.tmp 54) (.tmp 56) 50 rfl base 9 j0 _ 1 16 underlying50 av au aq aw rfl ip _ _ _ nm (Q.out.alloc _) _ 1 1 [.string (bs s)] nm (Src.of_blk (Blk.made_at _ _ _ qT) 1 1 1 rfl) mq rE nj rg ?_;intro v5 w5 j M G;obtain⟨A5,c5,rfl⟩:=bZ j;have b5:=(aj.out.alloc (.cells #[.string (bs s)] 9)).grown M Y.out;have q0:=b5.ia 0;have q1:=b5.frozen 0);have E:=hid (ac.out.texts (s:=s) M nu G);clear j M G b5 q0 q1 ac Q aj Y k0;go_roundw
      case measure=>exact jq
      case rel=>exact jc
     |true=>
      have al:=ac.out.dat.oh;obtain⟨q,hq⟩:=ii h2.length;rw[<-hq]at al a4;obtain⟨Ah,ch,rfl⟩:=bZ al;have HQ:=hid hq;clear al hq;go_wp2_with(first|(at_builtin;refine iZ rfl (.tmp 54) (.tmp 56) 50 rfl base 9 j0 _ 1 16 underlying50 av au aq aw rfl ip _ _ _ nm (Q.out.alloc _) _ 1 1 [.string (bs s)] nm (Src.of_blk (Blk.made_at _ _ _ qT) 1 1 1 rfl) mq rE nj rg ?_;intro v5 w5 j M G;obtain⟨A5,c5,rfl⟩:=bZ j;have b5:=(aj.out.alloc (.cells #[.string (bs s)] 9)).grown M Y.out;have q0:=b5.ia 0;have q1:=b5.frozen 0;have E:=hid (ac.out.texts (s:=s) M nu G);have r0:=E.out.dat.blk.ia 2;have r1:=E.out.dat.blk.frozen 2;have cd:base<=w5.heap.size:=(by have h1:=E.out.dat.gb;have h2:=b5.lt;omega);have U:=E.out.dat.oh;rw[<-HQ.out]at U;have az:=hid U;clear U j M G)|(at_builtin;refine iZ rfl (.tmp 67) (.tmp 69) 50 rfl base 9 j0 _ 1 16 underlying50 av au aq aw rfl ip _ _ _ nm (az.out.alloc _) _ 1 1 [.string (bs s)] nm (Src.of_blk (Blk.made_at _ _ _ qT) 1 1 1 rfl) mq rE nj rg ?_;intro v7 w7 L ah ae;obtain⟨A7,c7,rfl⟩:=bZ L;have b7:=(E.out.dat.blk.alloc (.cells #[.string (bs s)] 9)).grown ah (AZ (fZ E.out.dat.oh E.out.dat.blk ip));have s0:=b7.ia 2;have s1:=b7.frozen 2;have bc:=hid (E.out.heads (s:=s) ah (by rw[<-HQ.out];exact L) ae);clear L ah ae));go_roundw
      case measure=>exact jq
      case rel=>exact jb
    ·have gE:(e2 != 0)=true:=rA;have bf:Hid (F=([],e2)):=(by have h:=aa.out;rw[Ab he]at h;exact h.symm);have Y:=hid he;clear he aa ak ai DE;go_wp2_with fail;go_ret;rw[bf.out];exact⟨rfl,be.out,fun h=>absurd h Y.out⟩
  ·obtain rfl:i=n:=by omega
   have hG:=HG.out;rw[Gf,C8]at hG;have gi:=ig ((i:Int)<i);have DE:=hid (TJ wr g w ls B d at_ 0 HI.out.cur);have aa:=hid hG;clear hG HG;generalize GL ls at_ 0=ee at *;go_wp2_with fail;refine DE.out.mono ?_;rintro e w5 ⟨rfl,b3,N⟩;have bN:Hid (Kept (ID w gd vT vH) w w5):=HI.out.kept.trans ⟨N.os,N.tape,N.output,N.size,fun y hy=>N.block y (fun e=>by have:=hy.1;omega)⟩;have bS:Hid (DAt w5 base gd size t2 h2 uT uH):=HI.out.dat.oth HI.out.cur.blk ⟨N.os,N.tape,N.output,N.size,fun y hy=>N.block y hy.2⟩;clear b3 N;go_wp2_with fail;go_ret;rw[<-aa.out];exact⟨rfl,bN.out,fun _=>⟨ar.out,h2,uT,uH,bS.out,HI.out.lt,HI.out.lh,a4⟩⟩
end Idx
namespace Idx
open Go.RowKit Mem Own Canon Sift
open NumPut Recs Crc Block
open Nums
def szR(n size:Nat)(ls:List Nat):Nat->Nat->Nat->List Nat->List Nat×Nat×Int
 |0,at_,_,acc=>(acc,at_,0)
 |f+1,at_,x,acc=>if n<=x then(acc,at_,0)else if AM 2000 ls at_ 0≠0 then([],AJ 2000 ls at_ 0,AM 2000 ls at_ 0)else szR n size ls f (AJ 2000 ls at_ 0) (x+size) (acc++ [Bd 2000 ls at_ 0])
theorem Q5{size:Nat}{f at_:Nat}{i:List Nat}(h:n<=x):szR n size ls f at_ x i=(i,at_,0):=by
 cases f with
 |zero=>rfl
 |succ f=>exact Ab h
def bkR(size:Nat)(ls:List Nat):List Nat->Nat->Nat->List Str->List Str×Nat×Int
 | [],_,at_,acc=>(acc,at_,0)
 |k :: ks,r,at_,acc=>if Ca ls at_ 0 k≠0 then([],0,Ca ls at_ 0 k)
  else if(C8 (BC ls at_ 0 k) (min size r) true 0 acc).2≠0 then([],0,(C8 (BC ls at_ 0 k) (min size r) true 0 acc).2)
  else bkR size ls ks (r-size) (takeA ls at_ 0 k) (C8 (BC ls at_ 0 k) (min size r) true 0 acc).1
def GF(size:Nat)(ls:List Nat):List Nat×Nat×Int:=
 if AM 1048576 ls 0 0≠0 then([],AJ 1048576 ls 0 0,AM 1048576 ls 0 0)else szR (Bd 1048576 ls 0 0) size ls (Bd 1048576 ls 0 0) (AJ 1048576 ls 0 0) 0 []
def FY(size:Nat)(ls:List Nat):List Str×Nat×Int:=
 if(GF size ls).2.2≠0 then([],0,(GF size ls).2.2)else bkR size ls (GF size ls).1 (Bd 1048576 ls 0 0) (GF size ls).2.1 []
def Vb(w:World)(R:List Str×Nat×Int)(e:Ending)(w':World):Prop:=
 Below w w w'/\(R.2.2≠0->e= .returned (.tuple #[.pointer none,ij,R.2.2]))/\(R.2.2=0->∃gd size hs vT vH,e= .returned (.tuple #[.pointer (some ⟨gd,0,none⟩), .int .i64 (R.2.1:Nat),ij])/\DAt w' w gd size R.1 hs vT vH)
theorem JW{R:List Str×Nat×Int}(hR:R=([],0,er))(he:er≠0)(hb:Below w w w'):Vb w R (.returned (.tuple #[.pointer none,ij,er])) w':=rC
theorem ZC{row:Option Nat}{at_:Nat}{i:List Nat}(h:Cur w g base i A c at_ er)(hg:w.grownBy w' row)(B:Nat)(y:g<B)(j:∀x,(Value.slice A i.length c).ownBlock=some x->x<B)(hr:∀x,row=some x->B<=x):Cur w' g base i A c at_ er:=
 ⟨h.blk.grown hg (fun e=>by have:=hr g e.symm;omega),eZ h.own (fun x hx=>hg.block x (Aj h.own x hx).2 (fun e=>by have:=j x hx;have:=hr x e.symm;omega)),h.le,h.lo⟩
theorem QO{size:Nat}{ts hs:List Str}(hD:DAt w base gd size ts hs uT uH)(hy:y<w.heap.size)(hb:y<base):ID w gd uT uH y:=
 ⟨hy,by have:=hD.gb;omega,fun e=>by have:=(Aj hD.ot y e).1;omega,fun e=>by have:=(Aj hD.oh y e).1;omega⟩
theorem Qn{size:Nat}{ts hs:List Str}{v:Value}(hD:DAt w base gd size ts hs uT uH)(h:w.ownsRow b2 e 1 v n xs)(he:9≠e)(hd:e≠254)(hy:v.ownBlock=some y):ID w gd uT uH y:=
 ⟨(Aj h y hy).2,fun e2=>fZ h hD.blk hd (e2 ▸ hy),fun e2=>by
   rcases EY hD.ot h he with e3|e3
   ·rw[e3]at e2;cases e2
   ·exact e3 (by rw[e2,hy]),fun e2=>by
   rcases EY hD.oh h he with e3|e3
   ·rw[e3]at e2;cases e2
   ·exact e3 (by rw[e2,hy])⟩
theorem U0{size at_:Nat}{ts hs:List Str}(h:Cur w g b2 ls A c at_ er)(hD:DAt w base gd size ts hs uT uH)(hk:Kept (ID w gd uT uH) w w'):Cur w' g b2 ls A c at_ er:=
 ⟨(hk.block g ⟨h.blk.lt,fun e=>Blk.apart hD.blk h.blk ip e.symm,fZ hD.ot h.blk ip,fZ hD.oh h.blk ip⟩).trans h.blk,eZ h.own (fun y hy=>hk.block y (Qn hD h.own ip ip hy)),h.le,h.lo⟩
theorem NW(ls:List Nat):∀ (k:Nat) (first:Bool) (at_:Nat) (i:List Str),(C8 ls k first at_ i).2=0->(C8 ls k first at_ i).1.length=i.length+k
 |0,_,_,_,_=>rfl
 |k+1,first,at_,i,h=>by
  unfold C8 at h ⊢;split at h
  ·rename_i he;exact absurd h he
  ·rename_i he;rw[Aa he];rw[NW ls k false _ _ h,Ag];simp;omega
theorem mH:(prog.info? 3).map (fun i=>(i.zero,i.size,i.bytes))=some (some (.int .i64 0),1,8):=my
theorem lN(w:World)(A:Option Addr)(m c size:Nat)(ls:List Nat)(hm:ls.length=m)(cl:m<=100000)(h8:∀x∈ls,x<=255)(bk:A=none->m=0/\c=0)(ha:Row w w A m 1 (jZ .u8 ls))(de:1<=size)(c9:size<=64):
 Calls prog 118 #[.int .i64 (size:Nat), .slice A m c] w (Vb w (FY size ls)):=by
 obtain⟨j0,cX,cS,cx,c0⟩:=info_parts mH;have D0:=hid (new_any w A m c ls hm cl bk ha);have bi:ls.length<=100000:=nj
 have b6:=hid bi;have H8:=hid h8;have D1:=hid (fun wx g B d h=>Jd wx g w ls B d 0 0 1048576 bi h8 nj h);have c6:=ig ((size:Int)<1)
 have c4:=ig (size<1)
 have c8:=ig ((64:Int)<size)
 have c3:=ig (64<size)
 obtain⟨R,hR⟩:=ii (FY size ls);rw[<-hR];unfold FY at hR;obtain⟨Z,hZ⟩:=ii (GF size ls);rw[<-hZ]at hR;unfold GF at hZ;have c7:Bd 1048576 ls 0 0<=1048576:=Gp h8 0 0;have ce:AM 1048576 ls 0 0≠0->Bd 1048576 ls 0 0=0:=by intro h;unfold AM at h;rw[Aa qT]at h;unfold Bd;rw[Aa qT];exact((Hk 1048576 (ls.drop 0) fun x hx=>h8 x (Ck hx)).2.2.2.1 h).1
 generalize Bd 1048576 ls 0 0=n at *;generalize AJ 1048576 ls 0 0=a0 at *;generalize AM 1048576 ls 0 0=e0 at *;have cd:Hid ((e0=0->∃f,n<=f+0/\szR n size ls f a0 0 []=Z)/\(e0≠0->Z=([],a0,e0))):=⟨fun h=>⟨n,nj,by rw[hZ,Aa rn]⟩,fun h=>by rw[hZ,Ab h]⟩;have HR:=hid hR;have cP:=hid ce;clear hm h8 bk ha hR hZ ce cl bi;go_enter func118,ntmps118;go_wp2_with fail;refine D0.out.mono ?_;rintro e w1 ⟨g,B,d,rfl,bb,b8⟩;have DI:=hid (D1.out w1 g B d bb);have co:=hid b8;have c2:=bb.lo;have da:=bb.blk.lt;have df:=b8.size;have cB:Hid (∀y,(Value.slice B ls.length d).ownBlock=some y->y<w1.heap.size):=fun y hy=>(Aj bb.own y hy).2;clear bb b8 D0 D1;go_wp2_with fail;refine DI.out.mono ?_;rintro e w2 ⟨rfl,cf,ay⟩;have cg:Hid (Below w w w2):=co.out.trans (ay.below fun b h=>⟨nj,nj⟩);have z2:=ay.size;have cr:=hid cf;clear cf ay co DI;go_wp2_with fail;go_loopw [9,10] (fun v xv wr=>∃ (x at_ q:Nat) (er:Int) (G:List Nat),x<=n+64/\q<=x/\xv= .int .i64 x/\Hid (G.length=q)/\Hid (q*size=x)/\Hid (0<q->x<n+size)/\Hid (∀y∈G,y<=2000)/\Hid (Cur wr g w ls B d at_ er)/\Hid (wr.ownsRow w2 3 1 v q (cZ .i64 G))/\Hid (Kept (fun y=>y<w2.heap.size/\y≠g) w2 wr)/\Hid (er=0->∃f,n<=f+x/\szR n size ls f at_ x G=Z)/\Hid (er≠0->Z.2.2=er/\(n=0∨0<q))) (fun _ xv _=>n+64-(intOf xv).toNat)
 case atStart=>exact⟨0,a0,0,e0,[],nj,nj,rfl,rfl,qJ,fun h=>nj,fun y hy=>by simp at hy,cr.out,AE _ _ _ _,Kept.refl _ _,cd.out.1,fun h=>⟨by rw[cd.out.2 h], .inl (cP.out h)⟩⟩
 case round=>
  obtain⟨x,at_,q,er,G,hx,dc,rfl,HQ,bj,b0,HA,HC,HO,HK,HT,HE⟩:=hrel;have zk:=HK.out.size;obtain⟨va,vc,rfl⟩:=bZ HO.out;clear cd cr;by_cases dg:x<n
  ·have g1:=ic ((x:Int)<n);have cu:=ic (x<n);have DE:=hid (Dt wr g w ls B d at_ er HC.out);by_cases he:er=0
   ·subst he;obtain⟨f,hf,hT⟩:=HT.out rfl;obtain⟨f,rfl⟩:∃f',f=f'+1:=⟨f-1,nj⟩;rw[szR,Aa nj]at hT;have D:=hid (fun wx hx=>Jd wx g w ls B d at_ 0 2000 b6.out H8.out nj hx);have ay:Bd 2000 ls at_ 0<=2000:=Gp H8.out _ _;generalize Bd 2000 ls at_ 0=k at *;generalize AJ 2000 ls at_ 0=a2 at *;generalize AM 2000 ls at_ 0=e2 at *;have sx:IntKind.i64.wrap ((x:Int)+(size:Int))=((x+size:Nat):Int):=pi;have N:Hid ((e2=0->∃f',n<=f'+(x+size)/\szR n size ls f' a2 (x+size) (G++ [k])=Z)/\(e2≠0->Z.2.2=e2/\(n=0∨0<q+1))):=⟨fun h=>⟨f,nj,by rw[Aa rn]at hT;exact hT⟩,fun h=>by rw[Ab h]at hT;rw[<-hT];exact⟨rfl, .inr nj⟩⟩
    have cE:Hid (∀y∈G++ [k],y<=2000):=fun y hy=>by
     rcases BQ.1 hy with h|h
     ·exact HA.out y h
     ·rw[Ex]at h;omega
    have ci:Hid ((q+1)*size=x+size):=(by show _=_;rw[Jf,bj.out]);clear hT HT HE hf HA bj b0;go_wp2_with fail;refine DE.out.mono ?_;rintro e w3 ⟨rfl,rfl⟩;go_wp2_with fail;refine(D.out _ HC.out).mono ?_;rintro e w4 ⟨rfl,af,J⟩;have z4:=J.size;have ai:=hid af;have Y:Hid (w4.ownsRow w2 3 1 (.slice va q vc) q (cZ .i64 G)):=eZ HO.out (fun y hy=>J.block y ⟨(Aj HO.out y hy).2,by have:=(Aj HO.out y hy).1;omega⟩);have ca:Hid (Kept (fun y=>y<w2.heap.size/\y≠g) w2 w4):=HK.out.trans ⟨J.os,J.tape,J.output,J.size,fun y hy=>J.block y ⟨mp,hy.2⟩⟩;clear af J HC HO HK DE D;go_wp2_with(at_builtin;refine iZ rfl (.tmp 39) (.tmp 42) 37 rfl w2 3 j0 _ 1 8 underlying37 cX cS cx c0 rfl ip _ _ _ nm (Y.out.alloc _) _ 1 1 [.int .i64 (k:Nat)] nm (Src.of_blk (Blk.made_at _ _ _ qT) 1 1 1 rfl) mq rE nj rg ?_;intro v5 w5 al bt cj;obtain⟨A5,c5,rfl⟩:=bZ al);have bu:=fun(y:Nat) hy=>(Aj Y.out y hy).1;have dd:=ca.out.size;have cm:=ZC (ai.out.step (aZ (o:= .cells #[.int .i64 (k:Nat)] 3) (Ae w4 w4))) bt w2 nj (fun y hy=>by have:=cB.out y hy;omega) bu;have cA:=hid cm;have ct:Hid (Kept (fun y=>y<w2.heap.size/\y≠g) w2 w5):=(ca.out.alloc (fun y hy=>by have:=hy.1;omega) _).grown bt (fun y hy=>by have:=hy.1;simp;omega) (fun y hy hh=>by have:=bu y hy;have:=hh.1;omega);have cF:Hid (w5.ownsRow w2 3 1 (.slice A5 (q+1) c5) (q+1) (cZ .i64 (G++ [k]))):=(by show World.ownsRow _ _ _ _ _ _ _;rw[show cZ .i64 (G++ [k])=cZ .i64 G++ [.int .i64 (k:Nat)] by simp[cZ]];exact al);clear al bt cj bu cm ai Y ca;go_roundw
    case measure=>exact jq
    case rel=>go_light;exact⟨x+size,a2,q+1,e2,G++ [k],nj,nj,iw,by show _=_;rw[Ag,HQ.out];rfl,ci.out,fun _=>nj,cE.out,cA.out,cF.out,ct.out,N.out.1,N.out.2⟩
   ·have gE:(er==0)=false:=rA;have am:Hid ((er=0->Z=(G,at_,0))/\(er≠0->Z.2.2=er)):=⟨fun h=>absurd h he,fun h=>(HE.out h).1⟩;clear he HT HE;go_wp2_with fail;refine DE.out.mono ?_;rintro e w3 ⟨rfl,rfl⟩;clear DE;go_wp2_with fail;have an:Hid ((er=0->R=bkR size ls (G.drop 0) (n-0) at_ [])/\(er≠0->R=([],0,er))):=⟨fun h=>lc,fun h=>ld⟩;have bh:Hid (DAt (w3.alloc (.cells #[(), .int .i64 (size:Nat),()] 254)) w w3 size [] [] (.slice none 0 0) (.slice none 0 0)):=⟨Blk.made _ _ _,AE _ _ _ _,AE _ _ _ _,(fun y h=>by cases h),nj⟩;have ba:Hid (Cur (w3.alloc (.cells #[(), .int .i64 (size:Nat),()] 254)) g w ls B d at_ er):=HC.out.step (aZ (Ae _ _));have az:Hid ((w3.alloc (.cells #[(), .int .i64 (size:Nat),()] 254)).ownsRow w2 3 1 (.slice va q vc) q (cZ .i64 G)):=HO.out.alloc _;have av:Hid (Below w w w3):=cg.out.trans (HK.out.below fun b h=>⟨nj,nj⟩);have a5:Hid (Below w w (w3.alloc (.cells #[(), .int .i64 (size:Nat),()] 254))):=mZ av.out.size av.out;generalize b1:w3.heap.size=gd at *;clear b1 am HR HC HO HK av;go_loopw [49] (fun iv wr=>∃ (i y E:Nat) (j:Int) (ts hs:List Str) (uT uH:Value),i<=q/\iv= .int .i64 i/\Hid (y=i*size)/\ts.length<=y/\hs.length<=ts.length/\Hid (∀s∈ts,s.length<=25)/\Hid (Cur wr g w ls B d E j)/\Hid (DAt wr w gd size ts hs uT uH)/\Hid (wr.ownsRow w2 3 1 (.slice va q vc) q (cZ .i64 G))/\Hid (Below w w wr)/\Hid (j=0->R=bkR size ls (G.drop i) (n-y) E ts)/\Hid (j≠0->R=([],0,j))) (fun iv _=>q-(intOf iv).toNat)
    case atStart=>exact⟨0,0,at_,er,[],[], .slice none 0 0, .slice none 0 0,nj,rfl,qJ,qT,qT,(fun s hs=>by simp at hs),ba.out,bh.out,az.out,a5.out,an.out.1,an.out.2⟩
    case round=>
     obtain⟨i,y,E,j,ts,hs,uT,uH,hi,rfl,HY,cC,b9,cc,HC,HD,HO,HB,HT,HE⟩:=hrel;clear ba bh az a5 an;have zr:=HB.out.size;by_cases bq:i<q
     ·have gi:=ic ((i:Int)<q);have cT:=ic (i<q);have cz:y+size<=x:=jt;have cL:=b0.out nj;obtain⟨k,hk⟩:∃k,G[i]? =some k:=⟨_,Aw mg⟩;have ay:=HA.out k (Be hk);have ab:G.drop i=k :: G.drop (i+1):=(by obtain⟨hl,e⟩:=BW.1 hk;rw[Dg hl,e]);obtain⟨gv,cv,bN,cy,_⟩:=HO.out.form nj;injection bN with q1 q2 q3;subst q1 q3;clear q2;have ck:wr.cell? ⟨gv,i,none⟩=some (.int .i64 (k:Nat)):=py;have cH:(0:Int)<=(i:Int):=nj;have cG:(i:Int)<(q:Int):=nj;have DT:=Kd wr g w ls B d E j k b6.out nj HC.out;unfold Kg at DT;have hT:j=0->R=bkR size ls (k :: G.drop (i+1)) (n-y) E ts:=fun h=>by rw[<-ab];exact HT.out h
      unfold bkR at hT;have a9:j≠0->Ca ls E j k=j:=fun h=>Ab h
      have ak:∀z∈BC ls E j k,z<=255:=fun z hz=>by
       unfold BC at hz;split at hz
       ·simp at hz
       ·split at hz
        ·simp at hz
        ·exact H8.out z (Ck (Dc hz))
      have c1:=Vo ls E j k;have bc:j=0->Ca ls E 0 k=Ca ls E j k/\BC ls E 0 k=BC ls E j k/\takeA ls E 0 k=takeA ls E j k:=fun h=>by subst h;exact⟨rfl,rfl,rfl⟩
      have N:Hid (j=0->R=if Ca ls E j k≠0 then([],0,Ca ls E j k)else if(C8 (BC ls E j k) (min size (n-y)) true 0 ts).2≠0 then([],0,(C8 (BC ls E j k) (min size (n-y)) true 0 ts).2)else bkR size ls (G.drop (i+1)) (n-y-size) (takeA ls E j k) (C8 (BC ls E j k) (min size (n-y)) true 0 ts).1):=fun h=>ng
      have ag:=hid a9;have HK:=hid hk;generalize Ca ls E j k=e3 at *;generalize BC ls E j k=pt at *;generalize takeA ls E j k=a3 at *;have a1:=hid ak;have DT:=hid DT;clear ab hk hT a9 ak bc HT;go_wp2_with fail;refine DT.out.mono ?_;rintro e w4 ⟨v4,rfl,L,af,J⟩;obtain⟨Ap,cp,rfl⟩:=bZ L;have z4:=J.size;have ai:=hid af;have U:Hid (DAt w4 w gd size ts hs uT uH):=HD.out.oth HC.out.blk J;have Y:Hid (w4.ownsRow w2 3 1 (.slice (some ⟨gv,0,none⟩) q vc) q (cZ .i64 G)):=eZ HO.out (fun z hz=>J.block z ⟨(Aj HO.out z hz).2,by have:=(Aj HO.out z hz).1;omega⟩);have aq:Hid (Below w w w4):=HB.out.trans (J.below fun b h=>⟨nj,nj⟩);have ax:=hid L;have DE:=hid (Dt w4 g w ls B d a3 e3 af);clear L af J DT HC HD HO HB ck;go_wp2_with fail;refine DE.out.mono ?_;rintro e w5 ⟨rfl,rfl⟩;by_cases Q:e3=0
      ·subst Q;have aj:j=0:=LX fun h=>h (ag.out h).symm;have hr:=N.out aj;rw[Aa (show ¬((0:Int)≠0) from fun h=>h rfl)]at hr;obtain⟨r,be⟩:=ii (n-y);obtain⟨mn,au⟩:=ii (min size r);have sy:IntKind.i64.wrap ((i:Int)*(size:Int))=(y:Int):=qB;have sr:IntKind.i64.wrap ((n:Int)-(y:Int))=(r:Int):=pi;have cw:min (size:Int) (r:Int)=(mn:Int):=nj;rw[<-be,<-au]at hr;have DF:=Vm w5 Ap pt.length cp mn w gd size pt ts hs uT uH rfl nj a1.out (Jt ax.out) (own_row ax.out) nj U.out cc.out nj b9;have ar:=NW pt mn true 0 ts;generalize C8 pt mn true 0 ts=F at *;obtain⟨f1,f2⟩:=F;simp only at hr ar;have cq:mn<=size:=(by rw[au];exact Nat.min_le_left _ _);have bg:Hid (r-size=n-(y+size)):=qJ;have DF:=hid DF;have ah:=hid hr;clear hr ax N ag a1 au DE be aj;go_wp2_with fail;refine DF.out.mono ?_;rintro e w6 ⟨rfl,aa,aw⟩;have bd:Hid (Below w w w6):=aq.out.trans (aa.below fun b hb=>QO U.out nj hb);by_cases hf:f2=0
       ·subst hf;obtain⟨bf,h6,bl,bn,a4,_,_,a6⟩:=aw rfl;have b5:=hid (U0 ai.out U.out aa);have bS:Hid (w6.ownsRow w2 3 1 (.slice (some ⟨gv,0,none⟩) q vc) q (cZ .i64 G)):=eZ Y.out (fun z hz=>aa.block z (Qn U.out Y.out ip ip hz));have bC:=hid a4;have b7:=hid bf;have b4:=ar rfl;have b3:Hid (R=bkR size ls (G.drop (i+1)) (n-(y+size)) a3 f1):=ku;have bm:Hid (y+size=(i+1)*size):=(by show _=_;rw[Jf,HY.out]);have bp:f1.length<=y+size:=nj;simp only at a6;clear aa aw bf a4 ah DF ai U Y aq b4 ar bg;go_wp2_with fail;go_roundw
        case measure=>exact jq
        case rel=>exact je
       ·have gE:(f2 != 0)=true:=(by simpa using hf);have M:Hid (R=([],0,f2)):=(by have h:=ah.out;rw[Ab hf]at h;exact h);have ac:=hid hf;clear hf ah aw aa DF HE;go_wp2_with fail
        go_ret3
        exact JW M.out ac.out bd.out
      ·have gE:(e3 != 0)=true:=by simpa using Q
       have M:Hid (R=([],0,e3)):=by
        by_cases h:j=0
        ·have h2:=N.out h;rw[Ab Q]at h2;exact h2
        ·rw[ag.out h];exact HE.out h
       have ac:=hid Q;clear Q N HE ag DE;go_wp2_with fail
       go_ret3
       exact JW M.out ac.out aq.out
     ·obtain rfl:i=q:=by omega
      have gi:=ig ((i:Int)<i);have DE:=hid (Dt wr g w ls B d E j HC.out);have DA:=hid (JZ wr g w ls B d E j HC.out);by_cases ae:j=0
      ·subst ae;have M:Hid (R=(ts,E,0)):=ko;clear HT HE;go_wp2_with fail;refine DE.out.mono ?_;rintro e w5 ⟨rfl,rfl⟩;go_wp2_with fail;refine DA.out.mono ?_;rintro e w6 ⟨rfl,rfl⟩;go_wp2_with fail
       go_ret3
       rw[M.out];exact⟨HB.out,fun h=>absurd rfl h,fun _=>⟨gd,size,hs,uT,uH,rfl,HD.out⟩⟩
      ·have gE:(j != 0)=true:=(by simpa using ae);have M:Hid (R=([],0,j)):=HE.out ae;have ac:=hid ae;clear ae HT HE DA;go_wp2_with fail;refine DE.out.mono ?_;rintro e w5 ⟨rfl,rfl⟩;go_wp2_with fail
       go_ret3
       exact JW M.out ac.out HB.out
  ·have g1:=ig ((x:Int)<n);have cu:=ig (x<n);have am:Hid ((er=0->Z=(G,at_,0))/\(er≠0->Z.2.2=er)):=⟨fun h=>by obtain⟨f,_,h2⟩:=HT.out h;rw[Q5 nj]at h2;exact h2.symm,fun h=>(HE.out h).1⟩;clear HT HE;obtain⟨w3,rfl⟩:=ii wr;go_wp2_with fail;have an:Hid ((er=0->R=bkR size ls (G.drop 0) (n-0) at_ [])/\(er≠0->R=([],0,er))):=⟨fun h=>lc,fun h=>ld⟩;have bh:Hid (DAt (w3.alloc (.cells #[(), .int .i64 (size:Nat),()] 254)) w w3 size [] [] (.slice none 0 0) (.slice none 0 0)):=⟨Blk.made _ _ _,AE _ _ _ _,AE _ _ _ _,(fun y h=>by cases h),nj⟩;have ba:Hid (Cur (w3.alloc (.cells #[(), .int .i64 (size:Nat),()] 254)) g w ls B d at_ er):=HC.out.step (aZ (Ae _ _));have az:Hid ((w3.alloc (.cells #[(), .int .i64 (size:Nat),()] 254)).ownsRow w2 3 1 (.slice va q vc) q (cZ .i64 G)):=HO.out.alloc _;have av:Hid (Below w w w3):=cg.out.trans (HK.out.below fun b h=>⟨nj,nj⟩);have a5:Hid (Below w w (w3.alloc (.cells #[(), .int .i64 (size:Nat),()] 254))):=mZ av.out.size av.out;generalize b1:w3.heap.size=gd at *;clear b1 am HR HC HO HK av;go_loopw [49] (fun iv wr=>∃ (i y E:Nat) (j:Int) (ts hs:List Str) (uT uH:Value),i<=q/\iv= .int .i64 i/\Hid (y=i*size)/\ts.length<=y/\hs.length<=ts.length/\Hid (∀s∈ts,s.length<=25)/\Hid (Cur wr g w ls B d E j)/\Hid (DAt wr w gd size ts hs uT uH)/\Hid (wr.ownsRow w2 3 1 (.slice va q vc) q (cZ .i64 G))/\Hid (Below w w wr)/\Hid (j=0->R=bkR size ls (G.drop i) (n-y) E ts)/\Hid (j≠0->R=([],0,j))) (fun iv _=>q-(intOf iv).toNat)
   case atStart=>exact⟨0,0,at_,er,[],[], .slice none 0 0, .slice none 0 0,nj,rfl,qJ,qT,qT,(fun s hs=>by simp at hs),ba.out,bh.out,az.out,a5.out,an.out.1,an.out.2⟩
   case round=>
    obtain⟨i,y,E,j,ts,hs,uT,uH,hi,rfl,HY,cC,b9,cc,HC,HD,HO,HB,HT,HE⟩:=hrel;clear ba bh az a5 an;have zr:=HB.out.size;by_cases bq:i<q
    ·have gi:=ic ((i:Int)<q);have cT:=ic (i<q);have cz:y+size<=x:=jt;have cL:=b0.out nj;obtain⟨k,hk⟩:∃k,G[i]? =some k:=⟨_,Aw mg⟩;have ay:=HA.out k (Be hk);have ab:G.drop i=k :: G.drop (i+1):=(by obtain⟨hl,e⟩:=BW.1 hk;rw[Dg hl,e]);obtain⟨gv,cv,bN,cy,_⟩:=HO.out.form nj;injection bN with q1 q2 q3;subst q1 q3;clear q2;have ck:wr.cell? ⟨gv,i,none⟩=some (.int .i64 (k:Nat)):=py;have cH:(0:Int)<=(i:Int):=nj;have cG:(i:Int)<(q:Int):=nj;have DT:=Kd wr g w ls B d E j k b6.out nj HC.out;unfold Kg at DT;have hT:j=0->R=bkR size ls (k :: G.drop (i+1)) (n-y) E ts:=fun h=>by rw[<-ab];exact HT.out h
     unfold bkR at hT;have a9:j≠0->Ca ls E j k=j:=fun h=>Ab h
     have ak:∀z∈BC ls E j k,z<=255:=fun z hz=>by
      unfold BC at hz;split at hz
      ·simp at hz
      ·split at hz
       ·simp at hz
       ·exact H8.out z (Ck (Dc hz))
     have c1:=Vo ls E j k;have bc:j=0->Ca ls E 0 k=Ca ls E j k/\BC ls E 0 k=BC ls E j k/\takeA ls E 0 k=takeA ls E j k:=fun h=>by subst h;exact⟨rfl,rfl,rfl⟩
     have N:Hid (j=0->R=if Ca ls E j k≠0 then([],0,Ca ls E j k)else if(C8 (BC ls E j k) (min size (n-y)) true 0 ts).2≠0 then([],0,(C8 (BC ls E j k) (min size (n-y)) true 0 ts).2)else bkR size ls (G.drop (i+1)) (n-y-size) (takeA ls E j k) (C8 (BC ls E j k) (min size (n-y)) true 0 ts).1):=fun h=>ng
     have ag:=hid a9;have HK:=hid hk;generalize Ca ls E j k=e3 at *;generalize BC ls E j k=pt at *;generalize takeA ls E j k=a3 at *;have a1:=hid ak;have DT:=hid DT;clear ab hk hT a9 ak bc HT;go_wp2_with fail;refine DT.out.mono ?_;rintro e w4 ⟨v4,rfl,L,af,J⟩;obtain⟨Ap,cp,rfl⟩:=bZ L;have z4:=J.size;have ai:=hid af;have U:Hid (DAt w4 w gd size ts hs uT uH):=HD.out.oth HC.out.blk J;have Y:Hid (w4.ownsRow w2 3 1 (.slice (some ⟨gv,0,none⟩) q vc) q (cZ .i64 G)):=eZ HO.out (fun z hz=>J.block z ⟨(Aj HO.out z hz).2,by have:=(Aj HO.out z hz).1;omega⟩);have aq:Hid (Below w w w4):=HB.out.trans (J.below fun b h=>⟨nj,nj⟩);have ax:=hid L;have DE:=hid (Dt w4 g w ls B d a3 e3 af);clear L af J DT HC HD HO HB ck;go_wp2_with fail;refine DE.out.mono ?_;rintro e w5 ⟨rfl,rfl⟩;by_cases Q:e3=0
     ·subst Q;have aj:j=0:=LX fun h=>h (ag.out h).symm;have hr:=N.out aj;rw[Aa (show ¬((0:Int)≠0) from fun h=>h rfl)]at hr;obtain⟨r,be⟩:=ii (n-y);obtain⟨mn,au⟩:=ii (min size r);have sy:IntKind.i64.wrap ((i:Int)*(size:Int))=(y:Int):=qB;have sr:IntKind.i64.wrap ((n:Int)-(y:Int))=(r:Int):=pi;have cw:min (size:Int) (r:Int)=(mn:Int):=nj;rw[<-be,<-au]at hr;have DF:=Vm w5 Ap pt.length cp mn w gd size pt ts hs uT uH rfl nj a1.out (Jt ax.out) (own_row ax.out) nj U.out cc.out nj b9;have ar:=NW pt mn true 0 ts;generalize C8 pt mn true 0 ts=F at *;obtain⟨f1,f2⟩:=F;simp only at hr ar;have cq:mn<=size:=(by rw[au];exact Nat.min_le_left _ _);have bg:Hid (r-size=n-(y+size)):=qJ;have DF:=hid DF;have ah:=hid hr;clear hr ax N ag a1 au DE be aj;go_wp2_with fail;refine DF.out.mono ?_;rintro e w6 ⟨rfl,aa,aw⟩;have bd:Hid (Below w w w6):=aq.out.trans (aa.below fun b hb=>QO U.out nj hb);by_cases hf:f2=0
      ·subst hf;obtain⟨bf,h6,bl,bn,a4,_,_,a6⟩:=aw rfl;have b5:=hid (U0 ai.out U.out aa);have bS:Hid (w6.ownsRow w2 3 1 (.slice (some ⟨gv,0,none⟩) q vc) q (cZ .i64 G)):=eZ Y.out (fun z hz=>aa.block z (Qn U.out Y.out ip ip hz));have bC:=hid a4;have b7:=hid bf;have b4:=ar rfl;have b3:Hid (R=bkR size ls (G.drop (i+1)) (n-(y+size)) a3 f1):=ku;have bm:Hid (y+size=(i+1)*size):=(by show _=_;rw[Jf,HY.out]);have bp:f1.length<=y+size:=nj;simp only at a6;clear aa aw bf a4 ah DF ai U Y aq b4 ar bg;go_wp2_with fail;go_roundw
       case measure=>exact jq
       case rel=>exact je
      ·have gE:(f2 != 0)=true:=(by simpa using hf);have M:Hid (R=([],0,f2)):=(by have h:=ah.out;rw[Ab hf]at h;exact h);have ac:=hid hf;clear hf ah aw aa DF HE;go_wp2_with fail
       go_ret3
       exact JW M.out ac.out bd.out
     ·have gE:(e3 != 0)=true:=by simpa using Q
      have M:Hid (R=([],0,e3)):=by
       by_cases h:j=0
       ·have h2:=N.out h;rw[Ab Q]at h2;exact h2
       ·rw[ag.out h];exact HE.out h
      have ac:=hid Q;clear Q N HE ag DE;go_wp2_with fail
      go_ret3
      exact JW M.out ac.out aq.out
    ·obtain rfl:i=q:=by omega
     have gi:=ig ((i:Int)<i);have DE:=hid (Dt wr g w ls B d E j HC.out);have DA:=hid (JZ wr g w ls B d E j HC.out);by_cases ae:j=0
     ·subst ae;have M:Hid (R=(ts,E,0)):=ko;clear HT HE;go_wp2_with fail;refine DE.out.mono ?_;rintro e w5 ⟨rfl,rfl⟩;go_wp2_with fail;refine DA.out.mono ?_;rintro e w6 ⟨rfl,rfl⟩;go_wp2_with fail
      go_ret3
      rw[M.out];exact⟨HB.out,fun h=>absurd rfl h,fun _=>⟨gd,size,hs,uT,uH,rfl,HD.out⟩⟩
     ·have gE:(j != 0)=true:=(by simpa using ae);have M:Hid (R=([],0,j)):=HE.out ae;have ac:=hid ae;clear ae HT HE DA;go_wp2_with fail;refine DE.out.mono ?_;rintro e w5 ⟨rfl,rfl⟩;go_wp2_with fail
      go_ret3
      exact JW M.out ac.out HB.out
end Idx
end Go.Proofs.YtfgdoknipbpfhaaGreatDoor
