/- A number's high and  -/
import Derived.Test.YtfgdoknipbpfhaaGreatDoorZTwoBack25
import Derived.Test.YtfgdoknipbpfhaaGreatDoorZTwoBack22
namespace Go.Proofs.YtfgdoknipbpfhaaGreatDoor
open Go.Proofs.Tryz
open Go.Lib (hid)
set_option maxHeartbeats 4000000
set_option maxRecDepth 100000
variable{e t:TypeId}{w w' w1 w3:World}{W b2 base c g gd i k m n s x y:Nat}{hs ls:List Nat}{u uH uT v' v3 vH vL x2:Value}{xs:List Value}{er:Int}{A:Option Addr}
open Go.RowKit
structure Prt (t:TypeId) (w:World) (base g W:Nat) (hs ls:List Nat) (vH vL:Value):Prop where
 blk:Blk w g t #[.int .i64 (W:Nat),vH,vL]
 oh:w.ownsRow base 3 1 vH hs.length (dZ .i64 hs)
 ol:w.ownsRow base 25 1 vL ls.length (dZ .u16 ls)
 gb:base<=g
theorem gJ:(prog.info? 25).map (fun i=>(i.zero,i.size,i.bytes))=some (some (.int .u16 0),1,2):=my
theorem Ui:(prog.info? 3).map (fun i=>(i.zero,i.size,i.bytes))=some (some (.int .i64 0),1,8):=my
theorem Prt.highs(j:3≠t)(z:25≠t)(h:Prt t w base g W hs ls vH vL)(hb:Below w w w1)(hg:w1.grownBy w3 vH.ownBlock)
 (i:w3.ownsRow base 3 1 v3 (hs.length+1) (dZ .i64 hs++ [.int .i64 (x:Nat)])):Prt t (w3.setCell ⟨g,1,none⟩ v3) base g W (hs++ [x]) ls v3 vL:=by
 have E:vH.ownBlock≠some g:=gZ h.oh h.blk j;have b1:=h.blk.step hb;have b3:Blk w3 g t #[.int .i64 (W:Nat),vH,vL]:=b1.grown hg (Ba E);have o1:w1.ownsRow base 25 1 vL ls.length (dZ .u16 ls):=eZ h.ol (fun y hy=>hb.block y (Aj h.ol y hy).2)
 have o3:w3.ownsRow base 25 1 vL ls.length (dZ .u16 ls):=eZ o1 (fun y hy=>hg.block y (Aj o1 y hy).2 (fun e=>by
  rcases FE h.oh h.ol ip with e2|e2
  ·rw[e2]at e;cases e
  ·exact e2 (by rw[<-e,hy])))
 have G:v3.ownBlock≠some g:=gZ i b3 j;have J:vL.ownBlock≠some g:=gZ o3 b3 z;refine⟨by simpa using b3.set 1 v3,?_,eZ o3 (fun y hy=>AW _ _ _ y (fun e=>J rh)),h.gb⟩;have e1:dZ .i64 (hs++ [x])=dZ .i64 hs++ [.int .i64 (x:Nat)]:=su
 rw[Ag,e1];exact eZ i (fun y hy=>AW _ _ _ y (fun e=>G rh))
theorem Prt.lows(z:3≠t)(j:25≠t)(h:Prt t w base g W hs ls vH vL)(hb:Below w w w1)(hg:w1.grownBy w3 vL.ownBlock)
 (i:w3.ownsRow base 25 1 v3 (ls.length+1) (dZ .u16 ls++ [.int .u16 (x:Nat)])):Prt t (w3.setCell ⟨g,2,none⟩ v3) base g W hs (ls++ [x]) vH v3:=by
 have E:vL.ownBlock≠some g:=gZ h.ol h.blk j;have b1:=h.blk.step hb;have b3:Blk w3 g t #[.int .i64 (W:Nat),vH,vL]:=b1.grown hg (Ba E);have o1:w1.ownsRow base 3 1 vH hs.length (dZ .i64 hs):=eZ h.oh (fun y hy=>hb.block y (Aj h.oh y hy).2)
 have o3:w3.ownsRow base 3 1 vH hs.length (dZ .i64 hs):=eZ o1 (fun y hy=>hg.block y (Aj o1 y hy).2 (fun e=>by
  rcases FE h.ol h.oh ip with e2|e2
  ·rw[e2]at e;cases e
  ·exact e2 (by rw[<-e,hy])))
 have G:v3.ownBlock≠some g:=gZ i b3 j;have J:vH.ownBlock≠some g:=gZ o3 b3 z;refine⟨by simpa using b3.set 2 v3,eZ o3 (fun y hy=>AW _ _ _ y (fun e=>J rh)),?_,h.gb⟩;have e1:dZ .u16 (ls++ [x])=dZ .u16 ls++ [.int .u16 (x:Nat)]:=su
 rw[Ag,e1];exact eZ i (fun y hy=>AW _ _ _ y (fun e=>G rh))
theorem fF:∀n:Int,0<=n->n<2 ^ 20->IntKind.i64.wrap n=n:=fun n h0 h1=>Ar _ nj
theorem pI(x W:Nat)(hx:x<=100000)(hW:W<=14):IntKind.u16.wrap (bits .and .i64 (x:Int) (IntKind.i64.wrap (IntKind.i64.wrap (2 ^ W)-1)))=((x % 2 ^ W:Nat):Int):=by
 have h1:2 ^ W<=2 ^ 14:=Cm nj hW;have h0:1<=2 ^ W:=Nat.one_le_two_pow;have e0:((2:Int) ^ W)=((2 ^ W:Nat):Int):=rX
 have h:x % 2 ^ W<2 ^ W:=Nat.mod_lt _ nj;rw[e0,Ar ((2 ^ W:Nat):Int) nj];have e1:(((2 ^ W:Nat):Int)-1)=((2 ^ W-1:Nat):Int):=nj
 rw[e1,Ar ((2 ^ W-1:Nat):Int) nj,(bits_nat .i64 20 ip fF x (2 ^ W-1) nj nj).1,Ow,IntKind.wrap_u16];omega
theorem T7(t:TypeId)(Z:3≠t)(ab:25≠t)(w:World)(base g W:Nat)(hs ls:List Nat)(vH vL:Value)(x:Nat)(hx:x<=100000)(hW:W<=14)(hh:hs.length<=100000)(hl:ls.length<=100000)(hP:Prt t w base g W hs ls vH vL):
 Calls prog 174 #[.pointer (some ⟨g,0,none⟩), .int .i64 (x:Nat)] w fun e w'=>e= .returned (.tuple #[])/\∃vH' vL',Prt t w' base g W (hs++ [x / 2 ^ W]) (ls++ [x % 2 ^ W]) vH' vL'/\Below base w w'/\Kept (fun y=>y<w.heap.size/\y≠g/\vH.ownBlock≠some y/\vL.ownBlock≠some y) w w'/\(∀y,y<w.heap.size->vL'.ownBlock=some y->vL.ownBlock=some y):=by
 obtain⟨j0,a3,a0,az,ax⟩:=info_parts Ui;obtain⟨k0,a5,ak,av,au⟩:=info_parts gJ;have c0:=hP.blk.ia 0;have c1:=hP.blk.ia 1;have c2:=hP.blk.ia 2;have f1:=hP.blk.frozen 1;have f2:=hP.blk.frozen 2;have an:=hP.blk.lt;have ai:=hP.gb;have L:=hP.oh;have ae:some g≠vH.ownBlock:=Ba (gZ hP.oh hP.blk Z);obtain⟨p,hp⟩:=ii hs.length;obtain⟨q,hq⟩:=ii ls.length;rw[<-hp]at L hh;obtain⟨AH,cH,rfl⟩:=bZ L;have HP:=hid hP;have ar:=hid hp;have aa:=hid hq;have aq:=hid hl;obtain⟨hi,N⟩:=ii (x / 2 ^ W);obtain⟨lo,Q⟩:=ii (x % 2 ^ W);rw[<-N,<-Q];have eh:(x:Int) / 2 ^ W=(hi:Int):=by rw[N];simp
 have el:IntKind.u16.wrap (bits .and .i64 (x:Int) (IntKind.i64.wrap (IntKind.i64.wrap (2 ^ W)-1)))=(lo:Int):=by rw[Q];exact pI x W hx hW
 have a8:=hid N;have ba:=hid Q;clear hP hp hq N Q hl;go_enter func174,ntmps174;go_upto_region 0 with fail;go_region_law((refine step_append_lies _ nm _ _ _ nm base 3 j0 _ 1 8 underlying37 a3 a0 az ax rfl nj (.slice AH p cH) p (dZ .i64 hs) nm ((L.alloc _).drew) ⟨w,0,none⟩ 1 1 [.int .i64 (hi:Nat)] nm nm (World.news_of_block (cs:=#[.int .i64 (hi:Nat)]) (t:=3) (fr:=(0,0)) (heap_alloc_new w _)) mu nj sS nj sj (w.heap.size+1) rX ?_;intro g3 z w3 M j al ac;have gb:w3.heap[g]? =w.heap[g]? :=(j.block g sj ae).trans (EA w _ g an);have p0:=(World.cell?_of_block (a:=⟨g,0,none⟩) gb).trans c0;have p1:=(World.cell?_of_block (a:=⟨g,1,none⟩) gb).trans c1;have p2:=(World.cell?_of_block (a:=⟨g,2,none⟩) gb).trans c2;have q1:=(World.frozen?_of_block (a:=⟨g,1,none⟩) gb).trans f1))
 all_goals
  have E:Prt t (w3.setCell ⟨g,1,none⟩ (.slice (some ⟨g3,0,none⟩) (p+1) z)) base g W (hs++ [hi]) ls (.slice (some ⟨g3,0,none⟩) (p+1) z) vL:=HP.out.highs Z ab (aZ (Ae _ w)).drew j (by rw[<-ar.out];exact M);have aj:Below base w (w3.setCell ⟨g,1,none⟩ (.slice (some ⟨g3,0,none⟩) (p+1) z)):=(((Ae base w).alloc nj _).drew.grown j sj (fun y hy=>(Aj L y hy).1)).setCell (p:=⟨g,1,none⟩) ai _;have af:Hid (Kept (fun y=>y<w.heap.size/\y≠g/\(Value.slice AH p cH).ownBlock≠some y/\vL.ownBlock≠some y) w (w3.setCell ⟨g,1,none⟩ (.slice (some ⟨g3,0,none⟩) (p+1) z))):=((((Kept.refl _ w).alloc (fun y hy=>hy.1) _).drew.grown j (fun y hy=>by have:=hy.1;simp;omega) (fun y hy hk=>hk.2.2.1 hy))).set (fun h=>h.2.1 rfl) _;generalize w3.setCell ⟨g,1,none⟩ (.slice (some ⟨g3,0,none⟩) (p+1) z)=wb at *;clear M j al ac gb p0 p1 p2 q1;have am:=hid aj;have d0:=E.blk.ia 0;have d2:=E.blk.ia 2;have e2:=E.blk.frozen 2;have ah:=E.blk.lt;have G:=E.ol;have ag:some g≠vL.ownBlock:=Ba (gZ E.ol E.blk ab);rw[<-aa.out]at G;obtain⟨AL,cL,rfl⟩:=bZ G;have a4:=hid E;have a9:q<=100000:=by rw[aa.out];exact aq.out
  clear E aj c0 c1 c2 f1 f2 ae L;go_upto_region 1 with fail;go_region_law((refine step_append_lies _ nm _ _ _ nm base 25 k0 _ 1 2 underlying227 a5 ak av au rfl nj (.slice AL q cL) q (dZ .u16 ls) nm ((G.alloc _).drew) ⟨wb,0,none⟩ 1 1 [.int .u16 (lo:Nat)] nm nm (World.news_of_block (cs:=#[.int .u16 (lo:Nat)]) (t:=25) (fr:=(0,0)) (heap_alloc_new wb _)) mu nj sS nj sj (wb.heap.size+1) rX ?_;intro g4 J w4 Y i U a7;have gb:w4.heap[g]? =wb.heap[g]? :=(i.block g sj ag).trans (EA wb _ g ah);have p0:=(World.cell?_of_block (a:=⟨g,0,none⟩) gb).trans d0;have p2:=(World.cell?_of_block (a:=⟨g,2,none⟩) gb).trans d2;have q2:=(World.frozen?_of_block (a:=⟨g,2,none⟩) gb).trans e2))
  all_goals
   have ay:Prt t (w4.setCell ⟨g,2,none⟩ (.slice (some ⟨g4,0,none⟩) (q+1) J)) base g W (hs++ [hi]) (ls++ [lo]) (.slice (some ⟨g3,0,none⟩) (p+1) z) (.slice (some ⟨g4,0,none⟩) (q+1) J):=a4.out.lows Z ab (aZ (Ae _ wb)).drew i (by rw[<-aa.out];exact Y);have a1:Below base w (w4.setCell ⟨g,2,none⟩ (.slice (some ⟨g4,0,none⟩) (q+1) J)):=((am.out.alloc nj _).drew.grown i sj (fun y hy=>(Aj G y hy).1)).setCell (p:=⟨g,2,none⟩) ai _;have zz:=af.out.size;have a6:Hid (Kept (fun y=>y<w.heap.size/\y≠g/\(Value.slice AH p cH).ownBlock≠some y/\(Value.slice AL q cL).ownBlock≠some y) w (w4.setCell ⟨g,2,none⟩ (.slice (some ⟨g4,0,none⟩) (q+1) J))):=(((af.out.alloc (fun y hy=>by have:=hy.1;omega) _).drew.grown i (fun y hy=>by have:=hy.1;simp;omega) (fun y hy hk=>hk.2.2.2 hy))).set (fun h=>h.2.1 rfl) _
   have aw:Hid (∀y,y<w.heap.size->(Value.slice (some ⟨g4,0,none⟩) (q+1) J).ownBlock=some y->(Value.slice AL q cL).ownBlock=some y):=fun y hy he=>by
    rcases U with h|h
    ·rw[h];exact he
    ·have e:g4=y:=(by injection he);omega
   clear U;go_wp2_with fail
   go_end0
   exact⟨rfl,_,_,ay,a1,a6.out,aw.out⟩
theorem oK(t:TypeId)(i:3≠t)(h:25≠t)(w:World)(base g W:Nat)(hs ls:List Nat)(vH vL:Value)(x:Nat)(hx:x<=100000)(hW:W<=14)(hh:hs.length<=100000)(hl:ls.length<=100000)(hP:Prt t w base g W hs ls vH vL):
 Calls prog 174 #[.pointer (some ⟨g,0,none⟩), .int .i64 (x:Nat)] w fun e w'=>e= .returned (.tuple #[])/\∃vH' vL',Prt t w' base g W (hs++ [x / 2 ^ W]) (ls++ [x % 2 ^ W]) vH' vL'/\Below base w w':=
 (T7 t i h w base g W hs ls vH vL x hx hW hh hl hP).mono fun _ _ ⟨h1,vH',vL',h2,h3,_⟩=>⟨h1,vH',vL',h2,h3⟩
theorem Ag8{e':TypeId}{s' n':Nat}{v:Value}{j:List Value}(h:w.ownsRow base e s v n xs)(h2:w.ownsRow i e' s' v' n' j)(z:e'≠e)(hg:w.grownBy w' v'.ownBlock):w'.ownsRow base e s v n xs:=
 eZ h fun y hy=>hg.block y (Aj h y hy).2 fun e2=>by
  rcases FE h2 h z with e3|e3
  ·rw[e3]at e2;cases e2
  ·exact e3 (by rw[<-e2,hy])
theorem TO{P:Program}{j:Array Oper}{o:Oper}{a:Act}{K:Act->World->Prop}{Q:Exit->Act->World->Prop}{E:Prop}(y:o.guard=none)(s x:Operand)(t:TypeId)
 (ho:o.op= .call {callee:= .builtin .append,args:=#[s,x],argTypes:=#[t,t] })
 (base:Nat)(e:TypeId)(i:TypeInfo)(z:Value)(size bytes:Nat)(ht:P.underlying t=some (.slice e))(hi:P.info? e=some i)(hz:i.zero=some z)
 (hsize:i.size=size)(hby:i.bytes=bytes)(hzs:z.cells.size=size)(hsz:0<size)
 (v:Value)(n:Nat)(xs:List Value)(hs:a.eval s=v)(hown:w.ownsRow base e size v n xs)
 (A:Option Addr)(m c:Nat)(news:List Value)(hx:a.eval x= .slice A m c)(hsrc:Src w A m c size news)(h1:∀u∈news,u.oneCell'=true)
 (h63:n+m<=maxLen)(hbytes:(n+m)*bytes<=140737488355328)(hbase:base<=w.heap.size)
 (h:∀A' c' w',w'.ownsRow base e size (.slice A' (n+m) c') (n+m) (xs++news)->w.grownBy w' v.ownBlock->((Value.slice A' (n+m) c').ownBlock=v.ownBlock∨(Value.slice A' (n+m) c').ownBlock=some w.heap.size)->K (a.put o.dst (.slice A' (n+m) c')) w'):
 if Region.wanted o (yielded j a.tmps)=true then Oper.wp P o a w K Q else E:=by
 have hw:Region.wanted o (yielded j a.tmps)=true:=by simp[Region.wanted,y]
 rw[Ab hw];obtain⟨v',w',hr,h2,h3,h4⟩:=J3 (P:=P) w base t o.type e i z size bytes ht hi hz hsize hby hzs hsz v n xs hown A m c news hsrc h1 h63 hbytes hbase;obtain⟨A',c',rfl⟩:=bZ h2;unfold Oper.wp execOp;simp only[ho,resolve,invoke,builtin,Sem.run_bind,Sem.run_pure,Result.andThen_ok,List.map_toArray,List.map_cons,List.map_nil,hs,hx,hr];exact h A' c' w' h2 h3 h4
def Fe(rec:Nat)(ls:List Nat):Nat->Nat->Int->List Nat->List Nat->List Nat×List Nat×Nat×Int
 |0,at_,er,cs,ss=>(cs,ss,at_,er)
 |k+1,at_,er,cs,ss=>if er≠0 then(cs,ss,at_,er)else Fe rec ls k (uZ 8388608 ls (uZ rec ls at_ 0) (wZ rec ls at_ 0)) (wZ 8388608 ls (uZ rec ls at_ 0) (wZ rec ls at_ 0)) (cs++ [AV rec ls at_ 0]) (ss++ [AV 8388608 ls (uZ rec ls at_ 0) (wZ rec ls at_ 0)])
theorem nN{rec:Nat}{at_:Nat}{cs ss:List Nat}(h:er≠0):Fe rec ls k at_ er cs ss=(cs,ss,at_,er):=by
 cases k with
 |zero=>rfl
 |succ k=>exact Ab h
def Db(ls:List Nat):Nat:=AV 20000 ls 0 0
def Gu(ls:List Nat):Nat:=AV (Db ls) ls (uZ 20000 ls 0 0) (wZ 20000 ls 0 0)
def GQ(ls:List Nat):List Nat×List Nat×Nat×Int:=Fe (Db ls) ls (Gu ls) (uZ (Db ls) ls (uZ 20000 ls 0 0) (wZ 20000 ls 0 0)) (wZ (Db ls) ls (uZ 20000 ls 0 0) (wZ 20000 ls 0 0)) [] []
def BM(ls:List Nat):List Nat:=(GQ ls).1
def Cc(ls:List Nat):List Nat:=(GQ ls).2.1
def dP(ls:List Nat):Nat:=AV 8388608 ls (GQ ls).2.2.1 (GQ ls).2.2.2
def dPA(ls:List Nat):Nat:=uZ 8388608 ls (GQ ls).2.2.1 (GQ ls).2.2.2
def dPE(ls:List Nat):Int:=wZ 8388608 ls (GQ ls).2.2.1 (GQ ls).2.2.2
def dQ(ls:List Nat):Nat:=AV 8388608 ls (dPA ls) (dPE ls)
def dE(ls:List Nat):Int:=Hh ls (uZ 8388608 ls (dPA ls) (dPE ls)) (wZ 8388608 ls (dPA ls) (dPE ls))
def Gb(room:Nat)(ls:List Nat):Int:=if dE ls≠0 then dE ls else if 0∈BM ls∨(BM ls).sum≠Db ls∨(Cc ls).sum+dP ls+dQ ls≠room then 2 else 0
theorem Ms{rec:Nat}{ls:List Nat}:∀ (k at_:Nat) (er:Int) (cs ss:List Nat),cs.length=ss.length->(Fe rec ls k at_ er cs ss).1.length=(Fe rec ls k at_ er cs ss).2.1.length/\(Fe rec ls k at_ er cs ss).1.length<=cs.length+k/\((Fe rec ls k at_ er cs ss).2.2.2=0->(Fe rec ls k at_ er cs ss).1.length=cs.length+k)
 |0,_,_,_,_,h=>⟨h,Ak _,fun _=>rfl⟩
 |k+1,at_,er,cs,ss,h=>by
  unfold Fe;split
  ·rename_i he;exact⟨h,Nat.le_add_right _ _,fun h2=>absurd h2 he⟩
  ·obtain⟨h1,h2,h3⟩:=Ms (rec:=rec) (ls:=ls) k (uZ 8388608 ls (uZ rec ls at_ 0) (wZ rec ls at_ 0)) (wZ 8388608 ls (uZ rec ls at_ 0) (wZ rec ls at_ 0)) (cs++ [AV rec ls at_ 0]) (ss++ [AV 8388608 ls (uZ rec ls at_ 0) (wZ rec ls at_ 0)]) (by rw[Ag,Ag,h];rfl);rw[Ag]at h2 h3;exact⟨h1,by simp at h2;omega,fun h4=>by have:=h3 h4;simp at this;omega⟩
theorem PK{rec:Nat}{ls:List Nat}(h8:∀x∈ls,x<=255):∀ (k at_:Nat) (er:Int) (cs ss:List Nat),(∀x∈cs,x<=rec)->(∀x∈ss,x<=8388608)->(∀x∈(Fe rec ls k at_ er cs ss).1,x<=rec)/\(∀x∈(Fe rec ls k at_ er cs ss).2.1,x<=8388608)
 |0,_,_,_,_,h,h2=>⟨h,h2⟩
 |k+1,at_,er,cs,ss,h,h2=>by
  unfold Fe;split
  ·exact⟨h,h2⟩
  ·refine PK h8 k _ _ _ _ (fun x hx=> ?_) (fun x hx=> ?_)
   ·rcases BJ.1 hx with h'|h'
    ·exact h x h'
    ·rw[Eo]at h';rw[h'];exact zY h8 _ _
   ·rcases BJ.1 hx with h|h'
    ·exact h2 x h
    ·rw[Eo]at h';rw[h'];exact zY h8 _ _
theorem K8:∀ (l:List Nat) (m:Nat),(∀x∈l,x<=m)->l.sum<=l.length*m
 | [],_,_=>rX
 |x :: l,m,h=>by rw[GC,AD,JB];have h1:=K8 l m (fun y hy=>h y (Cn _ hy));have h2:=h x (CP ..);omega
structure DrI (w wr:World) (gb:Nat) (t:TypeId) (rest:List Value) (g:Nat) (ls:List Nat) (B:Option Addr) (d at_:Nat) (er:Int) (C S:List Nat) (vc vs:Value):Prop where
 cur:Cur wr g w ls B d at_ er
 blk:Blk wr gb t (vc :: vs :: rest).toArray
 oc:wr.ownsRow w 3 1 vc C.length (dZ .i64 C)
 os:wr.ownsRow w 3 1 vs S.length (dZ .i64 S)
 ap:∀y,vc.ownBlock=some y->vs.ownBlock≠some y
 kept:Kept (fun x=>x<w.heap.size/\x≠gb) w wr
 lt:gb<w.heap.size
 ti:3≠t
 tu:5≠t
section
variable {w wr w1 w2 w3:World} {gb:Nat} {t:TypeId} {rest:List Value} {g:Nat} {ls:List Nat} {B:Option Addr} {d at_ a2:Nat} {er e2:Int} {C S:List Nat} {vc vs v3:Value} {x:Nat}
theorem DrI.call(h:DrI w wr gb t rest g ls B d at_ er C S vc vs)(j:Cur w2 g w ls B d a2 e2)(i:Kept (Bh g wr) wr w2):DrI w w2 gb t rest g ls B d a2 e2 C S vc vs:=
 have hz:=h.kept.size;have E:=h.cur.lo;have z:=h.lt
 ⟨j,(i.block gb ⟨h.blk.lt,nj⟩).trans h.blk,eZ h.oc (fun y hy=>i.block y ⟨(Aj h.oc y hy).2,fun e=>gZ h.oc h.cur.blk ip (e ▸ hy)⟩),eZ h.os (fun y hy=>i.block y ⟨(Aj h.os y hy).2,fun e=>gZ h.os h.cur.blk ip (e ▸ hy)⟩),h.ap,h.kept.trans ⟨i.os,i.tape,i.output,i.size,fun y hy=>i.block y ⟨mo,mo⟩⟩,h.lt,h.ti,h.tu⟩
theorem DrI.cs(h:DrI w wr gb t rest g ls B d at_ er C S vc vs):wr.cell? ⟨gb,0,none⟩=some vc/\wr.cell? ⟨gb,1,none⟩=some vs:=by have h0:=h.blk.ia 0;have h1:=h.blk.ia 1;exact⟨h0,h1⟩
theorem DrI.third{x2:Value}(h:DrI w wr gb t (x2 :: rest) g ls B d at_ er C S vc vs){u:Value}:DrI w (wr.setCell ⟨gb,2,none⟩ u) gb t (u :: rest) g ls B d at_ er C S vc vs:=by have j:=h.cur.lo;have i:=h.lt;exact⟨⟨h.cur.blk.far rV _,BK h.cur.own (gZ h.cur.own h.blk h.tu) _,h.cur.le,h.cur.lo⟩,by simpa using h.blk.set 2 u,BK h.oc (gZ h.oc h.blk h.ti) _,BK h.os (gZ h.os h.blk h.ti) _,h.ap,h.kept.set (fun hk=>hk.2 rfl) _,h.lt,h.ti,h.tu⟩
theorem DrI.fourth{x2 x3:Value}(h:DrI w wr gb t (x2 :: x3 :: rest) g ls B d at_ er C S vc vs){u:Value}:DrI w (wr.setCell ⟨gb,3,none⟩ u) gb t (x2 :: u :: rest) g ls B d at_ er C S vc vs:=by have j:=h.cur.lo;have i:=h.lt;exact⟨⟨h.cur.blk.far rV _,BK h.cur.own (gZ h.cur.own h.blk h.tu) _,h.cur.le,h.cur.lo⟩,by simpa using h.blk.set 3 u,BK h.oc (gZ h.oc h.blk h.ti) _,BK h.os (gZ h.os h.blk h.ti) _,h.ap,h.kept.set (fun hk=>hk.2 rfl) _,h.lt,h.ti,h.tu⟩
theorem Ah0{y:List Nat}(h:w.ownsRow base 3 1 (.slice A n c) n (dZ .i64 y))(hn:y.length=n):Row w w A n 1 (jZ .i64 y):=
 Row.of_own h rfl fun i j hi hj=>by
  obtain rfl:j=0:=nj
  unfold dZ;rw[CZ,Bt,Co,Az nj];unfold jZ;rw[Aq,Az nj];rfl
theorem DrI.count(h:DrI w wr gb t rest g ls B d at_ er C S vc vs)(hb:Below wr wr w1)(hg:w1.grownBy w3 vc.ownBlock)(i:w3.ownsRow w 3 1 v3 (C.length+1) (dZ .i64 C++ [.int .i64 (x:Nat)]))(z:v3.ownBlock=vc.ownBlock∨v3.ownBlock=some w1.heap.size):
 DrI w (w3.setCell ⟨gb,0,none⟩ v3) gb t rest g ls B d at_ er (C++ [x]) S v3 vs:=by
 have b3:=(h.blk.step hb).grown hg (Ba (gZ h.oc h.blk h.ti));have o1:w1.ownsRow w 3 1 vs S.length (dZ .i64 S):=eZ h.os (fun y hy=>hb.block y (Aj h.os y hy).2);have o3:w3.ownsRow w 3 1 vs S.length (dZ .i64 S):=eZ o1 (fun y hy=>hg.block y (Aj o1 y hy).2 (fun e=>h.ap y e.symm hy));have c1:=h.cur.step hb;have j:w1.ownsRow w 3 1 vc C.length (dZ .i64 C):=eZ h.oc (fun y hy=>hb.block y (Aj h.oc y hy).2);have c3:Cur w3 g w ls B d at_ er:=⟨c1.blk.grown hg (Ba (gZ j c1.blk ip)),Ag8 c1.own j ip hg,c1.le,c1.lo⟩;have G:=h.cur.lo;have E:=h.lt;refine⟨⟨c3.blk.far rV _,BK c3.own (gZ c3.own b3 h.tu) _,c3.le,c3.lo⟩,by simpa using b3.set 0 v3,?_,BK o3 (gZ o3 b3 h.ti) _,?_,?_,h.lt,h.ti,h.tu⟩
 ·rw[Ag,show dZ .i64 (C++ [x])=dZ .i64 C++ [.int .i64 (x:Nat)] by simp[dZ]];exact BK i (gZ i b3 h.ti) _
 ·intro y hy hh;rcases z with e|e
  ·exact h.ap y (by rw[<-e];exact hy) hh
  ·rw[e]at hy;injection hy with hy;have:=(Aj h.os y hh).2;have:=hb.size;omega
 ·have hz:=h.kept.size;exact((h.kept.trans (Kept.of_below hb (fun y hy=>by have:=hy.1;omega))).grown hg (fun y hy=>by have:=hy.1;have:=hb.size;omega) (fun y hy hk=>by have:=(Aj h.oc y hy).1;have:=hk.1;omega)).set (fun hk=>hk.2 rfl) _
theorem DrI.size(h:DrI w wr gb t rest g ls B d at_ er C S vc vs)(hb:Below wr wr w1)(hg:w1.grownBy w3 vs.ownBlock)(i:w3.ownsRow w 3 1 v3 (S.length+1) (dZ .i64 S++ [.int .i64 (x:Nat)]))(z:v3.ownBlock=vs.ownBlock∨v3.ownBlock=some w1.heap.size):
 DrI w (w3.setCell ⟨gb,1,none⟩ v3) gb t rest g ls B d at_ er C (S++ [x]) vc v3:=by
 have b3:=(h.blk.step hb).grown hg (Ba (gZ h.os h.blk h.ti));have o1:w1.ownsRow w 3 1 vc C.length (dZ .i64 C):=eZ h.oc (fun y hy=>hb.block y (Aj h.oc y hy).2);have o3:w3.ownsRow w 3 1 vc C.length (dZ .i64 C):=eZ o1 (fun y hy=>hg.block y (Aj o1 y hy).2 (fun e=>h.ap y hy e.symm));have c1:=h.cur.step hb;have j:w1.ownsRow w 3 1 vs S.length (dZ .i64 S):=eZ h.os (fun y hy=>hb.block y (Aj h.os y hy).2);have c3:Cur w3 g w ls B d at_ er:=⟨c1.blk.grown hg (Ba (gZ j c1.blk ip)),Ag8 c1.own j ip hg,c1.le,c1.lo⟩;have G:=h.cur.lo;have E:=h.lt;refine⟨⟨c3.blk.far rV _,BK c3.own (gZ c3.own b3 h.tu) _,c3.le,c3.lo⟩,by simpa using b3.set 1 v3,BK o3 (gZ o3 b3 h.ti) _,?_,?_,?_,h.lt,h.ti,h.tu⟩
 ·rw[Ag,show dZ .i64 (S++ [x])=dZ .i64 S++ [.int .i64 (x:Nat)] by simp[dZ]];exact BK i (gZ i b3 h.ti) _
 ·intro y hy hh;rcases z with e|e
  ·exact h.ap y hy (by rw[<-e];exact hh)
  ·rw[e]at hh;injection hh with hh;have:=(Aj h.oc y hy).2;have:=hb.size;omega
 ·have hz:=h.kept.size;exact((h.kept.trans (Kept.of_below hb (fun y hy=>by have:=hy.1;omega))).grown hg (fun y hy=>by have:=hy.1;have:=hb.size;omega) (fun y hy hk=>by have:=(Aj h.os y hy).1;have:=hk.1;omega)).set (fun hk=>hk.2 rfl) _
end
theorem PG(s:Str):Bc (bs s)=Dy s:=by unfold Bc Dy;rw[Fb];rfl
theorem Mw{s:Str}(h:s.length<=25):(Dy s).length<=28:=by have h1:=Ll (s:=bs s) (by rw[Fb];omega);rw[PG,Fb]at h1;omega
theorem dY{l:List Str}{x:Str}(h:l[k]? =some x):(l.take (k+1)).getLast?=some x:=by rw[Cw,h];simp
theorem ZM{l:List Str}{x y:Str}(hx:l[k]? =some x)(hy:l[k+1]? =some y):vZ (l.take (k+1+1))=vZ (l.take (k+1))++(fZ (BF x y)++Dy (y.drop (BF x y))):=by rw[Cw (i:=k+1),hy];refine aT ?_ y x (dY hx);rw[Cw,hx];simp
theorem Kh(h:x<=127):(fZ x).length=1:=by rw[Fp nj];rfl
theorem mU(s:Str)(a:Nat)(ha:a<=s.length)(w:World):(Instr.slice 9 (.string (bs s)) (some (.int .i64 (a:Int))) none none).run prog w= .ok (.string (bs (s.drop a))) w:=by
 have hz:=Fb s;rw[run_slice_string_l w (t:=9) (s:=bs s) (ht:=underlying9) .i64 (a:Int) nj nj,BD];have e:(bs s).extract a (bs s).size=bs (s.drop a):=by refine ByteArray.ext (Array.ext' ?_);rw[SL,IM,hz,Cf (by rw[AQ];exact Ak _)];rfl
 rw[e]
def PF(bs:List Nat)(w:World)(e:Ending)(w':World):Prop:=
 ∃v,e= .returned v/\w'.ownsRow w 5 1 v bs.length (dZ .u8 bs)/\Below w w w'
theorem kV(w:World)(A:Option Addr)(n c:Nat)(ls:List Str)(hn:ls.length=n)(h1:1<=n)(Aj0:n<=64)(bd:n<=c)(hs:∀s∈ls,s.length<=25)(ha:Row w w A n 1 (Gc ls)):
 Calls prog 171 #[.slice A n c] w (PF (vZ ls) w):=by
 have HN:=hid hn;have G:Hid (∀ (k:Nat) (x:Str),ls[k]? =some x->x.length<=25):=fun k x h=>hs x (Bp h);obtain⟨b,bl,x0,hA,bj,J,av⟩:=Row.str ha hn (k:=0) nj;have L:vZ (ls.take (0+1))=Dy x0:=by rw[Cw,J];simp[vZ,EM]
 have DT:=hid (NQ w (bs x0) (by rw[Fb];have:=G.out 0 x0 J;omega));rw[PG,<-L]at DT;have ar:(vZ (ls.take (0+1))).length<=28:=by rw[L];exact Mw (G.out 0 x0 J)
 have ks:=fun wx=>Gr (P:=prog) (t:=50) (s:=1) underlying50 (fun _=>by kernel_rfl) A n c .i64 (1:Int) 1 rfl h1 wx;have ak:Row w w (AR A 1 c 1) (n-1) 1 (fun i j=>Gc ls (i+1) j):=Row.cut ha 1 (n-1) nj bd fun i j _ _=>by rw[Nat.add_comm]
 generalize AR A 1 c 1=A1 at *;generalize c-1=c1 at *;obtain⟨m,hm⟩:=ii (n-1);rw[<-hm]at ks ak;have bn:m+1=n:=nj
 have E:Hid (vZ (ls.take (m+1))=vZ ls):=by show _=_;rw[Cf nj]
 unfold PF;obtain⟨R,hR⟩:=ii (vZ ls);rw[<-hR]at E ⊢;obtain⟨B,hB⟩:∃B:Nat->List Nat,B=fun k=>vZ (ls.take (k+1)):=⟨_,rfl⟩;have aw:Hid (∀ (k:Nat) (x y:Str),ls[k]? =some x->ls[k+1]? =some y->B (k+1)=B k++(fZ (BF x y)++Dy (y.drop (BF x y)))):=fun k x y hx hy=>by rw[hB];exact ZM hx hy
 have aa:Hid (B m=R):=by rw[hB];exact E.out
 rw[show vZ (ls.take (0+1))=B 0 by rw[hB]]at DT ar;subst hA;rw[Bt]at av;clear hn hs J L E hR hB hm;go_enter func171,ntmps171;go_wp2_with fail;refine DT.out.mono ?_;rintro e w1 ⟨v1,rfl,M,ai⟩;obtain⟨A2,c2,rfl⟩:=bZ M;have ab:=hid M;have am:=hid ai;clear M ai DT;go_wp2_with fail;go_loopw [3,14] (fun uv iv wr=>∃ (k p:Nat),k<=m/\p<=28+31*k/\iv= .int .i64 k/\Hid ((B k).length=p)/\Hid (wr.ownsRow w 5 1 uv p (dZ .u8 (B k)))/\Hid (Below w w wr)) (fun _ iv _=>m-(intOf iv).toNat)
 case atStart=>exact⟨0,(B 0).length,nj,nj,rfl,rfl,ab.out,am.out⟩
 case round=>
  obtain⟨k,p,hk,hp,rfl,HP,HO,HB⟩:=hrel;clear ab am;obtain⟨wi,rfl⟩:=ii wr;obtain⟨A3,c3,rfl⟩:=bZ HO.out;by_cases ba:k<m
  ·have Y:(B k).length=p:=HP.out;subst Y;have gk:=ic ((k:Int)<m);have a8:=ic (k<m);have bg:(0:Int)<=(k:Int):=nj;have x1:(k:Int)<(m:Int):=nj;have x2:(k:Int)<(n:Int):=nj;obtain⟨b',bf,x,Q,_,hx,cx⟩:=Row.str (ha.below HB.out) HN.out (k:=k) nj;injection Q with Q;injection Q with e1 e2;subst e1 e2;obtain⟨y,hy⟩:∃y,ls[k+1]? =some y:=⟨_,Az ly⟩;obtain⟨b1,aj,hA1,_,an⟩:=(ak.below HB.out) nj;subst hA1;have cy:wi.cell? ⟨b1,aj+k,none⟩=some (.string (bs y)):=(by have h:=an k 0 ba nj;rw[CZ,Bt]at h;rw[h];show some (Value.string (bs (ls.getD (k+1) [])))=_;rw[Aq,hy];rfl);have a0:=G.out k x hx;have au:=G.out (k+1) y hy;have aq:=Lf x y;have U:=aw.out k x y hx hy;have DS:=hid (Sv wi x y nj nj);obtain⟨a,ah⟩:=ii (BF x y);rw[<-ah]at aq U DS;have be:=Fb y;have ay:(y.drop a).length<=25:=nz;have af:=Fb (y.drop a);have kl:=fun wx=>mU y a aq.2 wx;have DN:=hid (fun wx=>Gi wx a nj);have DX:=hid (fun wx=>NQ wx (bs (y.drop a)) (by rw[af];omega));rw[PG]at DX;have u1:IntKind.u64.wrap (a:Int)=(a:Int):=pm;have bk:(fZ a).length<=3:=(by rw[Kh nj];omega);have bi:=Mw ay;have PB:Hid (∀wx,Below wi wi wx->Part.Ok (⟨A3,c3,B k⟩:Part) wx):=fun wx hb=>by have h:=lZ (eZ HO.out (fun z hz=>hb.block z (Aj HO.out z hz).2)) HP.out;exact h
   generalize bs (y.drop a)=Y2 at *;generalize Dy (y.drop a)=X2 at *;generalize fZ a=X1 at *;have N:=hid U;have bm:(B k).length<=2000:=lz;have a9:∀a1 a2 a3 a4 a5 a6,BN [(⟨a1,a2,B k⟩:Part),⟨a3,a4,X1⟩,⟨a5,a6,X2⟩]<=1000000:=fun _ _ _ _ _ _=>sl
   clear U hx hy ah a0 au be af an;go_wp2_with fail;refine DS.out.mono ?_;rintro e w2 ⟨rfl,hq⟩;have ac:Hid (Below wi wi w2):=(by obtain⟨q,rfl⟩:=hq;exact below_drewN (Ae _ _) q);clear hq DS;have bh:=ac.out.size;go_upto_region 6 with fail;have b2:Below wi wi w2.drew:=ac.out.drew;go_region_held3 (fun _=>True) (trivial) (first|(go_at_call 99;(with_reducible refine(DN.out _).mono ?_);rintro e wA ⟨vA,rfl,al,bc⟩;obtain⟨AA,cA,rfl⟩:=bZ al;have BA:Below wi wi wA:=xZ bc iu sT;have zA:=BA.size;have PA:Part.Ok (⟨AA,cA,X1⟩:Part) wA:=lZ al rfl)|(go_at_call 165;(with_reducible refine(DX.out _).mono ?_);rintro e wB ⟨vB,rfl,ae,ax⟩;obtain⟨AB,cB,rfl⟩:=bZ ae;have BB:Below wi wi wB:=xZ ax iu sT;have zB:=BB.size;have PX:Part.Ok (⟨AB,cB,X2⟩:Part) wB:=lZ ae rfl)|(go_at_call 55;(refine(FK _ _ 3 [(⟨A3,c3,B k⟩:Part),(⟨AA,cA,X1⟩:Part),(⟨AB,cB,X2⟩:Part)] rfl nj (a9 _ _ _ _ _ _) (fun p hp=>by{rcases AO.1 hp with rfl|hp;exact PB.out _ sT;rcases AO.1 hp with rfl|hp;exact PA.step sT;rcases AO.1 hp with rfl|hp;exact PX.step sT;cases hp}) iq).mono ?_);rintro e w7 ⟨v7,rfl,Z,ag⟩;obtain⟨A7,c7,rfl⟩:=bZ Z;have B7:Below wi wi w7:=xZ ag iu sT))
   all_goals
    have bb:Hid ((B (k+1)).length=(B k).length+(X1.length+X2.length)):=(by show _=_;rw[N.out,Ag,Ag]);have az:Hid (w7.ownsRow w 5 1 (.slice A7 ((B k).length+(X1.length+X2.length)) c7) ((B k).length+(X1.length+X2.length)) (dZ .u8 (B (k+1)))):=(by have h:=kZ Z (show w.heap.size<=_ by have:=HB.out.size;have:=zA;have:=zB;first|omega|(simp;omega));simp only[List.flatMap_cons,List.flatMap_nil,List.append_nil,List.length_append]at h;show World.ownsRow _ _ _ _ _ _ _;rw[N.out];exact h);have a7:Hid (Below w w w7):=cZ B7 HB.out;clear Z ag PA PX PB HO HB HP N B7;go_wp2_with fail;go_roundw
    case measure=>exact jq
    case rel=>go_light;exact⟨k+1,_,nj,nj,iw,bb.out,az.out,a7.out⟩
  ·obtain rfl:k=m:=by omega
   have gk:=ig ((k:Int)<k);have a8:=ig (k<k);have Y:(B k).length=p:=HP.out;subst Y;go_wp2_with fail;go_ret;exact⟨_,rfl,by rw[<-aa.out];exact HO.out,HB.out⟩
def Ds(size:Nat)(l:List Str)(k:Nat):List Str:=(l.drop (k*size)).take size
def nCh(size n:Nat):Nat:=(n+size-1) / size
theorem Pw{size:Nat}(h:1<=size):k<nCh size n↔k*size<n:=by unfold nCh;rw[Nat.lt_iff_add_one_le,Nat.le_div_iff_mul_le nj,Fk];omega
theorem SD{size:Nat}(h:1<=size):nCh size 0=0:=by unfold nCh;exact Nat.div_eq_of_lt nj
theorem l7{size:Nat}(h:1<=size)(hn:1<=n):nCh size n=nCh size (n-size)+1:=by
 unfold nCh;by_cases hs:size<=n
 ·have e:n+size-1=(n-size+size-1)+size:=by omega
  rw[e,Nat.add_div_right _ nj]
 ·have e:n-size=0:=by omega
  rw[e,Ca,Nat.div_eq_of_lt (by omega:size-1<size)];have e2:n+size-1=(n-1)+size:=nj
  rw[e2,Nat.add_div_right _ nj,Nat.div_eq_of_lt nj]
theorem Mq{size:Nat}(h:1<=size):nCh size n<=n:=by refine KK fun hn=> ?_;have h1:=(Pw (n:=n) (k:=n) h).1 nj;have h2:n*1<=n*size:=Nat.mul_le_mul_left n h;omega
theorem eF(size:Nat)(l:List Str):Ds size l 0=l.take size:=by simp[Ds]
theorem dG(size:Nat)(l:List Str)(k:Nat):Ds size l (k+1)=Ds size (l.drop size) k:=by unfold Ds;rw[List.drop_drop,Fk,Nat.one_mul,Nat.add_comm]
theorem Ws{size:Nat}(h:1<=size):∀ (f:Nat) (l:List Str),l.length<=f->Ea size f l=(List.range (nCh size l.length)).map (Ds size l)
 |0,l,hl=>by
  have e:l.length=0:=nj
  rw[e,SD h];rfl
 |f+1,l,hl=>by
  rw[Ea];by_cases e:l= []
  ·rw[Ab e,e];show []=(List.range (nCh size 0)).map _;rw[SD h];rfl
  ·have hp:1<=l.length:=Gm.2 e;rw[Aa e,l7 h hp,List.range_succ_eq_map,Ct,List.map_map,eF,Ws h f (l.drop size) nz,AQ];congr 1;exact J1 fun k _=>(dG size l k).symm
theorem jX{size:Nat}(h:1<=size)(l:List Str):Hk size l=(List.range (nCh size l.length)).map (Ds size l):=Ws h _ l (Ak _)
theorem Px{size:Nat}(h:1<=size)(l:List Str):Ec size l=(fZ l.length++(List.range (nCh size l.length)).flatMap (fun k=>fZ (vZ (Ds size l k)).length))++(List.range (nCh size l.length)).flatMap (fun k=>vZ (Ds size l k)):=by unfold Ec;rw[jX h,List.flatMap_map,List.flatMap_map]
theorem Tz:∀ (t:List Str) (i:Str),(∀s∈t,s.length<=25)->i.length<=25->(EM i t).length<=31*t.length
 | [],_,_,_=>by simp[EM]
 |x :: t,i,h,hw=>by have hx:=h x CP;have ih:=Tz t x (fun s hs=>h s (Cn _ hs)) hx;have ha:=(Lf i x).2;rw[EM,Ag,Ag,AD,Kh nj];have:=Mw (s:=x.drop (BF i x)) nz;omega
theorem Oa{l:List Str}(h:∀s∈l,s.length<=25):(vZ l).length<=31*l.length:=by
 cases l with
 |nil=>simp[vZ]
 |cons x t=>rw[vZ,Ag,AD];have:=Mw (h x CP);have:=Tz t x (fun s hs=>h s (Cn _ hs)) (h x CP);omega
theorem OW{size:Nat}{l:List Str}{s:Str}(h:s∈Ds size l k):s∈l:=Bz (BX h)
theorem OP(size k:Nat)(l:List Str):(Ds size l k).length=min size (l.length-k*size):=by unfold Ds;rw[AY,AQ]
def Apt(v u:Value):Prop:=∀x,v.ownBlock=some x->u.ownBlock=some x->False
theorem Apt.symm{v:Value}(h:Apt v u):Apt u v:=fun x a b=>h x b a
theorem Hr{v:Value}{ys:List Value}(hu:w.ownsRow base e s u m ys)(ha:Apt v u)(hg:w.grownBy w' v.ownBlock)(i:v'.ownBlock=v.ownBlock∨v'.ownBlock=some w.heap.size):
 w'.ownsRow base e s u m ys/\Apt v' u:=by
 refine⟨eZ hu fun y hy=>hg.block y (Aj hu y hy).2 fun e=>ha y e.symm hy,fun x hx hy=> ?_⟩;rcases i with h|h
 ·exact ha x (h ▸ hx) hy
 ·rw[h]at hx;have:=(Aj hu x hy).2;injection hx;omega
theorem JU{v:Value}{B:Nat}(hv:w.ownsRow base e s v m xs)(hB:B<=base)(hu:∀x,u.ownBlock=some x->x<B):Apt v u:=
 fun x a b=>by have:=(Aj hv x a).1;have:=hu x b;omega
theorem Sn:∀ (l:List Str) (i:Str),Dx i l=true->∀s∈l,1<=s.length/\s.length<=25
 | [],_,_,s,hs=>by cases hs
 |x :: t,i,h,s,hs=>by
  rw[Dx,Cp]at h;rcases AO.1 hs with rfl|hs
  ·have h1:=h.1;unfold EL at h1;rw[Cp,Cp,decide_eq_true_iff,decide_eq_true_iff]at h1;exact⟨h1.1,h1.2.1⟩
  ·exact Sn t x h.2 s hs
theorem JV{l:List Str}(h:GR l=true):∀s∈l,1<=s.length/\s.length<=25:=by unfold GR at h;rw[Cp]at h;exact Sn l [] h.1
def hdB(size:Nat)(l:List Str)(q:Nat):List Nat:=fZ l.length++(List.range q).flatMap (fun k=>fZ (vZ (Ds size l k)).length)
def bdB(size:Nat)(l:List Str)(q:Nat):List Nat:=(List.range q).flatMap (fun k=>vZ (Ds size l k))
theorem lF(size:Nat)(l:List Str)(q:Nat):hdB size l (q+1)=hdB size l q++fZ (vZ (Ds size l q)).length:=by simp[hdB,List.range_succ]
theorem kI(size:Nat)(l:List Str)(q:Nat):bdB size l (q+1)=bdB size l q++vZ (Ds size l q):=by simp[bdB,List.range_succ]
theorem Mt{size:Nat}{l:List Str}(hs:∀s∈l,s.length<=25)(h2:size<=64)(q:Nat):(vZ (Ds size l q)).length<=1984:=by have h:=Oa (l:=Ds size l q) (fun s hs'=>hs s (OW hs'));rw[OP]at h;omega
theorem N6{size:Nat}{l:List Str}(hs:∀s∈l,s.length<=25)(h2:size<=64)(hl:l.length<=1000000):∀q,(hdB size l q).length<=10+10*q
 |0=>by have:=qZ (x:=l.length) nj;simp[hdB];omega
 |q+1=>by have ih:=N6 hs h2 hl q;have hc:=Mt hs h2 q;have:=qZ (x:=(vZ (Ds size l q)).length) nj;rw[lF,Ag];omega
theorem Mg{size:Nat}{l:List Str}(hs:∀s∈l,s.length<=25)(h1:1<=size):∀q,(bdB size l q).length<=31*min (q*size) l.length
 |0=>by simp[bdB]
 |q+1=>by have ih:=Mg hs h1 q;have hc:=Oa (l:=Ds size l q) (fun s hs'=>hs s (OW hs'));rw[OP]at hc;rw[kI,Ag,Fk,Nat.one_mul];omega
def CU(x:Nat):List Nat:= [x % 256,x / 256 % 256,x / 65536 % 256,x / 16777216 % 256]
def Hf(x:Nat):Nat->Array Value
 |0=>#[.int .u8 0, .int .u8 0, .int .u8 0, .int .u8 0]
 |1=>#[.int .u8 ((x:Int) % 256), .int .u8 0, .int .u8 0, .int .u8 0]
 |2=>#[.int .u8 ((x:Int) % 256), .int .u8 ((x:Int) / 256 % 256), .int .u8 0, .int .u8 0]
 |3=>#[.int .u8 ((x:Int) % 256), .int .u8 ((x:Int) / 256 % 256), .int .u8 ((x:Int) / 65536 % 256), .int .u8 0]
 |_=>#[.int .u8 ((x:Int) % 256), .int .u8 ((x:Int) / 256 % 256), .int .u8 ((x:Int) / 65536 % 256), .int .u8 ((x:Int) / 16777216 % 256)]
theorem jP(x:Nat):(Hf x 4).toList=dZ .u8 (CU x):=by simp[Hf,CU,dZ]
theorem Sq:(prog.info? 5).map (fun i=>(i.zero,i.size,i.bytes))=some (some (.int .u8 0),1,1):=my
theorem cV(w:World):(Instr.makeSlice 28 (.int .i64 4) (.int .i64 4)).run prog w= .ok (.slice (some ⟨w,0,none⟩) 4 4) (w.alloc (.cells #[.int .u8 0, .int .u8 0, .int .u8 0, .int .u8 0] 5)):=by
 obtain⟨i0,hi,y,j,i⟩:=info_parts Sq;have h:=run_make (P:=prog) w 28 5 i0 (.int .u8 0) underlying28 hi y .i64 .i64 (4:Int) (4:Int) nj (Int.le_refl _) ri nj;rw[h,j];have e:madeCells (Value.int IntKind.u8 0).cells (Int.toNat 4*1)=#[.int .u8 0, .int .u8 0, .int .u8 0, .int .u8 0]:=my
 rw[e];rfl
theorem Lh(x:Int):IntKind.u8.wrap x=x % 256:=IntKind.wrap_u8 x
theorem jC(w:World)(x:Nat)(hx:x<4294967296):
 Calls prog 54 #[.int .u64 x, .int .i64 4] w fun e w'=>∃v,e= .returned (.tuple #[v,ij])/\w'.ownsRow w 5 1 v 4 (dZ .u8 (CU x))/\Below w w w':=by
 have hd:(((x:Int) / 4294967296) != 0)=false:=sj
 have hm:=cV;have w0:=Lh (x:Int);have w1:=Lh ((x:Int) / 256);have w2:=Lh ((x:Int) / 65536);have w3:=Lh ((x:Int) / 16777216);go_enter func54,ntmps54;go_wp2_with fail;have j:Hid (Blk (w.alloc (.cells #[.int .u8 0, .int .u8 0, .int .u8 0, .int .u8 0] 5)) w 5 (Hf x 0)):=Blk.made _ _ _;have y:Hid (Below w w (w.alloc (.cells #[.int .u8 0, .int .u8 0, .int .u8 0, .int .u8 0] 5))):=aZ (Ae _ _);generalize w.alloc (.cells #[.int .u8 0, .int .u8 0, .int .u8 0, .int .u8 0] 5)=wa at *;go_loopw [29] (fun iv wr=>∃k:Nat,k<=4/\iv= .int .i64 k/\Hid (Blk wr w 5 (Hf x k))/\Hid (Below w w wr)) (fun iv _=>4-(intOf iv).toNat)
 case atStart=>exact⟨0,nj,rfl,j.out,y.out⟩
 case round=>
  obtain⟨k,hk,rfl,HX,HB⟩:=hrel;clear j y hm;have z:k=0∨k=1∨k=2∨k=3∨k=4:=nj
  rcases z with rfl|rfl|rfl|rfl|rfl
  ·have c:=HX.out.cell 0;have f:=HX.out.frozen 0;have i:Hid (Blk (wr.setCell ⟨w,0,none⟩ (.int .u8 ((x:Int) % 256))) w 5 (Hf x 1)):=HX.out.set 0 _;have h:Hid (Below w w (wr.setCell ⟨w,0,none⟩ (.int .u8 ((x:Int) % 256)))):=BS (Ak _) HB.out;simp[Hf]at c;clear HX HB;go_wp2_with fail;exact⟨⟨1,nj,rfl,i,h⟩,sF⟩
  ·have c:=HX.out.cell 1;have f:=HX.out.frozen 1;have i:Hid (Blk (wr.setCell ⟨w,1,none⟩ (.int .u8 ((x:Int) / 256 % 256))) w 5 (Hf x 2)):=HX.out.set 1 _;have h:Hid (Below w w (wr.setCell ⟨w,1,none⟩ (.int .u8 ((x:Int) / 256 % 256)))):=BS (Ak _) HB.out;simp[Hf]at c;clear HX HB;go_wp2_with fail;exact⟨⟨2,nj,rfl,i,h⟩,sF⟩
  ·have c:=HX.out.cell 2;have f:=HX.out.frozen 2;have i:Hid (Blk (wr.setCell ⟨w,2,none⟩ (.int .u8 ((x:Int) / 65536 % 256))) w 5 (Hf x 3)):=HX.out.set 2 _;have h:Hid (Below w w (wr.setCell ⟨w,2,none⟩ (.int .u8 ((x:Int) / 65536 % 256)))):=BS (Ak _) HB.out;simp[Hf]at c;clear HX HB;go_wp2_with fail;exact⟨⟨3,nj,rfl,i,h⟩,sF⟩
  ·have c:=HX.out.cell 3;have f:=HX.out.frozen 3;have i:Hid (Blk (wr.setCell ⟨w,3,none⟩ (.int .u8 ((x:Int) / 16777216 % 256))) w 5 (Hf x 4)):=HX.out.set 3 _;have h:Hid (Below w w (wr.setCell ⟨w,3,none⟩ (.int .u8 ((x:Int) / 16777216 % 256)))):=BS (Ak _) HB.out;simp[Hf]at c;clear HX HB;go_wp2_with fail;exact⟨⟨4,nj,rfl,i,h⟩,sF⟩
  ·go_wp2_with fail;go_ret2;refine⟨_,rfl,⟨rfl, .inr ⟨w.heap.size,4,_,rfl,Ak _,HX.out,nj,sS,rfl,?_⟩⟩,HB.out⟩;rw[<-jP];rfl
def Hv(x k:Nat):List Nat:=(List.range k).map fun i=>x / 256 ^ i % 256
theorem bJ(x:Nat):Hv x 4=CU x:=by simp[Hv,CU,List.range_succ]
theorem aJ(x k:Nat):Hv x (k+1)=Hv x k++ [x / 256 ^ k % 256]:=by simp[Hv,List.range_succ]
theorem bR(w:World)(x:Nat)(hx:x<4294967296):
 Calls prog 79 #[.int .u64 x, .int .i64 4] w fun e w'=>∃v,e= .returned (.tuple #[v,ij])/\w'.ownsRow w 5 1 v 4 (dZ .u8 (CU x))/\Below w w w':=by
 obtain⟨j0,J,Q,N,Y⟩:=info_parts Sq;go_enter func79,ntmps79;go_wp2_with fail;go_loopw [0,6,7] (fun xv uv iv wr=>∃k y:Nat,k<=4/\y<4294967296/\iv= .int .i64 k/\xv= .int .u64 y/\Hid (y=x / 256 ^ k)/\Hid (wr.ownsRow w 5 1 uv k (dZ .u8 (Hv x k)))/\Hid (Below w w wr)) (fun _ _ iv _=>4-(intOf iv).toNat)
 case atStart=>exact⟨0,x,nj,hx,rfl,rfl,(by show x=x / 256 ^ 0;simp),AI _ _ _ _,Ae _ _⟩
 case round=>
  obtain⟨k,y,hk,hy,rfl,rfl,HY,HO,HB⟩:=hrel;obtain⟨wi,rfl⟩:=ii wr;obtain⟨A1,c1,rfl⟩:=bZ HO.out;by_cases aa:k<4
  ·have gk:=ic ((k:Int)<4);have Z:=ic (k<4);have u1:IntKind.u8.wrap ((y:Int) % 256)=((y % 256:Nat):Int):=(by rw[Lh];omega);have L:=HB.out.size;have U:Hid (y / 256=x / 256 ^ (k+1)):=(by show _=_;rw[HY.out,Ov,FX]);have HL:Hid (Hv x (k+1)=Hv x k++ [y % 256]):=(by show _=_;rw[aJ,HY.out]);clear HY;go_wp2_with(at_builtin;refine iZ rfl (.tmp 19) (.tmp 23) 28 rfl w 5 j0 _ 1 1 underlying28 J Q N Y rfl ip _ _ _ nm (HO.out.alloc _) _ 1 1 [.int .u8 (y % 256:Nat)] nm (Src.of_blk (Blk.made_at _ _ _ rX) 1 1 1 rfl) mp sS nj sj ?_;intro v6 w6 h i E;obtain⟨A6,c6,rfl⟩:=bZ h);have M:Hid (w6.ownsRow w 5 1 (.slice A6 (k+1) c6) (k+1) (dZ .u8 (Hv x (k+1)))):=(by show World.ownsRow _ _ _ _ _ _ _;rw[HL.out,show dZ .u8 (Hv x k++ [y % 256])=dZ .u8 (Hv x k)++ [.int .u8 (y % 256:Nat)] by simp[dZ]];exact h);have G:Hid (Below w w w6):=(pZ L HB.out).grown i sj (fun z hz=>(Aj HO.out z hz).1);clear h i E HO HB HL;go_roundw
   case measure=>exact jq
   case rel=>go_light;exact⟨k+1,y / 256,nj,nj,iw,iw,U.out,M.out,G.out⟩
  ·obtain rfl:k=4:=by omega
   have j:y=0:=(by rw[HY.out];exact Nat.div_eq_of_lt nj);subst j;clear HY;go_wp2_with fail;go_ret2;exact⟨_,rfl,by rw[<-bJ];exact HO.out,HB.out⟩
theorem Ab4{k:IntKind}(h:w.ownsRow base e 1 (.slice A n c) n (dZ k ls))(hn:ls.length=n):Row w w A n 1 (jZ k ls):=
 Row.of_own h rfl (fun i j hi hj=>by have e0:j=0:=nj;subst e0;exact Ab2 nj)
theorem Wb(w:World)(bound:Nat)(A:Option Addr)(n c:Nat)(ls:List Nat)(hn:ls.length=n)(h1:1<=n)(a9:n<=bound)(hb:bound<=20000)(hm:Cu bound none ls=true)(ha:Row w w A n 1 (jZ .i64 ls)):
 Calls prog 105 #[bound, .slice A n c] w fun e w'=>∃v,e= .returned (.tuple #[v,ij])/\w'.ownsRow w 5 1 v (efO bound ls).length (dZ .u8 (efO bound ls))/\Below w w w':=by
 have HN:=hid hn;have HA:=hid ha;have DM:=hid (iN w bound A n c ls hn nj ha);rw[hm]at DM;have hq:1<=bound / n:=(Nat.one_le_div_iff nj).2 a9;have DN:=hid (fun wx=>Gi wx n nj);have DW:=hid (fun wx=>Uv wx bound n h1 a9 nj);have cd:=qZ (x:=n) nj;have y1:=ig ((bound:Int)<0)
 have y2:=ig ((20000:Int)<bound)
 have cg:=ig (20000<bound)
 have u1:IntKind.u64.wrap (n:Int)=(n:Int):=pm
 have z1:((n:Int)==0)=false:=sj
 have ce:¬(n:Int)=0:=nj
 have bd:Hid (∀x∈ls,x<bound):=Ii bound ls none hm;have bC:Hid (∀ (k x y:Nat),ls[k]? =some x->ls[k+1]? =some y->x<y):=Mz bound ls none hm;have HE:Hid (efO bound ls=fZ n++bytesOf (Gf (efW bound n) ls)):=by show _=_;unfold efO;rw[Aa (fun e=>by rw[e]at hn;simp at hn;omega),hn]
 have G:efW bound n<=14:=by refine KK fun h=> ?_;have h2:2 ^ 15<=2 ^ efW bound n:=Cm nj nj;have h3:=Lv (q:=bound / n) nj;have h4:bound / n<=bound:=Ix _ _;unfold efW at h2;omega
 obtain⟨W,hW⟩:=ii (efW bound n);rw[<-hW]at DW HE G;clear hn ha hm hW hq;go_enter func105,ntmps105;go_wp2_with fail;refine DM.out.mono ?_;rintro e w1 ⟨rfl,rfl⟩;obtain⟨w,rfl⟩:=ii w1;clear DM;go_wp2_with fail;refine(DN.out _).mono ?_;rintro e w2 ⟨v2,rfl,au,bb⟩;obtain⟨A2,c2,rfl⟩:=bZ au;have M:=hid bb;have ba:=hid au;clear au bb DN;go_wp2_with fail;refine(DW.out _).mono ?_;rintro e w3 ⟨rfl,rfl⟩;go_wp2_with fail;have bl:Below w3 w3 (w3.alloc (.cells #[W,(),()] 229)):=aZ (Ae _ _);have bn:Hid (Prt 229 (w3.alloc (.cells #[W,(),()] 229)) w3 w3 W ((ls.take 0).map (·/ 2 ^ W)) ((ls.take 0).map (·% 2 ^ W)) (.slice none 0 0) (.slice none 0 0)):=⟨Blk.made _ _ _,AI _ _ _ _,AI _ _ _ _,Ak _⟩;generalize w3.alloc (.cells #[W,(),()] 229)=w4 at *;have a7:=hid bl;clear bl;go_loopw [43] (fun iv wr=>∃ (k:Nat) (vH vL:Value),k<=n/\iv= .int .i64 k/\Hid (Prt 229 wr w3 w3 W ((ls.take k).map (·/ 2 ^ W)) ((ls.take k).map (·% 2 ^ W)) vH vL)/\Hid (Below w3 w3 wr)) (fun iv _=>n-(intOf iv).toNat)
 case atStart=>exact⟨0,_,_,nj,rfl,bn.out,a7.out⟩
 case round=>
  obtain⟨k,vH,vL,hk,rfl,HP,HB⟩:=hrel;clear bn a7;obtain⟨wi,rfl⟩:=ii wr;have am:Hid (Below w w wi):=xZ HB.out M.out.size M.out;by_cases ab:k<n
  ·have bq:Row wi w A n 1 (jZ .i64 ls):=HA.out.below am.out;have gk:=ic ((k:Int)<n);have U:=ic (k<n);have x0:(0:Int)<=(k:Int):=nj;have x1:(k:Int)<(n:Int):=nj;obtain⟨b,bk,x,rfl,_,hx,ck⟩:=CO bq HN.out ab;have a3:=bd.out x (Bp hx);have D0:=oK 229 ip ip wi w3 w3 W _ _ vH vL x nj G (by rw[Bu,AY];omega) (by rw[Bu,AY];omega) HP.out;have e1:(ls.take (k+1)).map (·/ 2 ^ W)=(ls.take k).map (·/ 2 ^ W)++ [x / 2 ^ W]:=(by rw[Cw,hx];simp);have e2:(ls.take (k+1)).map (·% 2 ^ W)=(ls.take k).map (·% 2 ^ W)++ [x % 2 ^ W]:=(by rw[Cw,hx];simp);rw[<-e1,<-e2]at D0;have D:=hid D0;clear D0 e1 e2 hx a3 HP bq;go_wp2_with fail;refine D.out.mono ?_;rintro e w6 ⟨rfl,b7,bO,bm,bt⟩;have b5:=hid bm;have b6:=hid (HB.out.trans bt);clear bm bt D HB am;go_wp2_with fail;go_roundw
   case measure=>exact jq
   case rel=>go_light;exact⟨k+1,b7,bO,nj,iw,b5.out,b6.out⟩
  ·obtain rfl:k=n:=by omega
   have gk:=ig ((k:Int)<k);have U:=ig (k<k);have E:ls.take k=ls:=Cf py;rw[E]at HP;obtain⟨P,hP⟩:=ii (2 ^ W);rw[<-hP]at HP;have ai:=hid hP;have cj:1<=P:=(by rw[hP];exact Nat.one_le_two_pow);obtain⟨HS,ag⟩:=ii (ls.map (·/ P));obtain⟨LS,ah⟩:=ii (ls.map (·% P));rw[<-ag,<-ah]at HP;have ak:HS.length=k:=(by rw[ag,Bu];exact HN.out);have aq:LS.length=k:=(by rw[ah,Bu];exact HN.out);have oh:=HP.out.oh;have ol:=HP.out.ol;rw[ak]at oh;rw[aq]at ol;obtain⟨AH,cH,rfl⟩:=bZ oh;obtain⟨AL,cL,rfl⟩:=bZ ol;have RH:=hid (Ab4 oh ak);have RL:=hid (Ab4 ol aq);have b0:=HP.out.blk;have d0:=(b0.alloc (.cells #[(),ij] 234)).cell 0;have d1:=(b0.alloc (.cells #[(),ij] 234)).cell 1;have d2:=(b0.alloc (.cells #[(),ij] 234)).cell 2;simp only[List.getElem?_toArray,List.getElem?_cons_zero,List.getElem?_cons_succ]at d0 d1 d2;have cc:=hid ag;have bS:=hid ah;have b3:=hid ak;have bN:=hid aq;have B0:=hid b0;clear oh ol ag ah ak aq hP E HP b0;go_wp2_with fail;have Q:Hid (Wr (fun q=>q<wi.heap.size) (wi.alloc (.cells #[(),ij] 234)) wi wi 234 [] (Ed W (ls.take 0)) (.slice none 0 0)):=Wr.start4 wi wi _ [] (Ak _) (fun q h=>h);have af:Hid (Kept (fun q=>q<wi.heap.size) wi (wi.alloc (.cells #[(),ij] 234))):=Kept.of_below (aZ (Ae _ _)) (fun q h=>h);clear d0 d1 d2;generalize wi.alloc (.cells #[(),ij] 234)=wz at *;go_loopw [53] (fun iv wr=>∃ (j:Nat) (v':Value),j<=k/\iv= .int .i64 j/\Hid (Wr (fun q=>q<wi.heap.size) wr wi wi 234 [] (Ed W (ls.take j)) v')/\Hid (Kept (fun q=>q<wi.heap.size) wi wr)) (fun iv _=>k-(intOf iv).toNat)
   case atStart=>exact⟨0,_,nj,rfl,Q.out,af.out⟩
   case round=>
    obtain⟨j,v',hj,rfl,z,HK⟩:=hrel;clear Q af;obtain⟨wj,rfl⟩:=ii wr;by_cases ab:j<k
    ·have gk:=ic ((j:Int)<k);have U:=ic (j<k);have x0:(0:Int)<=(j:Int):=nj;have x1:(j:Int)<(k:Int):=nj;have bx:Row wj wi AL k 1 (jZ .u16 LS):=RL.out.keep fun p hp=>World.cell?_of_block (HK.out.block p.block hp);obtain⟨b,bk,x,rfl,_,hx,ck⟩:=CO bx bN.out ab;obtain⟨y,hy⟩:∃y,ls[j]? =some y:=⟨_,Az ly⟩;have ay:x=y % P:=(by rw[bS.out,Co,hy]at hx;exact(Option.some.inj hx).symm);have bj:x<P:=(by rw[ay];exact Nat.mod_lt _ nj);have b8:P<=2 ^ 14:=(by rw[ai.out];exact Cm nj G);have d0:wj.cell? ⟨w3,0,none⟩=some (.int .i64 (W:Nat)):=(World.cell?_of_block (a:=⟨w3,0,none⟩) (HK.out.block _ B0.out.lt)).trans (B0.out.cell 0);have u2:IntKind.u64.wrap (x:Int)=(x:Int):=pm;have bi:(Ed W (ls.take j)).length<=400000:=(by rw[Iq,AY];have h2:min j ls.length*W<=20000*14:=Iw nj G;omega);have D0:=Ad3 (fun q=>q<wi.heap.size) wj wi wi _ [] v' _ x W (by rw[<-ai.out];exact bj) nj nj z.out;have J:Ed W (ls.take (j+1))=Ed W (ls.take j)++msb x W W:=(by rw[Cw,hy,ay,ai.out];exact Zl W _ y);rw[<-J]at D0;have D:=hid D0;clear D0 J bi hx ay hy bj b8 z bx;go_wp2_with fail;refine D.out.mono ?_;rintro e w6 ⟨rfl,v6,aa,N⟩;have aw:=hid aa;have a4:Hid (Kept (fun q=>q<wi.heap.size) wi w6):=HK.out.trans N;clear aa N D HK d0 ck;go_wp2_with fail;go_roundw
     case measure=>exact jq
     case rel=>go_light;exact⟨j+1,v6,nj,iw,aw.out,a4.out⟩
    ·obtain rfl:j=k:=by omega
     have gk:=ig ((j:Int)<j);have U:=ig (j<j);have E:ls.take j=ls:=Cf py;rw[E]at z;obtain⟨BT,aj⟩:∃BT:Nat->List Bool,BT=fun i=>Ed W ls++EE 0 ((ls.take i).map (·/ P)):=⟨_,rfl⟩;have am:=hid aj;have ar:BT 0=Ed W ls:=(by rw[aj];show Ed W ls++EE 0 ((ls.take 0).map (·/ P))=_;rw[List.take_zero,Fz,EE,Cg]);have ac:Hid (BT j=Gf W ls):=(by show _=_;rw[aj];show Ed W ls++EE 0 ((ls.take j).map (·/ P))=_;rw[E,ai.out];rfl);rw[<-ar]at z;have bc:Hid ((BT 0).length<=300000):=(by show _<=_;rw[ar,Iq,HN.out];have h2:j*W<=20000*14:=Iw nj G;omega);have bp:Hid (0=((ls.take 0).map (·/ P)).getLast?.getD 0):=rfl;have Q:=hid z.out;have af:=hid HK.out;have d1:wj.cell? ⟨w3,1,none⟩=some (.slice AH j cH):=(World.cell?_of_block (a:=⟨w3,1,none⟩) (HK.out.block _ B0.out.lt)).trans (B0.out.cell 1);clear z HK E aj ar;go_wp2_with fail;clear d1;go_loopw [13,66] (fun uv iv wr=>∃ (i u:Nat) (v':Value),i<=j/\u<=20000/\iv= .int .i64 i/\uv= .int .i64 u/\Hid (u=((ls.take i).map (·/ P)).getLast?.getD 0)/\Hid (Wr (fun q=>q<wi.heap.size) wr wi wi 234 [] (BT i) v')/\Hid ((BT i).length<=300000+i+u)/\Hid (Kept (fun q=>q<wi.heap.size) wi wr)) (fun _ iv _=>j-(intOf iv).toNat)
     case atStart=>exact⟨0,0,_,nj,nj,rfl,rfl,bp.out,Q.out,bc.out,af.out⟩
     case round=>
      obtain⟨i,u,v2,hi,hu,rfl,rfl,HU,z,L,HK⟩:=hrel;clear Q bc af bp;obtain⟨wk,rfl⟩:=ii wr;by_cases ab:i<j
      ·have gk:=ic ((i:Int)<j);have U:=ic (i<j);have x0:(0:Int)<=(i:Int):=nj;have x1:(i:Int)<(j:Int):=nj;have a8:Row wk wi AH j 1 (jZ .i64 HS):=RH.out.keep fun p hp=>World.cell?_of_block (HK.out.block p.block hp);obtain⟨b,bk,q,rfl,_,hq,ck⟩:=CO a8 b3.out ab;obtain⟨x,hx⟩:∃x,ls[i]? =some x:=⟨_,Az ly⟩;have Z:q=x / P:=(by rw[cc.out,Co,hx]at hq;exact(Option.some.inj hq).symm);have a3:=bd.out x (Bp hx);have ci:q<=20000:=(by rw[Z];exact AN (Ix _ _) nj);have b9:=qG P hx bC.out;rw[<-HU.out,<-Z]at b9;have a6:=iH P hx;have J:=gR P hx;rw[<-HU.out,<-Z]at J;rw[<-Z]at a6;obtain⟨d,hd⟩:=ii (q-u);rw[<-hd]at J;have us:IntKind.i64.wrap ((q:Int)-(u:Int))=(d:Int):=pj;have bi:(BT i).length<=350000:=(by have:=L.out;omega);have cf:d<=20000:=nj;have ae:BT (i+1)=BT i++unary d:=(by rw[am.out];show _++_=_++_++_;rw[J,AE]);have bf:Hid ((BT (i+1)).length<=300000+(i+1)+q):=(by show _<=_;rw[ae,Ag,Kb];have:=L.out;omega);have D0:=Yz (fun q=>q<wi.heap.size) wk wi wi _ [] v2 _ d nj nj z.out;rw[<-ae]at D0;have D:=hid D0;have b1:Hid (q=((ls.take (i+1)).map (·/ P)).getLast?.getD 0):=a6.symm;clear D0 J ae a6 hx Z hq hd z L HU a8 a3;go_wp2_with fail;refine D.out.mono ?_;rintro e w6 ⟨rfl,v6,aa,N⟩;have aw:=hid aa;have a4:Hid (Kept (fun q=>q<wi.heap.size) wi w6):=HK.out.trans N;clear aa N D HK ck;go_wp2_with fail;go_roundw
       case measure=>exact jq
       case rel=>go_light;exact⟨i+1,q,v6,nj,nj,iw,iw,b1.out,aw.out,bf.out,a4.out⟩
      ·obtain rfl:i=j:=by omega
       have gk:=ig ((i:Int)<i);have U:=ig (i<i);obtain⟨A3,c3,rfl⟩:=bZ z.out.own;obtain⟨bg,be,Y⟩:=z.out.rowOf;have a5:=z.out.blk.ia 0;have a0:=bytesOf_length (BT i);have D:=hid (Wa wk wi A3 _ c3 (bytesOf (BT i)) bg (by have:=L.out;omega) Y a5 be);rw[ac.out]at D a0;have bu:Hid ((bytesOf (Gf W ls)).length<=100000):=(by show _<=_;rw[a0,<-ac.out];have:=L.out;omega);have al:Below w w wk:=(M.out.trans (HB.out.mono M.out.size)).trans ((HK.out.below (fun q h=>h)).mono (by have:=HB.out.size;have:=M.out.size;omega));have ax:Hid (wk.ownsRow w 5 1 (.slice A2 (fZ i).length c2) (fZ i).length (dZ .u8 (fZ i))):=eZ ba.out (fun y hy=>((HB.out.trans ((HK.out.below (fun q h=>h)).mono HB.out.size)).block y (Aj ba.out y hy).2));have az:=hid al;obtain⟨BO,bh⟩:=ii (bytesOf (Gf W ls));rw[<-bh]at D HE bu;clear bg be Y a5 a0 z L HU bh al;go_wp2_with fail;refine D.out.mono ?_;rintro e w8 ⟨v8,rfl,av,a1⟩;obtain⟨A8,c8,rfl⟩:=bZ av;have P1:Hid (Part.Ok (⟨A2,c2,fZ i⟩:Part) w8):=lZ (eZ ax.out (fun y hy=>a1.block y (Aj ax.out y hy).2)) rfl;have P2:Hid (Part.Ok (⟨A8,c8,BO⟩:Part) w8):=lZ av rfl;have an:=hid (xZ a1 az.out.size az.out);have b4:BN [(⟨A2,c2,fZ i⟩:Part),⟨A8,c8,BO⟩]<=1000000:=(by have:=bu.out;simp[BN];omega);clear av a1 D ax az;go_wp2_with fail;refine(FK _ _ 2 [(⟨A2,c2,fZ i⟩:Part),⟨A8,c8,BO⟩] rfl nj b4 (fun p hp=>by rcases AO.1 hp with rfl|hp;exact P1.out.step (aZ (Ae _ _));rcases AO.1 hp with rfl|hp;exact P2.out.step (aZ (Ae _ _));cases hp) (Blk.made _ _ _)).mono ?_;rintro e w9 ⟨v9,rfl,ca,al⟩;go_wp2_with fail;go_ret2;refine⟨v9,rfl,?_,?_⟩
       ·rw[HE.out];have h:=kZ ca (show w.heap.size<=_ by have:=an.out.size;simp;omega);simp only[List.flatMap_cons,List.flatMap_nil,List.append_nil]at h;exact h
       ·exact xZ al (by have:=an.out.size;simp;omega) (pZ an.out.size an.out)
def EK(W:Nat)(bs:List Bool)(n:Nat):List Nat:=(List.range n).map fun i=>AK bs (i*W) W
theorem Pj(W:Nat)(bs:List Bool)(n:Nat):(EK W bs n).length=n:=by simp[EK]
theorem iW(W:Nat)(bs:List Bool)(n:Nat):∀x∈EK W bs n,x<2 ^ W:=by intro x hx;obtain⟨i,_,rfl⟩:=CH.1 hx;exact Hq _ _ _
def Ae2(bound W:Nat)(bs:List Bool):List Nat->Nat->Nat->List Nat->List Nat×Nat×Int
 | [],at_,_,acc=>(acc,at_,0)
 |x :: xs,at_,high,acc=>
  if unE bs at_≠0 then([],at_,unE bs at_)
  else if acc≠ []/\(high+unV bs at_)*2 ^ W+x<=acc.getLast?.getD 0 then([],at_,2)
  else if bound<=(high+unV bs at_)*2 ^ W+x then([],at_,8)
  else Ae2 bound W bs xs (unA bs at_) (high+unV bs at_) (acc++ [(high+unV bs at_)*2 ^ W+x])
def Ir(at_:Nat):Nat:=(8-at_ % 8) % 8
def GP(bound n:Nat)(bs:List Bool):List Nat×Nat×Int:=
 if bs.length<n*efW bound n then([],0,1)
 else if(Ae2 bound (efW bound n) bs (EK (efW bound n) bs n) (n*efW bound n) 0 []).2.2≠0 then([],0,(Ae2 bound (efW bound n) bs (EK (efW bound n) bs n) (n*efW bound n) 0 []).2.2)
 else if AK bs (Ae2 bound (efW bound n) bs (EK (efW bound n) bs n) (n*efW bound n) 0 []).2.1 (Ir (Ae2 bound (efW bound n) bs (EK (efW bound n) bs n) (n*efW bound n) 0 []).2.1)≠0 then([],0,2)
 else((Ae2 bound (efW bound n) bs (EK (efW bound n) bs n) (n*efW bound n) 0 []).1,((Ae2 bound (efW bound n) bs (EK (efW bound n) bs n) (n*efW bound n) 0 []).2.1+7) / 8,0)
theorem Tb{bs:List Bool}{at_:Nat}(h:at_<=bs.length):unA bs at_<=bs.length:=by unfold unA;split<;>omega
theorem lA(bs:List Bool)(at_:Nat):unV bs at_<=bs.length:=by unfold unV;split<;>omega
theorem Uo{bound W:Nat}{bs:List Bool}:∀ (xs:List Nat) (at_ i:Nat) (j:List Nat),at_<=bs.length->(Ae2 bound W bs xs at_ i j).2.1<=bs.length
 | [],at_,_,_,h=>h
 |x :: xs,at_,i,j,h=>by
  unfold Ae2;split
  ·exact h
  ·split
   ·exact h
   ·split
    ·exact h
    ·exact Uo xs _ _ _ (Tb h)
theorem Uc(h x W:Nat)(hx:x<2 ^ W):(h*2 ^ W |||x)=h*2 ^ W+x:=by rw[Nat.mul_comm,Nat.two_pow_add_eq_or_of_lt hx]
def Da(W:Nat)(bs:List Bool)(n k:Nat):List Value:=(List.range n).map fun i=>Value.int .u16 ((if i<k then AK bs (i*W) W else 0:Nat):Int)
theorem aQ(W:Nat)(bs:List Bool)(n k:Nat):(Da W bs n k).length=n:=by simp[Da]
theorem Mc{bs:List Bool}(h:i<n):(Da W bs n k)[i]? =some (.int .u16 ((if i<k then AK bs (i*W) W else 0:Nat):Int)):=by simp[Da,h]
theorem iC{bs:List Bool}:(Da W bs n k).toArray.setIfInBounds k (.int .u16 (AK bs (k*W) W:Nat))=(Da W bs n (k+1)).toArray:=by
 apply Array.ext_getElem?
 intro i;rw[Gp];by_cases e:k=i
 ·subst e;by_cases hk:k<n
  ·rw[Ab rfl,Ab (by simpa[Da]using hk)];simp only[List.getElem?_toArray];rw[Mc hk,Ab nj]
  ·rw[Ab rfl,Aa (by simpa[Da]using hk)];simp[Da,hk]
 ·rw[Aa e];simp only[List.getElem?_toArray];by_cases hi:i<n
  ·rw[Mc hi,Mc hi];congr 3;by_cases h2:i<k
   ·rw[Ab h2,Ab nj]
   ·rw[Aa h2,Aa nj]
  ·simp[Da,hi]
theorem Tl(W:Nat)(bs:List Bool)(n:Nat):Da W bs n n=dZ .u16 (EK W bs n):=by unfold Da EK dZ;rw[List.map_map];apply J1;intro i hi;simp only[Function.comp];rw[Ab (Gl.1 hi)]
theorem ZC(W:Nat)(bs:List Bool)(n:Nat):madeCells #[.int .u16 0] n=(Da W bs n 0).toArray:=by
 apply Array.ext_getElem?
 intro i;by_cases h:i<n
 ·simp[Da,madeCells,h,Nat.mod_one]
 ·simp[Da,madeCells,h]
theorem Zf:(prog.info? 25).map (fun i=>(i.zero,i.size,i.bytes))=some (some (.int .u16 0),1,2):=my
theorem YT(n:Nat)(hn:n<=8388608)(w:World):(Instr.makeSlice 227 (.int .i64 (n:Int)) (.int .i64 (n:Int))).run prog w=
 .ok (.slice (some ⟨w,0,none⟩) n n) (w.alloc (.cells (madeCells #[.int .u16 0] n) 25)):=by
 obtain⟨i0,hi,y,j,i⟩:=info_parts Zf;have h:=run_make (P:=prog) w 227 25 i0 (.int .u16 0) underlying227 hi y .i64 .i64 (n:Int) (n:Int) nj (Int.le_refl _) ri nj;exact a1j
def Pt(w:World)(lo g:Nat)(bs:List Bool)(n W:Nat)(e:Ending)(w':World):Prop:=
 Kept (fun x=>x<w.heap.size/\x≠g) w w'/\if bs.length<n*W then e= .returned (.tuple #[(), .int .i64 1])
 else ∃v,e= .returned (.tuple #[v,ij])/\w'.ownsRow w 25 1 v n (dZ .u16 (EK W bs n))/\Rd w' lo g bs (n*W)
theorem fY(w:World)(lo g:Nat)(bs:List Bool)(n W:Nat)(hn:n<=20000)(hW:W<=14)(ah:lo<=g)(hR:Rd w lo g bs 0):
 Calls prog 295 #[.pointer (some ⟨g,0,none⟩), .int .i64 (n:Nat), .int .i64 (W:Nat)] w (Pt w lo g bs n W):=by
 have ay:=hR.lt;have hz:bs.length<=800000:=mz
 have D0:=hid (Ad8 w lo g bs 0 hR);have HR:=hid hR;have av:n*W<=280000:=AN (Iw hn hW) ip;obtain⟨N,hN⟩:=ii (n*W);have ax:IntKind.i64.wrap ((n:Int)*(W:Int))=(N:Int):=by rw[show(n:Int)*(W:Int)=(N:Int) by rw[hN];simp,Ar _ nj]
 have Y:=YT n nj;rw[ZC W bs n]at Y;unfold Pt;rw[<-hN]at av ⊢;have HN:=hid hN;rw[Nat.sub_zero]at D0;clear hR hN;by_cases E:bs.length<N
 ·simp only[if_pos E];have g1:=ic ((bs.length:Int)<N)
  have ak:=ic (bs.length<N)
  clear E;generalize bs.length=z at *;go_enter func295,ntmps295;go_wp2_with fail;refine D0.out.mono ?_;rintro e w1 ⟨rfl,q,rfl⟩;go_wp2_with fail;go_ret2;exact⟨(Kept.refl _ _).drewN q,rfl⟩
 ·simp only[if_neg E];have g1:=ig ((bs.length:Int)<N)
  have ak:=ig (bs.length<N)
  have am:Hid (N<=bs.length):=rK
  obtain⟨z,ag⟩:=ii bs.length;rw[<-ag]at D0 g1 ak hz;clear E ag;go_enter func295,ntmps295;go_wp2_with fail;refine D0.out.mono ?_;rintro e w1 ⟨rfl,q,hq⟩;have aq:Hid (Rd w1 lo g bs 0):=by rw[hq];exact HR.out.drewN q
  have au:Hid (Kept (fun x=>x<w.heap.size/\x≠g) w w1):=rg
  have af:w1.heap.size=w.heap.size:=by rw[hq];rfl
  clear hq;go_wp2_with fail;have L:Blk (w1.alloc (.cells (Da W bs n 0).toArray 25)) w1 25 (Da W bs n 0).toArray:=Blk.made _ _ _;have U:Hid (Rd (w1.alloc (.cells (Da W bs n 0).toArray 25)) lo g bs 0):=aq.out.keep (fun b hb1 hb2=>EA w1 _ b nj) ah;have Z:Hid (Kept (fun x=>x<w.heap.size/\x≠g) w (w1.alloc (.cells (Da W bs n 0).toArray 25))):=au.out.alloc (fun x hx=>by have:=hx.1;omega) _;generalize w1.alloc (.cells (Da W bs n 0).toArray 25)=w2 at *;have ac:=hid L;clear L Y D0;rw[af]at *;clear af;generalize aa:w.heap.size=b at *;have ar:=hid aa;clear aa;go_loopw [22] (fun iv wr=>∃k:Nat,k<=n/\iv= .int .i64 k/\Hid (Blk wr b 25 (Da W bs n k).toArray)/\Hid (Rd wr lo g bs (k*W))/\Hid (Kept (fun x=>x<b/\x≠g) w wr)) (fun iv _=>n-(intOf iv).toNat)
  case atStart=>exact⟨0,nj,rfl,ac.out,by rw[Nat.zero_mul];exact U.out,Z.out⟩
  case round=>
   obtain⟨k,hk,rfl,HB,J,HK⟩:=hrel;clear ac U Z;by_cases M:k<n
   ·have gk:=ic ((k:Int)<n);have a0:=ic (k<n);have j:k*W+W<=bs.length:=(by have h1:(k+1)*W<=n*W:=GB W M;rw[JB]at h1;have:=HN.out;have:=am.out;omega);have D:=Kz wr lo g bs (k*W) W nj J.out;unfold Jp Jn Jl at D;rw[Ab j,Ab j,Ab j]at D;have hv:AK bs (k*W) W<2 ^ W:=Hq _ _ _;have a1:AK bs (k*W) W<16384:=Ek hv kz;have HS:Hid ((Da W bs n k).toArray.setIfInBounds k (.int .u16 (AK bs (k*W) W:Nat))=(Da W bs n (k+1)).toArray):=iC;have aj:k*W+W=(k+1)*W:=(by rw[JB]);rw[aj]at D;generalize AK bs (k*W) W=y at *;have az:IntKind.u16.wrap (y:Int)=(y:Int):=(by rw[IntKind.wrap_u16];omega);have D:=hid D;have x0:(0:Int)<=(k:Int):=nj;have x1:(k:Int)<(n:Int):=nj;have ai:Hid (∃u,(Da W bs n k).toArray[k]? =some u):=⟨_,by simp only[List.getElem?_toArray];exact Mc M⟩;clear j hv aj;go_wp2_with fail;refine D.out.mono ?_;rintro e w3 ⟨rfl,Q,i⟩;have G:Hid (Blk w3 b 25 (Da W bs n k).toArray):=(i.block b nj).trans HB.out;have ab:Hid (Kept (fun x=>x<b/\x≠g) w w3):=HK.out.trans ⟨i.os,i.tape,i.output,i.size,fun x hx=>i.block x hx.2⟩;have ae:=hid Q;obtain⟨u,hu⟩:=ai.out;have c3:w3.cell? ⟨b,k,none⟩=some u:=(G.out.cell k).trans hu;have f3:=G.out.frozen k;clear Q i HB J HK D hu ai;go_wp2_with fail;have al:Hid (Blk (w3.setCell ⟨b,k,none⟩ (.int .u16 (y:Nat))) b 25 (Da W bs n (k+1)).toArray):=(by rw[<-HS.out];exact G.out.set k _);have an:Hid (Rd (w3.setCell ⟨b,k,none⟩ (.int .u16 (y:Nat))) lo g bs ((k+1)*W)):=ae.out.keep (fun x _ hx2=>AW w3 _ _ x (show x≠b by omega)) ah;have aw:Hid (Kept (fun x=>x<b/\x≠g) w (w3.setCell ⟨b,k,none⟩ (.int .u16 (y:Nat)))):=ab.out.set (p:=⟨b,k,none⟩) (fun h=>absurd h.1 rX) _;clear G ae ab c3 f3;go_roundw
    case measure=>exact jq
    case rel=>go_light;exact⟨k+1,nj,iw,al.out,an.out,aw.out⟩
   ·obtain rfl:k=n:=by omega
    have gk:=ig ((k:Int)<k);go_wp2_with fail;go_ret2;rw[ar.out];refine⟨HK.out,_,rfl,⟨by rw[<-Tl,aQ];simp, .inr ⟨b,k,_,rfl,Ak _,HB.out,Ak _,sS,by simp[Da],?_⟩⟩,by rw[HN.out];exact J.out⟩;rw[<-Tl,CZ];exact Cf (by simp[Da])
def toS(ls:List Nat):Str:=ls.map UInt8.ofNat
theorem j9(ls:List Nat):EN ls=bs (toS ls):=rfl
def nxN(ls:List Nat)(was:Str)(first:Bool)(at_:Nat):Nat:=if first then 0 else AV was.length ls at_ 0
def nxA(ls:List Nat)(was:Str)(first:Bool)(at_:Nat):Nat:=if first then at_ else uZ was.length ls at_ 0
def nxE(ls:List Nat)(was:Str)(first:Bool)(at_:Nat):Int:=if first then 0 else wZ was.length ls at_ 0
def nxS(was:Str)(first:Bool)(n:Nat)(t:Str)(a:Nat)(e:Int):Str×Nat×Int:=
 if e≠0 then([],a,e)else if t= []∨EL was (was.take n++t)=false∨(first=false/\BF was (was.take n++t)≠n)then(was.take n++t,a,2)else(was.take n++t,a,0)
def Fg(ls:List Nat)(was:Str)(first:Bool)(at_:Nat):Str×Nat×Int:=
 nxS was first (nxN ls was first at_) (toS (DV 25 ls (nxA ls was first at_) (nxE ls was first at_))) (Df 25 ls (nxA ls was first at_) (nxE ls was first at_)) (De 25 ls (nxA ls was first at_) (nxE ls was first at_))
theorem Af4(s:Str)(n:Nat)(hn:n<=s.length)(w:World):(Instr.slice 9 (.string (bs s)) none (some (.int .i64 (n:Int))) none).run prog w= .ok (.string (bs (s.take n))) w:=by
 have hz:=Fb s;rw[run_slice_string_h w (t:=9) (s:=bs s) (ht:=underlying9) .i64 (n:Int) nj nj,BD];have e:(bs s).extract 0 n=bs (s.take n):=by refine ByteArray.ext (Array.ext' ?_);rw[SL,IM,I7,Nat.sub_zero];rfl
 rw[e]
theorem jI(a b:Str):bs a++bs b=bs (a++b):=by refine ByteArray.ext (Array.ext' ?_);simp[bs]
theorem eW{most:Nat}(h8:∀x∈ls,x<=255)(at_:Nat)(er:Int):(DV most ls at_ er).length<=most:=by
 unfold DV;split
 ·exact Bf _
 ·exact(M9 most (ls.drop at_) fun x hx=>h8 x (Bz hx)).1
theorem a0p{p:Prop}(h:p:=by go_wp2_with fail;refine(GS _ g base ls A c a2 0 2 E.out).mono ?_;rintro e w5 ⟨rfl,y,j⟩;rw[HF.out]at y;have Q:=hid y;have U:Hid (Kept (Bh g w) w w5):=G.out.trans ⟨j.os,j.tape,j.output,j.size,fun x hx=>j.block x hx.2⟩;clear y j E G;go_wp2_with fail;go_ret;rw[z.out];exact⟨rfl,Q.out,U.out⟩):p:=h
theorem a2f{p:Prop}(h:p:=by have gE:(e2 != 0)=true:=sJ;have z:Hid (R=([],a2,e2)):=(by have h:=HR.out;rw[Ab he]at h;exact h);clear he HR HT;go_wp2_with fail;go_ret;rw[z.out];exact⟨rfl,N.out,L.out⟩):p:=h
theorem Af0(w:World)(g base:Nat)(ls:List Nat)(A:Option Addr)(c at_:Nat)(i:Str)(first:Bool)(aj:ls.length<=100000)(h8:∀x∈ls,x<=255)(a6:i.length<=25)(h:Cur w g base ls A c at_ 0):
 Calls prog 245 #[.pointer (some ⟨g,0,none⟩), .string (bs i),first] w fun e w'=>e= .returned (.string (bs (Fg ls i first at_).1))/\Cur w' g base ls A c (Fg ls i first at_).2.1 (Fg ls i first at_).2.2/\Kept (Bh g w) w w':=by
 have hz:=Fb i;have a7:=h.blk.lt;obtain⟨R,hR⟩:=ii (Fg ls i first at_);rw[<-hR];unfold Fg at hR;have D1:=hid (fun wx hx=>GO wx g base ls A c at_ 0 i.length aj h8 nj hx)
 have hn:nxN ls i first at_<=i.length:=by
  unfold nxN;split
  ·exact Bf _
  ·exact zY h8 _ _
 have D2:=hid (fun wx hx=>Pu wx g base ls A c (nxA ls i first at_) (nxE ls i first at_) 25 aj h8 nj hx);have am:=eW (most:=25) h8 (nxA ls i first at_) (nxE ls i first at_);rw[j9]at D2
 have HN:Hid ((first=true->nxN ls i first at_=0/\nxA ls i first at_=at_/\nxE ls i first at_=0)/\(first=false->nxN ls i first at_=AV i.length ls at_ 0/\nxA ls i first at_=uZ i.length ls at_ 0/\nxE ls i first at_=wZ i.length ls at_ 0)):=by
  constructor
  ·intro hf;subst hf;exact⟨rfl,rfl,rfl⟩
  ·intro hf;subst hf;exact⟨rfl,rfl,rfl⟩
 generalize nxN ls i first at_=n at *;generalize nxA ls i first at_=a1 at *;generalize nxE ls i first at_=e1 at *;obtain⟨t,ht⟩:=ii (toS (DV 25 ls a1 e1));have ax:t.length<=25:=by rw[ht];unfold toS;rw[Bu];exact am
 rw[<-ht]at D2 hR;generalize Df 25 ls a1 e1=a2 at *;generalize De 25 ls a1 e1=e2 at *;have H:=hid h;unfold nxS at hR;clear h h8 aj ht am;have KH:=fun wx=>Af4 i n hn wx;have a4:(i.take n).length<=25:=oj
 obtain⟨s,hs⟩:=ii (i.take n++t);have ba:s.length<=50:=by rw[hs,Ag];omega
 have HS:=hid hs;rw[<-hs]at hR;have aq:Hid (bs (i.take n)++bs t=bs s):=by show _=_;rw[jI,hs]
 have HH:Hid (n=0->i.take n= []):=fun h=>qy
 have HR:=hid hR;clear hR;have DM:=hid (fun wx=>UH wx i s);have DA:=hid (fun wx=>Sv wx i s nj nj);have HT:Hid ((t= []->((bs t).toList==({data:=#[] }:ByteArray).toList)=true/\((bs t).toList== [])=true/\(bs t).toList.isEmpty=true/\(bs t).toList= [])/\(t≠ []->((bs t).toList==({data:=#[] }:ByteArray).toList)=false/\((bs t).toList== [])=false/\(bs t).toList.isEmpty=false/\¬(bs t).toList= [])):=⟨fun h=>by rw[h];exact Vf,fun h=>Th t h⟩;generalize i.take n=hd at *;have ag:=hid (Fb hd);have ae:=hid (Fb t);obtain⟨a9,au⟩:=ii hd.length;obtain⟨tl,af⟩:=ii t.length;rw[<-au]at ag a4;rw[<-af]at ae ax;clear hs au af;have HF:Hid (ES 0 2=2):=Ab rfl;cases first with
 |true=>
  obtain⟨q1,q2,q3⟩:=HN.out.1 rfl;have ab:Hid (Cur w g base ls A c a1 e1):=by rw[q2,q3];exact H.out
  have aa:Hid (Kept (Bh g w) w w):=Kept.refl _ _;have an:=HH.out q1;have ar:s=t:=by rw[HS.out,an];rfl
  have a3:bs t=bs s:=by rw[ar]
  rw[a3]at HT ae;have z2:=ae.out;clear ar;clear q2 q3 HN H D1 aq HH ag an KH HS;subst q1;go_enter func245,ntmps245;go_wp2_with fail;refine(D2.out _ ab.out).mono ?_;rintro e w2 ⟨rfl,Z,J⟩;have L:Hid (Kept (Bh g w) w w2):=aa.out.trans ⟨J.os,J.tape,J.output,J.size,fun x hx=>J.block x ⟨Ek hx.1 aa.out.size,hx.2⟩⟩;have DE:=hid (Dn w2 g base ls A c a2 e2 Z);have N:=hid Z;clear Z J ab aa D2;go_wp2_with fail;refine DE.out.mono ?_;rintro e az ⟨rfl,rfl⟩;by_cases he:e2=0
  ·skip
   subst he;rw[Aa (show ¬((0:Int)≠0) from fun h=>h rfl)]at HR;clear DE;by_cases ht:t= []
   ·obtain⟨b1,b2,b3,b4⟩:=HT.out.1 ht;have z:Hid (R=(s,a2,2)):=(by have h:=HR.out;rw[Ab (.inl ht)]at h;exact h);clear ht HT;have E:=N;have G:=L;exact a0p
   ·have ai:=hid ht;obtain⟨b1,b2,b3,b4⟩:=HT.out.2 ht;clear ht HT;obtain⟨M,hM⟩:=ii (EL i s);rw[<-hM]at DM;have HM:=hid hM;clear hM;by_cases Y:M=false
    ·have z:Hid (R=(s,a2,2)):=ka;subst Y;go_wp2_with fail;refine(DM.out _).mono ?_;rintro e w3 ⟨rfl,rfl⟩;have E:=N;have G:=L;exact a0p
    ·have ah:M=true:=io;clear Y;subst ah;go_wp2_with fail;refine(DM.out _).mono ?_;rintro e w3 ⟨rfl,rfl⟩;have z:Hid (R=(s,a2,0)):=(by have h:=HR.out;rw[Aa (fun h=>h.elim ai.out (fun h=>h.elim (by rw[<-HM.out];decide) (fun h=>by cases h.1)))]at h;exact h);go_wp2_with fail;go_ret;rw[z.out];exact⟨rfl,N.out,L.out⟩
  ·exact a2f
 |false=>
  obtain⟨q1,q2,q3⟩:=HN.out.2 rfl;rw[<-q1,<-q2,<-q3]at D1;have z1:=ag.out;have z2:=ae.out;have a8:=aq.out;clear q1 q2 q3 HN HH;go_enter func245,ntmps245;go_wp2_with fail;refine(D1.out _ H.out).mono ?_;rintro e w1 ⟨rfl,av,ak⟩;have ab:=hid av;have aa:=hid ak;clear av ak H D1;go_wp2_with fail;refine(D2.out _ ab.out).mono ?_;rintro e w2 ⟨rfl,Z,J⟩;have L:Hid (Kept (Bh g w) w w2):=aa.out.trans ⟨J.os,J.tape,J.output,J.size,fun x hx=>J.block x ⟨Ek hx.1 aa.out.size,hx.2⟩⟩;have DE:=hid (Dn w2 g base ls A c a2 e2 Z);have N:=hid Z;clear Z J ab aa D2;go_wp2_with fail;refine DE.out.mono ?_;rintro e az ⟨rfl,rfl⟩;by_cases he:e2=0
  ·skip
   subst he;rw[Aa (show ¬((0:Int)≠0) from fun h=>h rfl)]at HR;clear DE;by_cases ht:t= []
   ·obtain⟨b1,b2,b3,b4⟩:=HT.out.1 ht;have z:Hid (R=(s,a2,2)):=(by have h:=HR.out;rw[Ab (.inl ht)]at h;exact h);clear ht HT;have E:=N;have G:=L;exact a0p
   ·have ai:=hid ht;obtain⟨b1,b2,b3,b4⟩:=HT.out.2 ht;clear ht HT;obtain⟨M,hM⟩:=ii (EL i s);rw[<-hM]at DM;have HM:=hid hM;clear hM;by_cases Y:M=false
    ·have z:Hid (R=(s,a2,2)):=ka;subst Y;go_wp2_with fail;refine(DM.out _).mono ?_;rintro e w3 ⟨rfl,rfl⟩;have E:=N;have G:=L;exact a0p
    ·have ah:M=true:=io;clear Y;subst ah;go_wp2_with fail;refine(DM.out _).mono ?_;rintro e w3 ⟨rfl,rfl⟩;by_cases ac:BF i s=n
     ·have aw:((BF i s:Int) != (n:Int))=false:=(by rw[ac];simp);have a0:=hid ac;clear ac;go_wp2_with fail;refine(DA.out _).mono ?_;rintro e w4 ⟨rfl,q,hq⟩;have ay:Hid (Cur w4 g base ls A c a2 0):=(by rw[hq];exact N.out.drewN q);have a5:Hid (Kept (Bh g w) w w4):=(by rw[hq];exact L.out.drewN q);have z:Hid (R=(s,a2,0)):=(by have h:=HR.out;rw[Aa (fun h=>h.elim ai.out (fun h=>h.elim (by rw[<-HM.out];decide) (fun h=>h.2 a0.out)))]at h;exact h);clear hq DM DA N L;generalize BF i s=al at *;go_wp2_with fail;go_ret;rw[z.out];exact⟨rfl,ay.out,a5.out⟩
     ·have aw:((BF i s:Int) != (n:Int))=true:=qr;have z:Hid (R=(s,a2,2)):=(by have h:=HR.out;rw[Ab (.inr (.inr ⟨trivial,ac⟩))]at h;exact h);clear ac;go_wp2_with fail;refine(DA.out _).mono ?_;rintro e w3 ⟨rfl,q,hq⟩;have E:Hid (Cur w3 g base ls A c a2 0):=(by rw[hq];exact N.out.drewN q);have G:Hid (Kept (Bh g w) w w3):=(by rw[hq];exact L.out.drewN q);clear hq DM DA N L;generalize BF i s=al at *;exact a0p
  ·exact a2f
def Dp(ls:List Nat):Nat->Bool->Nat->List Str->List Str×Int
 |0,_,at_,acc=>(acc,Hh ls at_ 0)
 |k+1,first,at_,acc=>
  if(Fg ls (acc.getLast?.getD []) first at_).2.2≠0 then([],(Fg ls (acc.getLast?.getD []) first at_).2.2)
  else Dp ls k false (Fg ls (acc.getLast?.getD []) first at_).2.1 (acc++ [(Fg ls (acc.getLast?.getD []) first at_).1])
theorem eQ{a s:Str}(h:EL a s=true):s.length<=25:=by unfold EL at h;simp at h;exact h.2.1
theorem dR{i:Str}{first:Bool}{at_:Nat}(h:(Fg ls i first at_).2.2=0):(Fg ls i first at_).1.length<=25:=by
 unfold Fg nxS at *;split at h
 ·rename_i he;exact absurd h he
 ·rename_i he;rw[Aa he];split at h
  ·cases h
  ·rename_i hn;rw[Aa hn]
   have hm:EL i (List.take (nxN ls i first at_) i++toS (DV 25 ls (nxA ls i first at_) (nxE ls i first at_)))=true:=by
    cases hb:EL i (List.take (nxN ls i first at_) i++toS (DV 25 ls (nxA ls i first at_) (nxE ls i first at_)))with
    |true=>rfl
    |false=>exact absurd (.inr (.inl hb)) hn
   exact eQ hm
structure DAt (w:World) (base gd size:Nat) (ts hs:List Str) (vT vH:Value):Prop where
 blk:Blk w gd 254 #[vT, .int .i64 (size:Nat),vH]
 ot:w.ownsRow base 9 1 vT ts.length (Br ts)
 oh:w.ownsRow base 9 1 vH hs.length (Br hs)
 apart:∀y,vT.ownBlock=some y->vH.ownBlock≠some y
 gb:base<=gd
section
variable {w w1 w3 w':World} {base gd size g:Nat} {ts hs:List Str} {vT vH v3:Value} {s:Str}
theorem DAt.keep(h:DAt w base gd size ts hs vT vH)(hk:∀y,base<=y->y<w.heap.size->w'.heap[y]? =w.heap[y]?):DAt w' base gd size ts hs vT vH:=
 ⟨(hk gd h.gb h.blk.lt).trans h.blk,eZ h.ot (fun y hy=>hk y (Aj h.ot y hy).1 (Aj h.ot y hy).2),eZ h.oh (fun y hy=>hk y (Aj h.oh y hy).1 (Aj h.oh y hy).2),h.apart,h.gb⟩
theorem DAt.oth(h:DAt w base gd size ts hs vT vH){cs:Array Value}(hc:Blk w g 243 cs)(hk:Kept (fun y=>y<w.heap.size/\y≠g) w w'):DAt w' base gd size ts hs vT vH:=
 ⟨(hk.block gd ⟨h.blk.lt,Blk.apart h.blk hc ip⟩).trans h.blk,eZ h.ot (fun y hy=>hk.block y ⟨(Aj h.ot y hy).2,fun e=>gZ h.ot hc ip (e ▸ hy)⟩),eZ h.oh (fun y hy=>hk.block y ⟨(Aj h.oh y hy).2,fun e=>gZ h.oh hc ip (e ▸ hy)⟩),h.apart,h.gb⟩
theorem DAt.texts(h:DAt w base gd size ts hs vT vH)(hb:Below w w w1)(hg:w1.grownBy w3 vT.ownBlock)(i:w3.ownsRow base 9 1 v3 (ts.length+1) (Br ts++ [.string (bs s)]))(j:v3.ownBlock=vT.ownBlock∨v3.ownBlock=some w1.heap.size):
 DAt (w3.setCell ⟨gd,0,none⟩ v3) base gd size (ts++ [s]) hs v3 vH:=by
 have z:vT.ownBlock≠some gd:=gZ h.ot h.blk ip;have b3:=(h.blk.step hb).grown hg (Ba z);have o1:w1.ownsRow base 9 1 vH hs.length (Br hs):=eZ h.oh (fun y hy=>hb.block y (Aj h.oh y hy).2);have o3:w3.ownsRow base 9 1 vH hs.length (Br hs):=eZ o1 (fun y hy=>hg.block y (Aj o1 y hy).2 (fun e=>h.apart y e.symm hy));have n3:v3.ownBlock≠some gd:=gZ i b3 ip;have nh:vH.ownBlock≠some gd:=gZ o3 b3 ip;refine⟨by simpa using b3.set 0 v3,?_,eZ o3 (fun y hy=>AW _ _ _ y (fun e=>nh rh)),?_,h.gb⟩
 ·rw[Ag,PU];exact eZ i (fun y hy=>AW _ _ _ y (fun e=>n3 rh))
 ·intro y hy hh;rcases j with e|e
  ·exact h.apart y (by rw[<-e];exact hy) hh
  ·rw[e]at hy;injection hy with hy;have:=(Aj h.oh y hh).2;have:=hb.size;omega
theorem DAt.heads(h:DAt w base gd size ts hs vT vH)(hb:Below w w w1)(hg:w1.grownBy w3 vH.ownBlock)(i:w3.ownsRow base 9 1 v3 (hs.length+1) (Br hs++ [.string (bs s)]))(j:v3.ownBlock=vH.ownBlock∨v3.ownBlock=some w1.heap.size):
 DAt (w3.setCell ⟨gd,2,none⟩ v3) base gd size ts (hs++ [s]) vT v3:=by
 have z:vH.ownBlock≠some gd:=gZ h.oh h.blk ip;have b3:=(h.blk.step hb).grown hg (Ba z);have o1:w1.ownsRow base 9 1 vT ts.length (Br ts):=eZ h.ot (fun y hy=>hb.block y (Aj h.ot y hy).2);have o3:w3.ownsRow base 9 1 vT ts.length (Br ts):=eZ o1 (fun y hy=>hg.block y (Aj o1 y hy).2 (fun e=>h.apart y hy e.symm));have n3:v3.ownBlock≠some gd:=gZ i b3 ip;have nh:vT.ownBlock≠some gd:=gZ o3 b3 ip;refine⟨by simpa using b3.set 2 v3,eZ o3 (fun y hy=>AW _ _ _ y (fun e=>nh rh)),?_,?_,h.gb⟩
 ·rw[Ag,PU];exact eZ i (fun y hy=>AW _ _ _ y (fun e=>n3 rh))
 ·intro y hy hh;rcases j with e|e
  ·exact h.apart y hy (by rw[<-e];exact hh)
  ·rw[e]at hh;injection hh with hh;have:=(Aj h.ot y hy).2;have:=hb.size;omega
theorem Sg{i:List Nat}{at_ ob:Nat}{cs:Array Value}(h:Cur w g base i A c at_ er)(j:Blk w ob 254 cs)(k:Nat)(u:Value):Cur (w.setCell ⟨ob,k,none⟩ u) g base i A c at_ er:=
 ⟨h.blk.far (fun e=>Blk.apart j h.blk ip e.symm) _,BK h.own (gZ h.own j ip) _,h.le,h.lo⟩
theorem Ah3{j:List Nat}{at_:Nat}{v:Value}(h:Cur w g base j A c at_ er)(ho:w.ownsRow i 9 1 v n xs)(hg:w.grownBy w' v.ownBlock):Cur w' g base j A c at_ er:=
 ⟨h.blk.grown hg (Ba (gZ ho h.blk ip)),eZ h.own (fun y hy=>hg.block y (Aj h.own y hy).2 (fun e2=>by
  rcases FE ho h.own ip with e3|e3
  ·rw[e3]at e2;cases e2
  ·exact e3 (by rw[<-e2,hy]))),h.le,h.lo⟩
end
theorem Yy:(prog.info? 9).map (fun i=>(i.zero,i.size,i.bytes))=some (some (.string ⟨#[]⟩),1,16):=my
def IJ(w:World)(gd:Nat)(vT vH:Value)(y:Nat):Prop:=y<w.heap.size/\y≠gd/\vT.ownBlock≠some y/\vH.ownBlock≠some y
structure FI (w wr:World) (g:Nat) (B:Option Addr) (d:Nat) (ls:List Nat) (base gd size:Nat) (vT vH:Value) (at_:Nat) (t2 h2:List Str) (uT uH:Value):Prop where
 cur:Cur wr g w ls B d at_ 0
 dat:DAt wr base gd size t2 h2 uT uH
 kept:Kept (IJ w gd vT vH) w wr
 lt:∀y,y<w.heap.size->uT.ownBlock=some y->vT.ownBlock=some y
 lh:∀y,y<w.heap.size->uH.ownBlock=some y->vH.ownBlock=some y
section
variable {w wr w5:World} {g d base gd size at_:Nat} {B:Option Addr} {ls:List Nat} {vT vH uT uH v5:Value} {t2 h2:List Str} {s:Str} {o:Obj}
theorem FI.next{w2:World}{a2:Nat}(h:FI w wr g B d ls base gd size vT vH at_ t2 h2 uT uH)(hg:w.heap.size<=g)(j:Cur w2 g w ls B d a2 0)(i:Kept (Bh g wr) wr w2):FI w w2 g B d ls base gd size vT vH a2 t2 h2 uT uH:=
 have hz:=h.kept.size
 ⟨j,h.dat.oth h.cur.blk i,h.kept.trans ⟨i.os,i.tape,i.output,i.size,fun y hy=>i.block y ⟨mo,fun e=>mo⟩⟩,h.lt,h.lh⟩
theorem FI.texts(h:FI w wr g B d ls base gd size vT vH at_ t2 h2 uT uH)(hg:(wr.alloc o).grownBy w5 uT.ownBlock)(i:w5.ownsRow base 9 1 v5 (t2.length+1) (Br t2++ [.string (bs s)]))(j:v5.ownBlock=uT.ownBlock∨v5.ownBlock=some (wr.alloc o).heap.size):
 FI w (w5.setCell ⟨gd,0,none⟩ v5) g B d ls base gd size vT vH at_ (t2++ [s]) h2 v5 uH:=by
 have hz:=h.kept.size;have hb:Below wr wr (wr.alloc o):=aZ (Ae _ _);have hD:=h.dat.texts hb hg i j;have b5:Blk w5 gd 254 #[uT, .int .i64 (size:Nat),uH]:=(h.dat.blk.step hb).grown hg (Ba (gZ h.dat.ot h.dat.blk ip));refine⟨Sg (Ah3 (h.cur.step hb) (h.dat.ot.alloc o) hg) b5 0 _,hD,?_,?_,h.lh⟩
 ·exact((h.kept.alloc (fun y hy=>by have:=hy.1;omega) o).grown hg (fun y hy=>by have:=hy.1;simp;omega) (fun y hy hk=>hk.2.2.1 (h.lt y hk.1 hy))).set (fun hk=>hk.2.1 rfl) _
 ·intro y hy he;rcases j with e|e
  ·exact h.lt y hy (by rw[<-e];exact he)
  ·rw[e]at he;injection he with he;simp at he;omega
theorem FI.heads(h:FI w wr g B d ls base gd size vT vH at_ t2 h2 uT uH)(hg:(wr.alloc o).grownBy w5 uH.ownBlock)(i:w5.ownsRow base 9 1 v5 (h2.length+1) (Br h2++ [.string (bs s)]))(j:v5.ownBlock=uH.ownBlock∨v5.ownBlock=some (wr.alloc o).heap.size):
 FI w (w5.setCell ⟨gd,2,none⟩ v5) g B d ls base gd size vT vH at_ t2 (h2++ [s]) uT v5:=by
 have hz:=h.kept.size;have hb:Below wr wr (wr.alloc o):=aZ (Ae _ _);have hD:=h.dat.heads hb hg i j;have b5:Blk w5 gd 254 #[uT, .int .i64 (size:Nat),uH]:=(h.dat.blk.step hb).grown hg (Ba (gZ h.dat.oh h.dat.blk ip));refine⟨Sg (Ah3 (h.cur.step hb) (h.dat.oh.alloc o) hg) b5 2 _,hD,?_,h.lt,?_⟩
 ·exact((h.kept.alloc (fun y hy=>by have:=hy.1;omega) o).grown hg (fun y hy=>by have:=hy.1;simp;omega) (fun y hy hk=>hk.2.2.2 (h.lh y hk.1 hy))).set (fun hk=>hk.2.1 rfl) _
 ·intro y hy he;rcases j with e|e
  ·exact h.lh y hy (by rw[<-e];exact he)
  ·rw[e]at he;injection he with he;simp at he;omega
end
def cK(w:World)(base gd size:Nat)(vT vH:Value)(F:List Str×Int)(e:Ending)(w':World):Prop:=
 e= .returned (.int .i64 F.2)/\Kept (IJ w gd vT vH) w w'/\(F.2=0->(∀s∈F.1,s.length<=25)/\∃hs' vT' vH',DAt w' base gd size F.1 hs' vT' vH'/\(∀y,y<w.heap.size->vT'.ownBlock=some y->vT.ownBlock=some y)/\(∀y,y<w.heap.size->vH'.ownBlock=some y->vH.ownBlock=some y)/\hs'.length<=F.1.length)
theorem a0g{p:Prop}(h:p:=by
  have z2:=z.size;have ag:=hid (fun he:e2=0=>HI.out.next a7 (he ▸ ah) z);have bb:Hid (Kept (IJ w gd vT vH) w w2):=HI.out.kept.trans ⟨z.os,z.tape,z.output,z.size,fun y hy=>z.block y ⟨mo,fun e=>mo⟩⟩;have DE:=hid (Dn w2 g w ls B d a2 e2 ah);clear ah z HI c0 ba a0;go_wp2_with fail;refine DE.out.mono ?_;rintro e w3 ⟨rfl,rfl⟩;by_cases he:e2=0
  ·subst he;have G:=ag.out rfl;have ac:=hid G;have hG:=aa.out;rw[Aa (show ¬((0:Int)≠0) from fun h=>h rfl)]at hG;have ax:=hid hG;have af:=hid (aj.out rfl);have k0:=G.dat.blk.ia 0;have N:=G.dat.ot;rw[<-HP.out]at N;have Y:=hid N;have bi:base<=w3.heap.size:=nj;have kf:=G.dat.blk.frozen 0;have kb:=G.dat.blk;have ay:=Ba (gZ G.dat.ot G.dat.blk ip:_≠some gd);have al:=hid kb;have Q:=hid ay;clear G hG aa aj ag DE N kf kb ay;cases fb with
   |false=>
    go_wp2_with(at_builtin;refine iZ rfl (.tmp 54) (.tmp 56) 50 rfl base 9 j0 _ 1 16 underlying50 av au ar aq rfl ip _ _ _ nm (Y.out.alloc _) _ 1 1 [.string (bs s)] nm (Src.of_blk (Blk.made_at _ _ _ rX) 1 1 1 rfl) mp sS nj sj ?_;intro v5 w5 j L J;obtain⟨A5,c5,rfl⟩:=bZ j;have b5:=(al.out.alloc (.cells #[.string (bs s)] 9)).grown L Q.out;have q0:=b5.ia 0;have q1:=b5.frozen 0);have E:=hid (ac.out.texts (s:=s) L np J);clear j L J b5 q0 q1 ac Y al Q k0;go_roundw
    case measure=>exact jq
    case rel=>exact jd
   |true=>
    have ai:=ac.out.dat.oh;obtain⟨q,hq⟩:=ii h2.length;rw[<-hq]at ai a3;obtain⟨Ah,ch,rfl⟩:=bZ ai;have HQ:=hid hq;clear ai hq;go_wp2_with(first|(at_builtin;refine iZ rfl (.tmp 54) (.tmp 56) 50 rfl base 9 j0 _ 1 16 underlying50 av au ar aq rfl ip _ _ _ nm (Y.out.alloc _) _ 1 1 [.string (bs s)] nm (Src.of_blk (Blk.made_at _ _ _ rX) 1 1 1 rfl) mp sS nj sj ?_;intro v5 w5 j L J;obtain⟨A5,c5,rfl⟩:=bZ j;have b5:=(al.out.alloc (.cells #[.string (bs s)] 9)).grown L Q.out;have q0:=b5.ia 0;have q1:=b5.frozen 0;have E:=hid (ac.out.texts (s:=s) L np J);have r0:=E.out.dat.blk.ia 2;have r1:=E.out.dat.blk.frozen 2;have bC:base<=w5.heap.size:=(by have h1:=E.out.dat.gb;have h2:=b5.lt;omega);have Z:=E.out.dat.oh;rw[<-HQ.out]at Z;have az:=hid Z;clear Z j L J)|(at_builtin;refine iZ rfl (.tmp 67) (.tmp 69) 50 rfl base 9 j0 _ 1 16 underlying50 av au ar aq rfl ip _ _ _ nm (az.out.alloc _) _ 1 1 [.string (bs s)] nm (Src.of_blk (Blk.made_at _ _ _ rX) 1 1 1 rfl) mp sS nj sj ?_;intro v7 w7 M ak ae;obtain⟨A7,c7,rfl⟩:=bZ M;have b7:=(E.out.dat.blk.alloc (.cells #[.string (bs s)] 9)).grown ak (Ba (gZ E.out.dat.oh E.out.dat.blk ip));have s0:=b7.ia 2;have s1:=b7.frozen 2;have bc:=hid (E.out.heads (s:=s) ak (by rw[<-HQ.out];exact M) ae);clear M ak ae));go_roundw
    case measure=>exact jq
    case rel=>exact jc
  ·have gE:(e2 != 0)=true:=sJ;have be:Hid (F=([],e2)):=(by have h:=aa.out;rw[Ab he]at h;exact h.symm);have Q:=hid he;clear he aa aj ag DE;go_wp2_with fail;go_ret;rw[be.out];exact⟨rfl,bb.out,fun h=>absurd h Q.out⟩):p:=h
theorem R0(w:World)(A:Option Addr)(m c n base gd size:Nat)(ls:List Nat)(ts hs:List Str)(vT vH:Value)(hm:ls.length=m)(bl:m<=100000)(h8:∀x∈ls,x<=255)(a9:A=none->m=0/\c=0)(ha:Row w w A m 1 (jZ .u8 ls))(hn:n<=64)(hD:DAt w base gd size ts hs vT vH)(bk:∀s∈ts,s.length<=25)(cf:ts.length<=1100000)(bx:hs.length<=ts.length):
 Calls prog 196 #[.pointer (some ⟨gd,0,none⟩), .slice A m c, .int .i64 (n:Nat)] w (cK w base gd size vT vH (Dp ls n true 0 ts)):=by
 obtain⟨j0,av,au,ar,aq⟩:=info_parts Yy;have D0:=hid (Ab7 w A m c ls hm bl a9 ha);have a6:ls.length<=100000:=nj
 have H8:=hid h8;have b0:=hid a6;obtain⟨F,hF⟩:=ii (Dp ls n true 0 ts);rw[<-hF];have bt:Hid (Dp ls (n-0) (decide (0=0)) 0 ts=F):=hF.symm;have HD:=hid hD;have b6:=hid bk;have cj:=hD.blk.lt;clear hm a9 ha h8 bl a6 hF hD bk;go_enter func196,ntmps196;go_wp2_with fail;refine D0.out.mono ?_;rintro e w1 ⟨g,B,d,rfl,a5,a1⟩;have z1:=a1.size;have a7:=a5.lo;have cc:=a5.blk.lt;have bj:=hid a5;have bn:Hid (DAt w1 base gd size ts hs vT vH):=HD.out.keep (fun y _ hy=>a1.block y hy);have bp:Hid (Kept (IJ w gd vT vH) w w1):=Kept.of_below a1 (fun y hy=>hy.1);clear a5 a1 D0 HD;go_wp2_with fail;go_loopw [15] (fun iv wr=>∃ (i at_:Nat) (t2 h2:List Str) (uT uH:Value),i<=n/\iv= .int .i64 i/\t2.length<=1100000+i/\h2.length<=t2.length/\Hid (FI w wr g B d ls base gd size vT vH at_ t2 h2 uT uH)/\Hid (∀s∈t2,s.length<=25)/\Hid (Dp ls (n-i) (decide (i=0)) at_ t2=F)) (fun iv _=>n-(intOf iv).toNat)
 case atStart=>exact⟨0,0,ts,hs,vT,vH,nj,rfl,nj,bx,⟨bj.out,bn.out,bp.out,fun _ _ h=>h,fun _ _ h=>h⟩,b6.out,bt.out⟩
 case round=>
  obtain⟨i,at_,t2,h2,uT,uH,hi,rfl,b8,a3,HI,aw,HG⟩:=hrel;have zr:=HI.out.kept.size;clear bj bn bp bt;by_cases ca:i<n
  ·have gi:=ic ((i:Int)<n);have cg:=ic (i<n);have hG:=HG.out;rw[show n-i=(n-(i+1))+1 by omega,Dp]at hG;obtain⟨fb,a4⟩:∃fb,fb=decide (i=0):=⟨_,rfl⟩
   have gz:((i:Int)==0)=fb:=by
    rw[a4];by_cases h:i=0
    ·subst h;rfl
    ·rw[Be h,FW];omega
   obtain⟨ab,am⟩:=ii (t2.getLast?.getD [])
   have bh:ab.length<=25:=by
    rw[am];cases hl:t2.getLast? with
    |none=>exact Bf _
    |some y=>exact aw.out y (List.mem_of_getLast? hl)
   rw[<-a4,<-am]at hG;have DN:=hid (fun wx hx=>Af0 wx g w ls B d at_ ab fb b0.out H8.out bh hx);have aj:Hid ((Fg ls ab fb at_).2.2=0->(Fg ls ab fb at_).1.length<=25):=dR;generalize Fg ls ab fb at_=S at *;obtain⟨s,a2,e2⟩:=S;simp only at hG DN aj;have aa:=hid hG;have ci:=hid a4;have a8:=hid am;have c0:=HI.out.dat.blk.ia 0;have an:=HI.out.dat.ot;obtain⟨p,hp⟩:=ii t2.length;rw[<-hp]at an b8 a3;obtain⟨Au,cu,rfl⟩:=bZ an;have HP:=hid hp;have a0:=hid an;have b9:=HI.out.dat.blk.lt;have cd:base<=wr.heap.size:=(by have:=HI.out.dat.gb;omega);clear hG HG a4 am hp an bh;by_cases bd:p=0
   ·have gp:=ig ((0:Int)<p);have bf:=ig (0<p);have bu:ab= []:=(by rw[a8.out,Gn (HP.out.symm.trans bd)];rfl);subst bu;have bm:Hid (∀wx,Cur wx g w ls B d at_ 0->Calls prog 245 #[.pointer (some ⟨g,0,none⟩), .string ⟨#[]⟩,fb] wx fun e w'=>e= .returned (.string (bs s))/\Cur w' g w ls B d a2 e2/\Kept (Bh g wx) wx w'):=DN.out;clear DN bd;go_wp2_with fail;refine(bm.out _ HI.out.cur).mono ?_;rintro e w2 ⟨rfl,ah,z⟩;clear bm;have ba:=HI.out.cur.blk;exact a0g
   ·obtain⟨gq,cq,bS,ce,_⟩:=a0.out.form nj;injection bS with q1 q2 q3;subst q1 q3;clear q2;have bg:t2[p-1]? =some ab:=(by have h:=a8.out;rw[List.getLast?_eq_getElem?,<-HP.out,Az lz]at h;rw[Az lz,h];rfl);have cy:wr.cell? ⟨gq,p-1,none⟩=some (.string (bs ab)):=(by rw[a0.out.cellAt (p-1) nj];exact ME bg);obtain⟨p1,bq⟩:=ii (p-1);rw[<-bq]at cy;have sp:IntKind.i64.wrap ((p:Int)-1)=(p1:Int):=pj;have gp:=ic ((0:Int)<p);have bf:=ic (0<p);have b1:(0:Int)<=(p1:Int):=nj;have bO:(p1:Int)<(p:Int):=nj;clear bg bq bd;go_wp2_with fail;go_quiet (fail);go_wp2_with fail;refine(DN.out _ (HI.out.cur.drewN _)).mono ?_;rintro e w2 ⟨rfl,ah,z⟩;clear DN;have z:Kept (Bh g wr) wr w2:=⟨z.os,z.tape,z.output,z.size,z.block⟩;have ba:=HI.out.cur.blk;clear cy sp gp bf b1 bO;exact a0g
  ·obtain rfl:i=n:=by omega
   have hG:=HG.out;rw[G0,Dp]at hG;have gi:=ig ((i:Int)<i);have DE:=hid (U4 wr g w ls B d at_ 0 HI.out.cur);have aa:=hid hG;clear hG HG;generalize Hh ls at_ 0=ee at *;go_wp2_with fail;refine DE.out.mono ?_;rintro e w5 ⟨rfl,b4,U⟩;have b3:Hid (Kept (IJ w gd vT vH) w w5):=HI.out.kept.trans ⟨U.os,U.tape,U.output,U.size,fun y hy=>U.block y (fun e=>by have:=hy.1;omega)⟩;have bN:Hid (DAt w5 base gd size t2 h2 uT uH):=HI.out.dat.oth HI.out.cur.blk ⟨U.os,U.tape,U.output,U.size,fun y hy=>U.block y hy.2⟩;clear b4 U;go_wp2_with fail;go_ret;rw[<-aa.out];exact⟨rfl,b3.out,fun _=>⟨aw.out,h2,uT,uH,bN.out,HI.out.lt,HI.out.lh,a3⟩⟩
def szR(n size:Nat)(ls:List Nat):Nat->Nat->Nat->List Nat->List Nat×Nat×Int
 |0,at_,_,acc=>(acc,at_,0)
 |f+1,at_,x,acc=>if n<=x then(acc,at_,0)else if wZ 2000 ls at_ 0≠0 then([],uZ 2000 ls at_ 0,wZ 2000 ls at_ 0)else szR n size ls f (uZ 2000 ls at_ 0) (x+size) (acc++ [AV 2000 ls at_ 0])
theorem TX{size:Nat}{f at_:Nat}{i:List Nat}(h:n<=x):szR n size ls f at_ x i=(i,at_,0):=by
 cases f with
 |zero=>rfl
 |succ f=>exact Ab h
def bkR(size:Nat)(ls:List Nat):List Nat->Nat->Nat->List Str->List Str×Nat×Int
 | [],_,at_,acc=>(acc,at_,0)
 |k :: ks,r,at_,acc=>if Bq ls at_ 0 k≠0 then([],0,Bq ls at_ 0 k)
  else if(Dp (Bj ls at_ 0 k) (min size r) true 0 acc).2≠0 then([],0,(Dp (Bj ls at_ 0 k) (min size r) true 0 acc).2)
  else bkR size ls ks (r-size) (takeA ls at_ 0 k) (Dp (Bj ls at_ 0 k) (min size r) true 0 acc).1
def Hc(size:Nat)(ls:List Nat):List Nat×Nat×Int:=
 if wZ 1048576 ls 0 0≠0 then([],uZ 1048576 ls 0 0,wZ 1048576 ls 0 0)else szR (AV 1048576 ls 0 0) size ls (AV 1048576 ls 0 0) (uZ 1048576 ls 0 0) 0 []
def FH(size:Nat)(ls:List Nat):List Str×Nat×Int:=
 if(Hc size ls).2.2≠0 then([],0,(Hc size ls).2.2)else bkR size ls (Hc size ls).1 (AV 1048576 ls 0 0) (Hc size ls).2.1 []
def RJ(w:World)(R:List Str×Nat×Int)(e:Ending)(w':World):Prop:=
 Below w w w'/\(R.2.2≠0->e= .returned (.tuple #[.pointer none,ij,R.2.2]))/\(R.2.2=0->∃gd size hs vT vH,e= .returned (.tuple #[.pointer (some ⟨gd,0,none⟩), .int .i64 (R.2.1:Nat),ij])/\DAt w' w gd size R.1 hs vT vH)
theorem Kl{R:List Str×Nat×Int}(hR:R=([],0,er))(he:er≠0)(hb:Below w w w'):RJ w R (.returned (.tuple #[.pointer none,ij,er])) w':=sO
theorem iK{row:Option Nat}{at_:Nat}{i:List Nat}(h:Cur w g base i A c at_ er)(hg:w.grownBy w' row)(B:Nat)(y:g<B)(j:∀x,(Value.slice A i.length c).ownBlock=some x->x<B)(hr:∀x,row=some x->B<=x):Cur w' g base i A c at_ er:=
 ⟨h.blk.grown hg (fun e=>by have:=hr g e.symm;omega),eZ h.own (fun x hx=>hg.block x (Aj h.own x hx).2 (fun e=>by have:=j x hx;have:=hr x e.symm;omega)),h.le,h.lo⟩
theorem TI{size:Nat}{ts hs:List Str}(hD:DAt w base gd size ts hs uT uH)(hy:y<w.heap.size)(hb:y<base):IJ w gd uT uH y:=
 ⟨hy,by have:=hD.gb;omega,fun e=>by have:=(Aj hD.ot y e).1;omega,fun e=>by have:=(Aj hD.oh y e).1;omega⟩
theorem Pp{size:Nat}{ts hs:List Str}{v:Value}(hD:DAt w base gd size ts hs uT uH)(h:w.ownsRow b2 e 1 v n xs)(he:9≠e)(hd:e≠254)(hy:v.ownBlock=some y):IJ w gd uT uH y:=
 ⟨(Aj h y hy).2,fun e2=>gZ h hD.blk hd (e2 ▸ hy),fun e2=>by
   rcases FE hD.ot h he with e3|e3
   ·rw[e3]at e2;cases e2
   ·exact e3 (by rw[e2,hy]),fun e2=>by
   rcases FE hD.oh h he with e3|e3
   ·rw[e3]at e2;cases e2
   ·exact e3 (by rw[e2,hy])⟩
theorem Ro{size at_:Nat}{ts hs:List Str}(h:Cur w g b2 ls A c at_ er)(hD:DAt w base gd size ts hs uT uH)(hk:Kept (IJ w gd uT uH) w w'):Cur w' g b2 ls A c at_ er:=
 ⟨(hk.block g ⟨h.blk.lt,fun e=>Blk.apart hD.blk h.blk ip e.symm,gZ hD.ot h.blk ip,gZ hD.oh h.blk ip⟩).trans h.blk,eZ h.own (fun y hy=>hk.block y (Pp hD h.own ip ip hy)),h.le,h.lo⟩
theorem Mo(ls:List Nat):∀ (k:Nat) (first:Bool) (at_:Nat) (i:List Str),(Dp ls k first at_ i).2=0->(Dp ls k first at_ i).1.length=i.length+k
 |0,_,_,_,_=>rfl
 |k+1,first,at_,i,h=>by
  unfold Dp at h ⊢;split at h
  ·rename_i he;exact absurd h he
  ·rename_i he;rw[Aa he];rw[Mo ls k false _ _ h,Ag];simp;omega
theorem Ye:(prog.info? 3).map (fun i=>(i.zero,i.size,i.bytes))=some (some (.int .i64 0),1,8):=my
theorem a0c{p:Prop}(h:p:=by
  go_wp2_with fail;have ax:Hid ((er=0->R=bkR size ls (G.drop 0) (n-0) at_ [])/\(er≠0->R=([],0,er))):=⟨fun h=>kx,fun h=>ky⟩;have a6:Hid (DAt (w3.alloc (.cells #[(), .int .i64 (size:Nat),()] 254)) w w3 size [] [] (.slice none 0 0) (.slice none 0 0)):=⟨Blk.made _ _ _,AI _ _ _ _,AI _ _ _ _,(fun y h=>by cases h),nj⟩;have az:Hid (Cur (w3.alloc (.cells #[(), .int .i64 (size:Nat),()] 254)) g w ls B d at_ er):=HC.out.step (aZ (Ae _ _));have bf:Hid ((w3.alloc (.cells #[(), .int .i64 (size:Nat),()] 254)).ownsRow w2 3 1 (.slice va q vc) q (dZ .i64 G)):=HO.out.alloc _;have av:Hid (Below w w w3):=b9.out.trans (HK.out.below fun b h=>⟨nj,nj⟩);have a5:Hid (Below w w (w3.alloc (.cells #[(), .int .i64 (size:Nat),()] 254))):=pZ av.out.size av.out;generalize b4:w3.heap.size=gd at *;clear b4 an HR HC HO HK av;go_loopw [49] (fun iv wr=>∃ (i y E:Nat) (j:Int) (ts hs:List Str) (uT uH:Value),i<=q/\iv= .int .i64 i/\Hid (y=i*size)/\ts.length<=y/\hs.length<=ts.length/\Hid (∀s∈ts,s.length<=25)/\Hid (Cur wr g w ls B d E j)/\Hid (DAt wr w gd size ts hs uT uH)/\Hid (wr.ownsRow w2 3 1 (.slice va q vc) q (dZ .i64 G))/\Hid (Below w w wr)/\Hid (j=0->R=bkR size ls (G.drop i) (n-y) E ts)/\Hid (j≠0->R=([],0,j))) (fun iv _=>q-(intOf iv).toNat)
  case atStart=>exact⟨0,0,at_,er,[],[], .slice none 0 0, .slice none 0 0,nj,rfl,rN,rX,rX,(fun s hs=>by simp at hs),az.out,a6.out,bf.out,a5.out,ax.out.1,ax.out.2⟩
  case round=>
   obtain⟨i,y,E,j,ts,hs,uT,uH,hi,rfl,HY,cH,b3,bn,HC,HD,HO,HB,HT,HE⟩:=hrel;clear az a6 bf a5 ax;have zr:=HB.out.size;by_cases b1:i<q
   ·have gi:=ic ((i:Int)<q);have cG:=ic (i<q);have cB:y+size<=x:=jt;have cz:=bq.out nj;obtain⟨k,hk⟩:∃k,G[i]? =some k:=⟨_,Az md⟩;have ay:=HA.out k (Bp hk);have Y:G.drop i=k :: G.drop (i+1):=(by obtain⟨hl,e⟩:=CQ.1 hk;rw[Dl hl,e]);obtain⟨gv,cv,bj,cm,_⟩:=HO.out.form nj;injection bj with q1 q2 q3;subst q1 q3;clear q2;have ck:wr.cell? ⟨gv,i,none⟩=some (.int .i64 (k:Nat)):=qb;have ct:(0:Int)<=(i:Int):=nj;have cq:(i:Int)<(q:Int):=nj;have DT:=JA wr g w ls B d E j k bl.out nj HC.out;unfold JR at DT;have hT:j=0->R=bkR size ls (k :: G.drop (i+1)) (n-y) E ts:=fun h=>by rw[<-Y];exact HT.out h
    unfold bkR at hT;have bc:j≠0->Bq ls E j k=j:=fun h=>Ab h
    have ai:∀z∈Bj ls E j k,z<=255:=fun z hz=>by
     unfold Bj at hz;split at hz
     ·simp at hz
     ·split at hz
      ·simp at hz
      ·exact H8.out z (Bz (BX hz))
    have cE:=WV ls E j k;have a4:j=0->Bq ls E 0 k=Bq ls E j k/\Bj ls E 0 k=Bj ls E j k/\takeA ls E 0 k=takeA ls E j k:=fun h=>by subst h;exact⟨rfl,rfl,rfl⟩
    have N:Hid (j=0->R=if Bq ls E j k≠0 then([],0,Bq ls E j k)else if(Dp (Bj ls E j k) (min size (n-y)) true 0 ts).2≠0 then([],0,(Dp (Bj ls E j k) (min size (n-y)) true 0 ts).2)else bkR size ls (G.drop (i+1)) (n-y-size) (takeA ls E j k) (Dp (Bj ls E j k) (min size (n-y)) true 0 ts).1):=fun h=>ng
    have ah:=hid bc;have HK:=hid hk;generalize Bq ls E j k=e3 at *;generalize Bj ls E j k=pt at *;generalize takeA ls E j k=a3 at *;have bd:=hid ai;have DT:=hid DT;clear Y hk hT bc ai a4 HT;go_wp2_with fail;refine DT.out.mono ?_;rintro e w4 ⟨v4,rfl,L,af,J⟩;obtain⟨Ap,cp,rfl⟩:=bZ L;have z4:=J.size;have aj:=hid af;have ae:Hid (DAt w4 w gd size ts hs uT uH):=HD.out.oth HC.out.blk J;have Q:Hid (w4.ownsRow w2 3 1 (.slice (some ⟨gv,0,none⟩) q vc) q (dZ .i64 G)):=eZ HO.out (fun z hz=>J.block z ⟨(Aj HO.out z hz).2,by have:=(Aj HO.out z hz).1;omega⟩);have al:Hid (Below w w w4):=HB.out.trans (J.below fun b h=>⟨nj,nj⟩);have aq:=hid L;have DE:=hid (Dn w4 g w ls B d a3 e3 af);clear L af J DT HC HD HO HB ck;go_wp2_with fail;refine DE.out.mono ?_;rintro e w5 ⟨rfl,rfl⟩;by_cases aa:e3=0
    ·subst aa;have ak:j=0:=G1 fun h=>h (ah.out h).symm;have hr:=N.out ak;rw[Aa (show ¬((0:Int)≠0) from fun h=>h rfl)]at hr;obtain⟨r,bb⟩:=ii (n-y);obtain⟨mn,aw⟩:=ii (min size r);have sy:IntKind.i64.wrap ((i:Int)*(size:Int))=(y:Int):=ru;have sr:IntKind.i64.wrap ((n:Int)-(y:Int))=(r:Int):=pj;have cx:min (size:Int) (r:Int)=(mn:Int):=nj;rw[<-bb,<-aw]at hr;have DF:=R0 w5 Ap pt.length cp mn w gd size pt ts hs uT uH rfl nj bd.out (JT aq.out) (Ab5 aq.out) nj ae.out bn.out nj b3;have ar:=Mo pt mn true 0 ts;generalize Dp pt mn true 0 ts=F at *;obtain⟨f1,f2⟩:=F;simp only at hr ar;have cf:mn<=size:=(by rw[aw];exact Nat.min_le_left _ _);have be:Hid (r-size=n-(y+size)):=rN;have DF:=hid DF;have ag:=hid hr;clear hr aq N ah bd aw DE bb ak;go_wp2_with fail;refine DF.out.mono ?_;rintro e w6 ⟨rfl,ab,am⟩;have a8:Hid (Below w w w6):=al.out.trans (ab.below fun b hb=>TI ae.out nj hb);by_cases hf:f2=0
     ·subst hf;obtain⟨a7,h6,bx,b7,a1,_,_,ba⟩:=am rfl;have b5:=hid (Ro aj.out ae.out ab);have bp:Hid (w6.ownsRow w2 3 1 (.slice (some ⟨gv,0,none⟩) q vc) q (dZ .i64 G)):=eZ Q.out (fun z hz=>ab.block z (Pp ae.out Q.out ip ip hz));have b6:=hid a1;have bN:=hid a7;have bC:=ar rfl;have bu:Hid (R=bkR size ls (G.drop (i+1)) (n-(y+size)) a3 f1):=kr;have b0:Hid (y+size=(i+1)*size):=(by show _=_;rw[JB,HY.out]);have bO:f1.length<=y+size:=nj;simp only at ba;clear ab am a7 a1 ag DF aj ae Q al bC ar be;go_wp2_with fail;go_roundw
      case measure=>exact jq
      case rel=>exact jf
     ·have gE:(f2 != 0)=true:=(by simpa using hf);have M:Hid (R=([],0,f2)):=(by have h:=ag.out;rw[Ab hf]at h;exact h);have U:=hid hf;clear hf ag am ab DF HE;go_wp2_with fail
      go_ret3
      exact Kl M.out U.out a8.out
    ·have gE:(e3 != 0)=true:=by simpa using aa
     have M:Hid (R=([],0,e3)):=by
      by_cases h:j=0
      ·have h2:=N.out h;rw[Ab aa]at h2;exact h2
      ·rw[ah.out h];exact HE.out h
     have U:=hid aa;clear aa N HE ah DE;go_wp2_with fail
     go_ret3
     exact Kl M.out U.out al.out
   ·obtain rfl:i=q:=by omega
    have gi:=ig ((i:Int)<i);have DE:=hid (Dn wr g w ls B d E j HC.out);have DA:=hid (Ig wr g w ls B d E j HC.out);by_cases ac:j=0
    ·subst ac;have M:Hid (R=(ts,E,0)):=kj;clear HT HE;go_wp2_with fail;refine DE.out.mono ?_;rintro e w5 ⟨rfl,rfl⟩;go_wp2_with fail;refine DA.out.mono ?_;rintro e w6 ⟨rfl,rfl⟩;go_wp2_with fail
     go_ret3
     rw[M.out];exact⟨HB.out,fun h=>absurd rfl h,fun _=>⟨gd,size,hs,uT,uH,rfl,HD.out⟩⟩
    ·have gE:(j != 0)=true:=(by simpa using ac);have M:Hid (R=([],0,j)):=HE.out ac;have U:=hid ac;clear ac HT HE DA;go_wp2_with fail;refine DE.out.mono ?_;rintro e w5 ⟨rfl,rfl⟩;go_wp2_with fail
     go_ret3
     exact Kl M.out U.out HB.out):p:=h
theorem XU(w:World)(A:Option Addr)(m c size:Nat)(ls:List Nat)(hm:ls.length=m)(ci:m<=100000)(h8:∀x∈ls,x<=255)(bi:A=none->m=0/\c=0)(ha:Row w w A m 1 (jZ .u8 ls))(c2:1<=size)(c0:size<=64):
 Calls prog 118 #[.int .i64 (size:Nat), .slice A m c] w (RJ w (FH size ls)):=by
 obtain⟨j0,cL,cA,cy,cu⟩:=info_parts Ye;have D0:=hid (Ab7 w A m c ls hm ci bi ha);have a9:ls.length<=100000:=nj
 have bl:=hid a9;have H8:=hid h8;have D1:=hid (fun wx g B d h=>GO wx g w ls B d 0 0 1048576 a9 h8 nj h);have c9:=ig ((size:Int)<1)
 have cT:=ig (size<1)
 have c1:=ig ((64:Int)<size)
 have cP:=ig (64<size)
 obtain⟨R,hR⟩:=ii (FH size ls);rw[<-hR];unfold FH at hR;obtain⟨Z,hZ⟩:=ii (Hc size ls);rw[<-hZ]at hR;unfold Hc at hZ;have c6:AV 1048576 ls 0 0<=1048576:=zY h8 0 0;have cd:wZ 1048576 ls 0 0≠0->AV 1048576 ls 0 0=0:=by intro h;unfold wZ at h;rw[Aa rX]at h;unfold AV;rw[Aa rX];exact((Hu 1048576 (ls.drop 0) fun x hx=>h8 x (Bz hx)).2.2.2.1 h).1
 generalize AV 1048576 ls 0 0=n at *;generalize uZ 1048576 ls 0 0=a0 at *;generalize wZ 1048576 ls 0 0=e0 at *;have bk:Hid ((e0=0->∃f,n<=f+0/\szR n size ls f a0 0 []=Z)/\(e0≠0->Z=([],a0,e0))):=⟨fun h=>⟨n,nj,by rw[hZ,Aa sw]⟩,fun h=>by rw[hZ,Ab h]⟩;have HR:=hid hR;have co:=hid cd;clear hm h8 bi ha hR hZ cd ci a9;go_enter func118,ntmps118;go_wp2_with fail;refine D0.out.mono ?_;rintro e w1 ⟨g,B,d,rfl,bg,bm⟩;have DI:=hid (D1.out w1 g B d bg);have cl:=hid bm;have cS:=bg.lo;have cX:=bg.blk.lt;have c8:=bm.size;have cC:Hid (∀y,(Value.slice B ls.length d).ownBlock=some y->y<w1.heap.size):=fun y hy=>(Aj bg.own y hy).2;clear bg bm D0 D1;go_wp2_with fail;refine DI.out.mono ?_;rintro e w2 ⟨rfl,ca,ay⟩;have b9:Hid (Below w w w2):=cl.out.trans (ay.below fun b h=>⟨nj,nj⟩);have z2:=ay.size;have cg:=hid ca;clear ca ay cl DI;go_wp2_with fail;go_loopw [9,10] (fun v xv wr=>∃ (x at_ q:Nat) (er:Int) (G:List Nat),x<=n+64/\q<=x/\xv= .int .i64 x/\Hid (G.length=q)/\Hid (q*size=x)/\Hid (0<q->x<n+size)/\Hid (∀y∈G,y<=2000)/\Hid (Cur wr g w ls B d at_ er)/\Hid (wr.ownsRow w2 3 1 v q (dZ .i64 G))/\Hid (Kept (fun y=>y<w2.heap.size/\y≠g) w2 wr)/\Hid (er=0->∃f,n<=f+x/\szR n size ls f at_ x G=Z)/\Hid (er≠0->Z.2.2=er/\(n=0∨0<q))) (fun _ xv _=>n+64-(intOf xv).toNat)
 case atStart=>exact⟨0,a0,0,e0,[],nj,nj,rfl,rfl,rN,fun h=>nj,fun y hy=>by simp at hy,cg.out,AI _ _ _ _,Kept.refl _ _,bk.out.1,fun h=>⟨by rw[bk.out.2 h], .inl (co.out h)⟩⟩
 case round=>
  obtain⟨x,at_,q,er,G,hx,c4,rfl,HQ,bh,bq,HA,HC,HO,HK,HT,HE⟩:=hrel;have zk:=HK.out.size;obtain⟨va,vc,rfl⟩:=bZ HO.out;clear bk cg;by_cases c7:x<n
  ·have g1:=ic ((x:Int)<n);have cO:=ic (x<n);have DE:=hid (Dn wr g w ls B d at_ er HC.out);by_cases he:er=0
   ·subst he;obtain⟨f,hf,hT⟩:=HT.out rfl;obtain⟨f,rfl⟩:∃f',f=f'+1:=⟨f-1,nj⟩;rw[szR,Aa nj]at hT;have D:=hid (fun wx hx=>GO wx g w ls B d at_ 0 2000 bl.out H8.out nj hx);have ay:AV 2000 ls at_ 0<=2000:=zY H8.out _ _;generalize AV 2000 ls at_ 0=k at *;generalize uZ 2000 ls at_ 0=a2 at *;generalize wZ 2000 ls at_ 0=e2 at *;have sx:IntKind.i64.wrap ((x:Int)+(size:Int))=((x+size:Nat):Int):=pj;have N:Hid ((e2=0->∃f',n<=f'+(x+size)/\szR n size ls f' a2 (x+size) (G++ [k])=Z)/\(e2≠0->Z.2.2=e2/\(n=0∨0<q+1))):=⟨fun h=>⟨f,nj,by rw[Aa sw]at hT;exact hT⟩,fun h=>by rw[Ab h]at hT;rw[<-hT];exact⟨rfl, .inr nj⟩⟩
    have cF:Hid (∀y∈G++ [k],y<=2000):=fun y hy=>by
     rcases BJ.1 hy with h|h
     ·exact HA.out y h
     ·rw[Eo]at h;omega
    have cc:Hid ((q+1)*size=x+size):=(by show _=_;rw[JB,bh.out]);clear hT HT HE hf HA bh bq;go_wp2_with fail;refine DE.out.mono ?_;rintro e w3 ⟨rfl,rfl⟩;go_wp2_with fail;refine(D.out _ HC.out).mono ?_;rintro e w4 ⟨rfl,af,J⟩;have z4:=J.size;have aj:=hid af;have Q:Hid (w4.ownsRow w2 3 1 (.slice va q vc) q (dZ .i64 G)):=eZ HO.out (fun y hy=>J.block y ⟨(Aj HO.out y hy).2,by have:=(Aj HO.out y hy).1;omega⟩);have b8:Hid (Kept (fun y=>y<w2.heap.size/\y≠g) w2 w4):=HK.out.trans ⟨J.os,J.tape,J.output,J.size,fun y hy=>J.block y ⟨mo,hy.2⟩⟩;clear af J HC HO HK DE D;go_wp2_with(at_builtin;refine iZ rfl (.tmp 39) (.tmp 42) 37 rfl w2 3 j0 _ 1 8 underlying37 cL cA cy cu rfl ip _ _ _ nm (Q.out.alloc _) _ 1 1 [.int .i64 (k:Nat)] nm (Src.of_blk (Blk.made_at _ _ _ rX) 1 1 1 rfl) mp sS nj sj ?_;intro v5 w5 au bS cj;obtain⟨A5,c5,rfl⟩:=bZ au);have bt:=fun(y:Nat) hy=>(Aj Q.out y hy).1;have c3:=b8.out.size;have ce:=iK (aj.out.step (aZ (o:= .cells #[.int .i64 (k:Nat)] 3) (Ae w4 w4))) bS w2 nj (fun y hy=>by have:=cC.out y hy;omega) bt;have cr:=hid ce;have cw:Hid (Kept (fun y=>y<w2.heap.size/\y≠g) w2 w5):=(b8.out.alloc (fun y hy=>by have:=hy.1;omega) _).grown bS (fun y hy=>by have:=hy.1;simp;omega) (fun y hy hh=>by have:=bt y hy;have:=hh.1;omega);have cM:Hid (w5.ownsRow w2 3 1 (.slice A5 (q+1) c5) (q+1) (dZ .i64 (G++ [k]))):=(by show World.ownsRow _ _ _ _ _ _ _;rw[show dZ .i64 (G++ [k])=dZ .i64 G++ [.int .i64 (k:Nat)] by simp[dZ]];exact au);clear au bS cj bt ce aj Q b8;go_roundw
    case measure=>exact jq
    case rel=>go_light;exact⟨x+size,a2,q+1,e2,G++ [k],nj,nj,iw,by show _=_;rw[Ag,HQ.out];rfl,cc.out,fun _=>nj,cF.out,cr.out,cM.out,cw.out,N.out.1,N.out.2⟩
   ·have gE:(er==0)=false:=sJ;have an:Hid ((er=0->Z=(G,at_,0))/\(er≠0->Z.2.2=er)):=⟨fun h=>absurd h he,fun h=>(HE.out h).1⟩;clear he HT HE;go_wp2_with fail;refine DE.out.mono ?_;rintro e w3 ⟨rfl,rfl⟩;clear DE;exact a0c
  ·have g1:=ig ((x:Int)<n);have cO:=ig (x<n);have an:Hid ((er=0->Z=(G,at_,0))/\(er≠0->Z.2.2=er)):=⟨fun h=>by obtain⟨f,_,h2⟩:=HT.out h;rw[TX nj]at h2;exact h2.symm,fun h=>(HE.out h).1⟩;clear HT HE;obtain⟨w3,rfl⟩:=ii wr;exact a0c
end Go.Proofs.YtfgdoknipbpfhaaGreatDoor
