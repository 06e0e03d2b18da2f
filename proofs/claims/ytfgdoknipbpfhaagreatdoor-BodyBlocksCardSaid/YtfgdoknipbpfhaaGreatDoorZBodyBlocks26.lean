/- A number's high and  -/
import Derived.Test.YtfgdoknipbpfhaaGreatDoorZBodyBlocks25
import Derived.Test.YtfgdoknipbpfhaaGreatDoorZBodyBlocks22
namespace Go.Proofs.YtfgdoknipbpfhaaGreatDoor
open Go.Proofs.Tryz
open Go.Lib (hid)
set_option maxHeartbeats 4000000
set_option maxRecDepth 100000
variable{e t:TypeId}{w w' w1 w3:World}{W b2 base c g gd i k m n s x y:Nat}{hs ls:List Nat}{u uH uT v' v3 vH vL x2:Value}{xs:List Value}{er:Int}{A:Option Addr}
namespace Ef
open Go.RowKit Mem Own Canon Huff NumPut
structure Prt (t:TypeId) (w:World) (base g W:Nat) (hs ls:List Nat) (vH vL:Value):Prop where
 blk:Blk w g t #[.int .i64 (W:Nat),vH,vL]
 oh:w.ownsRow base 3 1 vH hs.length (cZ .i64 hs)
 ol:w.ownsRow base 25 1 vL ls.length (cZ .u16 ls)
 gb:base<=g
theorem VB:(prog.info? 25).map (fun i=>(i.zero,i.size,i.bytes))=some (some (.int .u16 0),1,2):=mr
theorem TZ:(prog.info? 3).map (fun i=>(i.zero,i.size,i.bytes))=some (some (.int .i64 0),1,8):=mr
theorem Prt.highs(j:3≠t)(z:25≠t)(h:Prt t w base g W hs ls vH vL)(hb:Below w w w1)(hg:w1.grownBy w3 vH.ownBlock)
 (i:w3.ownsRow base 3 1 v3 (hs.length+1) (cZ .i64 hs++ [.int .i64 (x:Nat)])):Prt t (w3.setCell ⟨g,1,none⟩ v3) base g W (hs++ [x]) ls v3 vL:=by
 have G:vH.ownBlock≠some g:=gZ h.oh h.blk j;have b1:=h.blk.step hb;have b3:Blk w3 g t #[.int .i64 (W:Nat),vH,vL]:=b1.grown hg (AU G);have o1:w1.ownsRow base 25 1 vL ls.length (cZ .u16 ls):=eZ h.ol (fun y hy=>hb.block y (Aj h.ol y hy).2)
 have o3:w3.ownsRow base 25 1 vL ls.length (cZ .u16 ls):=eZ o1 (fun y hy=>hg.block y (Aj o1 y hy).2 (fun e=>by
  rcases ER h.oh h.ol ip with e2|e2
  ·rw[e2]at e;cases e
  ·exact e2 (by rw[<-e,hy])))
 have E:v3.ownBlock≠some g:=gZ i b3 j;have J:vL.ownBlock≠some g:=gZ o3 b3 z;refine⟨by simpa using b3.set 1 v3,?_,eZ o3 (fun y hy=>AR _ _ _ y (fun e=>J nR)),h.gb⟩;have e1:cZ .i64 (hs++ [x])=cZ .i64 hs++ [.int .i64 (x:Nat)]:=oW
 rw[Ae,e1];exact eZ i (fun y hy=>AR _ _ _ y (fun e=>E nR))
theorem Prt.lows(z:3≠t)(j:25≠t)(h:Prt t w base g W hs ls vH vL)(hb:Below w w w1)(hg:w1.grownBy w3 vL.ownBlock)
 (i:w3.ownsRow base 25 1 v3 (ls.length+1) (cZ .u16 ls++ [.int .u16 (x:Nat)])):Prt t (w3.setCell ⟨g,2,none⟩ v3) base g W hs (ls++ [x]) vH v3:=by
 have G:vL.ownBlock≠some g:=gZ h.ol h.blk j;have b1:=h.blk.step hb;have b3:Blk w3 g t #[.int .i64 (W:Nat),vH,vL]:=b1.grown hg (AU G);have o1:w1.ownsRow base 3 1 vH hs.length (cZ .i64 hs):=eZ h.oh (fun y hy=>hb.block y (Aj h.oh y hy).2)
 have o3:w3.ownsRow base 3 1 vH hs.length (cZ .i64 hs):=eZ o1 (fun y hy=>hg.block y (Aj o1 y hy).2 (fun e=>by
  rcases ER h.ol h.oh ip with e2|e2
  ·rw[e2]at e;cases e
  ·exact e2 (by rw[<-e,hy])))
 have E:v3.ownBlock≠some g:=gZ i b3 j;have J:vH.ownBlock≠some g:=gZ o3 b3 z;refine⟨by simpa using b3.set 2 v3,eZ o3 (fun y hy=>AR _ _ _ y (fun e=>J nR)),?_,h.gb⟩;have e1:cZ .u16 (ls++ [x])=cZ .u16 ls++ [.int .u16 (x:Nat)]:=oW
 rw[Ae,e1];exact eZ i (fun y hy=>AR _ _ _ y (fun e=>E nR))
theorem lW:∀n:Int,0<=n->n<2 ^ 20->IntKind.i64.wrap n=n:=fun n h0 h1=>Aq _ mw
theorem ZZ(x W:Nat)(hx:x<=100000)(hW:W<=14):IntKind.u16.wrap (bits .and .i64 (x:Int) (IntKind.i64.wrap (IntKind.i64.wrap (2 ^ W)-1)))=((x % 2 ^ W:Nat):Int):=by
 have h1:2 ^ W<=2 ^ 14:=Cc mw hW;have h0:1<=2 ^ W:=Nat.one_le_two_pow;have e0:((2:Int) ^ W)=((2 ^ W:Nat):Int):=oK
 have h:x % 2 ^ W<2 ^ W:=Nat.mod_lt _ mw;rw[e0,Aq ((2 ^ W:Nat):Int) mw];have e1:(((2 ^ W:Nat):Int)-1)=((2 ^ W-1:Nat):Int):=mw
 rw[e1,Aq ((2 ^ W-1:Nat):Int) mw,(bits_nat .i64 20 ip lW x (2 ^ W-1) mw mw).1,Nl,IntKind.wrap_u16];omega
theorem TM(t:TypeId)(ab:3≠t)(Y:25≠t)(w:World)(base g W:Nat)(hs ls:List Nat)(vH vL:Value)(x:Nat)(hx:x<=100000)(hW:W<=14)(hh:hs.length<=100000)(hl:ls.length<=100000)(hP:Prt t w base g W hs ls vH vL):
 Calls prog 174 #[.pointer (some ⟨g,0,none⟩), .int .i64 (x:Nat)] w fun e w'=>e= .returned (.tuple #[])/\∃vH' vL',Prt t w' base g W (hs++ [x / 2 ^ W]) (ls++ [x % 2 ^ W]) vH' vL'/\Below base w w'/\Kept (fun y=>y<w.heap.size/\y≠g/\vH.ownBlock≠some y/\vL.ownBlock≠some y) w w'/\(∀y,y<w.heap.size->vL'.ownBlock=some y->vL.ownBlock=some y):=by
 obtain⟨j0,ak,a0,aq,a4⟩:=info_parts TZ;obtain⟨k0,a5,av,ax,am⟩:=info_parts VB;have c0:=hP.blk.ia 0;have c1:=hP.blk.ia 1;have c2:=hP.blk.ia 2;have f1:=hP.blk.frozen 1;have f2:=hP.blk.frozen 2;have ar:=hP.blk.lt;have aj:=hP.gb;have L:=hP.oh;have ah:some g≠vH.ownBlock:=AU (gZ hP.oh hP.blk ab);obtain⟨p,hp⟩:=ii hs.length;obtain⟨q,hq⟩:=ii ls.length;rw[<-hp]at L hh;obtain⟨AH,cH,rfl⟩:=bZ L;have HP:=hid hP;have an:=hid hp;have Z:=hid hq;have a3:=hid hl;obtain⟨hi,N⟩:=ii (x / 2 ^ W);obtain⟨lo,Q⟩:=ii (x % 2 ^ W);rw[<-N,<-Q];have eh:(x:Int) / 2 ^ W=(hi:Int):=by rw[N];simp
 have el:IntKind.u16.wrap (bits .and .i64 (x:Int) (IntKind.i64.wrap (IntKind.i64.wrap (2 ^ W)-1)))=(lo:Int):=by rw[Q];exact ZZ x W hx hW
 have ba:=hid N;have bb:=hid Q;clear hP hp hq N Q hl;go_enter func174,ntmps174;go_upto_region 0 with fail;go_region_law((refine step_append_lies _ mz _ _ _ mz base 3 j0 _ 1 8 underlying37 ak a0 aq a4 rfl mw (.slice AH p cH) p (cZ .i64 hs) mz ((L.alloc _).drew) ⟨w,0,none⟩ 1 1 [.int .i64 (hi:Nat)] mz mz (World.news_of_block (cs:=#[.int .i64 (hi:Nat)]) (t:=3) (fr:=(0,0)) (heap_alloc_new w _)) mp mw pm mw oT (w.heap.size+1) oK ?_;intro g3 z w3 M j a6 ai;have gb:w3.heap[g]? =w.heap[g]? :=(j.block g oT ah).trans (DJ w _ g ar);have p0:=(World.cell?_of_block (a:=⟨g,0,none⟩) gb).trans c0;have p1:=(World.cell?_of_block (a:=⟨g,1,none⟩) gb).trans c1;have p2:=(World.cell?_of_block (a:=⟨g,2,none⟩) gb).trans c2;have q1:=(World.frozen?_of_block (a:=⟨g,1,none⟩) gb).trans f1))
 all_goals
  have E:Prt t (w3.setCell ⟨g,1,none⟩ (.slice (some ⟨g3,0,none⟩) (p+1) z)) base g W (hs++ [hi]) ls (.slice (some ⟨g3,0,none⟩) (p+1) z) vL:=HP.out.highs ab Y (aZ (Ag _ w)).drew j (by rw[<-an.out];exact M);have ac:Below base w (w3.setCell ⟨g,1,none⟩ (.slice (some ⟨g3,0,none⟩) (p+1) z)):=(((Ag base w).alloc mw _).drew.grown j oT (fun y hy=>(Aj L y hy).1)).setCell (p:=⟨g,1,none⟩) aj _;have ae:Hid (Kept (fun y=>y<w.heap.size/\y≠g/\(Value.slice AH p cH).ownBlock≠some y/\vL.ownBlock≠some y) w (w3.setCell ⟨g,1,none⟩ (.slice (some ⟨g3,0,none⟩) (p+1) z))):=((((Kept.refl _ w).alloc (fun y hy=>hy.1) _).drew.grown j (fun y hy=>by have:=hy.1;simp;omega) (fun y hy hk=>hk.2.2.1 hy))).set (fun h=>h.2.1 rfl) _;generalize w3.setCell ⟨g,1,none⟩ (.slice (some ⟨g3,0,none⟩) (p+1) z)=wb at *;clear M j a6 ai gb p0 p1 p2 q1;have al:=hid ac;have d0:=E.blk.ia 0;have d2:=E.blk.ia 2;have e2:=E.blk.frozen 2;have af:=E.blk.lt;have G:=E.ol;have ag:some g≠vL.ownBlock:=AU (gZ E.ol E.blk Y);rw[<-Z.out]at G;obtain⟨AL,cL,rfl⟩:=bZ G;have az:=hid E;have bc:q<=100000:=by rw[Z.out];exact a3.out
  clear E ac c0 c1 c2 f1 f2 ah L;go_upto_region 1 with fail;go_region_law((refine step_append_lies _ mz _ _ _ mz base 25 k0 _ 1 2 underlying227 a5 av ax am rfl mw (.slice AL q cL) q (cZ .u16 ls) mz ((G.alloc _).drew) ⟨wb,0,none⟩ 1 1 [.int .u16 (lo:Nat)] mz mz (World.news_of_block (cs:=#[.int .u16 (lo:Nat)]) (t:=25) (fr:=(0,0)) (heap_alloc_new wb _)) mp mw pm mw oT (wb.heap.size+1) oK ?_;intro g4 J w4 aa i U a9;have gb:w4.heap[g]? =wb.heap[g]? :=(i.block g oT ag).trans (DJ wb _ g af);have p0:=(World.cell?_of_block (a:=⟨g,0,none⟩) gb).trans d0;have p2:=(World.cell?_of_block (a:=⟨g,2,none⟩) gb).trans d2;have q2:=(World.frozen?_of_block (a:=⟨g,2,none⟩) gb).trans e2))
  all_goals
   have ay:Prt t (w4.setCell ⟨g,2,none⟩ (.slice (some ⟨g4,0,none⟩) (q+1) J)) base g W (hs++ [hi]) (ls++ [lo]) (.slice (some ⟨g3,0,none⟩) (p+1) z) (.slice (some ⟨g4,0,none⟩) (q+1) J):=az.out.lows ab Y (aZ (Ag _ wb)).drew i (by rw[<-Z.out];exact aa);have a1:Below base w (w4.setCell ⟨g,2,none⟩ (.slice (some ⟨g4,0,none⟩) (q+1) J)):=((al.out.alloc mw _).drew.grown i oT (fun y hy=>(Aj G y hy).1)).setCell (p:=⟨g,2,none⟩) aj _;have zz:=ae.out.size;have aw:Hid (Kept (fun y=>y<w.heap.size/\y≠g/\(Value.slice AH p cH).ownBlock≠some y/\(Value.slice AL q cL).ownBlock≠some y) w (w4.setCell ⟨g,2,none⟩ (.slice (some ⟨g4,0,none⟩) (q+1) J))):=(((ae.out.alloc (fun y hy=>by have:=hy.1;omega) _).drew.grown i (fun y hy=>by have:=hy.1;simp;omega) (fun y hy hk=>hk.2.2.2 hy))).set (fun h=>h.2.1 rfl) _
   have au:Hid (∀y,y<w.heap.size->(Value.slice (some ⟨g4,0,none⟩) (q+1) J).ownBlock=some y->(Value.slice AL q cL).ownBlock=some y):=fun y hy he=>by
    rcases U with h|h
    ·rw[h];exact he
    ·have e:g4=y:=(by injection he);omega
   clear U;go_wp2_with fail
   go_end0
   exact⟨rfl,_,_,ay,a1,aw.out,au.out⟩
theorem ZC(t:TypeId)(h:3≠t)(i:25≠t)(w:World)(base g W:Nat)(hs ls:List Nat)(vH vL:Value)(x:Nat)(hx:x<=100000)(hW:W<=14)(hh:hs.length<=100000)(hl:ls.length<=100000)(hP:Prt t w base g W hs ls vH vL):
 Calls prog 174 #[.pointer (some ⟨g,0,none⟩), .int .i64 (x:Nat)] w fun e w'=>e= .returned (.tuple #[])/\∃vH' vL',Prt t w' base g W (hs++ [x / 2 ^ W]) (ls++ [x % 2 ^ W]) vH' vL'/\Below base w w':=
 (TM t h i w base g W hs ls vH vL x hx hW hh hl hP).mono fun _ _ ⟨h1,vH',vL',h2,h3,_⟩=>⟨h1,vH',vL',h2,h3⟩
end Ef
namespace Body
open Go.RowKit Mem Own Canon Nums
theorem own_far{e':TypeId}{s' n':Nat}{v:Value}{z:List Value}(h:w.ownsRow base e s v n xs)(h2:w.ownsRow i e' s' v' n' z)(j:e'≠e)(hg:w.grownBy w' v'.ownBlock):w'.ownsRow base e s v n xs:=
 eZ h fun y hy=>hg.block y (Aj h y hy).2 fun e2=>by
  rcases ER h2 h j with e3|e3
  ·rw[e3]at e2;cases e2
  ·exact e3 (by rw[<-e2,hy])
theorem TC{P:Program}{j:Array Oper}{o:Oper}{a:Act}{K:Act->World->Prop}{Q:Exit->Act->World->Prop}{E:Prop}(y:o.guard=none)(s x:Operand)(t:TypeId)
 (ho:o.op= .call {callee:= .builtin .append,args:=#[s,x],argTypes:=#[t,t] })
 (base:Nat)(e:TypeId)(i:TypeInfo)(z:Value)(size bytes:Nat)(ht:P.underlying t=some (.slice e))(hi:P.info? e=some i)(hz:i.zero=some z)
 (hsize:i.size=size)(hby:i.bytes=bytes)(hzs:z.cells.size=size)(hsz:0<size)
 (v:Value)(n:Nat)(xs:List Value)(hs:a.eval s=v)(hown:w.ownsRow base e size v n xs)
 (A:Option Addr)(m c:Nat)(news:List Value)(hx:a.eval x= .slice A m c)(hsrc:Src w A m c size news)(h1:∀u∈news,u.oneCell'=true)
 (h63:n+m<=maxLen)(hbytes:(n+m)*bytes<=140737488355328)(hbase:base<=w.heap.size)
 (h:∀A' c' w',w'.ownsRow base e size (.slice A' (n+m) c') (n+m) (xs++news)->w.grownBy w' v.ownBlock->((Value.slice A' (n+m) c').ownBlock=v.ownBlock∨(Value.slice A' (n+m) c').ownBlock=some w.heap.size)->K (a.put o.dst (.slice A' (n+m) c')) w'):
 if Region.wanted o (yielded j a.tmps)=true then Oper.wp P o a w K Q else E:=by
 have hw:Region.wanted o (yielded j a.tmps)=true:=by simp[Region.wanted,y]
 rw[Ab hw];obtain⟨v',w',hr,h2,h3,h4⟩:=Ld (P:=P) w base t o.type e i z size bytes ht hi hz hsize hby hzs hsz v n xs hown A m c news hsrc h1 h63 hbytes hbase;obtain⟨A',c',rfl⟩:=bZ h2;unfold Oper.wp execOp;simp only[ho,resolve,invoke,builtin,Sem.run_bind,Sem.run_pure,Result.andThen_ok,List.map_toArray,List.map_cons,List.map_nil,hs,hx,hr];exact h A' c' w' h2 h3 h4
def Ew(rec:Nat)(ls:List Nat):Nat->Nat->Int->List Nat->List Nat->List Nat×List Nat×Nat×Int
 |0,at_,er,cs,ss=>(cs,ss,at_,er)
 |k+1,at_,er,cs,ss=>if er≠0 then(cs,ss,at_,er)else Ew rec ls k (zZ 8388608 ls (zZ rec ls at_ 0) (AJ rec ls at_ 0)) (AJ 8388608 ls (zZ rec ls at_ 0) (AJ rec ls at_ 0)) (cs++ [AY rec ls at_ 0]) (ss++ [AY 8388608 ls (zZ rec ls at_ 0) (AJ rec ls at_ 0)])
theorem Zf{rec:Nat}{at_:Nat}{cs ss:List Nat}(h:er≠0):Ew rec ls k at_ er cs ss=(cs,ss,at_,er):=by
 cases k with
 |zero=>rfl
 |succ k=>exact Ab h
def Eb(ls:List Nat):Nat:=AY 20000 ls 0 0
def GW(ls:List Nat):Nat:=AY (Eb ls) ls (zZ 20000 ls 0 0) (AJ 20000 ls 0 0)
def FL(ls:List Nat):List Nat×List Nat×Nat×Int:=Ew (Eb ls) ls (GW ls) (zZ (Eb ls) ls (zZ 20000 ls 0 0) (AJ 20000 ls 0 0)) (AJ (Eb ls) ls (zZ 20000 ls 0 0) (AJ 20000 ls 0 0)) [] []
def Dh(ls:List Nat):List Nat:=(FL ls).1
def Ds(ls:List Nat):List Nat:=(FL ls).2.1
def dP(ls:List Nat):Nat:=AY 8388608 ls (FL ls).2.2.1 (FL ls).2.2.2
def dPA(ls:List Nat):Nat:=zZ 8388608 ls (FL ls).2.2.1 (FL ls).2.2.2
def dPE(ls:List Nat):Int:=AJ 8388608 ls (FL ls).2.2.1 (FL ls).2.2.2
def dQ(ls:List Nat):Nat:=AY 8388608 ls (dPA ls) (dPE ls)
def dE(ls:List Nat):Int:=Gn ls (zZ 8388608 ls (dPA ls) (dPE ls)) (AJ 8388608 ls (dPA ls) (dPE ls))
def FK(room:Nat)(ls:List Nat):Int:=if dE ls≠0 then dE ls else if 0∈Dh ls∨(Dh ls).sum≠Eb ls∨(Ds ls).sum+dP ls+dQ ls≠room then 2 else 0
theorem Ox{rec:Nat}{ls:List Nat}:∀ (k at_:Nat) (er:Int) (cs ss:List Nat),cs.length=ss.length->(Ew rec ls k at_ er cs ss).1.length=(Ew rec ls k at_ er cs ss).2.1.length/\(Ew rec ls k at_ er cs ss).1.length<=cs.length+k/\((Ew rec ls k at_ er cs ss).2.2.2=0->(Ew rec ls k at_ er cs ss).1.length=cs.length+k)
 |0,_,_,_,_,h=>⟨h,Ak _,fun _=>rfl⟩
 |k+1,at_,er,cs,ss,h=>by
  unfold Ew;split
  ·rename_i he;exact⟨h,Nat.le_add_right _ _,fun h2=>absurd h2 he⟩
  ·obtain⟨h1,h2,h3⟩:=Ox (rec:=rec) (ls:=ls) k (zZ 8388608 ls (zZ rec ls at_ 0) (AJ rec ls at_ 0)) (AJ 8388608 ls (zZ rec ls at_ 0) (AJ rec ls at_ 0)) (cs++ [AY rec ls at_ 0]) (ss++ [AY 8388608 ls (zZ rec ls at_ 0) (AJ rec ls at_ 0)]) (by rw[Ae,Ae,h];rfl);rw[Ae]at h2 h3;exact⟨h1,by simp at h2;omega,fun h4=>by have:=h3 h4;simp at this;omega⟩
theorem St{rec:Nat}{ls:List Nat}(h8:∀x∈ls,x<=255):∀ (k at_:Nat) (er:Int) (cs ss:List Nat),(∀x∈cs,x<=rec)->(∀x∈ss,x<=8388608)->(∀x∈(Ew rec ls k at_ er cs ss).1,x<=rec)/\(∀x∈(Ew rec ls k at_ er cs ss).2.1,x<=8388608)
 |0,_,_,_,_,h,h2=>⟨h,h2⟩
 |k+1,at_,er,cs,ss,h,h2=>by
  unfold Ew;split
  ·exact⟨h,h2⟩
  ·refine St h8 k _ _ _ _ (fun x hx=> ?_) (fun x hx=> ?_)
   ·rcases BF.1 hx with h'|h'
    ·exact h x h'
    ·rw[Ei]at h';rw[h'];exact FQ h8 _ _
   ·rcases BF.1 hx with h|h'
    ·exact h2 x h
    ·rw[Ei]at h';rw[h'];exact FQ h8 _ _
theorem KT:∀ (l:List Nat) (m:Nat),(∀x∈l,x<=m)->l.sum<=l.length*m
 | [],_,_=>oK
 |x :: l,m,h=>by rw[Fo,AD,IR];have h1:=KT l m (fun y hy=>h y (BR _ hy));have h2:=h x (Cu ..);omega
structure DrI (w wr:World) (gb:Nat) (t:TypeId) (rest:List Value) (g:Nat) (ls:List Nat) (B:Option Addr) (d at_:Nat) (er:Int) (C S:List Nat) (vc vs:Value):Prop where
 cur:Cur wr g w ls B d at_ er
 blk:Blk wr gb t (vc :: vs :: rest).toArray
 oc:wr.ownsRow w 3 1 vc C.length (cZ .i64 C)
 os:wr.ownsRow w 3 1 vs S.length (cZ .i64 S)
 ap:∀y,vc.ownBlock=some y->vs.ownBlock≠some y
 kept:Kept (fun x=>x<w.heap.size/\x≠gb) w wr
 lt:gb<w.heap.size
 ti:3≠t
 tu:5≠t
section
variable {w wr w1 w2 w3:World} {gb:Nat} {t:TypeId} {rest:List Value} {g:Nat} {ls:List Nat} {B:Option Addr} {d at_ a2:Nat} {er e2:Int} {C S:List Nat} {vc vs v3:Value} {x:Nat}
theorem DrI.call(h:DrI w wr gb t rest g ls B d at_ er C S vc vs)(j:Cur w2 g w ls B d a2 e2)(i:Kept (By g wr) wr w2):DrI w w2 gb t rest g ls B d a2 e2 C S vc vs:=
 have hz:=h.kept.size;have z:=h.cur.lo;have E:=h.lt
 ⟨j,(i.block gb ⟨h.blk.lt,mw⟩).trans h.blk,eZ h.oc (fun y hy=>i.block y ⟨(Aj h.oc y hy).2,fun e=>gZ h.oc h.cur.blk ip (e ▸ hy)⟩),eZ h.os (fun y hy=>i.block y ⟨(Aj h.os y hy).2,fun e=>gZ h.os h.cur.blk ip (e ▸ hy)⟩),h.ap,h.kept.trans ⟨i.os,i.tape,i.output,i.size,fun y hy=>i.block y ⟨mh,mh⟩⟩,h.lt,h.ti,h.tu⟩
theorem DrI.cs(h:DrI w wr gb t rest g ls B d at_ er C S vc vs):wr.cell? ⟨gb,0,none⟩=some vc/\wr.cell? ⟨gb,1,none⟩=some vs:=by have h0:=h.blk.ia 0;have h1:=h.blk.ia 1;exact⟨h0,h1⟩
theorem DrI.third{x2:Value}(h:DrI w wr gb t (x2 :: rest) g ls B d at_ er C S vc vs){u:Value}:DrI w (wr.setCell ⟨gb,2,none⟩ u) gb t (u :: rest) g ls B d at_ er C S vc vs:=by have i:=h.cur.lo;have j:=h.lt;exact⟨⟨h.cur.blk.far oI _,BS h.cur.own (gZ h.cur.own h.blk h.tu) _,h.cur.le,h.cur.lo⟩,by simpa using h.blk.set 2 u,BS h.oc (gZ h.oc h.blk h.ti) _,BS h.os (gZ h.os h.blk h.ti) _,h.ap,h.kept.set (fun hk=>hk.2 rfl) _,h.lt,h.ti,h.tu⟩
theorem DrI.fourth{x2 x3:Value}(h:DrI w wr gb t (x2 :: x3 :: rest) g ls B d at_ er C S vc vs){u:Value}:DrI w (wr.setCell ⟨gb,3,none⟩ u) gb t (x2 :: u :: rest) g ls B d at_ er C S vc vs:=by have i:=h.cur.lo;have j:=h.lt;exact⟨⟨h.cur.blk.far oI _,BS h.cur.own (gZ h.cur.own h.blk h.tu) _,h.cur.le,h.cur.lo⟩,by simpa using h.blk.set 3 u,BS h.oc (gZ h.oc h.blk h.ti) _,BS h.os (gZ h.os h.blk h.ti) _,h.ap,h.kept.set (fun hk=>hk.2 rfl) _,h.lt,h.ti,h.tu⟩
theorem own_ints{y:List Nat}(h:w.ownsRow base 3 1 (.slice A n c) n (cZ .i64 y))(hn:y.length=n):Row w w A n 1 (jZ .i64 y):=
 Row.of_own h rfl fun i j hi hj=>by
  obtain rfl:j=0:=mw
  unfold cZ;rw[CM,Bf,BG,Az mw];unfold jZ;rw[Am,Az mw];rfl
theorem DrI.count(h:DrI w wr gb t rest g ls B d at_ er C S vc vs)(hb:Below wr wr w1)(hg:w1.grownBy w3 vc.ownBlock)(i:w3.ownsRow w 3 1 v3 (C.length+1) (cZ .i64 C++ [.int .i64 (x:Nat)]))(z:v3.ownBlock=vc.ownBlock∨v3.ownBlock=some w1.heap.size):
 DrI w (w3.setCell ⟨gb,0,none⟩ v3) gb t rest g ls B d at_ er (C++ [x]) S v3 vs:=by
 have b3:=(h.blk.step hb).grown hg (AU (gZ h.oc h.blk h.ti));have o1:w1.ownsRow w 3 1 vs S.length (cZ .i64 S):=eZ h.os (fun y hy=>hb.block y (Aj h.os y hy).2);have o3:w3.ownsRow w 3 1 vs S.length (cZ .i64 S):=eZ o1 (fun y hy=>hg.block y (Aj o1 y hy).2 (fun e=>h.ap y e.symm hy));have c1:=h.cur.step hb;have j:w1.ownsRow w 3 1 vc C.length (cZ .i64 C):=eZ h.oc (fun y hy=>hb.block y (Aj h.oc y hy).2);have c3:Cur w3 g w ls B d at_ er:=⟨c1.blk.grown hg (AU (gZ j c1.blk ip)),own_far c1.own j ip hg,c1.le,c1.lo⟩;have G:=h.cur.lo;have E:=h.lt;refine⟨⟨c3.blk.far oI _,BS c3.own (gZ c3.own b3 h.tu) _,c3.le,c3.lo⟩,by simpa using b3.set 0 v3,?_,BS o3 (gZ o3 b3 h.ti) _,?_,?_,h.lt,h.ti,h.tu⟩
 ·rw[Ae,show cZ .i64 (C++ [x])=cZ .i64 C++ [.int .i64 (x:Nat)] by simp[cZ]];exact BS i (gZ i b3 h.ti) _
 ·intro y hy hh;rcases z with e|e
  ·exact h.ap y (by rw[<-e];exact hy) hh
  ·rw[e]at hy;injection hy with hy;have:=(Aj h.os y hh).2;have:=hb.size;omega
 ·have hz:=h.kept.size;exact((h.kept.trans (Kept.of_below hb (fun y hy=>by have:=hy.1;omega))).grown hg (fun y hy=>by have:=hy.1;have:=hb.size;omega) (fun y hy hk=>by have:=(Aj h.oc y hy).1;have:=hk.1;omega)).set (fun hk=>hk.2 rfl) _
theorem DrI.size(h:DrI w wr gb t rest g ls B d at_ er C S vc vs)(hb:Below wr wr w1)(hg:w1.grownBy w3 vs.ownBlock)(i:w3.ownsRow w 3 1 v3 (S.length+1) (cZ .i64 S++ [.int .i64 (x:Nat)]))(z:v3.ownBlock=vs.ownBlock∨v3.ownBlock=some w1.heap.size):
 DrI w (w3.setCell ⟨gb,1,none⟩ v3) gb t rest g ls B d at_ er C (S++ [x]) vc v3:=by
 have b3:=(h.blk.step hb).grown hg (AU (gZ h.os h.blk h.ti));have o1:w1.ownsRow w 3 1 vc C.length (cZ .i64 C):=eZ h.oc (fun y hy=>hb.block y (Aj h.oc y hy).2);have o3:w3.ownsRow w 3 1 vc C.length (cZ .i64 C):=eZ o1 (fun y hy=>hg.block y (Aj o1 y hy).2 (fun e=>h.ap y hy e.symm));have c1:=h.cur.step hb;have j:w1.ownsRow w 3 1 vs S.length (cZ .i64 S):=eZ h.os (fun y hy=>hb.block y (Aj h.os y hy).2);have c3:Cur w3 g w ls B d at_ er:=⟨c1.blk.grown hg (AU (gZ j c1.blk ip)),own_far c1.own j ip hg,c1.le,c1.lo⟩;have G:=h.cur.lo;have E:=h.lt;refine⟨⟨c3.blk.far oI _,BS c3.own (gZ c3.own b3 h.tu) _,c3.le,c3.lo⟩,by simpa using b3.set 1 v3,BS o3 (gZ o3 b3 h.ti) _,?_,?_,?_,h.lt,h.ti,h.tu⟩
 ·rw[Ae,show cZ .i64 (S++ [x])=cZ .i64 S++ [.int .i64 (x:Nat)] by simp[cZ]];exact BS i (gZ i b3 h.ti) _
 ·intro y hy hh;rcases z with e|e
  ·exact h.ap y hy (by rw[<-e];exact hh)
  ·rw[e]at hh;injection hh with hh;have:=(Aj h.oc y hy).2;have:=hb.size;omega
 ·have hz:=h.kept.size;exact((h.kept.trans (Kept.of_below hb (fun y hy=>by have:=hy.1;omega))).grown hg (fun y hy=>by have:=hy.1;have:=hb.size;omega) (fun y hy hk=>by have:=(Aj h.os y hy).1;have:=hk.1;omega)).set (fun hk=>hk.2 rfl) _
end
end Body
namespace Idx
open Go.RowKit Mem Own Canon Sift
open NumPut Recs Crc Block
theorem On(s:Str):BC (bs s)=CX s:=by unfold BC CX;rw[Ev];rfl
theorem LD{s:Str}(h:s.length<=25):(CX s).length<=28:=by have h1:=KZ (s:=bs s) (by rw[Ev];omega);rw[On,Ev]at h1;omega
theorem lD{l:List Str}{x:Str}(h:l[k]? =some x):(l.take (k+1)).getLast?=some x:=by rw[Cj,h];simp
theorem kQ{l:List Str}{x y:Str}(hx:l[k]? =some x)(hy:l[k+1]? =some y):rZ (l.take (k+1+1))=rZ (l.take (k+1))++(fZ (Bj x y)++CX (y.drop (Bj x y))):=by rw[Cj (i:=k+1),hy];refine mC ?_ y x (lD hx);rw[Cj,hx];simp
theorem JJ(h:x<=127):(fZ x).length=1:=by rw[EM mw];rfl
theorem YV(s:Str)(a:Nat)(ha:a<=s.length)(w:World):(Instr.slice 9 (.string (bs s)) (some (.int .i64 (a:Int))) none none).run prog w= .ok (.string (bs (s.drop a))) w:=by
 have hz:=Ev s;rw[run_slice_string_l w (t:=9) (s:=bs s) (ht:=underlying9) .i64 (a:Int) mw mw,Br];have e:(bs s).extract a (bs s).size=bs (s.drop a):=by refine ByteArray.ext (Array.ext' ?_);rw[QY,Hm,hz,BQ (by rw[AO];exact Ak _)];rfl
 rw[e]
def OZ(bs:List Nat)(w:World)(e:Ending)(w':World):Prop:=
 ∃v,e= .returned v/\w'.ownsRow w 5 1 v bs.length (cZ .u8 bs)/\Below w w w'
theorem lG(w:World)(A:Option Addr)(n c:Nat)(ls:List Str)(hn:ls.length=n)(h1:1<=n)(hN:n<=64)(bg:n<=c)(hs:∀s∈ls,s.length<=25)(ha:Row w w A n 1 (GE ls)):
 Calls prog 171 #[.slice A n c] w (OZ (rZ ls) w):=by
 have HN:=hid hn;have G:Hid (∀ (k:Nat) (x:Str),ls[k]? =some x->x.length<=25):=fun k x h=>hs x (Be h);obtain⟨b,bp,x0,hA,bn,J,bf⟩:=Row.str ha hn (k:=0) mw;have Y:rZ (ls.take (0+1))=CX x0:=by rw[Cj,J];simp[rZ,DY]
 have DT:=hid (Mo w (bs x0) (by rw[Ev];have:=G.out 0 x0 J;omega));rw[On,<-Y]at DT;have aw:(rZ (ls.take (0+1))).length<=28:=by rw[Y];exact LD (G.out 0 x0 J)
 have ks:=fun wx=>FU (P:=prog) (t:=50) (s:=1) underlying50 (fun _=>by kernel_rfl) A n c .i64 (1:Int) 1 rfl h1 wx;have am:Row w w (AQ A 1 c 1) (n-1) 1 (fun i j=>GE ls (i+1) j):=Row.cut ha 1 (n-1) mw bg fun i j _ _=>by rw[Nat.add_comm]
 generalize AQ A 1 c 1=A1 at *;generalize c-1=c1 at *;obtain⟨m,hm⟩:=ii (n-1);rw[<-hm]at ks am;have bl:m+1=n:=mw
 have E:Hid (rZ (ls.take (m+1))=rZ ls):=by show _=_;rw[BQ mw]
 unfold OZ;obtain⟨R,hR⟩:=ii (rZ ls);rw[<-hR]at E ⊢;obtain⟨B,hB⟩:∃B:Nat->List Nat,B=fun k=>rZ (ls.take (k+1)):=⟨_,rfl⟩;have av:Hid (∀ (k:Nat) (x y:Str),ls[k]? =some x->ls[k+1]? =some y->B (k+1)=B k++(fZ (Bj x y)++CX (y.drop (Bj x y)))):=fun k x y hx hy=>by rw[hB];exact kQ hx hy
 have L:Hid (B m=R):=by rw[hB];exact E.out
 rw[show rZ (ls.take (0+1))=B 0 by rw[hB]]at DT aw;subst hA;rw[Bf]at bf;clear hn hs J Y E hR hB hm;go_enter func171,ntmps171;go_wp2_with fail;refine DT.out.mono ?_;rintro e w1 ⟨v1,rfl,U,ak⟩;obtain⟨A2,c2,rfl⟩:=bZ U;have ah:=hid U;have al:=hid ak;clear U ak DT;go_wp2_with fail;go_loopw [3,14] (fun uv iv wr=>∃ (k p:Nat),k<=m/\p<=28+31*k/\iv= .int .i64 k/\Hid ((B k).length=p)/\Hid (wr.ownsRow w 5 1 uv p (cZ .u8 (B k)))/\Hid (Below w w wr)) (fun _ iv _=>m-(intOf iv).toNat)
 case atStart=>exact⟨0,(B 0).length,mw,mw,rfl,rfl,ah.out,al.out⟩
 case round=>
  obtain⟨k,p,hk,hp,rfl,HP,HO,HB⟩:=hrel;clear ah al;obtain⟨wi,rfl⟩:=ii wr;obtain⟨A3,c3,rfl⟩:=bZ HO.out;by_cases az:k<m
  ·have M:(B k).length=p:=HP.out;subst M;have gk:=ic ((k:Int)<m);have bc:=ic (k<m);have bj:(0:Int)<=(k:Int):=mw;have x1:(k:Int)<(m:Int):=mw;have x2:(k:Int)<(n:Int):=mw;obtain⟨b',bh,x,N,_,hx,cx⟩:=Row.str (ha.below HB.out) HN.out (k:=k) mw;injection N with N;injection N with e1 e2;subst e1 e2;obtain⟨y,hy⟩:∃y,ls[k+1]? =some y:=⟨_,Az lq⟩;obtain⟨b1,aj,hA1,_,aq⟩:=(am.below HB.out) mw;subst hA1;have cy:wi.cell? ⟨b1,aj+k,none⟩=some (.string (bs y)):=(by have h:=aq k 0 az mw;rw[CM,Bf]at h;rw[h];show some (Value.string (bs (ls.getD (k+1) [])))=_;rw[Am,hy];rfl);have be:=G.out k x hx;have ay:=G.out (k+1) y hy;have an:=KU x y;have Z:=av.out k x y hx hy;have DS:=hid (RF wi x y mw mw);obtain⟨a,ae⟩:=ii (Bj x y);rw[<-ae]at an Z DS;have ax:=Ev y;have ar:(y.drop a).length<=25:=mP;have ac:=Ev (y.drop a);have kl:=fun wx=>YV y a an.2 wx;have DN:=hid (fun wx=>FW wx a mw);have DX:=hid (fun wx=>Mo wx (bs (y.drop a)) (by rw[ac];omega));rw[On]at DX;have u1:IntKind.u64.wrap (a:Int)=(a:Int):=m9;have bq:(fZ a).length<=3:=(by rw[JJ mw];omega);have bm:=LD ar;have PB:Hid (∀wx,Below wi wi wx->Part.Ok (⟨A3,c3,B k⟩:Part) wx):=fun wx hb=>by have h:=lZ (eZ HO.out (fun z hz=>hb.block z (Aj HO.out z hz).2)) HP.out;exact h
   generalize bs (y.drop a)=Y2 at *;generalize CX (y.drop a)=X2 at *;generalize fZ a=X1 at *;have aa:=hid Z;have bi:(B k).length<=2000:=lu;have bb:∀a1 a2 a3 a4 a5 a6,BI [(⟨a1,a2,B k⟩:Part),⟨a3,a4,X1⟩,⟨a5,a6,X2⟩]<=1000000:=fun _ _ _ _ _ _=>oU
   clear Z hx hy ae be ay ax ac aq;go_wp2_with fail;refine DS.out.mono ?_;rintro e w2 ⟨rfl,hq⟩;have ab:Hid (Below wi wi w2):=(by obtain⟨q,rfl⟩:=hq;exact below_drewN (Ag _ _) q);clear hq DS;have bk:=ab.out.size;go_upto_region 6 with fail;have b2:Below wi wi w2.drew:=ab.out.drew;go_region_held3 (fun _=>True) (trivial) (first|(go_at_call 99;(with_reducible refine(DN.out _).mono ?_);rintro e wA ⟨vA,rfl,ag,ba⟩;obtain⟨AA,cA,rfl⟩:=bZ ag;have BA:Below wi wi wA:=uZ ba it pn;have zA:=BA.size;have PA:Part.Ok (⟨AA,cA,X1⟩:Part) wA:=lZ ag rfl)|(go_at_call 165;(with_reducible refine(DX.out _).mono ?_);rintro e wB ⟨vB,rfl,ai,bd⟩;obtain⟨AB,cB,rfl⟩:=bZ ai;have BB:Below wi wi wB:=uZ bd it pn;have zB:=BB.size;have PX:Part.Ok (⟨AB,cB,X2⟩:Part) wB:=lZ ai rfl)|(go_at_call 55;(refine(Fz _ _ 3 [(⟨A3,c3,B k⟩:Part),(⟨AA,cA,X1⟩:Part),(⟨AB,cB,X2⟩:Part)] rfl mw (bb _ _ _ _ _ _) (fun p hp=>by{rcases AM.1 hp with rfl|hp;exact PB.out _ pn;rcases AM.1 hp with rfl|hp;exact PA.step pn;rcases AM.1 hp with rfl|hp;exact PX.step pn;cases hp}) iq).mono ?_);rintro e w7 ⟨v7,rfl,Q,af⟩;obtain⟨A7,c7,rfl⟩:=bZ Q;have B7:Below wi wi w7:=uZ af it pn))
   all_goals
    have au:Hid ((B (k+1)).length=(B k).length+(X1.length+X2.length)):=(by show _=_;rw[aa.out,Ae,Ae]);have a0:Hid (w7.ownsRow w 5 1 (.slice A7 ((B k).length+(X1.length+X2.length)) c7) ((B k).length+(X1.length+X2.length)) (cZ .u8 (B (k+1)))):=(by have h:=kZ Q (show w.heap.size<=_ by have:=HB.out.size;have:=zA;have:=zB;first|omega|(simp;omega));simp only[List.flatMap_cons,List.flatMap_nil,List.append_nil,List.length_append]at h;show World.ownsRow _ _ _ _ _ _ _;rw[aa.out];exact h);have a9:Hid (Below w w w7):=dZ B7 HB.out;clear Q af PA PX PB HO HB HP aa B7;go_wp2_with fail;go_roundw
    case measure=>exact jo
    case rel=>go_light;exact⟨k+1,_,mw,mw,iu,au.out,a0.out,a9.out⟩
  ·obtain rfl:k=m:=by omega
   have gk:=ig ((k:Int)<k);have bc:=ig (k<k);have M:(B k).length=p:=HP.out;subst M;go_wp2_with fail;go_ret;exact⟨_,rfl,by rw[<-L.out];exact HO.out,HB.out⟩
end Idx
namespace Idx
open Go.RowKit Mem Own Canon
open NumPut (fZ qZ)
def CO(size:Nat)(l:List Str)(k:Nat):List Str:=(l.drop (k*size)).take size
def nCh(size n:Nat):Nat:=(n+size-1) / size
theorem OR{size:Nat}(h:1<=size):k<nCh size n↔k*size<n:=by unfold nCh;rw[Nat.lt_iff_add_one_le,Nat.le_div_iff_mul_le mw,Ez];omega
theorem UQ{size:Nat}(h:1<=size):nCh size 0=0:=by unfold nCh;exact Nat.div_eq_of_lt mw
theorem YA{size:Nat}(h:1<=size)(hn:1<=n):nCh size n=nCh size (n-size)+1:=by
 unfold nCh;by_cases hs:size<=n
 ·have e:n+size-1=(n-size+size-1)+size:=by omega
  rw[e,Nat.add_div_right _ mw]
 ·have e:n-size=0:=by omega
  rw[e,Cb,Nat.div_eq_of_lt (by omega:size-1<size)];have e2:n+size-1=(n-1)+size:=mw
  rw[e2,Nat.add_div_right _ mw,Nat.div_eq_of_lt mw]
theorem LX{size:Nat}(h:1<=size):nCh size n<=n:=by refine Jk fun hn=> ?_;have h1:=(OR (n:=n) (k:=n) h).1 mw;have h2:n*1<=n*size:=Nat.mul_le_mul_left n h;omega
theorem Y5(size:Nat)(l:List Str):CO size l 0=l.take size:=by simp[CO]
theorem YM(size:Nat)(l:List Str)(k:Nat):CO size l (k+1)=CO size (l.drop size) k:=by unfold CO;rw[List.drop_drop,Ez,Nat.one_mul,Nat.add_comm]
theorem UX{size:Nat}(h:1<=size):∀ (f:Nat) (l:List Str),l.length<=f->Df size f l=(List.range (nCh size l.length)).map (CO size l)
 |0,l,hl=>by
  have e:l.length=0:=mw
  rw[e,UQ h];rfl
 |f+1,l,hl=>by
  rw[Df];by_cases e:l= []
  ·rw[Ab e,e];show []=(List.range (nCh size 0)).map _;rw[UQ h];rfl
  ·have hp:1<=l.length:=Fv.2 e;rw[Aa e,YA h hp,List.range_succ_eq_map,Cl,List.map_map,Y5,UX h f (l.drop size) mP,AO];congr 1;exact J4 fun k _=>(YM size l k).symm
theorem kJ{size:Nat}(h:1<=size)(l:List Str):Gw size l=(List.range (nCh size l.length)).map (CO size l):=UX h _ l (Ak _)
theorem Of{size:Nat}(h:1<=size)(l:List Str):C8 size l=(fZ l.length++(List.range (nCh size l.length)).flatMap (fun k=>fZ (rZ (CO size l k)).length))++(List.range (nCh size l.length)).flatMap (fun k=>rZ (CO size l k)):=by unfold C8;rw[kJ h,List.flatMap_map,List.flatMap_map]
theorem Ts:∀ (t:List Str) (i:Str),(∀s∈t,s.length<=25)->i.length<=25->(DY i t).length<=31*t.length
 | [],_,_,_=>by simp[DY]
 |x :: t,i,h,hw=>by have hx:=h x Cu;have ih:=Ts t x (fun s hs=>h s (BR _ hs)) hx;have ha:=(KU i x).2;rw[DY,Ae,Ae,AD,JJ mw];have:=LD (s:=x.drop (Bj i x)) mP;omega
theorem Mi{l:List Str}(h:∀s∈l,s.length<=25):(rZ l).length<=31*l.length:=by
 cases l with
 |nil=>simp[rZ]
 |cons x t=>rw[rZ,Ae,AD];have:=LD (h x Cu);have:=Ts t x (fun s hs=>h s (BR _ hs)) (h x Cu);omega
theorem Nt{size:Nat}{l:List Str}{s:Str}(h:s∈CO size l k):s∈l:=BY (CV h)
theorem Nr(size k:Nat)(l:List Str):(CO size l k).length=min size (l.length-k*size):=by unfold CO;rw[AZ,AO]
def Apt(v u:Value):Prop:=∀x,v.ownBlock=some x->u.ownBlock=some x->False
theorem Apt.symm{v:Value}(h:Apt v u):Apt u v:=fun x a b=>h x b a
theorem GJ{v:Value}{ys:List Value}(hu:w.ownsRow base e s u m ys)(ha:Apt v u)(hg:w.grownBy w' v.ownBlock)(i:v'.ownBlock=v.ownBlock∨v'.ownBlock=some w.heap.size):
 w'.ownsRow base e s u m ys/\Apt v' u:=by
 refine⟨eZ hu fun y hy=>hg.block y (Aj hu y hy).2 fun e=>ha y e.symm hy,fun x hx hy=> ?_⟩;rcases i with h|h
 ·exact ha x (h ▸ hx) hy
 ·rw[h]at hx;have:=(Aj hu x hy).2;injection hx;omega
theorem IY{v:Value}{B:Nat}(hv:w.ownsRow base e s v m xs)(hB:B<=base)(hu:∀x,u.ownBlock=some x->x<B):Apt v u:=
 fun x a b=>by have:=(Aj hv x a).1;have:=hu x b;omega
theorem QB:∀ (l:List Str) (i:Str),CY i l=true->∀s∈l,1<=s.length/\s.length<=25
 | [],_,_,s,hs=>by cases hs
 |x :: t,i,h,s,hs=>by
  rw[CY,BV]at h;rcases AM.1 hs with rfl|hs
  ·have h1:=h.1;unfold Ec at h1;rw[BV,BV,decide_eq_true_iff,decide_eq_true_iff]at h1;exact⟨h1.1,h1.2.1⟩
  ·exact QB t x h.2 s hs
theorem Jc{l:List Str}(h:FM l=true):∀s∈l,1<=s.length/\s.length<=25:=by unfold FM at h;rw[BV]at h;exact QB l [] h.1
def hdB(size:Nat)(l:List Str)(q:Nat):List Nat:=fZ l.length++(List.range q).flatMap (fun k=>fZ (rZ (CO size l k)).length)
def bdB(size:Nat)(l:List Str)(q:Nat):List Nat:=(List.range q).flatMap (fun k=>rZ (CO size l k))
theorem Ye(size:Nat)(l:List Str)(q:Nat):hdB size l (q+1)=hdB size l q++fZ (rZ (CO size l q)).length:=by simp[hdB,List.range_succ]
theorem XR(size:Nat)(l:List Str)(q:Nat):bdB size l (q+1)=bdB size l q++rZ (CO size l q):=by simp[bdB,List.range_succ]
theorem Lx{size:Nat}{l:List Str}(hs:∀s∈l,s.length<=25)(h2:size<=64)(q:Nat):(rZ (CO size l q)).length<=1984:=by have h:=Mi (l:=CO size l q) (fun s hs'=>hs s (Nt hs'));rw[Nr]at h;omega
theorem MS{size:Nat}{l:List Str}(hs:∀s∈l,s.length<=25)(h2:size<=64)(hl:l.length<=1000000):∀q,(hdB size l q).length<=10+10*q
 |0=>by have:=qZ (x:=l.length) mw;simp[hdB];omega
 |q+1=>by have ih:=MS hs h2 hl q;have hc:=Lx hs h2 q;have:=qZ (x:=(rZ (CO size l q)).length) mw;rw[Ye,Ae];omega
theorem Nf{size:Nat}{l:List Str}(hs:∀s∈l,s.length<=25)(h1:1<=size):∀q,(bdB size l q).length<=31*min (q*size) l.length
 |0=>by simp[bdB]
 |q+1=>by have ih:=Nf hs h1 q;have hc:=Mi (l:=CO size l q) (fun s hs'=>hs s (Nt hs'));rw[Nr]at hc;rw[XR,Ae,Ez,Nat.one_mul];omega
end Idx
namespace Idx
open Go.RowKit Mem Own Canon
open NumPut Recs Crc Block
def CD(x:Nat):List Nat:= [x % 256,x / 256 % 256,x / 65536 % 256,x / 16777216 % 256]
def Gm(x:Nat):Nat->Array Value
 |0=>#[.int .u8 0, .int .u8 0, .int .u8 0, .int .u8 0]
 |1=>#[.int .u8 ((x:Int) % 256), .int .u8 0, .int .u8 0, .int .u8 0]
 |2=>#[.int .u8 ((x:Int) % 256), .int .u8 ((x:Int) / 256 % 256), .int .u8 0, .int .u8 0]
 |3=>#[.int .u8 ((x:Int) % 256), .int .u8 ((x:Int) / 256 % 256), .int .u8 ((x:Int) / 65536 % 256), .int .u8 0]
 |_=>#[.int .u8 ((x:Int) % 256), .int .u8 ((x:Int) / 256 % 256), .int .u8 ((x:Int) / 65536 % 256), .int .u8 ((x:Int) / 16777216 % 256)]
theorem Xx(x:Nat):(Gm x 4).toList=cZ .u8 (CD x):=by simp[Gm,CD,cZ]
theorem UD:(prog.info? 5).map (fun i=>(i.zero,i.size,i.bytes))=some (some (.int .u8 0),1,1):=mr
theorem kE(w:World):(Instr.makeSlice 28 (.int .i64 4) (.int .i64 4)).run prog w= .ok (.slice (some ⟨w,0,none⟩) 4 4) (w.alloc (.cells #[.int .u8 0, .int .u8 0, .int .u8 0, .int .u8 0] 5)):=by
 obtain⟨i0,hi,y,j,i⟩:=info_parts UD;have h:=run_make (P:=prog) w 28 5 i0 (.int .u8 0) underlying28 hi y .i64 .i64 (4:Int) (4:Int) mw (Int.le_refl _) nS mw;rw[h,j];have e:madeCells (Value.int IntKind.u8 0).cells (Int.toNat 4*1)=#[.int .u8 0, .int .u8 0, .int .u8 0, .int .u8 0]:=mr
 rw[e];rfl
theorem KV(x:Int):IntKind.u8.wrap x=x % 256:=IntKind.wrap_u8 x
theorem jP(w:World)(x:Nat)(hx:x<4294967296):
 Calls prog 54 #[.int .u64 x, .int .i64 4] w fun e w'=>∃v,e= .returned (.tuple #[v,ij])/\w'.ownsRow w 5 1 v 4 (cZ .u8 (CD x))/\Below w w w':=by
 have hd:(((x:Int) / 4294967296) != 0)=false:=oT
 have hm:=kE;have w0:=KV (x:Int);have w1:=KV ((x:Int) / 256);have w2:=KV ((x:Int) / 65536);have w3:=KV ((x:Int) / 16777216);go_enter func54,ntmps54;go_wp2_with fail;have y:Hid (Blk (w.alloc (.cells #[.int .u8 0, .int .u8 0, .int .u8 0, .int .u8 0] 5)) w 5 (Gm x 0)):=Blk.made _ _ _;have j:Hid (Below w w (w.alloc (.cells #[.int .u8 0, .int .u8 0, .int .u8 0, .int .u8 0] 5))):=aZ (Ag _ _);generalize w.alloc (.cells #[.int .u8 0, .int .u8 0, .int .u8 0, .int .u8 0] 5)=wa at *;go_loopw [29] (fun iv wr=>∃k:Nat,k<=4/\iv= .int .i64 k/\Hid (Blk wr w 5 (Gm x k))/\Hid (Below w w wr)) (fun iv _=>4-(intOf iv).toNat)
 case atStart=>exact⟨0,mw,rfl,y.out,j.out⟩
 case round=>
  obtain⟨k,hk,rfl,HX,HB⟩:=hrel;clear y j hm;have z:k=0∨k=1∨k=2∨k=3∨k=4:=mw
  rcases z with rfl|rfl|rfl|rfl|rfl
  ·have c:=HX.out.cell 0;have f:=HX.out.frozen 0;have h:Hid (Blk (wr.setCell ⟨w,0,none⟩ (.int .u8 ((x:Int) % 256))) w 5 (Gm x 1)):=HX.out.set 0 _;have i:Hid (Below w w (wr.setCell ⟨w,0,none⟩ (.int .u8 ((x:Int) % 256)))):=BW (Ak _) HB.out;simp[Gm]at c;clear HX HB;go_wp2_with fail;exact⟨⟨1,mw,rfl,h,i⟩,o6⟩
  ·have c:=HX.out.cell 1;have f:=HX.out.frozen 1;have h:Hid (Blk (wr.setCell ⟨w,1,none⟩ (.int .u8 ((x:Int) / 256 % 256))) w 5 (Gm x 2)):=HX.out.set 1 _;have i:Hid (Below w w (wr.setCell ⟨w,1,none⟩ (.int .u8 ((x:Int) / 256 % 256)))):=BW (Ak _) HB.out;simp[Gm]at c;clear HX HB;go_wp2_with fail;exact⟨⟨2,mw,rfl,h,i⟩,o6⟩
  ·have c:=HX.out.cell 2;have f:=HX.out.frozen 2;have h:Hid (Blk (wr.setCell ⟨w,2,none⟩ (.int .u8 ((x:Int) / 65536 % 256))) w 5 (Gm x 3)):=HX.out.set 2 _;have i:Hid (Below w w (wr.setCell ⟨w,2,none⟩ (.int .u8 ((x:Int) / 65536 % 256)))):=BW (Ak _) HB.out;simp[Gm]at c;clear HX HB;go_wp2_with fail;exact⟨⟨3,mw,rfl,h,i⟩,o6⟩
  ·have c:=HX.out.cell 3;have f:=HX.out.frozen 3;have h:Hid (Blk (wr.setCell ⟨w,3,none⟩ (.int .u8 ((x:Int) / 16777216 % 256))) w 5 (Gm x 4)):=HX.out.set 3 _;have i:Hid (Below w w (wr.setCell ⟨w,3,none⟩ (.int .u8 ((x:Int) / 16777216 % 256)))):=BW (Ak _) HB.out;simp[Gm]at c;clear HX HB;go_wp2_with fail;exact⟨⟨4,mw,rfl,h,i⟩,o6⟩
  ·go_wp2_with fail;go_ret2;refine⟨_,rfl,⟨rfl, .inr ⟨w.heap.size,4,_,rfl,Ak _,HX.out,mw,pm,rfl,?_⟩⟩,HB.out⟩;rw[<-Xx];rfl
def GB(x k:Nat):List Nat:=(List.range k).map fun i=>x / 256 ^ i % 256
theorem jL(x:Nat):GB x 4=CD x:=by simp[GB,CD,List.range_succ]
theorem iX(x k:Nat):GB x (k+1)=GB x k++ [x / 256 ^ k % 256]:=by simp[GB,List.range_succ]
theorem Yr(w:World)(x:Nat)(hx:x<4294967296):
 Calls prog 79 #[.int .u64 x, .int .i64 4] w fun e w'=>∃v,e= .returned (.tuple #[v,ij])/\w'.ownsRow w 5 1 v 4 (cZ .u8 (CD x))/\Below w w w':=by
 obtain⟨j0,G,L,Q,N⟩:=info_parts UD;go_enter func79,ntmps79;go_wp2_with fail;go_loopw [0,6,7] (fun xv uv iv wr=>∃k y:Nat,k<=4/\y<4294967296/\iv= .int .i64 k/\xv= .int .u64 y/\Hid (y=x / 256 ^ k)/\Hid (wr.ownsRow w 5 1 uv k (cZ .u8 (GB x k)))/\Hid (Below w w wr)) (fun _ _ iv _=>4-(intOf iv).toNat)
 case atStart=>exact⟨0,x,mw,hx,rfl,rfl,(by show x=x / 256 ^ 0;simp),AI _ _ _ _,Ag _ _⟩
 case round=>
  obtain⟨k,y,hk,hy,rfl,rfl,HY,HO,HB⟩:=hrel;obtain⟨wi,rfl⟩:=ii wr;obtain⟨A1,c1,rfl⟩:=bZ HO.out;by_cases aa:k<4
  ·have gk:=ic ((k:Int)<4);have Z:=ic (k<4);have u1:IntKind.u8.wrap ((y:Int) % 256)=((y % 256:Nat):Int):=(by rw[KV];omega);have J:=HB.out.size;have Y:Hid (y / 256=x / 256 ^ (k+1)):=(by show _=_;rw[HY.out,Nk,zY]);have HL:Hid (GB x (k+1)=GB x k++ [y % 256]):=(by show _=_;rw[iX,HY.out]);clear HY;go_wp2_with(at_builtin;refine iZ rfl (.tmp 19) (.tmp 23) 28 rfl w 5 j0 _ 1 1 underlying28 G L Q N rfl ip _ _ _ mz (HO.out.alloc _) _ 1 1 [.int .u8 (y % 256:Nat)] mz (Src.of_blk (Blk.made_at _ _ _ oK) 1 1 1 rfl) mj pm mw oT ?_;intro v6 w6 h i E;obtain⟨A6,c6,rfl⟩:=bZ h);have M:Hid (w6.ownsRow w 5 1 (.slice A6 (k+1) c6) (k+1) (cZ .u8 (GB x (k+1)))):=(by show World.ownsRow _ _ _ _ _ _ _;rw[HL.out,show cZ .u8 (GB x k++ [y % 256])=cZ .u8 (GB x k)++ [.int .u8 (y % 256:Nat)] by simp[cZ]];exact h);have U:Hid (Below w w w6):=(nZ J HB.out).grown i oT (fun z hz=>(Aj HO.out z hz).1);clear h i E HO HB HL;go_roundw
   case measure=>exact jo
   case rel=>go_light;exact⟨k+1,y / 256,mw,mw,iu,iu,Y.out,M.out,U.out⟩
  ·obtain rfl:k=4:=by omega
   have j:y=0:=(by rw[HY.out];exact Nat.div_eq_of_lt mw);subst j;clear HY;go_wp2_with fail;go_ret2;exact⟨_,rfl,by rw[<-jL];exact HO.out,HB.out⟩
end Idx
namespace Ef
open Go.RowKit Mem Own Canon Huff NumPut
open Block (lZ)
theorem own_row{k:IntKind}(h:w.ownsRow base e 1 (.slice A n c) n (cZ k ls))(hn:ls.length=n):Row w w A n 1 (jZ k ls):=
 Row.of_own h rfl (fun i j hi hj=>by have e0:j=0:=mw;subst e0;exact numL_get mw)
theorem UL(w:World)(bound:Nat)(A:Option Addr)(n c:Nat)(ls:List Nat)(hn:ls.length=n)(h1:1<=n)(be:n<=bound)(hb:bound<=20000)(hm:BX bound none ls=true)(ha:Row w w A n 1 (jZ .i64 ls)):
 Calls prog 105 #[bound, .slice A n c] w fun e w'=>∃v,e= .returned (.tuple #[v,ij])/\w'.ownsRow w 5 1 v (efO bound ls).length (cZ .u8 (efO bound ls))/\Below w w w':=by
 have HN:=hid hn;have HA:=hid ha;have DM:=hid (aC w bound A n c ls hn mw ha);rw[hm]at DM;have hq:1<=bound / n:=(Nat.one_le_div_iff mw).2 be;have DN:=hid (fun wx=>FW wx n mw);have DW:=hid (fun wx=>Uf wx bound n h1 be mw);have cm:=qZ (x:=n) mw;have y1:=ig ((bound:Int)<0)
 have y2:=ig ((20000:Int)<bound)
 have co:=ig (20000<bound)
 have u1:IntKind.u64.wrap (n:Int)=(n:Int):=m9
 have z1:((n:Int)==0)=false:=oT
 have cl:¬(n:Int)=0:=mw
 have bj:Hid (∀x∈ls,x<bound):=G0 bound ls none hm;have b9:Hid (∀ (k x y:Nat),ls[k]? =some x->ls[k+1]? =some y->x<y):=LJ bound ls none hm;have HE:Hid (efO bound ls=fZ n++bytesOf (Fh (efW bound n) ls)):=by show _=_;unfold efO;rw[Aa (fun e=>by rw[e]at hn;simp at hn;omega),hn]
 have G:efW bound n<=14:=by refine Jk fun h=> ?_;have h2:2 ^ 15<=2 ^ efW bound n:=Cc mw mw;have h3:=Ke (q:=bound / n) mw;have h4:bound / n<=bound:=Hc _ _;unfold efW at h2;omega
 obtain⟨W,hW⟩:=ii (efW bound n);rw[<-hW]at DW HE G;clear hn ha hm hW hq;go_enter func105,ntmps105;go_wp2_with fail;refine DM.out.mono ?_;rintro e w1 ⟨rfl,rfl⟩;obtain⟨w,rfl⟩:=ii w1;clear DM;go_wp2_with fail;refine(DN.out _).mono ?_;rintro e w2 ⟨v2,rfl,ay,bb⟩;obtain⟨A2,c2,rfl⟩:=bZ ay;have Q:=hid bb;have bu:=hid ay;clear ay bb DN;go_wp2_with fail;refine(DW.out _).mono ?_;rintro e w3 ⟨rfl,rfl⟩;go_wp2_with fail;have bl:Below w3 w3 (w3.alloc (.cells #[W,(),()] 229)):=aZ (Ag _ _);have bC:Hid (Prt 229 (w3.alloc (.cells #[W,(),()] 229)) w3 w3 W ((ls.take 0).map (·/ 2 ^ W)) ((ls.take 0).map (·% 2 ^ W)) (.slice none 0 0) (.slice none 0 0)):=⟨Blk.made _ _ _,AI _ _ _ _,AI _ _ _ _,Ak _⟩;generalize w3.alloc (.cells #[W,(),()] 229)=w4 at *;have bm:=hid bl;clear bl;go_loopw [43] (fun iv wr=>∃ (k:Nat) (vH vL:Value),k<=n/\iv= .int .i64 k/\Hid (Prt 229 wr w3 w3 W ((ls.take k).map (·/ 2 ^ W)) ((ls.take k).map (·% 2 ^ W)) vH vL)/\Hid (Below w3 w3 wr)) (fun iv _=>n-(intOf iv).toNat)
 case atStart=>exact⟨0,_,_,mw,rfl,bC.out,bm.out⟩
 case round=>
  obtain⟨k,vH,vL,hk,rfl,HP,HB⟩:=hrel;clear bC bm;obtain⟨wi,rfl⟩:=ii wr;have ah:Hid (Below w w wi):=uZ HB.out Q.out.size Q.out;by_cases ab:k<n
  ·have bd:Row wi w A n 1 (jZ .i64 ls):=HA.out.below ah.out;have gk:=ic ((k:Int)<n);have ae:=ic (k<n);have x0:(0:Int)<=(k:Int):=mw;have x1:(k:Int)<(n:Int):=mw;obtain⟨b,bq,x,rfl,_,hx,ck⟩:=Cx bd HN.out ab;have az:=bj.out x (Be hx);have D0:=ZC 229 ip ip wi w3 w3 W _ _ vH vL x mw G (by rw[Bb,AZ];omega) (by rw[Bb,AZ];omega) HP.out;have e1:(ls.take (k+1)).map (·/ 2 ^ W)=(ls.take k).map (·/ 2 ^ W)++ [x / 2 ^ W]:=(by rw[Cj,hx];simp);have e2:(ls.take (k+1)).map (·% 2 ^ W)=(ls.take k).map (·% 2 ^ W)++ [x % 2 ^ W]:=(by rw[Cj,hx];simp);rw[<-e1,<-e2]at D0;have D:=hid D0;clear D0 e1 e2 hx az HP bd;go_wp2_with fail;refine D.out.mono ?_;rintro e w6 ⟨rfl,b4,b5,bh,bf⟩;have cd:=hid bh;have b3:=hid (HB.out.trans bf);clear bh bf D HB ah;go_wp2_with fail;go_roundw
   case measure=>exact jo
   case rel=>go_light;exact⟨k+1,b4,b5,mw,iu,cd.out,b3.out⟩
  ·obtain rfl:k=n:=by omega
   have gk:=ig ((k:Int)<k);have ae:=ig (k<k);have E:ls.take k=ls:=BQ nm;rw[E]at HP;obtain⟨P,hP⟩:=ii (2 ^ W);rw[<-hP]at HP;have am:=hid hP;have ci:1<=P:=(by rw[hP];exact Nat.one_le_two_pow);obtain⟨HS,ai⟩:=ii (ls.map (·/ P));obtain⟨LS,aq⟩:=ii (ls.map (·% P));rw[<-ai,<-aq]at HP;have ag:HS.length=k:=(by rw[ai,Bb];exact HN.out);have aj:LS.length=k:=(by rw[aq,Bb];exact HN.out);have oh:=HP.out.oh;have ol:=HP.out.ol;rw[ag]at oh;rw[aj]at ol;obtain⟨AH,cH,rfl⟩:=bZ oh;obtain⟨AL,cL,rfl⟩:=bZ ol;have RH:=hid (own_row oh ag);have RL:=hid (own_row ol aj);have b0:=HP.out.blk;have d0:=(b0.alloc (.cells #[(),ij] 234)).cell 0;have d1:=(b0.alloc (.cells #[(),ij] 234)).cell 1;have d2:=(b0.alloc (.cells #[(),ij] 234)).cell 2;simp only[List.getElem?_toArray,List.getElem?_cons_zero,List.getElem?_cons_succ]at d0 d1 d2;have ca:=hid ai;have cf:=hid aq;have ce:=hid ag;have b6:=hid aj;have B0:=hid b0;clear oh ol ai aq ag aj hP E HP b0;go_wp2_with fail;have ac:Hid (Wr (fun q=>q<wi.heap.size) (wi.alloc (.cells #[(),ij] 234)) wi wi 234 [] (Da W (ls.take 0)) (.slice none 0 0)):=Wr.start4 wi wi _ [] (Ak _) (fun q h=>h);have Z:Hid (Kept (fun q=>q<wi.heap.size) wi (wi.alloc (.cells #[(),ij] 234))):=Kept.of_below (aZ (Ag _ _)) (fun q h=>h);clear d0 d1 d2;generalize wi.alloc (.cells #[(),ij] 234)=wz at *;go_loopw [53] (fun iv wr=>∃ (j:Nat) (v':Value),j<=k/\iv= .int .i64 j/\Hid (Wr (fun q=>q<wi.heap.size) wr wi wi 234 [] (Da W (ls.take j)) v')/\Hid (Kept (fun q=>q<wi.heap.size) wi wr)) (fun iv _=>k-(intOf iv).toNat)
   case atStart=>exact⟨0,_,mw,rfl,ac.out,Z.out⟩
   case round=>
    obtain⟨j,v',hj,rfl,z,HK⟩:=hrel;clear ac Z;obtain⟨wj,rfl⟩:=ii wr;by_cases ab:j<k
    ·have gk:=ic ((j:Int)<k);have ae:=ic (j<k);have x0:(0:Int)<=(j:Int):=mw;have x1:(j:Int)<(k:Int):=mw;have bc:Row wj wi AL k 1 (jZ .u16 LS):=RL.out.keep fun p hp=>World.cell?_of_block (HK.out.block p.block hp);obtain⟨b,bq,x,rfl,_,hx,ck⟩:=Cx bc b6.out ab;obtain⟨y,hy⟩:∃y,ls[j]? =some y:=⟨_,Az lq⟩;have aw:x=y % P:=(by rw[cf.out,BG,hy]at hx;exact(Option.some.inj hx).symm);have ba:x<P:=(by rw[aw];exact Nat.mod_lt _ mw);have b1:P<=2 ^ 14:=(by rw[am.out];exact Cc mw G);have d0:wj.cell? ⟨w3,0,none⟩=some (.int .i64 (W:Nat)):=(World.cell?_of_block (a:=⟨w3,0,none⟩) (HK.out.block _ B0.out.lt)).trans (B0.out.cell 0);have u2:IntKind.u64.wrap (x:Int)=(x:Int):=m9;have bx:(Da W (ls.take j)).length<=400000:=(by rw[G7,AZ];have h2:min j ls.length*W<=20000*14:=Hb mw G;omega);have D0:=put_any (fun q=>q<wi.heap.size) wj wi wi _ [] v' _ x W (by rw[<-am.out];exact ba) mw mw z.out;have J:Da W (ls.take (j+1))=Da W (ls.take j)++msb x W W:=(by rw[Cj,hy,aw,am.out];exact Zq W _ y);rw[<-J]at D0;have D:=hid D0;clear D0 J bx hx aw hy ba b1 z bc;go_wp2_with fail;refine D.out.mono ?_;rintro e w6 ⟨rfl,v6,aa,M⟩;have a0:=hid aa;have au:Hid (Kept (fun q=>q<wi.heap.size) wi w6):=HK.out.trans M;clear aa M D HK d0 ck;go_wp2_with fail;go_roundw
     case measure=>exact jo
     case rel=>go_light;exact⟨j+1,v6,mw,iu,a0.out,au.out⟩
    ·obtain rfl:j=k:=by omega
     have gk:=ig ((j:Int)<j);have ae:=ig (j<j);have E:ls.take j=ls:=BQ nm;rw[E]at z;obtain⟨BT,ak⟩:∃BT:Nat->List Bool,BT=fun i=>Da W ls++DQ 0 ((ls.take i).map (·/ P)):=⟨_,rfl⟩;have ah:=hid ak;have ax:BT 0=Da W ls:=(by rw[ak];show Da W ls++DQ 0 ((ls.take 0).map (·/ P))=_;rw[List.take_zero,Fu,DQ,BZ]);have N:Hid (BT j=Fh W ls):=(by show _=_;rw[ak];show Da W ls++DQ 0 ((ls.take j).map (·/ P))=_;rw[E,am.out];rfl);rw[<-ax]at z;have bp:Hid ((BT 0).length<=300000):=(by show _<=_;rw[ax,G7,HN.out];have h2:j*W<=20000*14:=Hb mw G;omega);have a9:Hid (0=((ls.take 0).map (·/ P)).getLast?.getD 0):=rfl;have ac:=hid z.out;have Z:=hid HK.out;have d1:wj.cell? ⟨w3,1,none⟩=some (.slice AH j cH):=(World.cell?_of_block (a:=⟨w3,1,none⟩) (HK.out.block _ B0.out.lt)).trans (B0.out.cell 1);clear z HK E ak ax;go_wp2_with fail;clear d1;go_loopw [13,66] (fun uv iv wr=>∃ (i u:Nat) (v':Value),i<=j/\u<=20000/\iv= .int .i64 i/\uv= .int .i64 u/\Hid (u=((ls.take i).map (·/ P)).getLast?.getD 0)/\Hid (Wr (fun q=>q<wi.heap.size) wr wi wi 234 [] (BT i) v')/\Hid ((BT i).length<=300000+i+u)/\Hid (Kept (fun q=>q<wi.heap.size) wi wr)) (fun _ iv _=>j-(intOf iv).toNat)
     case atStart=>exact⟨0,0,_,mw,mw,rfl,rfl,a9.out,ac.out,bp.out,Z.out⟩
     case round=>
      obtain⟨i,u,v2,hi,hu,rfl,rfl,HU,z,L,HK⟩:=hrel;clear ac bp Z a9;obtain⟨wk,rfl⟩:=ii wr;by_cases ab:i<j
      ·have gk:=ic ((i:Int)<j);have ae:=ic (i<j);have x0:(0:Int)<=(i:Int):=mw;have x1:(i:Int)<(j:Int):=mw;have bk:Row wk wi AH j 1 (jZ .i64 HS):=RH.out.keep fun p hp=>World.cell?_of_block (HK.out.block p.block hp);obtain⟨b,bq,q,rfl,_,hq,ck⟩:=Cx bk ce.out ab;obtain⟨x,hx⟩:∃x,ls[i]? =some x:=⟨_,Az lq⟩;have U:q=x / P:=(by rw[ca.out,BG,hx]at hq;exact(Option.some.inj hq).symm);have az:=bj.out x (Be hx);have cj:q<=20000:=(by rw[U];exact AK (Hc _ _) mw);have bS:=aN P hx b9.out;rw[<-HU.out,<-U]at bS;have a6:=VW P hx;have J:=ZP P hx;rw[<-HU.out,<-U]at J;rw[<-U]at a6;obtain⟨d,hd⟩:=ii (q-u);rw[<-hd]at J;have us:IntKind.i64.wrap ((q:Int)-(u:Int))=(d:Int):=m8;have bx:(BT i).length<=350000:=(by have:=L.out;omega);have cg:d<=20000:=mw;have af:BT (i+1)=BT i++unary d:=(by rw[ah.out];show _++_=_++_++_;rw[J,AE]);have bg:Hid ((BT (i+1)).length<=300000+(i+1)+q):=(by show _<=_;rw[af,Ae,Jv];have:=L.out;omega);have D0:=bQ (fun q=>q<wi.heap.size) wk wi wi _ [] v2 _ d mw mw z.out;rw[<-af]at D0;have D:=hid D0;have cc:Hid (q=((ls.take (i+1)).map (·/ P)).getLast?.getD 0):=a6.symm;clear D0 J af a6 hx U hq hd z L HU bk az;go_wp2_with fail;refine D.out.mono ?_;rintro e w6 ⟨rfl,v6,aa,M⟩;have a0:=hid aa;have au:Hid (Kept (fun q=>q<wi.heap.size) wi w6):=HK.out.trans M;clear aa M D HK ck;go_wp2_with fail;go_roundw
       case measure=>exact jo
       case rel=>go_light;exact⟨i+1,q,v6,mw,mw,iu,iu,cc.out,a0.out,bg.out,au.out⟩
      ·obtain rfl:i=j:=by omega
       have gk:=ig ((i:Int)<i);have ae:=ig (i<i);obtain⟨A3,c3,rfl⟩:=bZ z.out.own;obtain⟨bn,bt,Y⟩:=z.out.rowOf;have ar:=z.out.blk.ia 0;have a4:=bytesOf_length (BT i);have D:=hid (U9 wk wi A3 _ c3 (bytesOf (BT i)) bn (by have:=L.out;omega) Y ar bt);rw[N.out]at D a4;have bi:Hid ((bytesOf (Fh W ls)).length<=100000):=(by show _<=_;rw[a4,<-N.out];have:=L.out;omega);have al:Below w w wk:=(Q.out.trans (HB.out.mono Q.out.size)).trans ((HK.out.below (fun q h=>h)).mono (by have:=HB.out.size;have:=Q.out.size;omega));have a1:Hid (wk.ownsRow w 5 1 (.slice A2 (fZ i).length c2) (fZ i).length (cZ .u8 (fZ i))):=eZ bu.out (fun y hy=>((HB.out.trans ((HK.out.below (fun q h=>h)).mono HB.out.size)).block y (Aj bu.out y hy).2));have a3:=hid al;obtain⟨BO,bN⟩:=ii (bytesOf (Fh W ls));rw[<-bN]at D HE bi;clear bn bt Y ar a4 z L HU bN al;go_wp2_with fail;refine D.out.mono ?_;rintro e w8 ⟨v8,rfl,a5,av⟩;obtain⟨A8,c8,rfl⟩:=bZ a5;have P1:Hid (Part.Ok (⟨A2,c2,fZ i⟩:Part) w8):=lZ (eZ a1.out (fun y hy=>av.block y (Aj a1.out y hy).2)) rfl;have P2:Hid (Part.Ok (⟨A8,c8,BO⟩:Part) w8):=lZ a5 rfl;have an:=hid (uZ av a3.out.size a3.out);have b8:BI [(⟨A2,c2,fZ i⟩:Part),⟨A8,c8,BO⟩]<=1000000:=(by have:=bi.out;simp[BI];omega);clear a5 av D a1 a3;go_wp2_with fail;refine(Fz _ _ 2 [(⟨A2,c2,fZ i⟩:Part),⟨A8,c8,BO⟩] rfl mw b8 (fun p hp=>by rcases AM.1 hp with rfl|hp;exact P1.out.step (aZ (Ag _ _));rcases AM.1 hp with rfl|hp;exact P2.out.step (aZ (Ag _ _));cases hp) (Blk.made _ _ _)).mono ?_;rintro e w9 ⟨v9,rfl,b7,al⟩;go_wp2_with fail;go_ret2;refine⟨v9,rfl,?_,?_⟩
       ·rw[HE.out];have h:=kZ b7 (show w.heap.size<=_ by have:=an.out.size;simp;omega);simp only[List.flatMap_cons,List.flatMap_nil,List.append_nil]at h;exact h
       ·exact uZ al (by have:=an.out.size;simp;omega) (nZ an.out.size an.out)
end Ef
namespace Ef
open Go.RowKit Mem Own Canon Huff NumPut
def Ej(W:Nat)(bs:List Bool)(n:Nat):List Nat:=(List.range n).map fun i=>yZ bs (i*W) W
theorem Qq(W:Nat)(bs:List Bool)(n:Nat):(Ej W bs n).length=n:=by simp[Ej]
theorem Xd(W:Nat)(bs:List Bool)(n:Nat):∀x∈Ej W bs n,x<2 ^ W:=by intro x hx;obtain⟨i,_,rfl⟩:=Ck.1 hx;exact GK _ _ _
def rowN(bound W:Nat)(bs:List Bool):List Nat->Nat->Nat->List Nat->List Nat×Nat×Int
 | [],at_,_,acc=>(acc,at_,0)
 |x :: xs,at_,high,acc=>
  if unE bs at_≠0 then([],at_,unE bs at_)
  else if acc≠ []/\(high+unV bs at_)*2 ^ W+x<=acc.getLast?.getD 0 then([],at_,2)
  else if bound<=(high+unV bs at_)*2 ^ W+x then([],at_,8)
  else rowN bound W bs xs (unA bs at_) (high+unV bs at_) (acc++ [(high+unV bs at_)*2 ^ W+x])
def GV(at_:Nat):Nat:=(8-at_ % 8) % 8
def GT(bound n:Nat)(bs:List Bool):List Nat×Nat×Int:=
 if bs.length<n*efW bound n then([],0,1)
 else if(rowN bound (efW bound n) bs (Ej (efW bound n) bs n) (n*efW bound n) 0 []).2.2≠0 then([],0,(rowN bound (efW bound n) bs (Ej (efW bound n) bs n) (n*efW bound n) 0 []).2.2)
 else if yZ bs (rowN bound (efW bound n) bs (Ej (efW bound n) bs n) (n*efW bound n) 0 []).2.1 (GV (rowN bound (efW bound n) bs (Ej (efW bound n) bs n) (n*efW bound n) 0 []).2.1)≠0 then([],0,2)
 else((rowN bound (efW bound n) bs (Ej (efW bound n) bs n) (n*efW bound n) 0 []).1,((rowN bound (efW bound n) bs (Ej (efW bound n) bs n) (n*efW bound n) 0 []).2.1+7) / 8,0)
theorem Um{bs:List Bool}{at_:Nat}(h:at_<=bs.length):unA bs at_<=bs.length:=by unfold unA;split<;>omega
theorem dO(bs:List Bool)(at_:Nat):unV bs at_<=bs.length:=by unfold unV;split<;>omega
theorem Sh{bound W:Nat}{bs:List Bool}:∀ (xs:List Nat) (at_ i:Nat) (j:List Nat),at_<=bs.length->(rowN bound W bs xs at_ i j).2.1<=bs.length
 | [],at_,_,_,h=>h
 |x :: xs,at_,i,j,h=>by
  unfold rowN;split
  ·exact h
  ·split
   ·exact h
   ·split
    ·exact h
    ·exact Sh xs _ _ _ (Um h)
theorem RX(h x W:Nat)(hx:x<2 ^ W):(h*2 ^ W |||x)=h*2 ^ W+x:=by rw[Nat.mul_comm,Nat.two_pow_add_eq_or_of_lt hx]
end Ef
namespace Ef
open Go.RowKit Mem Own Canon Huff NumPut
def CF(W:Nat)(bs:List Bool)(n k:Nat):List Value:=(List.range n).map fun i=>Value.int .u16 ((if i<k then yZ bs (i*W) W else 0:Nat):Int)
theorem X4(W:Nat)(bs:List Bool)(n k:Nat):(CF W bs n k).length=n:=by simp[CF]
theorem Nb{bs:List Bool}(h:i<n):(CF W bs n k)[i]? =some (.int .u16 ((if i<k then yZ bs (i*W) W else 0:Nat):Int)):=by simp[CF,h]
theorem WQ{bs:List Bool}:(CF W bs n k).toArray.setIfInBounds k (.int .u16 (yZ bs (k*W) W:Nat))=(CF W bs n (k+1)).toArray:=by
 apply Array.ext_getElem?
 intro i;rw[Fw];by_cases e:k=i
 ·subst e;by_cases hk:k<n
  ·rw[Ab rfl,Ab (by simpa[CF]using hk)];simp only[List.getElem?_toArray];rw[Nb hk,Ab mw]
  ·rw[Ab rfl,Aa (by simpa[CF]using hk)];simp[CF,hk]
 ·rw[Aa e];simp only[List.getElem?_toArray];by_cases hi:i<n
  ·rw[Nb hi,Nb hi];congr 3;by_cases h2:i<k
   ·rw[Ab h2,Ab mw]
   ·rw[Aa h2,Aa mw]
  ·simp[CF,hi]
theorem Th(W:Nat)(bs:List Bool)(n:Nat):CF W bs n n=cZ .u16 (Ej W bs n):=by unfold CF Ej cZ;rw[List.map_map];apply J4;intro i hi;simp only[Function.comp];rw[Ab (Fs.1 hi)]
theorem gI(W:Nat)(bs:List Bool)(n:Nat):madeCells #[.int .u16 0] n=(CF W bs n 0).toArray:=by
 apply Array.ext_getElem?
 intro i;by_cases h:i<n
 ·simp[CF,madeCells,h,Nat.mod_one]
 ·simp[CF,madeCells,h]
theorem fJ:(prog.info? 25).map (fun i=>(i.zero,i.size,i.bytes))=some (some (.int .u16 0),1,2):=mr
theorem d7(n:Nat)(hn:n<=8388608)(w:World):(Instr.makeSlice 227 (.int .i64 (n:Int)) (.int .i64 (n:Int))).run prog w=
 .ok (.slice (some ⟨w,0,none⟩) n n) (w.alloc (.cells (madeCells #[.int .u16 0] n) 25)):=by
 obtain⟨i0,hi,y,j,i⟩:=info_parts fJ;have h:=run_make (P:=prog) w 227 25 i0 (.int .u16 0) underlying227 hi y .i64 .i64 (n:Int) (n:Int) mw (Int.le_refl _) nS mw;simp only[Int.toNat_natCast]at h;simpa[j,Value.cells]using h
def Ob(w:World)(lo g:Nat)(bs:List Bool)(n W:Nat)(e:Ending)(w':World):Prop:=
 Kept (fun x=>x<w.heap.size/\x≠g) w w'/\if bs.length<n*W then e= .returned (.tuple #[(), .int .i64 1])
 else ∃v,e= .returned (.tuple #[v,ij])/\w'.ownsRow w 25 1 v n (cZ .u16 (Ej W bs n))/\Rd w' lo g bs (n*W)
theorem Wu(w:World)(lo g:Nat)(bs:List Bool)(n W:Nat)(hn:n<=20000)(hW:W<=14)(ai:lo<=g)(hR:Rd w lo g bs 0):
 Calls prog 295 #[.pointer (some ⟨g,0,none⟩), .int .i64 (n:Nat), .int .i64 (W:Nat)] w (Ob w lo g bs n W):=by
 have ay:=hR.lt;have hz:bs.length<=800000:=ms
 have D0:=hid (left_any w lo g bs 0 hR);have HR:=hid hR;have aw:n*W<=280000:=AK (Hb hn hW) ip;obtain⟨N,hN⟩:=ii (n*W);have ax:IntKind.i64.wrap ((n:Int)*(W:Int))=(N:Int):=by rw[show(n:Int)*(W:Int)=(N:Int) by rw[hN];simp,Aq _ mw]
 have Z:=d7 n mw;rw[gI W bs n]at Z;unfold Ob;rw[<-hN]at aw ⊢;have HN:=hid hN;rw[Nat.sub_zero]at D0;clear hR hN;by_cases E:bs.length<N
 ·simp only[if_pos E];have g1:=ic ((bs.length:Int)<N)
  have Q:=ic (bs.length<N)
  clear E;generalize bs.length=z at *;go_enter func295,ntmps295;go_wp2_with fail;refine D0.out.mono ?_;rintro e w1 ⟨rfl,q,rfl⟩;go_wp2_with fail;go_ret2;exact⟨(Kept.refl _ _).drewN q,rfl⟩
 ·simp only[if_neg E];have g1:=ig ((bs.length:Int)<N)
  have Q:=ig (bs.length<N)
  have aq:Hid (N<=bs.length):=oi
  obtain⟨z,ak⟩:=ii bs.length;rw[<-ak]at D0 g1 Q hz;clear E ak;go_enter func295,ntmps295;go_wp2_with fail;refine D0.out.mono ?_;rintro e w1 ⟨rfl,q,hq⟩;have av:Hid (Rd w1 lo g bs 0):=by rw[hq];exact HR.out.drewN q
  have au:Hid (Kept (fun x=>x<w.heap.size/\x≠g) w w1):=nQ
  have ag:w1.heap.size=w.heap.size:=by rw[hq];rfl
  clear hq;go_wp2_with fail;have Y:Blk (w1.alloc (.cells (CF W bs n 0).toArray 25)) w1 25 (CF W bs n 0).toArray:=Blk.made _ _ _;have af:Hid (Rd (w1.alloc (.cells (CF W bs n 0).toArray 25)) lo g bs 0):=av.out.keep (fun b hb1 hb2=>DJ w1 _ b mw) ai;have L:Hid (Kept (fun x=>x<w.heap.size/\x≠g) w (w1.alloc (.cells (CF W bs n 0).toArray 25))):=au.out.alloc (fun x hx=>by have:=hx.1;omega) _;generalize w1.alloc (.cells (CF W bs n 0).toArray 25)=w2 at *;have ab:=hid Y;clear Y Z D0;rw[ag]at *;clear ag;generalize ae:w.heap.size=b at *;have am:=hid ae;clear ae;go_loopw [22] (fun iv wr=>∃k:Nat,k<=n/\iv= .int .i64 k/\Hid (Blk wr b 25 (CF W bs n k).toArray)/\Hid (Rd wr lo g bs (k*W))/\Hid (Kept (fun x=>x<b/\x≠g) w wr)) (fun iv _=>n-(intOf iv).toNat)
  case atStart=>exact⟨0,mw,rfl,ab.out,by rw[Nat.zero_mul];exact af.out,L.out⟩
  case round=>
   obtain⟨k,hk,rfl,HB,J,HK⟩:=hrel;clear ab af L;by_cases aj:k<n
   ·have gk:=ic ((k:Int)<n);have a1:=ic (k<n);have j:k*W+W<=bs.length:=(by have h1:(k+1)*W<=n*W:=Gc W aj;rw[IR]at h1;have:=HN.out;have:=aq.out;omega);have D:=JA wr lo g bs (k*W) W mw J.out;unfold IL II IE at D;rw[Ab j,Ab j,Ab j]at D;have hv:yZ bs (k*W) W<2 ^ W:=GK _ _ _;have az:yZ bs (k*W) W<16384:=Eh hv kx;have HS:Hid ((CF W bs n k).toArray.setIfInBounds k (.int .u16 (yZ bs (k*W) W:Nat))=(CF W bs n (k+1)).toArray):=WQ;have ah:k*W+W=(k+1)*W:=(by rw[IR]);rw[ah]at D;generalize yZ bs (k*W) W=y at *;have a0:IntKind.u16.wrap (y:Int)=(y:Int):=(by rw[IntKind.wrap_u16];omega);have D:=hid D;have x0:(0:Int)<=(k:Int):=mw;have x1:(k:Int)<(n:Int):=mw;have M:Hid (∃u,(CF W bs n k).toArray[k]? =some u):=⟨_,by simp only[List.getElem?_toArray];exact Nb aj⟩;clear j hv ah;go_wp2_with fail;refine D.out.mono ?_;rintro e w3 ⟨rfl,ac,i⟩;have G:Hid (Blk w3 b 25 (CF W bs n k).toArray):=(i.block b mw).trans HB.out;have U:Hid (Kept (fun x=>x<b/\x≠g) w w3):=HK.out.trans ⟨i.os,i.tape,i.output,i.size,fun x hx=>i.block x hx.2⟩;have aa:=hid ac;obtain⟨u,hu⟩:=M.out;have c3:w3.cell? ⟨b,k,none⟩=some u:=(G.out.cell k).trans hu;have f3:=G.out.frozen k;clear ac i HB J HK D hu M;go_wp2_with fail;have ar:Hid (Blk (w3.setCell ⟨b,k,none⟩ (.int .u16 (y:Nat))) b 25 (CF W bs n (k+1)).toArray):=(by rw[<-HS.out];exact G.out.set k _);have al:Hid (Rd (w3.setCell ⟨b,k,none⟩ (.int .u16 (y:Nat))) lo g bs ((k+1)*W)):=aa.out.keep (fun x _ hx2=>AR w3 _ _ x (show x≠b by omega)) ai;have an:Hid (Kept (fun x=>x<b/\x≠g) w (w3.setCell ⟨b,k,none⟩ (.int .u16 (y:Nat)))):=U.out.set (p:=⟨b,k,none⟩) (fun h=>absurd h.1 oK) _;clear G aa U c3 f3;go_roundw
    case measure=>exact jo
    case rel=>go_light;exact⟨k+1,mw,iu,ar.out,al.out,an.out⟩
   ·obtain rfl:k=n:=by omega
    have gk:=ig ((k:Int)<k);go_wp2_with fail;go_ret2;rw[am.out];refine⟨HK.out,_,rfl,⟨by rw[<-Th,X4];simp, .inr ⟨b,k,_,rfl,Ak _,HB.out,Ak _,pm,by simp[CF],?_⟩⟩,by rw[HN.out];exact J.out⟩;rw[<-Th,CM];exact BQ (by simp[CF])
end Ef
namespace Idx
open Go.RowKit Mem Own Canon Sift
open NumPut Recs Crc Block
open Nums
def toS(ls:List Nat):Str:=ls.map UInt8.ofNat
theorem cK(ls:List Nat):FE ls=bs (toS ls):=rfl
def nxN(ls:List Nat)(was:Str)(first:Bool)(at_:Nat):Nat:=if first then 0 else AY was.length ls at_ 0
def nxA(ls:List Nat)(was:Str)(first:Bool)(at_:Nat):Nat:=if first then at_ else zZ was.length ls at_ 0
def nxE(ls:List Nat)(was:Str)(first:Bool)(at_:Nat):Int:=if first then 0 else AJ was.length ls at_ 0
def nxS(was:Str)(first:Bool)(n:Nat)(t:Str)(a:Nat)(e:Int):Str×Nat×Int:=
 if e≠0 then([],a,e)else if t= []∨Ec was (was.take n++t)=false∨(first=false/\Bj was (was.take n++t)≠n)then(was.take n++t,a,2)else(was.take n++t,a,0)
def Ex(ls:List Nat)(was:Str)(first:Bool)(at_:Nat):Str×Nat×Int:=
 nxS was first (nxN ls was first at_) (toS (Ey 25 ls (nxA ls was first at_) (nxE ls was first at_))) (Dw 25 ls (nxA ls was first at_) (nxE ls was first at_)) (Dv 25 ls (nxA ls was first at_) (nxE ls was first at_))
theorem run_head(s:Str)(n:Nat)(hn:n<=s.length)(w:World):(Instr.slice 9 (.string (bs s)) none (some (.int .i64 (n:Int))) none).run prog w= .ok (.string (bs (s.take n))) w:=by
 have hz:=Ev s;rw[run_slice_string_h w (t:=9) (s:=bs s) (ht:=underlying9) .i64 (n:Int) mw mw,Br];have e:(bs s).extract 0 n=bs (s.take n):=by refine ByteArray.ext (Array.ext' ?_);rw[QY,Hm,Hd,Nat.sub_zero];rfl
 rw[e]
theorem bD(a b:Str):bs a++bs b=bs (a++b):=by refine ByteArray.ext (Array.ext' ?_);simp[bs]
theorem V8{most:Nat}(h8:∀x∈ls,x<=255)(at_:Nat)(er:Int):(Ey most ls at_ er).length<=most:=by
 unfold Ey;split
 ·exact Cr _
 ·exact(Md most (ls.drop at_) fun x hx=>h8 x (BY hx)).1
theorem next_any(w:World)(g base:Nat)(ls:List Nat)(A:Option Addr)(c at_:Nat)(i:Str)(first:Bool)(ag:ls.length<=100000)(h8:∀x∈ls,x<=255)(a6:i.length<=25)(h:Cur w g base ls A c at_ 0):
 Calls prog 245 #[.pointer (some ⟨g,0,none⟩), .string (bs i),first] w fun e w'=>e= .returned (.string (bs (Ex ls i first at_).1))/\Cur w' g base ls A c (Ex ls i first at_).2.1 (Ex ls i first at_).2.2/\Kept (By g w) w w':=by
 have hz:=Ev i;have bb:=h.blk.lt;obtain⟨R,hR⟩:=ii (Ex ls i first at_);rw[<-hR];unfold Ex at hR;have D1:=hid (fun wx hx=>ID wx g base ls A c at_ 0 i.length ag h8 mw hx)
 have hn:nxN ls i first at_<=i.length:=by
  unfold nxN;split
  ·exact Cr _
  ·exact FQ h8 _ _
 have D2:=hid (fun wx hx=>Od wx g base ls A c (nxA ls i first at_) (nxE ls i first at_) 25 ag h8 mw hx);have ak:=V8 (most:=25) h8 (nxA ls i first at_) (nxE ls i first at_);rw[cK]at D2
 have HN:Hid ((first=true->nxN ls i first at_=0/\nxA ls i first at_=at_/\nxE ls i first at_=0)/\(first=false->nxN ls i first at_=AY i.length ls at_ 0/\nxA ls i first at_=zZ i.length ls at_ 0/\nxE ls i first at_=AJ i.length ls at_ 0)):=by
  constructor
  ·intro hf;subst hf;exact⟨rfl,rfl,rfl⟩
  ·intro hf;subst hf;exact⟨rfl,rfl,rfl⟩
 generalize nxN ls i first at_=n at *;generalize nxA ls i first at_=a1 at *;generalize nxE ls i first at_=e1 at *;obtain⟨t,ht⟩:=ii (toS (Ey 25 ls a1 e1));have a5:t.length<=25:=by rw[ht];unfold toS;rw[Bb];exact ak
 rw[<-ht]at D2 hR;generalize Dw 25 ls a1 e1=a2 at *;generalize Dv 25 ls a1 e1=e2 at *;have H:=hid h;unfold nxS at hR;clear h h8 ag ht ak;have KH:=fun wx=>run_head i n hn wx;have a0:(i.take n).length<=25:=mQ
 obtain⟨s,hs⟩:=ii (i.take n++t);have ba:s.length<=50:=by rw[hs,Ae];omega
 have HS:=hid hs;rw[<-hs]at hR;have am:Hid (bs (i.take n)++bs t=bs s):=by show _=_;rw[bD,hs]
 have HH:Hid (n=0->i.take n= []):=fun h=>nO
 have HR:=hid hR;clear hR;have DM:=hid (fun wx=>Ut wx i s);have DA:=hid (fun wx=>RF wx i s mw mw);have HT:Hid ((t= []->((bs t).toList==({data:=#[] }:ByteArray).toList)=true/\((bs t).toList== [])=true/\(bs t).toList.isEmpty=true/\(bs t).toList= [])/\(t≠ []->((bs t).toList==({data:=#[] }:ByteArray).toList)=false/\((bs t).toList== [])=false/\(bs t).toList.isEmpty=false/\¬(bs t).toList= [])):=⟨fun h=>by rw[h];exact QC,fun h=>Ve t h⟩;generalize i.take n=hd at *;have ah:=hid (Ev hd);have ae:=hid (Ev t);obtain⟨a9,ar⟩:=ii hd.length;obtain⟨tl,af⟩:=ii t.length;rw[<-ar]at ah a0;rw[<-af]at ae a5;clear hs ar af;have HF:Hid (FX 0 2=2):=Ab rfl;cases first with
 |true=>
  obtain⟨q1,q2,q3⟩:=HN.out.1 rfl;have ab:Hid (Cur w g base ls A c a1 e1):=by rw[q2,q3];exact H.out
  have aa:Hid (Kept (By g w) w w):=Kept.refl _ _;have au:=HH.out q1;have aq:s=t:=by rw[HS.out,au];rfl
  have a4:bs t=bs s:=by rw[aq]
  rw[a4]at HT ae;have z2:=ae.out;clear aq;clear q2 q3 HN H D1 am HH ah au KH HS;subst q1;go_enter func245,ntmps245;go_wp2_with fail;refine(D2.out _ ab.out).mono ?_;rintro e w2 ⟨rfl,Z,J⟩;have L:Hid (Kept (By g w) w w2):=aa.out.trans ⟨J.os,J.tape,J.output,J.size,fun x hx=>J.block x ⟨Eh hx.1 aa.out.size,hx.2⟩⟩;have DE:=hid (Dl w2 g base ls A c a2 e2 Z);have N:=hid Z;clear Z J ab aa D2;go_wp2_with fail;refine DE.out.mono ?_;rintro e aw ⟨rfl,rfl⟩;by_cases he:e2=0
  ·skip
   subst he;rw[Aa (show ¬((0:Int)≠0) from fun h=>h rfl)]at HR;clear DE;by_cases ht:t= []
   ·obtain⟨b1,b2,b3,b4⟩:=HT.out.1 ht;have z:Hid (R=(s,a2,2)):=(by have h:=HR.out;rw[Ab (.inl ht)]at h;exact h);clear ht HT;have G:=N;have E:=L;go_wp2_with fail;refine(GM _ g base ls A c a2 0 2 G.out).mono ?_;rintro e w5 ⟨rfl,y,j⟩;rw[HF.out]at y;have Y:=hid y;have Q:Hid (Kept (By g w) w w5):=E.out.trans ⟨j.os,j.tape,j.output,j.size,fun x hx=>j.block x hx.2⟩;clear y j G E;go_wp2_with fail;go_ret;rw[z.out];exact⟨rfl,Y.out,Q.out⟩
   ·have ai:=hid ht;obtain⟨b1,b2,b3,b4⟩:=HT.out.2 ht;clear ht HT;obtain⟨M,hM⟩:=ii (Ec i s);rw[<-hM]at DM;have HM:=hid hM;clear hM;by_cases U:M=false
    ·have z:Hid (R=(s,a2,2)):=jy;subst U;go_wp2_with fail;refine(DM.out _).mono ?_;rintro e w3 ⟨rfl,rfl⟩;have G:=N;have E:=L;go_wp2_with fail;refine(GM _ g base ls A c a2 0 2 G.out).mono ?_;rintro e w5 ⟨rfl,y,j⟩;rw[HF.out]at y;have Y:=hid y;have Q:Hid (Kept (By g w) w w5):=E.out.trans ⟨j.os,j.tape,j.output,j.size,fun x hx=>j.block x hx.2⟩;clear y j G E;go_wp2_with fail;go_ret;rw[z.out];exact⟨rfl,Y.out,Q.out⟩
    ·have aj:M=true:=io;clear U;subst aj;go_wp2_with fail;refine(DM.out _).mono ?_;rintro e w3 ⟨rfl,rfl⟩;have z:Hid (R=(s,a2,0)):=(by have h:=HR.out;rw[Aa (fun h=>h.elim ai.out (fun h=>h.elim (by rw[<-HM.out];decide) (fun h=>by cases h.1)))]at h;exact h);go_wp2_with fail;go_ret;rw[z.out];exact⟨rfl,N.out,L.out⟩
  ·have gE:(e2 != 0)=true:=ph;have z:Hid (R=([],a2,e2)):=(by have h:=HR.out;rw[Ab he]at h;exact h);clear he HR HT;go_wp2_with fail;go_ret;rw[z.out];exact⟨rfl,N.out,L.out⟩
 |false=>
  obtain⟨q1,q2,q3⟩:=HN.out.2 rfl;rw[<-q1,<-q2,<-q3]at D1;have z1:=ah.out;have z2:=ae.out;have bc:=am.out;clear q1 q2 q3 HN HH;go_enter func245,ntmps245;go_wp2_with fail;refine(D1.out _ H.out).mono ?_;rintro e w1 ⟨rfl,av,an⟩;have ab:=hid av;have aa:=hid an;clear av an H D1;go_wp2_with fail;refine(D2.out _ ab.out).mono ?_;rintro e w2 ⟨rfl,Z,J⟩;have L:Hid (Kept (By g w) w w2):=aa.out.trans ⟨J.os,J.tape,J.output,J.size,fun x hx=>J.block x ⟨Eh hx.1 aa.out.size,hx.2⟩⟩;have DE:=hid (Dl w2 g base ls A c a2 e2 Z);have N:=hid Z;clear Z J ab aa D2;go_wp2_with fail;refine DE.out.mono ?_;rintro e aw ⟨rfl,rfl⟩;by_cases he:e2=0
  ·skip
   subst he;rw[Aa (show ¬((0:Int)≠0) from fun h=>h rfl)]at HR;clear DE;by_cases ht:t= []
   ·obtain⟨b1,b2,b3,b4⟩:=HT.out.1 ht;have z:Hid (R=(s,a2,2)):=(by have h:=HR.out;rw[Ab (.inl ht)]at h;exact h);clear ht HT;have G:=N;have E:=L;go_wp2_with fail;refine(GM _ g base ls A c a2 0 2 G.out).mono ?_;rintro e w5 ⟨rfl,y,j⟩;rw[HF.out]at y;have Y:=hid y;have Q:Hid (Kept (By g w) w w5):=E.out.trans ⟨j.os,j.tape,j.output,j.size,fun x hx=>j.block x hx.2⟩;clear y j G E;go_wp2_with fail;go_ret;rw[z.out];exact⟨rfl,Y.out,Q.out⟩
   ·have ai:=hid ht;obtain⟨b1,b2,b3,b4⟩:=HT.out.2 ht;clear ht HT;obtain⟨M,hM⟩:=ii (Ec i s);rw[<-hM]at DM;have HM:=hid hM;clear hM;by_cases U:M=false
    ·have z:Hid (R=(s,a2,2)):=jy;subst U;go_wp2_with fail;refine(DM.out _).mono ?_;rintro e w3 ⟨rfl,rfl⟩;have G:=N;have E:=L;go_wp2_with fail;refine(GM _ g base ls A c a2 0 2 G.out).mono ?_;rintro e w5 ⟨rfl,y,j⟩;rw[HF.out]at y;have Y:=hid y;have Q:Hid (Kept (By g w) w w5):=E.out.trans ⟨j.os,j.tape,j.output,j.size,fun x hx=>j.block x hx.2⟩;clear y j G E;go_wp2_with fail;go_ret;rw[z.out];exact⟨rfl,Y.out,Q.out⟩
    ·have aj:M=true:=io;clear U;subst aj;go_wp2_with fail;refine(DM.out _).mono ?_;rintro e w3 ⟨rfl,rfl⟩;by_cases ac:Bj i s=n
     ·have ax:((Bj i s:Int) != (n:Int))=false:=(by rw[ac];simp);have az:=hid ac;clear ac;go_wp2_with fail;refine(DA.out _).mono ?_;rintro e w4 ⟨rfl,q,hq⟩;have ay:Hid (Cur w4 g base ls A c a2 0):=(by rw[hq];exact N.out.drewN q);have a3:Hid (Kept (By g w) w w4):=(by rw[hq];exact L.out.drewN q);have z:Hid (R=(s,a2,0)):=(by have h:=HR.out;rw[Aa (fun h=>h.elim ai.out (fun h=>h.elim (by rw[<-HM.out];decide) (fun h=>h.2 az.out)))]at h;exact h);clear hq DM DA N L;generalize Bj i s=al at *;go_wp2_with fail;go_ret;rw[z.out];exact⟨rfl,ay.out,a3.out⟩
     ·have ax:((Bj i s:Int) != (n:Int))=true:=nG;have z:Hid (R=(s,a2,2)):=(by have h:=HR.out;rw[Ab (.inr (.inr ⟨trivial,ac⟩))]at h;exact h);clear ac;go_wp2_with fail;refine(DA.out _).mono ?_;rintro e w3 ⟨rfl,q,hq⟩;have G:Hid (Cur w3 g base ls A c a2 0):=(by rw[hq];exact N.out.drewN q);have E:Hid (Kept (By g w) w w3):=(by rw[hq];exact L.out.drewN q);clear hq DM DA N L;generalize Bj i s=al at *;go_wp2_with fail;refine(GM _ g base ls A c a2 0 2 G.out).mono ?_;rintro e w5 ⟨rfl,y,j⟩;rw[HF.out]at y;have Y:=hid y;have Q:Hid (Kept (By g w) w w5):=E.out.trans ⟨j.os,j.tape,j.output,j.size,fun x hx=>j.block x hx.2⟩;clear y j G E;go_wp2_with fail;go_ret;rw[z.out];exact⟨rfl,Y.out,Q.out⟩
  ·have gE:(e2 != 0)=true:=ph;have z:Hid (R=([],a2,e2)):=(by have h:=HR.out;rw[Ab he]at h;exact h);clear he HR HT;go_wp2_with fail;go_ret;rw[z.out];exact⟨rfl,N.out,L.out⟩
end Idx
namespace Idx
open Go.RowKit Mem Own Canon Sift
open NumPut Recs Crc Block
open Nums
def CP(ls:List Nat):Nat->Bool->Nat->List Str->List Str×Int
 |0,_,at_,acc=>(acc,Gn ls at_ 0)
 |k+1,first,at_,acc=>
  if(Ex ls (acc.getLast?.getD []) first at_).2.2≠0 then([],(Ex ls (acc.getLast?.getD []) first at_).2.2)
  else CP ls k false (Ex ls (acc.getLast?.getD []) first at_).2.1 (acc++ [(Ex ls (acc.getLast?.getD []) first at_).1])
theorem Zy{a s:Str}(h:Ec a s=true):s.length<=25:=by unfold Ec at h;simp at h;exact h.2.1
theorem VP{i:Str}{first:Bool}{at_:Nat}(h:(Ex ls i first at_).2.2=0):(Ex ls i first at_).1.length<=25:=by
 unfold Ex nxS at *;split at h
 ·rename_i he;exact absurd h he
 ·rename_i he;rw[Aa he];split at h
  ·cases h
  ·rename_i hn;rw[Aa hn]
   have hm:Ec i (List.take (nxN ls i first at_) i++toS (Ey 25 ls (nxA ls i first at_) (nxE ls i first at_)))=true:=by
    cases hb:Ec i (List.take (nxN ls i first at_) i++toS (Ey 25 ls (nxA ls i first at_) (nxE ls i first at_)))with
    |true=>rfl
    |false=>exact absurd (.inr (.inl hb)) hn
   exact Zy hm
structure DAt (w:World) (base gd size:Nat) (ts hs:List Str) (vT vH:Value):Prop where
 blk:Blk w gd 254 #[vT, .int .i64 (size:Nat),vH]
 ot:w.ownsRow base 9 1 vT ts.length (Ba ts)
 oh:w.ownsRow base 9 1 vH hs.length (Ba hs)
 apart:∀y,vT.ownBlock=some y->vH.ownBlock≠some y
 gb:base<=gd
section
variable {w w1 w3 w':World} {base gd size g:Nat} {ts hs:List Str} {vT vH v3:Value} {s:Str}
theorem DAt.keep(h:DAt w base gd size ts hs vT vH)(hk:∀y,base<=y->y<w.heap.size->w'.heap[y]? =w.heap[y]?):DAt w' base gd size ts hs vT vH:=
 ⟨(hk gd h.gb h.blk.lt).trans h.blk,eZ h.ot (fun y hy=>hk y (Aj h.ot y hy).1 (Aj h.ot y hy).2),eZ h.oh (fun y hy=>hk y (Aj h.oh y hy).1 (Aj h.oh y hy).2),h.apart,h.gb⟩
theorem DAt.oth(h:DAt w base gd size ts hs vT vH){cs:Array Value}(hc:Blk w g 243 cs)(hk:Kept (fun y=>y<w.heap.size/\y≠g) w w'):DAt w' base gd size ts hs vT vH:=
 ⟨(hk.block gd ⟨h.blk.lt,Blk.apart h.blk hc ip⟩).trans h.blk,eZ h.ot (fun y hy=>hk.block y ⟨(Aj h.ot y hy).2,fun e=>gZ h.ot hc ip (e ▸ hy)⟩),eZ h.oh (fun y hy=>hk.block y ⟨(Aj h.oh y hy).2,fun e=>gZ h.oh hc ip (e ▸ hy)⟩),h.apart,h.gb⟩
theorem DAt.texts(h:DAt w base gd size ts hs vT vH)(hb:Below w w w1)(hg:w1.grownBy w3 vT.ownBlock)(i:w3.ownsRow base 9 1 v3 (ts.length+1) (Ba ts++ [.string (bs s)]))(z:v3.ownBlock=vT.ownBlock∨v3.ownBlock=some w1.heap.size):
 DAt (w3.setCell ⟨gd,0,none⟩ v3) base gd size (ts++ [s]) hs v3 vH:=by
 have j:vT.ownBlock≠some gd:=gZ h.ot h.blk ip;have b3:=(h.blk.step hb).grown hg (AU j);have o1:w1.ownsRow base 9 1 vH hs.length (Ba hs):=eZ h.oh (fun y hy=>hb.block y (Aj h.oh y hy).2);have o3:w3.ownsRow base 9 1 vH hs.length (Ba hs):=eZ o1 (fun y hy=>hg.block y (Aj o1 y hy).2 (fun e=>h.apart y e.symm hy));have n3:v3.ownBlock≠some gd:=gZ i b3 ip;have nh:vH.ownBlock≠some gd:=gZ o3 b3 ip;refine⟨by simpa using b3.set 0 v3,?_,eZ o3 (fun y hy=>AR _ _ _ y (fun e=>nh nR)),?_,h.gb⟩
 ·rw[Ae,OG];exact eZ i (fun y hy=>AR _ _ _ y (fun e=>n3 nR))
 ·intro y hy hh;rcases z with e|e
  ·exact h.apart y (by rw[<-e];exact hy) hh
  ·rw[e]at hy;injection hy with hy;have:=(Aj h.oh y hh).2;have:=hb.size;omega
theorem DAt.heads(h:DAt w base gd size ts hs vT vH)(hb:Below w w w1)(hg:w1.grownBy w3 vH.ownBlock)(i:w3.ownsRow base 9 1 v3 (hs.length+1) (Ba hs++ [.string (bs s)]))(z:v3.ownBlock=vH.ownBlock∨v3.ownBlock=some w1.heap.size):
 DAt (w3.setCell ⟨gd,2,none⟩ v3) base gd size ts (hs++ [s]) vT v3:=by
 have j:vH.ownBlock≠some gd:=gZ h.oh h.blk ip;have b3:=(h.blk.step hb).grown hg (AU j);have o1:w1.ownsRow base 9 1 vT ts.length (Ba ts):=eZ h.ot (fun y hy=>hb.block y (Aj h.ot y hy).2);have o3:w3.ownsRow base 9 1 vT ts.length (Ba ts):=eZ o1 (fun y hy=>hg.block y (Aj o1 y hy).2 (fun e=>h.apart y hy e.symm));have n3:v3.ownBlock≠some gd:=gZ i b3 ip;have nh:vT.ownBlock≠some gd:=gZ o3 b3 ip;refine⟨by simpa using b3.set 2 v3,eZ o3 (fun y hy=>AR _ _ _ y (fun e=>nh nR)),?_,?_,h.gb⟩
 ·rw[Ae,OG];exact eZ i (fun y hy=>AR _ _ _ y (fun e=>n3 nR))
 ·intro y hy hh;rcases z with e|e
  ·exact h.apart y hy (by rw[<-e];exact hh)
  ·rw[e]at hh;injection hh with hh;have:=(Aj h.ot y hy).2;have:=hb.size;omega
theorem Uq{i:List Nat}{at_ ob:Nat}{cs:Array Value}(h:Cur w g base i A c at_ er)(j:Blk w ob 254 cs)(k:Nat)(u:Value):Cur (w.setCell ⟨ob,k,none⟩ u) g base i A c at_ er:=
 ⟨h.blk.far (fun e=>Blk.apart j h.blk ip e.symm) _,BS h.own (gZ h.own j ip) _,h.le,h.lo⟩
theorem cur_far{j:List Nat}{at_:Nat}{v:Value}(h:Cur w g base j A c at_ er)(ho:w.ownsRow i 9 1 v n xs)(hg:w.grownBy w' v.ownBlock):Cur w' g base j A c at_ er:=
 ⟨h.blk.grown hg (AU (gZ ho h.blk ip)),eZ h.own (fun y hy=>hg.block y (Aj h.own y hy).2 (fun e2=>by
  rcases ER ho h.own ip with e3|e3
  ·rw[e3]at e2;cases e2
  ·exact e3 (by rw[<-e2,hy]))),h.le,h.lo⟩
end
theorem dB:(prog.info? 9).map (fun i=>(i.zero,i.size,i.bytes))=some (some (.string ⟨#[]⟩),1,16):=mr
def Ib(w:World)(gd:Nat)(vT vH:Value)(y:Nat):Prop:=y<w.heap.size/\y≠gd/\vT.ownBlock≠some y/\vH.ownBlock≠some y
structure FI (w wr:World) (g:Nat) (B:Option Addr) (d:Nat) (ls:List Nat) (base gd size:Nat) (vT vH:Value) (at_:Nat) (t2 h2:List Str) (uT uH:Value):Prop where
 cur:Cur wr g w ls B d at_ 0
 dat:DAt wr base gd size t2 h2 uT uH
 kept:Kept (Ib w gd vT vH) w wr
 lt:∀y,y<w.heap.size->uT.ownBlock=some y->vT.ownBlock=some y
 lh:∀y,y<w.heap.size->uH.ownBlock=some y->vH.ownBlock=some y
section
variable {w wr w5:World} {g d base gd size at_:Nat} {B:Option Addr} {ls:List Nat} {vT vH uT uH v5:Value} {t2 h2:List Str} {s:Str} {o:Obj}
theorem FI.next{w2:World}{a2:Nat}(h:FI w wr g B d ls base gd size vT vH at_ t2 h2 uT uH)(hg:w.heap.size<=g)(j:Cur w2 g w ls B d a2 0)(i:Kept (By g wr) wr w2):FI w w2 g B d ls base gd size vT vH a2 t2 h2 uT uH:=
 have hz:=h.kept.size
 ⟨j,h.dat.oth h.cur.blk i,h.kept.trans ⟨i.os,i.tape,i.output,i.size,fun y hy=>i.block y ⟨mh,fun e=>mh⟩⟩,h.lt,h.lh⟩
theorem FI.texts(h:FI w wr g B d ls base gd size vT vH at_ t2 h2 uT uH)(hg:(wr.alloc o).grownBy w5 uT.ownBlock)(i:w5.ownsRow base 9 1 v5 (t2.length+1) (Ba t2++ [.string (bs s)]))(j:v5.ownBlock=uT.ownBlock∨v5.ownBlock=some (wr.alloc o).heap.size):
 FI w (w5.setCell ⟨gd,0,none⟩ v5) g B d ls base gd size vT vH at_ (t2++ [s]) h2 v5 uH:=by
 have hz:=h.kept.size;have hb:Below wr wr (wr.alloc o):=aZ (Ag _ _);have hD:=h.dat.texts hb hg i j;have b5:Blk w5 gd 254 #[uT, .int .i64 (size:Nat),uH]:=(h.dat.blk.step hb).grown hg (AU (gZ h.dat.ot h.dat.blk ip));refine⟨Uq (cur_far (h.cur.step hb) (h.dat.ot.alloc o) hg) b5 0 _,hD,?_,?_,h.lh⟩
 ·exact((h.kept.alloc (fun y hy=>by have:=hy.1;omega) o).grown hg (fun y hy=>by have:=hy.1;simp;omega) (fun y hy hk=>hk.2.2.1 (h.lt y hk.1 hy))).set (fun hk=>hk.2.1 rfl) _
 ·intro y hy he;rcases j with e|e
  ·exact h.lt y hy (by rw[<-e];exact he)
  ·rw[e]at he;injection he with he;simp at he;omega
theorem FI.heads(h:FI w wr g B d ls base gd size vT vH at_ t2 h2 uT uH)(hg:(wr.alloc o).grownBy w5 uH.ownBlock)(i:w5.ownsRow base 9 1 v5 (h2.length+1) (Ba h2++ [.string (bs s)]))(j:v5.ownBlock=uH.ownBlock∨v5.ownBlock=some (wr.alloc o).heap.size):
 FI w (w5.setCell ⟨gd,2,none⟩ v5) g B d ls base gd size vT vH at_ t2 (h2++ [s]) uT v5:=by
 have hz:=h.kept.size;have hb:Below wr wr (wr.alloc o):=aZ (Ag _ _);have hD:=h.dat.heads hb hg i j;have b5:Blk w5 gd 254 #[uT, .int .i64 (size:Nat),uH]:=(h.dat.blk.step hb).grown hg (AU (gZ h.dat.oh h.dat.blk ip));refine⟨Uq (cur_far (h.cur.step hb) (h.dat.oh.alloc o) hg) b5 2 _,hD,?_,h.lt,?_⟩
 ·exact((h.kept.alloc (fun y hy=>by have:=hy.1;omega) o).grown hg (fun y hy=>by have:=hy.1;simp;omega) (fun y hy hk=>hk.2.2.2 (h.lh y hk.1 hy))).set (fun hk=>hk.2.1 rfl) _
 ·intro y hy he;rcases j with e|e
  ·exact h.lh y hy (by rw[<-e];exact he)
  ·rw[e]at he;injection he with he;simp at he;omega
end
def Vu(w:World)(base gd size:Nat)(vT vH:Value)(F:List Str×Int)(e:Ending)(w':World):Prop:=
 e= .returned (.int .i64 F.2)/\Kept (Ib w gd vT vH) w w'/\(F.2=0->(∀s∈F.1,s.length<=25)/\∃hs' vT' vH',DAt w' base gd size F.1 hs' vT' vH'/\(∀y,y<w.heap.size->vT'.ownBlock=some y->vT.ownBlock=some y)/\(∀y,y<w.heap.size->vH'.ownBlock=some y->vH.ownBlock=some y)/\hs'.length<=F.1.length)
theorem Uc(w:World)(A:Option Addr)(m c n base gd size:Nat)(ls:List Nat)(ts hs:List Str)(vT vH:Value)(hm:ls.length=m)(bh:m<=100000)(h8:∀x∈ls,x<=255)(bb:A=none->m=0/\c=0)(ha:Row w w A m 1 (jZ .u8 ls))(hn:n<=64)(hD:DAt w base gd size ts hs vT vH)(bq:∀s∈ts,s.length<=25)(ce:ts.length<=1100000)(b9:hs.length<=ts.length):
 Calls prog 196 #[.pointer (some ⟨gd,0,none⟩), .slice A m c, .int .i64 (n:Nat)] w (Vu w base gd size vT vH (CP ls n true 0 ts)):=by
 obtain⟨j0,aq,au,ar,av⟩:=info_parts dB;have D0:=hid (new_any w A m c ls hm bh bb ha);have a6:ls.length<=100000:=mw
 have H8:=hid h8;have bS:=hid a6;obtain⟨F,hF⟩:=ii (CP ls n true 0 ts);rw[<-hF];have bj:Hid (CP ls (n-0) (decide (0=0)) 0 ts=F):=hF.symm;have HD:=hid hD;have b8:=hid bq;have cl:=hD.blk.lt;clear hm bb ha h8 bh a6 hF hD bq;go_enter func196,ntmps196;go_wp2_with fail;refine D0.out.mono ?_;rintro e w1 ⟨g,B,d,rfl,a5,a4⟩;have z1:=a4.size;have ba:=a5.lo;have ci:=a5.blk.lt;have bl:=hid a5;have bm:Hid (DAt w1 base gd size ts hs vT vH):=HD.out.keep (fun y _ hy=>a4.block y hy);have bt:Hid (Kept (Ib w gd vT vH) w w1):=Kept.of_below a4 (fun y hy=>hy.1);clear a5 a4 D0 HD;go_wp2_with fail;go_loopw [15] (fun iv wr=>∃ (i at_:Nat) (t2 h2:List Str) (uT uH:Value),i<=n/\iv= .int .i64 i/\t2.length<=1100000+i/\h2.length<=t2.length/\Hid (FI w wr g B d ls base gd size vT vH at_ t2 h2 uT uH)/\Hid (∀s∈t2,s.length<=25)/\Hid (CP ls (n-i) (decide (i=0)) at_ t2=F)) (fun iv _=>n-(intOf iv).toNat)
 case atStart=>exact⟨0,0,ts,hs,vT,vH,mw,rfl,mw,b9,⟨bl.out,bm.out,bt.out,fun _ _ h=>h,fun _ _ h=>h⟩,b8.out,bj.out⟩
 case round=>
  obtain⟨i,at_,t2,h2,uT,uH,hi,rfl,b1,a1,HI,aw,HG⟩:=hrel;have zr:=HI.out.kept.size;clear bl bm bt bj;by_cases co:i<n
  ·have gi:=ic ((i:Int)<n);have cj:=ic (i<n);have hG:=HG.out;rw[show n-i=(n-(i+1))+1 by omega,CP]at hG;obtain⟨fb,a0⟩:∃fb,fb=decide (i=0):=⟨_,rfl⟩
   have gz:((i:Int)==0)=fb:=by
    rw[a0];by_cases h:i=0
    ·subst h;rfl
    ·rw[Bt h,FG];omega
   obtain⟨aa,am⟩:=ii (t2.getLast?.getD [])
   have bu:aa.length<=25:=by
    rw[am];cases hl:t2.getLast? with
    |none=>exact Cr _
    |some y=>exact aw.out y (List.mem_of_getLast? hl)
   rw[<-a0,<-am]at hG;have DN:=hid (fun wx hx=>next_any wx g w ls B d at_ aa fb bS.out H8.out bu hx);have ag:Hid ((Ex ls aa fb at_).2.2=0->(Ex ls aa fb at_).1.length<=25):=VP;generalize Ex ls aa fb at_=S at *;obtain⟨s,a2,e2⟩:=S;simp only at hG DN ag;have ab:=hid hG;have cf:=hid a0;have a9:=hid am;have c0:=HI.out.dat.blk.ia 0;have an:=HI.out.dat.ot;obtain⟨p,hp⟩:=ii t2.length;rw[<-hp]at an b1 a1;obtain⟨Au,cu,rfl⟩:=bZ an;have HP:=hid hp;have a3:=hid an;have cd:=HI.out.dat.blk.lt;have cm:base<=wr.heap.size:=(by have:=HI.out.dat.gb;omega);clear hG HG a0 am hp an bu;by_cases bf:p=0
   ·have gp:=ig ((0:Int)<p);have bn:=ig (0<p);have bN:aa= []:=(by rw[a9.out,Gf (HP.out.symm.trans bf)];rfl);subst bN;have bx:Hid (∀wx,Cur wx g w ls B d at_ 0->Calls prog 245 #[.pointer (some ⟨g,0,none⟩), .string ⟨#[]⟩,fb] wx fun e w'=>e= .returned (.string (bs s))/\Cur w' g w ls B d a2 e2/\Kept (By g wx) wx w'):=DN.out;clear DN bf;go_wp2_with fail;refine(bx.out _ HI.out.cur).mono ?_;rintro e w2 ⟨rfl,ai,z⟩;clear bx;have bc:=HI.out.cur.blk;have z2:=z.size;have aj:=hid (fun he:e2=0=>HI.out.next ba (he ▸ ai) z);have be:Hid (Kept (Ib w gd vT vH) w w2):=HI.out.kept.trans ⟨z.os,z.tape,z.output,z.size,fun y hy=>z.block y ⟨mh,fun e=>mh⟩⟩;have DE:=hid (Dl w2 g w ls B d a2 e2 ai);clear ai z HI c0 bc a3;go_wp2_with fail;refine DE.out.mono ?_;rintro e w3 ⟨rfl,rfl⟩;by_cases he:e2=0
    ·subst he;have G:=aj.out rfl;have ac:=hid G;have hG:=ab.out;rw[Aa (show ¬((0:Int)≠0) from fun h=>h rfl)]at hG;have az:=hid hG;have af:=hid (ag.out rfl);have k0:=G.dat.blk.ia 0;have N:=G.dat.ot;rw[<-HP.out]at N;have Q:=hid N;have bk:base<=w3.heap.size:=mw;have kf:=G.dat.blk.frozen 0;have kb:=G.dat.blk;have ay:=AU (gZ G.dat.ot G.dat.blk ip:_≠some gd);have al:=hid kb;have Y:=hid ay;clear G hG ab ag aj DE N kf kb ay;cases fb with
     |false=>
      go_wp2_with(at_builtin;refine iZ rfl (.tmp 54) (.tmp 56) 50 rfl base 9 j0 _ 1 16 underlying50 aq au ar av rfl ip _ _ _ mz (Q.out.alloc _) _ 1 1 [.string (bs s)] mz (Src.of_blk (Blk.made_at _ _ _ oK) 1 1 1 rfl) mj pm mw oT ?_;intro v5 w5 j L J;obtain⟨A5,c5,rfl⟩:=bZ j;have b5:=(al.out.alloc (.cells #[.string (bs s)] 9)).grown L Y.out;have q0:=b5.ia 0;have q1:=b5.frozen 0);have E:=hid (ac.out.texts (s:=s) L mL J);clear j L J b5 q0 q1 ac Q al Y k0;go_roundw
      case measure=>exact jo
      case rel=>exact jc
     |true=>
      have ak:=ac.out.dat.oh;obtain⟨q,hq⟩:=ii h2.length;rw[<-hq]at ak a1;obtain⟨Ah,ch,rfl⟩:=bZ ak;have HQ:=hid hq;clear ak hq;go_wp2_with(first|(at_builtin;refine iZ rfl (.tmp 54) (.tmp 56) 50 rfl base 9 j0 _ 1 16 underlying50 aq au ar av rfl ip _ _ _ mz (Q.out.alloc _) _ 1 1 [.string (bs s)] mz (Src.of_blk (Blk.made_at _ _ _ oK) 1 1 1 rfl) mj pm mw oT ?_;intro v5 w5 j L J;obtain⟨A5,c5,rfl⟩:=bZ j;have b5:=(al.out.alloc (.cells #[.string (bs s)] 9)).grown L Y.out;have q0:=b5.ia 0;have q1:=b5.frozen 0;have E:=hid (ac.out.texts (s:=s) L mL J);have r0:=E.out.dat.blk.ia 2;have r1:=E.out.dat.blk.frozen 2;have b4:base<=w5.heap.size:=(by have h1:=E.out.dat.gb;have h2:=b5.lt;omega);have Z:=E.out.dat.oh;rw[<-HQ.out]at Z;have ax:=hid Z;clear Z j L J)|(at_builtin;refine iZ rfl (.tmp 67) (.tmp 69) 50 rfl base 9 j0 _ 1 16 underlying50 aq au ar av rfl ip _ _ _ mz (ax.out.alloc _) _ 1 1 [.string (bs s)] mz (Src.of_blk (Blk.made_at _ _ _ oK) 1 1 1 rfl) mj pm mw oT ?_;intro v7 w7 M ah ae;obtain⟨A7,c7,rfl⟩:=bZ M;have b7:=(E.out.dat.blk.alloc (.cells #[.string (bs s)] 9)).grown ah (AU (gZ E.out.dat.oh E.out.dat.blk ip));have s0:=b7.ia 2;have s1:=b7.frozen 2;have bg:=hid (E.out.heads (s:=s) ah (by rw[<-HQ.out];exact M) ae);clear M ah ae));go_roundw
      case measure=>exact jo
      case rel=>exact jb
    ·have gE:(e2 != 0)=true:=ph;have bd:Hid (F=([],e2)):=(by have h:=ab.out;rw[Ab he]at h;exact h.symm);have Y:=hid he;clear he ab ag aj DE;go_wp2_with fail;go_ret;rw[bd.out];exact⟨rfl,be.out,fun h=>absurd h Y.out⟩
   ·obtain⟨gq,cq,ca,cg,_⟩:=a3.out.form mw;injection ca with q1 q2 q3;subst q1 q3;clear q2;have bp:t2[p-1]? =some aa:=(by have h:=a9.out;rw[List.getLast?_eq_getElem?,<-HP.out,Az lu]at h;rw[Az lu,h];rfl);have cy:wr.cell? ⟨gq,p-1,none⟩=some (.string (bs aa)):=(by rw[a3.out.cellAt (p-1) mw];exact LH bp);obtain⟨p1,bi⟩:=ii (p-1);rw[<-bi]at cy;have sp:IntKind.i64.wrap ((p:Int)-1)=(p1:Int):=m8;have gp:=ic ((0:Int)<p);have bn:=ic (0<p);have b6:(0:Int)<=(p1:Int):=mw;have b0:(p1:Int)<(p:Int):=mw;clear bp bi bf;go_wp2_with fail;go_quiet (fail);go_wp2_with fail;refine(DN.out _ (HI.out.cur.drewN _)).mono ?_;rintro e w2 ⟨rfl,ai,z⟩;clear DN;have z:Kept (By g wr) wr w2:=⟨z.os,z.tape,z.output,z.size,z.block⟩;have bc:=HI.out.cur.blk;clear cy sp gp bn b6 b0;have z2:=z.size;have aj:=hid (fun he:e2=0=>HI.out.next ba (he ▸ ai) z);have be:Hid (Kept (Ib w gd vT vH) w w2):=HI.out.kept.trans ⟨z.os,z.tape,z.output,z.size,fun y hy=>z.block y ⟨mh,fun e=>mh⟩⟩;have DE:=hid (Dl w2 g w ls B d a2 e2 ai);clear ai z HI c0 bc a3;go_wp2_with fail;refine DE.out.mono ?_;rintro e w3 ⟨rfl,rfl⟩;by_cases he:e2=0
    ·subst he;have G:=aj.out rfl;have ac:=hid G;have hG:=ab.out;rw[Aa (show ¬((0:Int)≠0) from fun h=>h rfl)]at hG;have az:=hid hG;have af:=hid (ag.out rfl);have k0:=G.dat.blk.ia 0;have N:=G.dat.ot;rw[<-HP.out]at N;have Q:=hid N;have bk:base<=w3.heap.size:=mw;have kf:=G.dat.blk.frozen 0;have kb:=G.dat.blk;have ay:=AU (gZ G.dat.ot G.dat.blk ip:_≠some gd);have al:=hid kb;have Y:=hid ay;clear G hG ab ag aj DE N kf kb ay;cases fb with
     |false=>
      go_wp2_with(at_builtin;refine iZ rfl (.tmp 54) (.tmp 56) 50 rfl base 9 j0 _ 1 16 underlying50 aq au ar av rfl ip _ _ _ mz (Q.out.alloc _) _ 1 1 [.string (bs s)] mz (Src.of_blk (Blk.made_at _ _ _ oK) 1 1 1 rfl) mj pm mw oT ?_;intro v5 w5 j L J;obtain⟨A5,c5,rfl⟩:=bZ j;have b5:=(al.out.alloc (.cells #[.string (bs s)] 9)).grown L Y.out;have q0:=b5.ia 0;have q1:=b5.frozen 0);have E:=hid (ac.out.texts (s:=s) L mL J);clear j L J b5 q0 q1 ac Q al Y k0;go_roundw
      case measure=>exact jo
      case rel=>exact jc
     |true=>
      have ak:=ac.out.dat.oh;obtain⟨q,hq⟩:=ii h2.length;rw[<-hq]at ak a1;obtain⟨Ah,ch,rfl⟩:=bZ ak;have HQ:=hid hq;clear ak hq;go_wp2_with(first|(at_builtin;refine iZ rfl (.tmp 54) (.tmp 56) 50 rfl base 9 j0 _ 1 16 underlying50 aq au ar av rfl ip _ _ _ mz (Q.out.alloc _) _ 1 1 [.string (bs s)] mz (Src.of_blk (Blk.made_at _ _ _ oK) 1 1 1 rfl) mj pm mw oT ?_;intro v5 w5 j L J;obtain⟨A5,c5,rfl⟩:=bZ j;have b5:=(al.out.alloc (.cells #[.string (bs s)] 9)).grown L Y.out;have q0:=b5.ia 0;have q1:=b5.frozen 0;have E:=hid (ac.out.texts (s:=s) L mL J);have r0:=E.out.dat.blk.ia 2;have r1:=E.out.dat.blk.frozen 2;have b4:base<=w5.heap.size:=(by have h1:=E.out.dat.gb;have h2:=b5.lt;omega);have Z:=E.out.dat.oh;rw[<-HQ.out]at Z;have ax:=hid Z;clear Z j L J)|(at_builtin;refine iZ rfl (.tmp 67) (.tmp 69) 50 rfl base 9 j0 _ 1 16 underlying50 aq au ar av rfl ip _ _ _ mz (ax.out.alloc _) _ 1 1 [.string (bs s)] mz (Src.of_blk (Blk.made_at _ _ _ oK) 1 1 1 rfl) mj pm mw oT ?_;intro v7 w7 M ah ae;obtain⟨A7,c7,rfl⟩:=bZ M;have b7:=(E.out.dat.blk.alloc (.cells #[.string (bs s)] 9)).grown ah (AU (gZ E.out.dat.oh E.out.dat.blk ip));have s0:=b7.ia 2;have s1:=b7.frozen 2;have bg:=hid (E.out.heads (s:=s) ah (by rw[<-HQ.out];exact M) ae);clear M ah ae));go_roundw
      case measure=>exact jo
      case rel=>exact jb
    ·have gE:(e2 != 0)=true:=ph;have bd:Hid (F=([],e2)):=(by have h:=ab.out;rw[Ab he]at h;exact h.symm);have Y:=hid he;clear he ab ag aj DE;go_wp2_with fail;go_ret;rw[bd.out];exact⟨rfl,be.out,fun h=>absurd h Y.out⟩
  ·obtain rfl:i=n:=by omega
   have hG:=HG.out;rw[Gx,CP]at hG;have gi:=ig ((i:Int)<i);have DE:=hid (Tc wr g w ls B d at_ 0 HI.out.cur);have ab:=hid hG;clear hG HG;generalize Gn ls at_ 0=ee at *;go_wp2_with fail;refine DE.out.mono ?_;rintro e w5 ⟨rfl,bC,U⟩;have b3:Hid (Kept (Ib w gd vT vH) w w5):=HI.out.kept.trans ⟨U.os,U.tape,U.output,U.size,fun y hy=>U.block y (fun e=>by have:=hy.1;omega)⟩;have cc:Hid (DAt w5 base gd size t2 h2 uT uH):=HI.out.dat.oth HI.out.cur.blk ⟨U.os,U.tape,U.output,U.size,fun y hy=>U.block y hy.2⟩;clear bC U;go_wp2_with fail;go_ret;rw[<-ab.out];exact⟨rfl,b3.out,fun _=>⟨aw.out,h2,uT,uH,cc.out,HI.out.lt,HI.out.lh,a1⟩⟩
end Idx
namespace Idx
open Go.RowKit Mem Own Canon Sift
open NumPut Recs Crc Block
open Nums
def szR(n size:Nat)(ls:List Nat):Nat->Nat->Nat->List Nat->List Nat×Nat×Int
 |0,at_,_,acc=>(acc,at_,0)
 |f+1,at_,x,acc=>if n<=x then(acc,at_,0)else if AJ 2000 ls at_ 0≠0 then([],zZ 2000 ls at_ 0,AJ 2000 ls at_ 0)else szR n size ls f (zZ 2000 ls at_ 0) (x+size) (acc++ [AY 2000 ls at_ 0])
theorem RJ{size:Nat}{f at_:Nat}{i:List Nat}(h:n<=x):szR n size ls f at_ x i=(i,at_,0):=by
 cases f with
 |zero=>rfl
 |succ f=>exact Ab h
def bkR(size:Nat)(ls:List Nat):List Nat->Nat->Nat->List Str->List Str×Nat×Int
 | [],_,at_,acc=>(acc,at_,0)
 |k :: ks,r,at_,acc=>if BK ls at_ 0 k≠0 then([],0,BK ls at_ 0 k)
  else if(CP (Bu ls at_ 0 k) (min size r) true 0 acc).2≠0 then([],0,(CP (Bu ls at_ 0 k) (min size r) true 0 acc).2)
  else bkR size ls ks (r-size) (takeA ls at_ 0 k) (CP (Bu ls at_ 0 k) (min size r) true 0 acc).1
def Gv(size:Nat)(ls:List Nat):List Nat×Nat×Int:=
 if AJ 1048576 ls 0 0≠0 then([],zZ 1048576 ls 0 0,AJ 1048576 ls 0 0)else szR (AY 1048576 ls 0 0) size ls (AY 1048576 ls 0 0) (zZ 1048576 ls 0 0) 0 []
def FC(size:Nat)(ls:List Nat):List Str×Nat×Int:=
 if(Gv size ls).2.2≠0 then([],0,(Gv size ls).2.2)else bkR size ls (Gv size ls).1 (AY 1048576 ls 0 0) (Gv size ls).2.1 []
def TV(w:World)(R:List Str×Nat×Int)(e:Ending)(w':World):Prop:=
 Below w w w'/\(R.2.2≠0->e= .returned (.tuple #[.pointer none,ij,R.2.2]))/\(R.2.2=0->∃gd size hs vT vH,e= .returned (.tuple #[.pointer (some ⟨gd,0,none⟩), .int .i64 (R.2.1:Nat),ij])/\DAt w' w gd size R.1 hs vT vH)
theorem Jn{R:List Str×Nat×Int}(hR:R=([],0,er))(he:er≠0)(hb:Below w w w'):TV w R (.returned (.tuple #[.pointer none,ij,er])) w':=pj
theorem i5{row:Option Nat}{at_:Nat}{i:List Nat}(h:Cur w g base i A c at_ er)(hg:w.grownBy w' row)(B:Nat)(y:g<B)(j:∀x,(Value.slice A i.length c).ownBlock=some x->x<B)(hr:∀x,row=some x->B<=x):Cur w' g base i A c at_ er:=
 ⟨h.blk.grown hg (fun e=>by have:=hr g e.symm;omega),eZ h.own (fun x hx=>hg.block x (Aj h.own x hx).2 (fun e=>by have:=j x hx;have:=hr x e.symm;omega)),h.le,h.lo⟩
theorem Ru{size:Nat}{ts hs:List Str}(hD:DAt w base gd size ts hs uT uH)(hy:y<w.heap.size)(hb:y<base):Ib w gd uT uH y:=
 ⟨hy,by have:=hD.gb;omega,fun e=>by have:=(Aj hD.ot y e).1;omega,fun e=>by have:=(Aj hD.oh y e).1;omega⟩
theorem N6{size:Nat}{ts hs:List Str}{v:Value}(hD:DAt w base gd size ts hs uT uH)(h:w.ownsRow b2 e 1 v n xs)(he:9≠e)(hd:e≠254)(hy:v.ownBlock=some y):Ib w gd uT uH y:=
 ⟨(Aj h y hy).2,fun e2=>gZ h hD.blk hd (e2 ▸ hy),fun e2=>by
   rcases ER hD.ot h he with e3|e3
   ·rw[e3]at e2;cases e2
   ·exact e3 (by rw[e2,hy]),fun e2=>by
   rcases ER hD.oh h he with e3|e3
   ·rw[e3]at e2;cases e2
   ·exact e3 (by rw[e2,hy])⟩
theorem TK{size at_:Nat}{ts hs:List Str}(h:Cur w g b2 ls A c at_ er)(hD:DAt w base gd size ts hs uT uH)(hk:Kept (Ib w gd uT uH) w w'):Cur w' g b2 ls A c at_ er:=
 ⟨(hk.block g ⟨h.blk.lt,fun e=>Blk.apart hD.blk h.blk ip e.symm,gZ hD.ot h.blk ip,gZ hD.oh h.blk ip⟩).trans h.blk,eZ h.own (fun y hy=>hk.block y (N6 hD h.own ip ip hy)),h.le,h.lo⟩
theorem Ls(ls:List Nat):∀ (k:Nat) (first:Bool) (at_:Nat) (i:List Str),(CP ls k first at_ i).2=0->(CP ls k first at_ i).1.length=i.length+k
 |0,_,_,_,_=>rfl
 |k+1,first,at_,i,h=>by
  unfold CP at h ⊢;split at h
  ·rename_i he;exact absurd h he
  ·rename_i he;rw[Aa he];rw[Ls ls k false _ _ h,Ae];simp;omega
theorem bP:(prog.info? 3).map (fun i=>(i.zero,i.size,i.bytes))=some (some (.int .i64 0),1,8):=mr
theorem aS(w:World)(A:Option Addr)(m c size:Nat)(ls:List Nat)(hm:ls.length=m)(ce:m<=100000)(h8:∀x∈ls,x<=255)(bk:A=none->m=0/\c=0)(ha:Row w w A m 1 (jZ .u8 ls))(dd:1<=size)(dc:size<=64):
 Calls prog 118 #[.int .i64 (size:Nat), .slice A m c] w (TV w (FC size ls)):=by
 obtain⟨j0,ct,cG,cx,cP⟩:=info_parts bP;have D0:=hid (new_any w A m c ls hm ce bk ha);have a6:ls.length<=100000:=mw
 have bt:=hid a6;have H8:=hid h8;have D1:=hid (fun wx g B d h=>ID wx g w ls B d 0 0 1048576 a6 h8 mw h);have c6:=ig ((size:Int)<1)
 have c3:=ig (size<1)
 have c9:=ig ((64:Int)<size)
 have c2:=ig (64<size)
 obtain⟨R,hR⟩:=ii (FC size ls);rw[<-hR];unfold FC at hR;obtain⟨Z,hZ⟩:=ii (Gv size ls);rw[<-hZ]at hR;unfold Gv at hZ;have c7:AY 1048576 ls 0 0<=1048576:=FQ h8 0 0;have cm:AJ 1048576 ls 0 0≠0->AY 1048576 ls 0 0=0:=by intro h;unfold AJ at h;rw[Aa oK]at h;unfold AY;rw[Aa oK];exact((G8 1048576 (ls.drop 0) fun x hx=>h8 x (BY hx)).2.2.2.1 h).1
 generalize AY 1048576 ls 0 0=n at *;generalize zZ 1048576 ls 0 0=a0 at *;generalize AJ 1048576 ls 0 0=e0 at *;have ca:Hid ((e0=0->∃f,n<=f+0/\szR n size ls f a0 0 []=Z)/\(e0≠0->Z=([],a0,e0))):=⟨fun h=>⟨n,mw,by rw[hZ,Aa oY]⟩,fun h=>by rw[hZ,Ab h]⟩;have HR:=hid hR;have c0:=hid cm;clear hm h8 bk ha hR hZ cm ce a6;go_enter func118,ntmps118;go_wp2_with fail;refine D0.out.mono ?_;rintro e w1 ⟨g,B,d,rfl,bi,b9⟩;have DI:=hid (D1.out w1 g B d bi);have co:=hid b9;have c1:=bi.lo;have c8:=bi.blk.lt;have de:=b9.size;have cu:Hid (∀y,(Value.slice B ls.length d).ownBlock=some y->y<w1.heap.size):=fun y hy=>(Aj bi.own y hy).2;clear bi b9 D0 D1;go_wp2_with fail;refine DI.out.mono ?_;rintro e w2 ⟨rfl,cl,ay⟩;have cd:Hid (Below w w w2):=co.out.trans (ay.below fun b h=>⟨mw,mw⟩);have z2:=ay.size;have cg:=hid cl;clear cl ay co DI;go_wp2_with fail;go_loopw [9,10] (fun v xv wr=>∃ (x at_ q:Nat) (er:Int) (G:List Nat),x<=n+64/\q<=x/\xv= .int .i64 x/\Hid (G.length=q)/\Hid (q*size=x)/\Hid (0<q->x<n+size)/\Hid (∀y∈G,y<=2000)/\Hid (Cur wr g w ls B d at_ er)/\Hid (wr.ownsRow w2 3 1 v q (cZ .i64 G))/\Hid (Kept (fun y=>y<w2.heap.size/\y≠g) w2 wr)/\Hid (er=0->∃f,n<=f+x/\szR n size ls f at_ x G=Z)/\Hid (er≠0->Z.2.2=er/\(n=0∨0<q))) (fun _ xv _=>n+64-(intOf xv).toNat)
 case atStart=>exact⟨0,a0,0,e0,[],mw,mw,rfl,rfl,ou,fun h=>mw,fun y hy=>by simp at hy,cg.out,AI _ _ _ _,Kept.refl _ _,ca.out.1,fun h=>⟨by rw[ca.out.2 h], .inl (c0.out h)⟩⟩
 case round=>
  obtain⟨x,at_,q,er,G,hx,c4,rfl,HQ,bj,b6,HA,HC,HO,HK,HT,HE⟩:=hrel;have zk:=HK.out.size;obtain⟨va,vc,rfl⟩:=bZ HO.out;clear ca cg;by_cases da:x<n
  ·have g1:=ic ((x:Int)<n);have cA:=ic (x<n);have DE:=hid (Dl wr g w ls B d at_ er HC.out);by_cases he:er=0
   ·subst he;obtain⟨f,hf,hT⟩:=HT.out rfl;obtain⟨f,rfl⟩:∃f',f=f'+1:=⟨f-1,mw⟩;rw[szR,Aa mw]at hT;have D:=hid (fun wx hx=>ID wx g w ls B d at_ 0 2000 bt.out H8.out mw hx);have ay:AY 2000 ls at_ 0<=2000:=FQ H8.out _ _;generalize AY 2000 ls at_ 0=k at *;generalize zZ 2000 ls at_ 0=a2 at *;generalize AJ 2000 ls at_ 0=e2 at *;have sx:IntKind.i64.wrap ((x:Int)+(size:Int))=((x+size:Nat):Int):=m8;have N:Hid ((e2=0->∃f',n<=f'+(x+size)/\szR n size ls f' a2 (x+size) (G++ [k])=Z)/\(e2≠0->Z.2.2=e2/\(n=0∨0<q+1))):=⟨fun h=>⟨f,mw,by rw[Aa oY]at hT;exact hT⟩,fun h=>by rw[Ab h]at hT;rw[<-hT];exact⟨rfl, .inr mw⟩⟩
    have cw:Hid (∀y∈G++ [k],y<=2000):=fun y hy=>by
     rcases BF.1 hy with h|h
     ·exact HA.out y h
     ·rw[Ei]at h;omega
    have cq:Hid ((q+1)*size=x+size):=(by show _=_;rw[IR,bj.out]);clear hT HT HE hf HA bj b6;go_wp2_with fail;refine DE.out.mono ?_;rintro e w3 ⟨rfl,rfl⟩;go_wp2_with fail;refine(D.out _ HC.out).mono ?_;rintro e w4 ⟨rfl,af,J⟩;have z4:=J.size;have ak:=hid af;have ac:Hid (w4.ownsRow w2 3 1 (.slice va q vc) q (cZ .i64 G)):=eZ HO.out (fun y hy=>J.block y ⟨(Aj HO.out y hy).2,by have:=(Aj HO.out y hy).1;omega⟩);have bC:Hid (Kept (fun y=>y<w2.heap.size/\y≠g) w2 w4):=HK.out.trans ⟨J.os,J.tape,J.output,J.size,fun y hy=>J.block y ⟨mh,hy.2⟩⟩;clear af J HC HO HK DE D;go_wp2_with(at_builtin;refine iZ rfl (.tmp 39) (.tmp 42) 37 rfl w2 3 j0 _ 1 8 underlying37 ct cG cx cP rfl ip _ _ _ mz (ac.out.alloc _) _ 1 1 [.int .i64 (k:Nat)] mz (Src.of_blk (Blk.made_at _ _ _ oK) 1 1 1 rfl) mj pm mw oT ?_;intro v5 w5 an bm ci;obtain⟨A5,c5,rfl⟩:=bZ an);have bx:=fun(y:Nat) hy=>(Aj ac.out y hy).1;have df:=bC.out.size;have cf:=i5 (ak.out.step (aZ (o:= .cells #[.int .i64 (k:Nat)] 3) (Ag w4 w4))) bm w2 mw (fun y hy=>by have:=cu.out y hy;omega) bx;have cF:=hid cf;have cz:Hid (Kept (fun y=>y<w2.heap.size/\y≠g) w2 w5):=(bC.out.alloc (fun y hy=>by have:=hy.1;omega) _).grown bm (fun y hy=>by have:=hy.1;simp;omega) (fun y hy hh=>by have:=bx y hy;have:=hh.1;omega);have cT:Hid (w5.ownsRow w2 3 1 (.slice A5 (q+1) c5) (q+1) (cZ .i64 (G++ [k]))):=(by show World.ownsRow _ _ _ _ _ _ _;rw[show cZ .i64 (G++ [k])=cZ .i64 G++ [.int .i64 (k:Nat)] by simp[cZ]];exact an);clear an bm ci bx cf ak ac bC;go_roundw
    case measure=>exact jo
    case rel=>go_light;exact⟨x+size,a2,q+1,e2,G++ [k],mw,mw,iu,by show _=_;rw[Ae,HQ.out];rfl,cq.out,fun _=>mw,cw.out,cF.out,cT.out,cz.out,N.out.1,N.out.2⟩
   ·have gE:(er==0)=false:=ph;have av:Hid ((er=0->Z=(G,at_,0))/\(er≠0->Z.2.2=er)):=⟨fun h=>absurd h he,fun h=>(HE.out h).1⟩;clear he HT HE;go_wp2_with fail;refine DE.out.mono ?_;rintro e w3 ⟨rfl,rfl⟩;clear DE;go_wp2_with fail;have al:Hid ((er=0->R=bkR size ls (G.drop 0) (n-0) at_ [])/\(er≠0->R=([],0,er))):=⟨fun h=>ku,fun h=>kw⟩;have ba:Hid (DAt (w3.alloc (.cells #[(), .int .i64 (size:Nat),()] 254)) w w3 size [] [] (.slice none 0 0) (.slice none 0 0)):=⟨Blk.made _ _ _,AI _ _ _ _,AI _ _ _ _,(fun y h=>by cases h),mw⟩;have bb:Hid (Cur (w3.alloc (.cells #[(), .int .i64 (size:Nat),()] 254)) g w ls B d at_ er):=HC.out.step (aZ (Ag _ _));have bc:Hid ((w3.alloc (.cells #[(), .int .i64 (size:Nat),()] 254)).ownsRow w2 3 1 (.slice va q vc) q (cZ .i64 G)):=HO.out.alloc _;have aq:Hid (Below w w w3):=cd.out.trans (HK.out.below fun b h=>⟨mw,mw⟩);have be:Hid (Below w w (w3.alloc (.cells #[(), .int .i64 (size:Nat),()] 254))):=nZ aq.out.size aq.out;generalize b1:w3.heap.size=gd at *;clear b1 av HR HC HO HK aq;go_loopw [49] (fun iv wr=>∃ (i y E:Nat) (j:Int) (ts hs:List Str) (uT uH:Value),i<=q/\iv= .int .i64 i/\Hid (y=i*size)/\ts.length<=y/\hs.length<=ts.length/\Hid (∀s∈ts,s.length<=25)/\Hid (Cur wr g w ls B d E j)/\Hid (DAt wr w gd size ts hs uT uH)/\Hid (wr.ownsRow w2 3 1 (.slice va q vc) q (cZ .i64 G))/\Hid (Below w w wr)/\Hid (j=0->R=bkR size ls (G.drop i) (n-y) E ts)/\Hid (j≠0->R=([],0,j))) (fun iv _=>q-(intOf iv).toNat)
    case atStart=>exact⟨0,0,at_,er,[],[], .slice none 0 0, .slice none 0 0,mw,rfl,ou,oK,oK,(fun s hs=>by simp at hs),bb.out,ba.out,bc.out,be.out,al.out.1,al.out.2⟩
    case round=>
     obtain⟨i,y,E,j,ts,hs,uT,uH,hi,rfl,HY,cX,bN,b7,HC,HD,HO,HB,HT,HE⟩:=hrel;clear bb ba bc be al;have zr:=HB.out.size;by_cases bn:i<q
     ·have gi:=ic ((i:Int)<q);have cE:=ic (i<q);have cH:y+size<=x:=jr;have cB:=b6.out mw;obtain⟨k,hk⟩:∃k,G[i]? =some k:=⟨_,Az lx⟩;have ay:=HA.out k (Be hk);have Y:G.drop i=k :: G.drop (i+1):=(by obtain⟨hl,e⟩:=Cv.1 hk;rw[Dj hl,e]);obtain⟨gv,cv,bq,cC,_⟩:=HO.out.form mw;injection bq with q1 q2 q3;subst q1 q3;clear q2;have ck:wr.cell? ⟨gv,i,none⟩=some (.int .i64 (k:Nat)):=nu;have cL:(0:Int)<=(i:Int):=mw;have cy:(i:Int)<(q:Int):=mw;have DT:=JC wr g w ls B d E j k bt.out mw HC.out;unfold JH at DT;have hT:j=0->R=bkR size ls (k :: G.drop (i+1)) (n-y) E ts:=fun h=>by rw[<-Y];exact HT.out h
      unfold bkR at hT;have bg:j≠0->BK ls E j k=j:=fun h=>Ab h
      have ai:∀z∈Bu ls E j k,z<=255:=fun z hz=>by
       unfold Bu at hz;split at hz
       ·simp at hz
       ·split at hz
        ·simp at hz
        ·exact H8.out z (BY (CV hz))
      have cr:=Sx ls E j k;have a9:j=0->BK ls E 0 k=BK ls E j k/\Bu ls E 0 k=Bu ls E j k/\takeA ls E 0 k=takeA ls E j k:=fun h=>by subst h;exact⟨rfl,rfl,rfl⟩
      have N:Hid (j=0->R=if BK ls E j k≠0 then([],0,BK ls E j k)else if(CP (Bu ls E j k) (min size (n-y)) true 0 ts).2≠0 then([],0,(CP (Bu ls E j k) (min size (n-y)) true 0 ts).2)else bkR size ls (G.drop (i+1)) (n-y-size) (takeA ls E j k) (CP (Bu ls E j k) (min size (n-y)) true 0 ts).1):=fun h=>mv
      have ah:=hid bg;have HK:=hid hk;generalize BK ls E j k=e3 at *;generalize Bu ls E j k=pt at *;generalize takeA ls E j k=a3 at *;have a4:=hid ai;have DT:=hid DT;clear Y hk hT bg ai a9 HT;go_wp2_with fail;refine DT.out.mono ?_;rintro e w4 ⟨v4,rfl,M,af,J⟩;obtain⟨Ap,cp,rfl⟩:=bZ M;have z4:=J.size;have ak:=hid af;have ae:Hid (DAt w4 w gd size ts hs uT uH):=HD.out.oth HC.out.blk J;have ac:Hid (w4.ownsRow w2 3 1 (.slice (some ⟨gv,0,none⟩) q vc) q (cZ .i64 G)):=eZ HO.out (fun z hz=>J.block z ⟨(Aj HO.out z hz).2,by have:=(Aj HO.out z hz).1;omega⟩);have ar:Hid (Below w w w4):=HB.out.trans (J.below fun b h=>⟨mw,mw⟩);have ax:=hid M;have DE:=hid (Dl w4 g w ls B d a3 e3 af);clear M af J DT HC HD HO HB ck;go_wp2_with fail;refine DE.out.mono ?_;rintro e w5 ⟨rfl,rfl⟩;by_cases Q:e3=0
      ·subst Q;have aj:j=0:=Nn fun h=>h (ah.out h).symm;have hr:=N.out aj;rw[Aa (show ¬((0:Int)≠0) from fun h=>h rfl)]at hr;obtain⟨r,a1⟩:=ii (n-y);obtain⟨mn,am⟩:=ii (min size r);have sy:IntKind.i64.wrap ((i:Int)*(size:Int))=(y:Int):=n5;have sr:IntKind.i64.wrap ((n:Int)-(y:Int))=(r:Int):=m8;have cS:min (size:Int) (r:Int)=(mn:Int):=mw;rw[<-a1,<-am]at hr;have DF:=Uc w5 Ap pt.length cp mn w gd size pt ts hs uT uH rfl mw a4.out (Jh ax.out) (own_row ax.out) mw ae.out b7.out mw bN;have aw:=Ls pt mn true 0 ts;generalize CP pt mn true 0 ts=F at *;obtain⟨f1,f2⟩:=F;simp only at hr aw;have cj:mn<=size:=(by rw[am];exact Nat.min_le_left _ _);have bd:Hid (r-size=n-(y+size)):=ou;have DF:=hid DF;have ag:=hid hr;clear hr ax N ah a4 am DE a1 aj;go_wp2_with fail;refine DF.out.mono ?_;rintro e w6 ⟨rfl,aa,au⟩;have a5:Hid (Below w w w6):=ar.out.trans (aa.below fun b hb=>Ru ae.out mw hb);by_cases hf:f2=0
       ·subst hf;obtain⟨bf,h6,bu,bS,az,_,_,bh⟩:=au rfl;have b3:=hid (TK ak.out ae.out aa);have b4:Hid (w6.ownsRow w2 3 1 (.slice (some ⟨gv,0,none⟩) q vc) q (cZ .i64 G)):=eZ ac.out (fun z hz=>aa.block z (N6 ae.out ac.out ip ip hz));have cc:=hid az;have bp:=hid bf;have b5:=aw rfl;have bl:Hid (R=bkR size ls (G.drop (i+1)) (n-(y+size)) a3 f1):=km;have b8:Hid (y+size=(i+1)*size):=(by show _=_;rw[IR,HY.out]);have b0:f1.length<=y+size:=mw;simp only at bh;clear aa au bf az ag DF ak ae ac ar b5 aw bd;go_wp2_with fail;go_roundw
        case measure=>exact jo
        case rel=>exact jd
       ·have gE:(f2 != 0)=true:=(by simpa using hf);have L:Hid (R=([],0,f2)):=(by have h:=ag.out;rw[Ab hf]at h;exact h);have ab:=hid hf;clear hf ag au aa DF HE;go_wp2_with fail
        go_ret3
        exact Jn L.out ab.out a5.out
      ·have gE:(e3 != 0)=true:=by simpa using Q
       have L:Hid (R=([],0,e3)):=by
        by_cases h:j=0
        ·have h2:=N.out h;rw[Ab Q]at h2;exact h2
        ·rw[ah.out h];exact HE.out h
       have ab:=hid Q;clear Q N HE ah DE;go_wp2_with fail
       go_ret3
       exact Jn L.out ab.out ar.out
     ·obtain rfl:i=q:=by omega
      have gi:=ig ((i:Int)<i);have DE:=hid (Dl wr g w ls B d E j HC.out);have DA:=hid (Jq wr g w ls B d E j HC.out);by_cases U:j=0
      ·subst U;have L:Hid (R=(ts,E,0)):=ke;clear HT HE;go_wp2_with fail;refine DE.out.mono ?_;rintro e w5 ⟨rfl,rfl⟩;go_wp2_with fail;refine DA.out.mono ?_;rintro e w6 ⟨rfl,rfl⟩;go_wp2_with fail
       go_ret3
       rw[L.out];exact⟨HB.out,fun h=>absurd rfl h,fun _=>⟨gd,size,hs,uT,uH,rfl,HD.out⟩⟩
      ·have gE:(j != 0)=true:=pd;have L:Hid (R=([],0,j)):=HE.out U;have ab:=hid U;clear U HT HE DA;go_wp2_with fail;refine DE.out.mono ?_;rintro e w5 ⟨rfl,rfl⟩;go_wp2_with fail
       go_ret3
       exact Jn L.out ab.out HB.out
  ·have g1:=ig ((x:Int)<n);have cA:=ig (x<n);have av:Hid ((er=0->Z=(G,at_,0))/\(er≠0->Z.2.2=er)):=⟨fun h=>by obtain⟨f,_,h2⟩:=HT.out h;rw[RJ mw]at h2;exact h2.symm,fun h=>(HE.out h).1⟩;clear HT HE;obtain⟨w3,rfl⟩:=ii wr;go_wp2_with fail;have al:Hid ((er=0->R=bkR size ls (G.drop 0) (n-0) at_ [])/\(er≠0->R=([],0,er))):=⟨fun h=>ku,fun h=>kw⟩;have ba:Hid (DAt (w3.alloc (.cells #[(), .int .i64 (size:Nat),()] 254)) w w3 size [] [] (.slice none 0 0) (.slice none 0 0)):=⟨Blk.made _ _ _,AI _ _ _ _,AI _ _ _ _,(fun y h=>by cases h),mw⟩;have bb:Hid (Cur (w3.alloc (.cells #[(), .int .i64 (size:Nat),()] 254)) g w ls B d at_ er):=HC.out.step (aZ (Ag _ _));have bc:Hid ((w3.alloc (.cells #[(), .int .i64 (size:Nat),()] 254)).ownsRow w2 3 1 (.slice va q vc) q (cZ .i64 G)):=HO.out.alloc _;have aq:Hid (Below w w w3):=cd.out.trans (HK.out.below fun b h=>⟨mw,mw⟩);have be:Hid (Below w w (w3.alloc (.cells #[(), .int .i64 (size:Nat),()] 254))):=nZ aq.out.size aq.out;generalize b1:w3.heap.size=gd at *;clear b1 av HR HC HO HK aq;go_loopw [49] (fun iv wr=>∃ (i y E:Nat) (j:Int) (ts hs:List Str) (uT uH:Value),i<=q/\iv= .int .i64 i/\Hid (y=i*size)/\ts.length<=y/\hs.length<=ts.length/\Hid (∀s∈ts,s.length<=25)/\Hid (Cur wr g w ls B d E j)/\Hid (DAt wr w gd size ts hs uT uH)/\Hid (wr.ownsRow w2 3 1 (.slice va q vc) q (cZ .i64 G))/\Hid (Below w w wr)/\Hid (j=0->R=bkR size ls (G.drop i) (n-y) E ts)/\Hid (j≠0->R=([],0,j))) (fun iv _=>q-(intOf iv).toNat)
   case atStart=>exact⟨0,0,at_,er,[],[], .slice none 0 0, .slice none 0 0,mw,rfl,ou,oK,oK,(fun s hs=>by simp at hs),bb.out,ba.out,bc.out,be.out,al.out.1,al.out.2⟩
   case round=>
    obtain⟨i,y,E,j,ts,hs,uT,uH,hi,rfl,HY,cX,bN,b7,HC,HD,HO,HB,HT,HE⟩:=hrel;clear bb ba bc be al;have zr:=HB.out.size;by_cases bn:i<q
    ·have gi:=ic ((i:Int)<q);have cE:=ic (i<q);have cH:y+size<=x:=jr;have cB:=b6.out mw;obtain⟨k,hk⟩:∃k,G[i]? =some k:=⟨_,Az lx⟩;have ay:=HA.out k (Be hk);have Y:G.drop i=k :: G.drop (i+1):=(by obtain⟨hl,e⟩:=Cv.1 hk;rw[Dj hl,e]);obtain⟨gv,cv,bq,cC,_⟩:=HO.out.form mw;injection bq with q1 q2 q3;subst q1 q3;clear q2;have ck:wr.cell? ⟨gv,i,none⟩=some (.int .i64 (k:Nat)):=nu;have cL:(0:Int)<=(i:Int):=mw;have cy:(i:Int)<(q:Int):=mw;have DT:=JC wr g w ls B d E j k bt.out mw HC.out;unfold JH at DT;have hT:j=0->R=bkR size ls (k :: G.drop (i+1)) (n-y) E ts:=fun h=>by rw[<-Y];exact HT.out h
     unfold bkR at hT;have bg:j≠0->BK ls E j k=j:=fun h=>Ab h
     have ai:∀z∈Bu ls E j k,z<=255:=fun z hz=>by
      unfold Bu at hz;split at hz
      ·simp at hz
      ·split at hz
       ·simp at hz
       ·exact H8.out z (BY (CV hz))
     have cr:=Sx ls E j k;have a9:j=0->BK ls E 0 k=BK ls E j k/\Bu ls E 0 k=Bu ls E j k/\takeA ls E 0 k=takeA ls E j k:=fun h=>by subst h;exact⟨rfl,rfl,rfl⟩
     have N:Hid (j=0->R=if BK ls E j k≠0 then([],0,BK ls E j k)else if(CP (Bu ls E j k) (min size (n-y)) true 0 ts).2≠0 then([],0,(CP (Bu ls E j k) (min size (n-y)) true 0 ts).2)else bkR size ls (G.drop (i+1)) (n-y-size) (takeA ls E j k) (CP (Bu ls E j k) (min size (n-y)) true 0 ts).1):=fun h=>mv
     have ah:=hid bg;have HK:=hid hk;generalize BK ls E j k=e3 at *;generalize Bu ls E j k=pt at *;generalize takeA ls E j k=a3 at *;have a4:=hid ai;have DT:=hid DT;clear Y hk hT bg ai a9 HT;go_wp2_with fail;refine DT.out.mono ?_;rintro e w4 ⟨v4,rfl,M,af,J⟩;obtain⟨Ap,cp,rfl⟩:=bZ M;have z4:=J.size;have ak:=hid af;have ae:Hid (DAt w4 w gd size ts hs uT uH):=HD.out.oth HC.out.blk J;have ac:Hid (w4.ownsRow w2 3 1 (.slice (some ⟨gv,0,none⟩) q vc) q (cZ .i64 G)):=eZ HO.out (fun z hz=>J.block z ⟨(Aj HO.out z hz).2,by have:=(Aj HO.out z hz).1;omega⟩);have ar:Hid (Below w w w4):=HB.out.trans (J.below fun b h=>⟨mw,mw⟩);have ax:=hid M;have DE:=hid (Dl w4 g w ls B d a3 e3 af);clear M af J DT HC HD HO HB ck;go_wp2_with fail;refine DE.out.mono ?_;rintro e w5 ⟨rfl,rfl⟩;by_cases Q:e3=0
     ·subst Q;have aj:j=0:=Nn fun h=>h (ah.out h).symm;have hr:=N.out aj;rw[Aa (show ¬((0:Int)≠0) from fun h=>h rfl)]at hr;obtain⟨r,a1⟩:=ii (n-y);obtain⟨mn,am⟩:=ii (min size r);have sy:IntKind.i64.wrap ((i:Int)*(size:Int))=(y:Int):=n5;have sr:IntKind.i64.wrap ((n:Int)-(y:Int))=(r:Int):=m8;have cS:min (size:Int) (r:Int)=(mn:Int):=mw;rw[<-a1,<-am]at hr;have DF:=Uc w5 Ap pt.length cp mn w gd size pt ts hs uT uH rfl mw a4.out (Jh ax.out) (own_row ax.out) mw ae.out b7.out mw bN;have aw:=Ls pt mn true 0 ts;generalize CP pt mn true 0 ts=F at *;obtain⟨f1,f2⟩:=F;simp only at hr aw;have cj:mn<=size:=(by rw[am];exact Nat.min_le_left _ _);have bd:Hid (r-size=n-(y+size)):=ou;have DF:=hid DF;have ag:=hid hr;clear hr ax N ah a4 am DE a1 aj;go_wp2_with fail;refine DF.out.mono ?_;rintro e w6 ⟨rfl,aa,au⟩;have a5:Hid (Below w w w6):=ar.out.trans (aa.below fun b hb=>Ru ae.out mw hb);by_cases hf:f2=0
      ·subst hf;obtain⟨bf,h6,bu,bS,az,_,_,bh⟩:=au rfl;have b3:=hid (TK ak.out ae.out aa);have b4:Hid (w6.ownsRow w2 3 1 (.slice (some ⟨gv,0,none⟩) q vc) q (cZ .i64 G)):=eZ ac.out (fun z hz=>aa.block z (N6 ae.out ac.out ip ip hz));have cc:=hid az;have bp:=hid bf;have b5:=aw rfl;have bl:Hid (R=bkR size ls (G.drop (i+1)) (n-(y+size)) a3 f1):=km;have b8:Hid (y+size=(i+1)*size):=(by show _=_;rw[IR,HY.out]);have b0:f1.length<=y+size:=mw;simp only at bh;clear aa au bf az ag DF ak ae ac ar b5 aw bd;go_wp2_with fail;go_roundw
       case measure=>exact jo
       case rel=>exact jd
      ·have gE:(f2 != 0)=true:=(by simpa using hf);have L:Hid (R=([],0,f2)):=(by have h:=ag.out;rw[Ab hf]at h;exact h);have ab:=hid hf;clear hf ag au aa DF HE;go_wp2_with fail
       go_ret3
       exact Jn L.out ab.out a5.out
     ·have gE:(e3 != 0)=true:=by simpa using Q
      have L:Hid (R=([],0,e3)):=by
       by_cases h:j=0
       ·have h2:=N.out h;rw[Ab Q]at h2;exact h2
       ·rw[ah.out h];exact HE.out h
      have ab:=hid Q;clear Q N HE ah DE;go_wp2_with fail
      go_ret3
      exact Jn L.out ab.out ar.out
    ·obtain rfl:i=q:=by omega
     have gi:=ig ((i:Int)<i);have DE:=hid (Dl wr g w ls B d E j HC.out);have DA:=hid (Jq wr g w ls B d E j HC.out);by_cases U:j=0
     ·subst U;have L:Hid (R=(ts,E,0)):=ke;clear HT HE;go_wp2_with fail;refine DE.out.mono ?_;rintro e w5 ⟨rfl,rfl⟩;go_wp2_with fail;refine DA.out.mono ?_;rintro e w6 ⟨rfl,rfl⟩;go_wp2_with fail
      go_ret3
      rw[L.out];exact⟨HB.out,fun h=>absurd rfl h,fun _=>⟨gd,size,hs,uT,uH,rfl,HD.out⟩⟩
     ·have gE:(j != 0)=true:=pd;have L:Hid (R=([],0,j)):=HE.out U;have ab:=hid U;clear U HT HE DA;go_wp2_with fail;refine DE.out.mono ?_;rintro e w5 ⟨rfl,rfl⟩;go_wp2_with fail
      go_ret3
      exact Jn L.out ab.out HB.out
end Idx
end Go.Proofs.YtfgdoknipbpfhaaGreatDoor
