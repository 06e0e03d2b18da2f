/- A number's high and  -/
import Derived.Test.YtfgdoknipbpfhaaGreatDoorZBodyOpened25
import Derived.Test.YtfgdoknipbpfhaaGreatDoorZBodyOpened22
namespace Go.Proofs.YtfgdoknipbpfhaaGreatDoor
open Go.Proofs.Tryz
open Go.Lib (hid)
set_option maxHeartbeats 4000000
set_option maxRecDepth 100000
variable{e t:TypeId}{w w' w1 w3:World}{W b2 base c g gd i k m n s x y:Nat}{hs j ls:List Nat}{u uH uT v' v3 vH vL x2:Value}{xs:List Value}{er:Int}{A:Option Addr}
namespace Ef
open Go.RowKit Mem Own Canon Huff NumPut
structure Prt (t:TypeId) (w:World) (base g W:Nat) (hs ls:List Nat) (vH vL:Value):Prop where
 blk:Blk w g t #[.int .i64 (W:Nat),vH,vL]
 oh:w.ownsRow base 3 1 vH hs.length (cZ .i64 hs)
 ol:w.ownsRow base 25 1 vL ls.length (cZ .u16 ls)
 gb:base<=g
theorem V4:(prog.info? 25).map (fun i=>(i.zero,i.size,i.bytes))=some (some (.int .u16 0),1,2):=mr
theorem SQ:(prog.info? 3).map (fun i=>(i.zero,i.size,i.bytes))=some (some (.int .i64 0),1,8):=mr
theorem Prt.highs(j:3≠t)(z:25≠t)(h:Prt t w base g W hs ls vH vL)(hb:Below w w w1)(hg:w1.grownBy w3 vH.ownBlock)
 (i:w3.ownsRow base 3 1 v3 (hs.length+1) (cZ .i64 hs++ [.int .i64 (x:Nat)])):Prt t (w3.setCell ⟨g,1,none⟩ v3) base g W (hs++ [x]) ls v3 vL:=by
 have G:vH.ownBlock≠some g:=gZ h.oh h.blk j;have b1:=h.blk.step hb;have b3:Blk w3 g t #[.int .i64 (W:Nat),vH,vL]:=b1.grown hg (AZ G);have o1:w1.ownsRow base 25 1 vL ls.length (cZ .u16 ls):=eZ h.ol (fun y hy=>hb.block y (Am h.ol y hy).2)
 have o3:w3.ownsRow base 25 1 vL ls.length (cZ .u16 ls):=eZ o1 (fun y hy=>hg.block y (Am o1 y hy).2 (fun e=>by
  rcases EZ h.oh h.ol ip with e2|e2
  ·rw[e2]at e;cases e
  ·exact e2 (by rw[<-e,hy])))
 have J:v3.ownBlock≠some g:=gZ i b3 j;have E:vL.ownBlock≠some g:=gZ o3 b3 z;refine⟨by simpa using b3.set 1 v3,?_,eZ o3 (fun y hy=>AV _ _ _ y (fun e=>E o6)),h.gb⟩;have e1:cZ .i64 (hs++ [x])=cZ .i64 hs++ [.int .i64 (x:Nat)]:=pT
 rw[Aj,e1];exact eZ i (fun y hy=>AV _ _ _ y (fun e=>J o6))
theorem Prt.lows(E:3≠t)(j:25≠t)(h:Prt t w base g W hs ls vH vL)(hb:Below w w w1)(hg:w1.grownBy w3 vL.ownBlock)
 (i:w3.ownsRow base 25 1 v3 (ls.length+1) (cZ .u16 ls++ [.int .u16 (x:Nat)])):Prt t (w3.setCell ⟨g,2,none⟩ v3) base g W hs (ls++ [x]) vH v3:=by
 have G:vL.ownBlock≠some g:=gZ h.ol h.blk j;have b1:=h.blk.step hb;have b3:Blk w3 g t #[.int .i64 (W:Nat),vH,vL]:=b1.grown hg (AZ G);have o1:w1.ownsRow base 3 1 vH hs.length (cZ .i64 hs):=eZ h.oh (fun y hy=>hb.block y (Am h.oh y hy).2)
 have o3:w3.ownsRow base 3 1 vH hs.length (cZ .i64 hs):=eZ o1 (fun y hy=>hg.block y (Am o1 y hy).2 (fun e=>by
  rcases EZ h.ol h.oh ip with e2|e2
  ·rw[e2]at e;cases e
  ·exact e2 (by rw[<-e,hy])))
 have J:v3.ownBlock≠some g:=gZ i b3 j;have z:vH.ownBlock≠some g:=gZ o3 b3 E;refine⟨by simpa using b3.set 2 v3,eZ o3 (fun y hy=>AV _ _ _ y (fun e=>z o6)),?_,h.gb⟩;have e1:cZ .u16 (ls++ [x])=cZ .u16 ls++ [.int .u16 (x:Nat)]:=pT
 rw[Aj,e1];exact eZ i (fun y hy=>AV _ _ _ y (fun e=>J o6))
theorem m4:∀n:Int,0<=n->n<2 ^ 20->IntKind.i64.wrap n=n:=fun n h0 h1=>Aw _ mz
theorem jF(x W:Nat)(hx:x<=100000)(hW:W<=14):IntKind.u16.wrap (bits .and .i64 (x:Int) (IntKind.i64.wrap (IntKind.i64.wrap (2 ^ W)-1)))=((x % 2 ^ W:Nat):Int):=by
 have h1:2 ^ W<=2 ^ 14:=Cl mz hW;have h0:1<=2 ^ W:=Nat.one_le_two_pow;have e0:((2:Int) ^ W)=((2 ^ W:Nat):Int):=pI
 have h:x % 2 ^ W<2 ^ W:=Nat.mod_lt _ mz;rw[e0,Aw ((2 ^ W:Nat):Int) mz];have e1:(((2 ^ W:Nat):Int)-1)=((2 ^ W-1:Nat):Int):=mz
 rw[e1,Aw ((2 ^ W-1:Nat):Int) mz,(bits_nat .i64 20 ip m4 x (2 ^ W-1) mz mz).1,NG,IntKind.wrap_u16];omega
theorem SB(t:TypeId)(Z:3≠t)(ab:25≠t)(w:World)(base g W:Nat)(hs ls:List Nat)(vH vL:Value)(x:Nat)(hx:x<=100000)(hW:W<=14)(hh:hs.length<=100000)(hl:ls.length<=100000)(hP:Prt t w base g W hs ls vH vL):
 Calls prog 174 #[.pointer (some ⟨g,0,none⟩), .int .i64 (x:Nat)] w fun e w'=>e= .returned (.tuple #[])/\∃vH' vL',Prt t w' base g W (hs++ [x / 2 ^ W]) (ls++ [x % 2 ^ W]) vH' vL'/\Below base w w'/\Kept (fun y=>y<w.heap.size/\y≠g/\vH.ownBlock≠some y/\vL.ownBlock≠some y) w w'/\(∀y,y<w.heap.size->vL'.ownBlock=some y->vL.ownBlock=some y):=by
 obtain⟨j0,a3,a6,ar,au⟩:=info_parts SQ;obtain⟨k0,az,al,aq,ay⟩:=info_parts V4;have c0:=hP.blk.ia 0;have c1:=hP.blk.ia 1;have c2:=hP.blk.ia 2;have f1:=hP.blk.frozen 1;have f2:=hP.blk.frozen 2;have av:=hP.blk.lt;have ae:=hP.gb;have J:=hP.oh;have ai:some g≠vH.ownBlock:=AZ (gZ hP.oh hP.blk Z);obtain⟨p,hp⟩:=ii hs.length;obtain⟨q,hq⟩:=ii ls.length;rw[<-hp]at J hh;obtain⟨AH,cH,rfl⟩:=bZ J;have HP:=hid hP;have a0:=hid hp;have aa:=hid hq;have am:=hid hl;obtain⟨hi,U⟩:=ii (x / 2 ^ W);obtain⟨lo,Q⟩:=ii (x % 2 ^ W);rw[<-U,<-Q];have eh:(x:Int) / 2 ^ W=(hi:Int):=by rw[U];simp
 have el:IntKind.u16.wrap (bits .and .i64 (x:Int) (IntKind.i64.wrap (IntKind.i64.wrap (2 ^ W)-1)))=(lo:Int):=by rw[Q];exact jF x W hx hW
 have bb:=hid U;have bc:=hid Q;clear hP hp hq U Q hl;go_enter func174,ntmps174;go_upto_region 0 with fail;go_region_law((refine step_append_lies _ nc _ _ _ nc base 3 j0 _ 1 8 underlying37 a3 a6 ar au rfl mz (.slice AH p cH) p (cZ .i64 hs) nc ((J.alloc _).drew) ⟨w,0,none⟩ 1 1 [.int .i64 (hi:Nat)] nc nc (World.news_of_block (cs:=#[.int .i64 (hi:Nat)]) (t:=3) (fr:=(0,0)) (heap_alloc_new w _)) mp mz qg mz pQ (w.heap.size+1) pI ?_;intro g3 z w3 N j a4 af;have gb:w3.heap[g]? =w.heap[g]? :=(j.block g pQ ai).trans (Ed w _ g av);have p0:=(World.cell?_of_block (a:=⟨g,0,none⟩) gb).trans c0;have p1:=(World.cell?_of_block (a:=⟨g,1,none⟩) gb).trans c1;have p2:=(World.cell?_of_block (a:=⟨g,2,none⟩) gb).trans c2;have q1:=(World.frozen?_of_block (a:=⟨g,1,none⟩) gb).trans f1))
 all_goals
  have E:Prt t (w3.setCell ⟨g,1,none⟩ (.slice (some ⟨g3,0,none⟩) (p+1) z)) base g W (hs++ [hi]) ls (.slice (some ⟨g3,0,none⟩) (p+1) z) vL:=HP.out.highs Z ab (aZ (Ag _ w)).drew j (by rw[<-a0.out];exact N);have ah:Below base w (w3.setCell ⟨g,1,none⟩ (.slice (some ⟨g3,0,none⟩) (p+1) z)):=(((Ag base w).alloc mz _).drew.grown j pQ (fun y hy=>(Am J y hy).1)).setCell (p:=⟨g,1,none⟩) ae _;have aj:Hid (Kept (fun y=>y<w.heap.size/\y≠g/\(Value.slice AH p cH).ownBlock≠some y/\vL.ownBlock≠some y) w (w3.setCell ⟨g,1,none⟩ (.slice (some ⟨g3,0,none⟩) (p+1) z))):=((((Kept.refl _ w).alloc (fun y hy=>hy.1) _).drew.grown j (fun y hy=>by have:=hy.1;simp;omega) (fun y hy hk=>hk.2.2.1 hy))).set (fun h=>h.2.1 rfl) _;generalize w3.setCell ⟨g,1,none⟩ (.slice (some ⟨g3,0,none⟩) (p+1) z)=wb at *;clear N j a4 af gb p0 p1 p2 q1;have a9:=hid ah;have d0:=E.blk.ia 0;have d2:=E.blk.ia 2;have e2:=E.blk.frozen 2;have ak:=E.blk.lt;have G:=E.ol;have ag:some g≠vL.ownBlock:=AZ (gZ E.ol E.blk ab);rw[<-aa.out]at G;obtain⟨AL,cL,rfl⟩:=bZ G;have aw:=hid E;have bd:q<=100000:=by rw[aa.out];exact am.out
  clear E ah c0 c1 c2 f1 f2 ai J;go_upto_region 1 with fail;go_region_law((refine step_append_lies _ nc _ _ _ nc base 25 k0 _ 1 2 underlying227 az al aq ay rfl mz (.slice AL q cL) q (cZ .u16 ls) nc ((G.alloc _).drew) ⟨wb,0,none⟩ 1 1 [.int .u16 (lo:Nat)] nc nc (World.news_of_block (cs:=#[.int .u16 (lo:Nat)]) (t:=25) (fr:=(0,0)) (heap_alloc_new wb _)) mp mz qg mz pQ (wb.heap.size+1) pI ?_;intro g4 M w4 ac i Y ba;have gb:w4.heap[g]? =wb.heap[g]? :=(i.block g pQ ag).trans (Ed wb _ g ak);have p0:=(World.cell?_of_block (a:=⟨g,0,none⟩) gb).trans d0;have p2:=(World.cell?_of_block (a:=⟨g,2,none⟩) gb).trans d2;have q2:=(World.frozen?_of_block (a:=⟨g,2,none⟩) gb).trans e2))
  all_goals
   have a1:Prt t (w4.setCell ⟨g,2,none⟩ (.slice (some ⟨g4,0,none⟩) (q+1) M)) base g W (hs++ [hi]) (ls++ [lo]) (.slice (some ⟨g3,0,none⟩) (p+1) z) (.slice (some ⟨g4,0,none⟩) (q+1) M):=aw.out.lows Z ab (aZ (Ag _ wb)).drew i (by rw[<-aa.out];exact ac);have a5:Below base w (w4.setCell ⟨g,2,none⟩ (.slice (some ⟨g4,0,none⟩) (q+1) M)):=((a9.out.alloc mz _).drew.grown i pQ (fun y hy=>(Am G y hy).1)).setCell (p:=⟨g,2,none⟩) ae _;have zz:=aj.out.size;have ax:Hid (Kept (fun y=>y<w.heap.size/\y≠g/\(Value.slice AH p cH).ownBlock≠some y/\(Value.slice AL q cL).ownBlock≠some y) w (w4.setCell ⟨g,2,none⟩ (.slice (some ⟨g4,0,none⟩) (q+1) M))):=(((aj.out.alloc (fun y hy=>by have:=hy.1;omega) _).drew.grown i (fun y hy=>by have:=hy.1;simp;omega) (fun y hy hk=>hk.2.2.2 hy))).set (fun h=>h.2.1 rfl) _
   have an:Hid (∀y,y<w.heap.size->(Value.slice (some ⟨g4,0,none⟩) (q+1) M).ownBlock=some y->(Value.slice AL q cL).ownBlock=some y):=fun y hy he=>by
    rcases Y with h|h
    ·rw[h];exact he
    ·have e:g4=y:=(by injection he);omega
   clear Y;go_wp2_with fail
   go_end0
   exact⟨rfl,_,_,a1,a5,ax.out,an.out⟩
theorem iP(t:TypeId)(i:3≠t)(h:25≠t)(w:World)(base g W:Nat)(hs ls:List Nat)(vH vL:Value)(x:Nat)(hx:x<=100000)(hW:W<=14)(hh:hs.length<=100000)(hl:ls.length<=100000)(hP:Prt t w base g W hs ls vH vL):
 Calls prog 174 #[.pointer (some ⟨g,0,none⟩), .int .i64 (x:Nat)] w fun e w'=>e= .returned (.tuple #[])/\∃vH' vL',Prt t w' base g W (hs++ [x / 2 ^ W]) (ls++ [x % 2 ^ W]) vH' vL'/\Below base w w':=
 (SB t i h w base g W hs ls vH vL x hx hW hh hl hP).mono fun _ _ ⟨h1,vH',vL',h2,h3,_⟩=>⟨h1,vH',vL',h2,h3⟩
end Ef
namespace Body
open Go.RowKit Mem Own Canon Nums
theorem own_far{e':TypeId}{s' n':Nat}{v:Value}{z:List Value}(h:w.ownsRow base e s v n xs)(h2:w.ownsRow i e' s' v' n' z)(j:e'≠e)(hg:w.grownBy w' v'.ownBlock):w'.ownsRow base e s v n xs:=
 eZ h fun y hy=>hg.block y (Am h y hy).2 fun e2=>by
  rcases EZ h2 h j with e3|e3
  ·rw[e3]at e2;cases e2
  ·exact e3 (by rw[<-e2,hy])
theorem Sr{P:Program}{j:Array Oper}{o:Oper}{a:Act}{K:Act->World->Prop}{Q:Exit->Act->World->Prop}{E:Prop}(y:o.guard=none)(s x:Operand)(t:TypeId)
 (ho:o.op= .call {callee:= .builtin .append,args:=#[s,x],argTypes:=#[t,t] })
 (base:Nat)(e:TypeId)(i:TypeInfo)(z:Value)(size bytes:Nat)(ht:P.underlying t=some (.slice e))(hi:P.info? e=some i)(hz:i.zero=some z)
 (hsize:i.size=size)(hby:i.bytes=bytes)(hzs:z.cells.size=size)(hsz:0<size)
 (v:Value)(n:Nat)(xs:List Value)(hs:a.eval s=v)(hown:w.ownsRow base e size v n xs)
 (A:Option Addr)(m c:Nat)(news:List Value)(hx:a.eval x= .slice A m c)(hsrc:Src w A m c size news)(h1:∀u∈news,u.oneCell'=true)
 (h63:n+m<=maxLen)(hbytes:(n+m)*bytes<=140737488355328)(hbase:base<=w.heap.size)
 (h:∀A' c' w',w'.ownsRow base e size (.slice A' (n+m) c') (n+m) (xs++news)->w.grownBy w' v.ownBlock->((Value.slice A' (n+m) c').ownBlock=v.ownBlock∨(Value.slice A' (n+m) c').ownBlock=some w.heap.size)->K (a.put o.dst (.slice A' (n+m) c')) w'):
 if Region.wanted o (yielded j a.tmps)=true then Oper.wp P o a w K Q else E:=by
 have hw:Region.wanted o (yielded j a.tmps)=true:=by simp[Region.wanted,y]
 rw[Ae hw];obtain⟨v',w',hr,h2,h3,h4⟩:=Lc (P:=P) w base t o.type e i z size bytes ht hi hz hsize hby hzs hsz v n xs hown A m c news hsrc h1 h63 hbytes hbase;obtain⟨A',c',rfl⟩:=bZ h2;unfold Oper.wp execOp;simp only[ho,resolve,invoke,builtin,Sem.run_bind,Sem.run_pure,Result.andThen_ok,List.map_toArray,List.map_cons,List.map_nil,hs,hx,hr];exact h A' c' w' h2 h3 h4
def EF(rec:Nat)(ls:List Nat):Nat->Nat->Int->List Nat->List Nat->List Nat×List Nat×Nat×Int
 |0,at_,er,cs,ss=>(cs,ss,at_,er)
 |k+1,at_,er,cs,ss=>if er≠0 then(cs,ss,at_,er)else EF rec ls k (AM 8388608 ls (AM rec ls at_ 0) (AO rec ls at_ 0)) (AO 8388608 ls (AM rec ls at_ 0) (AO rec ls at_ 0)) (cs++ [Ba rec ls at_ 0]) (ss++ [Ba 8388608 ls (AM rec ls at_ 0) (AO rec ls at_ 0)])
theorem gS{rec:Nat}{at_:Nat}{cs ss:List Nat}(h:er≠0):EF rec ls k at_ er cs ss=(cs,ss,at_,er):=by
 cases k with
 |zero=>rfl
 |succ k=>exact Ae h
def Ek(ls:List Nat):Nat:=Ba 20000 ls 0 0
def G7(ls:List Nat):Nat:=Ba (Ek ls) ls (AM 20000 ls 0 0) (AO 20000 ls 0 0)
def Gk(ls:List Nat):List Nat×List Nat×Nat×Int:=EF (Ek ls) ls (G7 ls) (AM (Ek ls) ls (AM 20000 ls 0 0) (AO 20000 ls 0 0)) (AO (Ek ls) ls (AM 20000 ls 0 0) (AO 20000 ls 0 0)) [] []
def Dp(ls:List Nat):List Nat:=(Gk ls).1
def Ea(ls:List Nat):List Nat:=(Gk ls).2.1
def dP(ls:List Nat):Nat:=Ba 8388608 ls (Gk ls).2.2.1 (Gk ls).2.2.2
def dPA(ls:List Nat):Nat:=AM 8388608 ls (Gk ls).2.2.1 (Gk ls).2.2.2
def dPE(ls:List Nat):Int:=AO 8388608 ls (Gk ls).2.2.1 (Gk ls).2.2.2
def dQ(ls:List Nat):Nat:=Ba 8388608 ls (dPA ls) (dPE ls)
def dE(ls:List Nat):Int:=Gu ls (AM 8388608 ls (dPA ls) (dPE ls)) (AO 8388608 ls (dPA ls) (dPE ls))
def Gj(room:Nat)(ls:List Nat):Int:=if dE ls≠0 then dE ls else if 0∈Dp ls∨(Dp ls).sum≠Ek ls∨(Ea ls).sum+dP ls+dQ ls≠room then 2 else 0
theorem NJ{rec:Nat}{ls:List Nat}:∀ (k at_:Nat) (er:Int) (cs ss:List Nat),cs.length=ss.length->(EF rec ls k at_ er cs ss).1.length=(EF rec ls k at_ er cs ss).2.1.length/\(EF rec ls k at_ er cs ss).1.length<=cs.length+k/\((EF rec ls k at_ er cs ss).2.2.2=0->(EF rec ls k at_ er cs ss).1.length=cs.length+k)
 |0,_,_,_,_,h=>⟨h,Aq _,fun _=>rfl⟩
 |k+1,at_,er,cs,ss,h=>by
  unfold EF;split
  ·rename_i he;exact⟨h,Nat.le_add_right _ _,fun h2=>absurd h2 he⟩
  ·obtain⟨h1,h2,h3⟩:=NJ (rec:=rec) (ls:=ls) k (AM 8388608 ls (AM rec ls at_ 0) (AO rec ls at_ 0)) (AO 8388608 ls (AM rec ls at_ 0) (AO rec ls at_ 0)) (cs++ [Ba rec ls at_ 0]) (ss++ [Ba 8388608 ls (AM rec ls at_ 0) (AO rec ls at_ 0)]) (by rw[Aj,Aj,h];rfl);rw[Aj]at h2 h3;exact⟨h1,by simp at h2;omega,fun h4=>by have:=h3 h4;simp at this;omega⟩
theorem UA{rec:Nat}{ls:List Nat}(h8:∀x∈ls,x<=255):∀ (k at_:Nat) (er:Int) (cs ss:List Nat),(∀x∈cs,x<=rec)->(∀x∈ss,x<=8388608)->(∀x∈(EF rec ls k at_ er cs ss).1,x<=rec)/\(∀x∈(EF rec ls k at_ er cs ss).2.1,x<=8388608)
 |0,_,_,_,_,h,h2=>⟨h,h2⟩
 |k+1,at_,er,cs,ss,h,h2=>by
  unfold EF;split
  ·exact⟨h,h2⟩
  ·refine UA h8 k _ _ _ _ (fun x hx=> ?_) (fun x hx=> ?_)
   ·rcases BJ.1 hx with h'|h'
    ·exact h x h'
    ·rw[Eu]at h';rw[h'];exact Gb h8 _ _
   ·rcases BJ.1 hx with h|h'
    ·exact h2 x h
    ·rw[Eu]at h';rw[h'];exact Gb h8 _ _
theorem KR:∀ (l:List Nat) (m:Nat),(∀x∈l,x<=m)->l.sum<=l.length*m
 | [],_,_=>pI
 |x :: l,m,h=>by rw[GI,AI,I1];have h1:=KR l m (fun y hy=>h y (BW _ hy));have h2:=h x (CD ..);omega
structure DrI (w wr:World) (gb:Nat) (t:TypeId) (rest:List Value) (g:Nat) (ls:List Nat) (B:Option Addr) (d at_:Nat) (er:Int) (C S:List Nat) (vc vs:Value):Prop where
 cur:Cur wr g w ls B d at_ er
 blk:Blk wr gb t (vc :: vs :: rest).toArray
 oc:wr.ownsRow w 3 1 vc C.length (cZ .i64 C)
 os:wr.ownsRow w 3 1 vs S.length (cZ .i64 S)
 ap:∀y,vc.ownBlock=some y->vs.ownBlock≠some y
 kept:Kept (fun x=>x<w.heap.size/\x≠gb) w wr
 lt:gb<w.heap.size
 ti:3≠t
 tu:5≠t
section
variable {w wr w1 w2 w3:World} {gb:Nat} {t:TypeId} {rest:List Value} {g:Nat} {ls:List Nat} {B:Option Addr} {d at_ a2:Nat} {er e2:Int} {C S:List Nat} {vc vs v3:Value} {x:Nat}
theorem DrI.call(h:DrI w wr gb t rest g ls B d at_ er C S vc vs)(j:Cur w2 g w ls B d a2 e2)(i:Kept (BD g wr) wr w2):DrI w w2 gb t rest g ls B d a2 e2 C S vc vs:=
 have hz:=h.kept.size;have E:=h.cur.lo;have z:=h.lt
 ⟨j,(i.block gb ⟨h.blk.lt,mz⟩).trans h.blk,eZ h.oc (fun y hy=>i.block y ⟨(Am h.oc y hy).2,fun e=>gZ h.oc h.cur.blk ip (e ▸ hy)⟩),eZ h.os (fun y hy=>i.block y ⟨(Am h.os y hy).2,fun e=>gZ h.os h.cur.blk ip (e ▸ hy)⟩),h.ap,h.kept.trans ⟨i.os,i.tape,i.output,i.size,fun y hy=>i.block y ⟨mh,mh⟩⟩,h.lt,h.ti,h.tu⟩
theorem DrI.cs(h:DrI w wr gb t rest g ls B d at_ er C S vc vs):wr.cell? ⟨gb,0,none⟩=some vc/\wr.cell? ⟨gb,1,none⟩=some vs:=by have h0:=h.blk.ia 0;have h1:=h.blk.ia 1;exact⟨h0,h1⟩
theorem DrI.third{x2:Value}(h:DrI w wr gb t (x2 :: rest) g ls B d at_ er C S vc vs){u:Value}:DrI w (wr.setCell ⟨gb,2,none⟩ u) gb t (u :: rest) g ls B d at_ er C S vc vs:=by have j:=h.cur.lo;have i:=h.lt;exact⟨⟨h.cur.blk.far pG _,BZ h.cur.own (gZ h.cur.own h.blk h.tu) _,h.cur.le,h.cur.lo⟩,by simpa using h.blk.set 2 u,BZ h.oc (gZ h.oc h.blk h.ti) _,BZ h.os (gZ h.os h.blk h.ti) _,h.ap,h.kept.set (fun hk=>hk.2 rfl) _,h.lt,h.ti,h.tu⟩
theorem DrI.fourth{x2 x3:Value}(h:DrI w wr gb t (x2 :: x3 :: rest) g ls B d at_ er C S vc vs){u:Value}:DrI w (wr.setCell ⟨gb,3,none⟩ u) gb t (x2 :: u :: rest) g ls B d at_ er C S vc vs:=by have j:=h.cur.lo;have i:=h.lt;exact⟨⟨h.cur.blk.far pG _,BZ h.cur.own (gZ h.cur.own h.blk h.tu) _,h.cur.le,h.cur.lo⟩,by simpa using h.blk.set 3 u,BZ h.oc (gZ h.oc h.blk h.ti) _,BZ h.os (gZ h.os h.blk h.ti) _,h.ap,h.kept.set (fun hk=>hk.2 rfl) _,h.lt,h.ti,h.tu⟩
theorem own_ints{y:List Nat}(h:w.ownsRow base 3 1 (.slice A n c) n (cZ .i64 y))(hn:y.length=n):Row w w A n 1 (jZ .i64 y):=
 Row.of_own h rfl fun i j hi hj=>by
  obtain rfl:j=0:=mz
  unfold cZ;rw[CG,Bj,BE,AD mz];unfold jZ;rw[Ar,AD mz];rfl
theorem DrI.count(h:DrI w wr gb t rest g ls B d at_ er C S vc vs)(hb:Below wr wr w1)(hg:w1.grownBy w3 vc.ownBlock)(i:w3.ownsRow w 3 1 v3 (C.length+1) (cZ .i64 C++ [.int .i64 (x:Nat)]))(z:v3.ownBlock=vc.ownBlock∨v3.ownBlock=some w1.heap.size):
 DrI w (w3.setCell ⟨gb,0,none⟩ v3) gb t rest g ls B d at_ er (C++ [x]) S v3 vs:=by
 have b3:=(h.blk.step hb).grown hg (AZ (gZ h.oc h.blk h.ti));have o1:w1.ownsRow w 3 1 vs S.length (cZ .i64 S):=eZ h.os (fun y hy=>hb.block y (Am h.os y hy).2);have o3:w3.ownsRow w 3 1 vs S.length (cZ .i64 S):=eZ o1 (fun y hy=>hg.block y (Am o1 y hy).2 (fun e=>h.ap y e.symm hy));have c1:=h.cur.step hb;have j:w1.ownsRow w 3 1 vc C.length (cZ .i64 C):=eZ h.oc (fun y hy=>hb.block y (Am h.oc y hy).2);have c3:Cur w3 g w ls B d at_ er:=⟨c1.blk.grown hg (AZ (gZ j c1.blk ip)),own_far c1.own j ip hg,c1.le,c1.lo⟩;have G:=h.cur.lo;have E:=h.lt;refine⟨⟨c3.blk.far pG _,BZ c3.own (gZ c3.own b3 h.tu) _,c3.le,c3.lo⟩,by simpa using b3.set 0 v3,?_,BZ o3 (gZ o3 b3 h.ti) _,?_,?_,h.lt,h.ti,h.tu⟩
 ·rw[Aj,show cZ .i64 (C++ [x])=cZ .i64 C++ [.int .i64 (x:Nat)] by simp[cZ]];exact BZ i (gZ i b3 h.ti) _
 ·intro y hy hh;rcases z with e|e
  ·exact h.ap y (by rw[<-e];exact hy) hh
  ·rw[e]at hy;injection hy with hy;have:=(Am h.os y hh).2;have:=hb.size;omega
 ·have hz:=h.kept.size;exact((h.kept.trans (Kept.of_below hb (fun y hy=>by have:=hy.1;omega))).grown hg (fun y hy=>by have:=hy.1;have:=hb.size;omega) (fun y hy hk=>by have:=(Am h.oc y hy).1;have:=hk.1;omega)).set (fun hk=>hk.2 rfl) _
theorem DrI.size(h:DrI w wr gb t rest g ls B d at_ er C S vc vs)(hb:Below wr wr w1)(hg:w1.grownBy w3 vs.ownBlock)(i:w3.ownsRow w 3 1 v3 (S.length+1) (cZ .i64 S++ [.int .i64 (x:Nat)]))(z:v3.ownBlock=vs.ownBlock∨v3.ownBlock=some w1.heap.size):
 DrI w (w3.setCell ⟨gb,1,none⟩ v3) gb t rest g ls B d at_ er C (S++ [x]) vc v3:=by
 have b3:=(h.blk.step hb).grown hg (AZ (gZ h.os h.blk h.ti));have o1:w1.ownsRow w 3 1 vc C.length (cZ .i64 C):=eZ h.oc (fun y hy=>hb.block y (Am h.oc y hy).2);have o3:w3.ownsRow w 3 1 vc C.length (cZ .i64 C):=eZ o1 (fun y hy=>hg.block y (Am o1 y hy).2 (fun e=>h.ap y hy e.symm));have c1:=h.cur.step hb;have j:w1.ownsRow w 3 1 vs S.length (cZ .i64 S):=eZ h.os (fun y hy=>hb.block y (Am h.os y hy).2);have c3:Cur w3 g w ls B d at_ er:=⟨c1.blk.grown hg (AZ (gZ j c1.blk ip)),own_far c1.own j ip hg,c1.le,c1.lo⟩;have G:=h.cur.lo;have E:=h.lt;refine⟨⟨c3.blk.far pG _,BZ c3.own (gZ c3.own b3 h.tu) _,c3.le,c3.lo⟩,by simpa using b3.set 1 v3,BZ o3 (gZ o3 b3 h.ti) _,?_,?_,?_,h.lt,h.ti,h.tu⟩
 ·rw[Aj,show cZ .i64 (S++ [x])=cZ .i64 S++ [.int .i64 (x:Nat)] by simp[cZ]];exact BZ i (gZ i b3 h.ti) _
 ·intro y hy hh;rcases z with e|e
  ·exact h.ap y hy (by rw[<-e];exact hh)
  ·rw[e]at hh;injection hh with hh;have:=(Am h.oc y hy).2;have:=hb.size;omega
 ·have hz:=h.kept.size;exact((h.kept.trans (Kept.of_below hb (fun y hy=>by have:=hy.1;omega))).grown hg (fun y hy=>by have:=hy.1;have:=hb.size;omega) (fun y hy hk=>by have:=(Am h.os y hy).1;have:=hk.1;omega)).set (fun hk=>hk.2 rfl) _
end
end Body
namespace Idx
open Go.RowKit Mem Own Canon Sift
open NumPut Recs Crc Block
theorem Qh(s:Str):BF (bs s)=Dc s:=by unfold BF Dc;rw[EE];rfl
theorem Nw{s:Str}(h:s.length<=25):(Dc s).length<=28:=by have h1:=KT (s:=bs s) (by rw[EE];omega);rw[Qh,EE]at h1;omega
theorem l9{l:List Str}{x:Str}(h:l[k]? =some x):(l.take (k+1)).getLast?=some x:=by rw[Cm,h];simp
theorem Yw{l:List Str}{x y:Str}(hx:l[k]? =some x)(hy:l[k+1]? =some y):tZ (l.take (k+1+1))=tZ (l.take (k+1))++(fZ (Bt x y)++Dc (y.drop (Bt x y))):=by rw[Cm (i:=k+1),hy];refine Zc ?_ y x (l9 hx);rw[Cm,hx];simp
theorem JQ(h:x<=127):(fZ x).length=1:=by rw[EW mz];rfl
theorem fQ(s:Str)(a:Nat)(ha:a<=s.length)(w:World):(Instr.slice 9 (.string (bs s)) (some (.int .i64 (a:Int))) none none).run prog w= .ok (.string (bs (s.drop a))) w:=by
 have hz:=EE s;rw[run_slice_string_l w (t:=9) (s:=bs s) (ht:=underlying9) .i64 (a:Int) mz mz,Bw];have e:(bs s).extract a (bs s).size=bs (s.drop a):=by refine ByteArray.ext (Array.ext' ?_);rw[VA,Ht,hz,BV (by rw[AU];exact Aq _)];rfl
 rw[e]
def OD(bs:List Nat)(w:World)(e:Ending)(w':World):Prop:=
 ∃v,e= .returned v/\w'.ownsRow w 5 1 v bs.length (cZ .u8 bs)/\Below w w w'
theorem Xd(w:World)(A:Option Addr)(n c:Nat)(ls:List Str)(hn:ls.length=n)(h1:1<=n)(hN:n<=64)(ax:n<=c)(hs:∀s∈ls,s.length<=25)(ha:Row w w A n 1 (Fu ls)):
 Calls prog 171 #[.slice A n c] w (OD (tZ ls) w):=by
 have HN:=hid hn;have J:Hid (∀ (k:Nat) (x:Str),ls[k]? =some x->x.length<=25):=fun k x h=>hs x (Bg h);obtain⟨b,bm,x0,hA,bk,G,bc⟩:=Row.str ha hn (k:=0) mz;have ab:tZ (ls.take (0+1))=Dc x0:=by rw[Cm,G];simp[tZ,Eg]
 have DT:=hid (Mb w (bs x0) (by rw[EE];have:=J.out 0 x0 G;omega));rw[Qh,<-ab]at DT;have a0:(tZ (ls.take (0+1))).length<=28:=by rw[ab];exact Nw (J.out 0 x0 G)
 have ks:=fun wx=>Gc (P:=prog) (t:=50) (s:=1) underlying50 (fun _=>by kernel_rfl) A n c .i64 (1:Int) 1 rfl h1 wx;have aj:Row w w (AW A 1 c 1) (n-1) 1 (fun i j=>Fu ls (i+1) j):=Row.cut ha 1 (n-1) mz ax fun i j _ _=>by rw[Nat.add_comm]
 generalize AW A 1 c 1=A1 at *;generalize c-1=c1 at *;obtain⟨m,hm⟩:=ii (n-1);rw[<-hm]at ks aj;have bp:m+1=n:=mz
 have E:Hid (tZ (ls.take (m+1))=tZ ls):=by show _=_;rw[BV mz]
 unfold OD;obtain⟨R,hR⟩:=ii (tZ ls);rw[<-hR]at E ⊢;obtain⟨B,hB⟩:∃B:Nat->List Nat,B=fun k=>tZ (ls.take (k+1)):=⟨_,rfl⟩;have be:Hid (∀ (k:Nat) (x y:Str),ls[k]? =some x->ls[k+1]? =some y->B (k+1)=B k++(fZ (Bt x y)++Dc (y.drop (Bt x y)))):=fun k x y hx hy=>by rw[hB];exact Yw hx hy
 have U:Hid (B m=R):=by rw[hB];exact E.out
 rw[show tZ (ls.take (0+1))=B 0 by rw[hB]]at DT a0;subst hA;rw[Bj]at bc;clear hn hs G ab E hR hB hm;go_enter func171,ntmps171;go_wp2_with fail;refine DT.out.mono ?_;rintro e w1 ⟨v1,rfl,Y,af⟩;obtain⟨A2,c2,rfl⟩:=bZ Y;have am:=hid Y;have ah:=hid af;clear Y af DT;go_wp2_with fail;go_loopw [3,14] (fun uv iv wr=>∃ (k p:Nat),k<=m/\p<=28+31*k/\iv= .int .i64 k/\Hid ((B k).length=p)/\Hid (wr.ownsRow w 5 1 uv p (cZ .u8 (B k)))/\Hid (Below w w wr)) (fun _ iv _=>m-(intOf iv).toNat)
 case atStart=>exact⟨0,(B 0).length,mz,mz,rfl,rfl,am.out,ah.out⟩
 case round=>
  obtain⟨k,p,hk,hp,rfl,HP,HO,HB⟩:=hrel;clear am ah;obtain⟨wi,rfl⟩:=ii wr;obtain⟨A3,c3,rfl⟩:=bZ HO.out;by_cases aw:k<m
  ·have Z:(B k).length=p:=HP.out;subst Z;have gk:=ic ((k:Int)<m);have bg:=ic (k<m);have bl:(0:Int)<=(k:Int):=mz;have x1:(k:Int)<(m:Int):=mz;have x2:(k:Int)<(n:Int):=mz;obtain⟨b',bi,x,Q,_,hx,cx⟩:=Row.str (ha.below HB.out) HN.out (k:=k) mz;injection Q with Q;injection Q with e1 e2;subst e1 e2;obtain⟨y,hy⟩:∃y,ls[k+1]? =some y:=⟨_,AD lp⟩;obtain⟨b1,an,hA1,_,ai⟩:=(aj.below HB.out) mz;subst hA1;have cy:wi.cell? ⟨b1,an+k,none⟩=some (.string (bs y)):=(by have h:=ai k 0 aw mz;rw[CG,Bj]at h;rw[h];show some (Value.string (bs (ls.getD (k+1) [])))=_;rw[Ar,hy];rfl);have bd:=J.out k x hx;have av:=J.out (k+1) y hy;have ag:=KM x y;have N:=be.out k x y hx hy;have DS:=hid (Vy wi x y mz mz);obtain⟨a,ac⟩:=ii (Bt x y);rw[<-ac]at ag N DS;have a9:=EE y;have bh:(y.drop a).length<=25:=nm;have al:=EE (y.drop a);have kl:=fun wx=>fQ y a ag.2 wx;have DN:=hid (fun wx=>Gf wx a mz);have DX:=hid (fun wx=>Mb wx (bs (y.drop a)) (by rw[al];omega));rw[Qh]at DX;have u1:IntKind.u64.wrap (a:Int)=(a:Int):=n5;have bt:(fZ a).length<=3:=(by rw[JQ mz];omega);have bj:=Nw bh;have PB:Hid (∀wx,Below wi wi wx->Part.Ok (⟨A3,c3,B k⟩:Part) wx):=fun wx hb=>by have h:=nZ (eZ HO.out (fun z hz=>hb.block z (Am HO.out z hz).2)) HP.out;exact h
   generalize bs (y.drop a)=Y2 at *;generalize Dc (y.drop a)=X2 at *;generalize fZ a=X1 at *;have aa:=hid N;have bn:(B k).length<=2000:=lq;have bb:∀a1 a2 a3 a4 a5 a6,BM [(⟨a1,a2,B k⟩:Part),⟨a3,a4,X1⟩,⟨a5,a6,X2⟩]<=1000000:=fun _ _ _ _ _ _=>pR
   clear N hx hy ac bd av a9 al ai;go_wp2_with fail;refine DS.out.mono ?_;rintro e w2 ⟨rfl,hq⟩;have ar:Hid (Below wi wi w2):=(by obtain⟨q,rfl⟩:=hq;exact below_drewN (Ag _ _) q);clear hq DS;have bq:=ar.out.size;go_upto_region 6 with fail;have b2:Below wi wi w2.drew:=ar.out.drew;go_region_held3 (fun _=>True) (trivial) (first|(go_at_call 99;(with_reducible refine(DN.out _).mono ?_);rintro e wA ⟨vA,rfl,aq,bf⟩;obtain⟨AA,cA,rfl⟩:=bZ aq;have BA:Below wi wi wA:=uZ bf it qh;have zA:=BA.size;have PA:Part.Ok (⟨AA,cA,X1⟩:Part) wA:=nZ aq rfl)|(go_at_call 165;(with_reducible refine(DX.out _).mono ?_);rintro e wB ⟨vB,rfl,ae,ay⟩;obtain⟨AB,cB,rfl⟩:=bZ ae;have BB:Below wi wi wB:=uZ ay it qh;have zB:=BB.size;have PX:Part.Ok (⟨AB,cB,X2⟩:Part) wB:=nZ ae rfl)|(go_at_call 55;(refine(FJ _ _ 3 [(⟨A3,c3,B k⟩:Part),(⟨AA,cA,X1⟩:Part),(⟨AB,cB,X2⟩:Part)] rfl mz (bb _ _ _ _ _ _) (fun p hp=>by{rcases AQ.1 hp with rfl|hp;exact PB.out _ qh;rcases AQ.1 hp with rfl|hp;exact PA.step qh;rcases AQ.1 hp with rfl|hp;exact PX.step qh;cases hp}) iq).mono ?_);rintro e w7 ⟨v7,rfl,M,ak⟩;obtain⟨A7,c7,rfl⟩:=bZ M;have B7:Below wi wi w7:=uZ ak it qh))
   all_goals
    have ba:Hid ((B (k+1)).length=(B k).length+(X1.length+X2.length)):=(by show _=_;rw[aa.out,Aj,Aj]);have au:Hid (w7.ownsRow w 5 1 (.slice A7 ((B k).length+(X1.length+X2.length)) c7) ((B k).length+(X1.length+X2.length)) (cZ .u8 (B (k+1)))):=(by have h:=kZ M (show w.heap.size<=_ by have:=HB.out.size;have:=zA;have:=zB;first|omega|(simp;omega));simp only[List.flatMap_cons,List.flatMap_nil,List.append_nil,List.length_append]at h;show World.ownsRow _ _ _ _ _ _ _;rw[aa.out];exact h);have az:Hid (Below w w w7):=dZ B7 HB.out;clear M ak PA PX PB HO HB HP aa B7;go_wp2_with fail;go_roundw
    case measure=>exact jo
    case rel=>go_light;exact⟨k+1,_,mz,mz,iu,ba.out,au.out,az.out⟩
  ·obtain rfl:k=m:=by omega
   have gk:=ig ((k:Int)<k);have bg:=ig (k<k);have Z:(B k).length=p:=HP.out;subst Z;go_wp2_with fail;go_ret;exact⟨_,rfl,by rw[<-U.out];exact HO.out,HB.out⟩
end Idx
namespace Idx
open Go.RowKit Mem Own Canon
open NumPut (fZ sZ)
def CZ(size:Nat)(l:List Str)(k:Nat):List Str:=(l.drop (k*size)).take size
def nCh(size n:Nat):Nat:=(n+size-1) / size
theorem Ow{size:Nat}(h:1<=size):k<nCh size n↔k*size<n:=by unfold nCh;rw[Nat.lt_iff_add_one_le,Nat.le_div_iff_mul_le mz,EL];omega
theorem RR{size:Nat}(h:1<=size):nCh size 0=0:=by unfold nCh;exact Nat.div_eq_of_lt mz
theorem eL{size:Nat}(h:1<=size)(hn:1<=n):nCh size n=nCh size (n-size)+1:=by
 unfold nCh;by_cases hs:size<=n
 ·have e:n+size-1=(n-size+size-1)+size:=by omega
  rw[e,Nat.add_div_right _ mz]
 ·have e:n-size=0:=by omega
  rw[e,Ck,Nat.div_eq_of_lt (by omega:size-1<size)];have e2:n+size-1=(n-1)+size:=mz
  rw[e2,Nat.add_div_right _ mz,Nat.div_eq_of_lt mz]
theorem Np{size:Nat}(h:1<=size):nCh size n<=n:=by refine Ju fun hn=> ?_;have h1:=(Ow (n:=n) (k:=n) h).1 mz;have h2:n*1<=n*size:=Nat.mul_le_mul_left n h;omega
theorem fF(size:Nat)(l:List Str):CZ size l 0=l.take size:=by simp[CZ]
theorem dX(size:Nat)(l:List Str)(k:Nat):CZ size l (k+1)=CZ size (l.drop size) k:=by unfold CZ;rw[List.drop_drop,EL,Nat.one_mul,Nat.add_comm]
theorem Tl{size:Nat}(h:1<=size):∀ (f:Nat) (l:List Str),l.length<=f->Dn size f l=(List.range (nCh size l.length)).map (CZ size l)
 |0,l,hl=>by
  have e:l.length=0:=mz
  rw[e,RR h];rfl
 |f+1,l,hl=>by
  rw[Dn];by_cases e:l= []
  ·rw[Ae e,e];show []=(List.range (nCh size 0)).map _;rw[RR h];rfl
  ·have hp:1<=l.length:=FD.2 e;rw[Ab e,eL h hp,List.range_succ_eq_map,Cs,List.map_map,fF,Tl h f (l.drop size) nm,AU];congr 1;exact Kf fun k _=>(dX size l k).symm
theorem WQ{size:Nat}(h:1<=size)(l:List Str):GF size l=(List.range (nCh size l.length)).map (CZ size l):=Tl h _ l (Aq _)
theorem Qe{size:Nat}(h:1<=size)(l:List Str):Dg size l=(fZ l.length++(List.range (nCh size l.length)).flatMap (fun k=>fZ (tZ (CZ size l k)).length))++(List.range (nCh size l.length)).flatMap (fun k=>tZ (CZ size l k)):=by unfold Dg;rw[WQ h,List.flatMap_map,List.flatMap_map]
theorem Sc:∀ (t:List Str) (i:Str),(∀s∈t,s.length<=25)->i.length<=25->(Eg i t).length<=31*t.length
 | [],_,_,_=>by simp[Eg]
 |x :: t,i,h,hw=>by have hx:=h x CD;have ih:=Sc t x (fun s hs=>h s (BW _ hs)) hx;have ha:=(KM i x).2;rw[Eg,Aj,Aj,AI,JQ mz];have:=Nw (s:=x.drop (Bt i x)) nm;omega
theorem LY{l:List Str}(h:∀s∈l,s.length<=25):(tZ l).length<=31*l.length:=by
 cases l with
 |nil=>simp[tZ]
 |cons x t=>rw[tZ,Aj,AI];have:=Nw (h x CD);have:=Sc t x (fun s hs=>h s (BW _ hs)) (h x CD);omega
theorem PL{size:Nat}{l:List Str}{s:Str}(h:s∈CZ size l k):s∈l:=Cb (C7 h)
theorem PE(size k:Nat)(l:List Str):(CZ size l k).length=min size (l.length-k*size):=by unfold CZ;rw[Bd,AU]
def Apt(v u:Value):Prop:=∀x,v.ownBlock=some x->u.ownBlock=some x->False
theorem Apt.symm{v:Value}(h:Apt v u):Apt u v:=fun x a b=>h x b a
theorem GP{v:Value}{ys:List Value}(hu:w.ownsRow base e s u m ys)(ha:Apt v u)(hg:w.grownBy w' v.ownBlock)(i:v'.ownBlock=v.ownBlock∨v'.ownBlock=some w.heap.size):
 w'.ownsRow base e s u m ys/\Apt v' u:=by
 refine⟨eZ hu fun y hy=>hg.block y (Am hu y hy).2 fun e=>ha y e.symm hy,fun x hx hy=> ?_⟩;rcases i with h|h
 ·exact ha x (h ▸ hx) hy
 ·rw[h]at hx;have:=(Am hu x hy).2;injection hx;omega
theorem Jo{v:Value}{B:Nat}(hv:w.ownsRow base e s v m xs)(hB:B<=base)(hu:∀x,u.ownBlock=some x->x<B):Apt v u:=
 fun x a b=>by have:=(Am hv x a).1;have:=hu x b;omega
theorem Vh:∀ (l:List Str) (i:Str),Dd i l=true->∀s∈l,1<=s.length/\s.length<=25
 | [],_,_,s,hs=>by cases hs
 |x :: t,i,h,s,hs=>by
  rw[Dd,BX]at h;rcases AQ.1 hs with rfl|hs
  ·have h1:=h.1;unfold El at h1;rw[BX,BX,decide_eq_true_iff,decide_eq_true_iff]at h1;exact⟨h1.1,h1.2.1⟩
  ·exact Vh t x h.2 s hs
theorem Jj{l:List Str}(h:Gl l=true):∀s∈l,1<=s.length/\s.length<=25:=by unfold Gl at h;rw[BX]at h;exact Vh l [] h.1
def hdB(size:Nat)(l:List Str)(q:Nat):List Nat:=fZ l.length++(List.range q).flatMap (fun k=>fZ (tZ (CZ size l k)).length)
def bdB(size:Nat)(l:List Str)(q:Nat):List Nat:=(List.range q).flatMap (fun k=>tZ (CZ size l k))
theorem dI(size:Nat)(l:List Str)(q:Nat):hdB size l (q+1)=hdB size l q++fZ (tZ (CZ size l q)).length:=by simp[hdB,List.range_succ]
theorem bW(size:Nat)(l:List Str)(q:Nat):bdB size l (q+1)=bdB size l q++tZ (CZ size l q):=by simp[bdB,List.range_succ]
theorem Nt{size:Nat}{l:List Str}(hs:∀s∈l,s.length<=25)(h2:size<=64)(q:Nat):(tZ (CZ size l q)).length<=1984:=by have h:=LY (l:=CZ size l q) (fun s hs'=>hs s (PL hs'));rw[PE]at h;omega
theorem Mu{size:Nat}{l:List Str}(hs:∀s∈l,s.length<=25)(h2:size<=64)(hl:l.length<=1000000):∀q,(hdB size l q).length<=10+10*q
 |0=>by have:=sZ (x:=l.length) mz;simp[hdB];omega
 |q+1=>by have ih:=Mu hs h2 hl q;have hc:=Nt hs h2 q;have:=sZ (x:=(tZ (CZ size l q)).length) mz;rw[dI,Aj];omega
theorem MU{size:Nat}{l:List Str}(hs:∀s∈l,s.length<=25)(h1:1<=size):∀q,(bdB size l q).length<=31*min (q*size) l.length
 |0=>by simp[bdB]
 |q+1=>by have ih:=MU hs h1 q;have hc:=LY (l:=CZ size l q) (fun s hs'=>hs s (PL hs'));rw[PE]at hc;rw[bW,Aj,EL,Nat.one_mul];omega
end Idx
namespace Idx
open Go.RowKit Mem Own Canon
open NumPut Recs Crc Block
def CO(x:Nat):List Nat:= [x % 256,x / 256 % 256,x / 65536 % 256,x / 16777216 % 256]
def Gs(x:Nat):Nat->Array Value
 |0=>#[.int .u8 0, .int .u8 0, .int .u8 0, .int .u8 0]
 |1=>#[.int .u8 ((x:Int) % 256), .int .u8 0, .int .u8 0, .int .u8 0]
 |2=>#[.int .u8 ((x:Int) % 256), .int .u8 ((x:Int) / 256 % 256), .int .u8 0, .int .u8 0]
 |3=>#[.int .u8 ((x:Int) % 256), .int .u8 ((x:Int) / 256 % 256), .int .u8 ((x:Int) / 65536 % 256), .int .u8 0]
 |_=>#[.int .u8 ((x:Int) % 256), .int .u8 ((x:Int) / 256 % 256), .int .u8 ((x:Int) / 65536 % 256), .int .u8 ((x:Int) / 16777216 % 256)]
theorem bA(x:Nat):(Gs x 4).toList=cZ .u8 (CO x):=by simp[Gs,CO,cZ]
theorem Ry:(prog.info? 5).map (fun i=>(i.zero,i.size,i.bytes))=some (some (.int .u8 0),1,1):=mr
theorem lB(w:World):(Instr.makeSlice 28 (.int .i64 4) (.int .i64 4)).run prog w= .ok (.slice (some ⟨w,0,none⟩) 4 4) (w.alloc (.cells #[.int .u8 0, .int .u8 0, .int .u8 0, .int .u8 0] 5)):=by
 obtain⟨i0,hi,y,i,j⟩:=info_parts Ry;have h:=run_make (P:=prog) w 28 5 i0 (.int .u8 0) underlying28 hi y .i64 .i64 (4:Int) (4:Int) mz (Int.le_refl _) o7 mz;rw[h,i];have e:madeCells (Value.int IntKind.u8 0).cells (Int.toNat 4*1)=#[.int .u8 0, .int .u8 0, .int .u8 0, .int .u8 0]:=mr
 rw[e];rfl
theorem KW(x:Int):IntKind.u8.wrap x=x % 256:=IntKind.wrap_u8 x
theorem Ww(w:World)(x:Nat)(hx:x<4294967296):
 Calls prog 54 #[.int .u64 x, .int .i64 4] w fun e w'=>∃v,e= .returned (.tuple #[v,ij])/\w'.ownsRow w 5 1 v 4 (cZ .u8 (CO x))/\Below w w w':=by
 have hd:(((x:Int) / 4294967296) != 0)=false:=pQ
 have hm:=lB;have w0:=KW (x:Int);have w1:=KW ((x:Int) / 256);have w2:=KW ((x:Int) / 65536);have w3:=KW ((x:Int) / 16777216);go_enter func54,ntmps54;go_wp2_with fail;have y:Hid (Blk (w.alloc (.cells #[.int .u8 0, .int .u8 0, .int .u8 0, .int .u8 0] 5)) w 5 (Gs x 0)):=Blk.made _ _ _;have j:Hid (Below w w (w.alloc (.cells #[.int .u8 0, .int .u8 0, .int .u8 0, .int .u8 0] 5))):=aZ (Ag _ _);generalize w.alloc (.cells #[.int .u8 0, .int .u8 0, .int .u8 0, .int .u8 0] 5)=wa at *;go_loopw [29] (fun iv wr=>∃k:Nat,k<=4/\iv= .int .i64 k/\Hid (Blk wr w 5 (Gs x k))/\Hid (Below w w wr)) (fun iv _=>4-(intOf iv).toNat)
 case atStart=>exact⟨0,mz,rfl,y.out,j.out⟩
 case round=>
  obtain⟨k,hk,rfl,HX,HB⟩:=hrel;clear y j hm;have z:k=0∨k=1∨k=2∨k=3∨k=4:=mz
  rcases z with rfl|rfl|rfl|rfl|rfl
  ·have c:=HX.out.cell 0;have f:=HX.out.frozen 0;have h:Hid (Blk (wr.setCell ⟨w,0,none⟩ (.int .u8 ((x:Int) % 256))) w 5 (Gs x 1)):=HX.out.set 0 _;have i:Hid (Below w w (wr.setCell ⟨w,0,none⟩ (.int .u8 ((x:Int) % 256)))):=B4 (Aq _) HB.out;simp[Gs]at c;clear HX HB;go_wp2_with fail;exact⟨⟨1,mz,rfl,h,i⟩,pX⟩
  ·have c:=HX.out.cell 1;have f:=HX.out.frozen 1;have h:Hid (Blk (wr.setCell ⟨w,1,none⟩ (.int .u8 ((x:Int) / 256 % 256))) w 5 (Gs x 2)):=HX.out.set 1 _;have i:Hid (Below w w (wr.setCell ⟨w,1,none⟩ (.int .u8 ((x:Int) / 256 % 256)))):=B4 (Aq _) HB.out;simp[Gs]at c;clear HX HB;go_wp2_with fail;exact⟨⟨2,mz,rfl,h,i⟩,pX⟩
  ·have c:=HX.out.cell 2;have f:=HX.out.frozen 2;have h:Hid (Blk (wr.setCell ⟨w,2,none⟩ (.int .u8 ((x:Int) / 65536 % 256))) w 5 (Gs x 3)):=HX.out.set 2 _;have i:Hid (Below w w (wr.setCell ⟨w,2,none⟩ (.int .u8 ((x:Int) / 65536 % 256)))):=B4 (Aq _) HB.out;simp[Gs]at c;clear HX HB;go_wp2_with fail;exact⟨⟨3,mz,rfl,h,i⟩,pX⟩
  ·have c:=HX.out.cell 3;have f:=HX.out.frozen 3;have h:Hid (Blk (wr.setCell ⟨w,3,none⟩ (.int .u8 ((x:Int) / 16777216 % 256))) w 5 (Gs x 4)):=HX.out.set 3 _;have i:Hid (Below w w (wr.setCell ⟨w,3,none⟩ (.int .u8 ((x:Int) / 16777216 % 256)))):=B4 (Aq _) HB.out;simp[Gs]at c;clear HX HB;go_wp2_with fail;exact⟨⟨4,mz,rfl,h,i⟩,pX⟩
  ·go_wp2_with fail;go_ret2;refine⟨_,rfl,⟨rfl, .inr ⟨w.heap.size,4,_,rfl,Aq _,HX.out,mz,qg,rfl,?_⟩⟩,HB.out⟩;rw[<-bA];rfl
def GW(x k:Nat):List Nat:=(List.range k).map fun i=>x / 256 ^ i % 256
theorem kC(x:Nat):GW x 4=CO x:=by simp[GW,CO,List.range_succ]
theorem jJ(x k:Nat):GW x (k+1)=GW x k++ [x / 256 ^ k % 256]:=by simp[GW,List.range_succ]
theorem cU(w:World)(x:Nat)(hx:x<4294967296):
 Calls prog 79 #[.int .u64 x, .int .i64 4] w fun e w'=>∃v,e= .returned (.tuple #[v,ij])/\w'.ownsRow w 5 1 v 4 (cZ .u8 (CO x))/\Below w w w':=by
 obtain⟨j0,J,Q,Y,N⟩:=info_parts Ry;go_enter func79,ntmps79;go_wp2_with fail;go_loopw [0,6,7] (fun xv uv iv wr=>∃k y:Nat,k<=4/\y<4294967296/\iv= .int .i64 k/\xv= .int .u64 y/\Hid (y=x / 256 ^ k)/\Hid (wr.ownsRow w 5 1 uv k (cZ .u8 (GW x k)))/\Hid (Below w w wr)) (fun _ _ iv _=>4-(intOf iv).toNat)
 case atStart=>exact⟨0,x,mz,hx,rfl,rfl,(by show x=x / 256 ^ 0;simp),AK _ _ _ _,Ag _ _⟩
 case round=>
  obtain⟨k,y,hk,hy,rfl,rfl,HY,HO,HB⟩:=hrel;obtain⟨wi,rfl⟩:=ii wr;obtain⟨A1,c1,rfl⟩:=bZ HO.out;by_cases ab:k<4
  ·have gk:=ic ((k:Int)<4);have aa:=ic (k<4);have u1:IntKind.u8.wrap ((y:Int) % 256)=((y % 256:Nat):Int):=(by rw[KW];omega);have G:=HB.out.size;have Z:Hid (y / 256=x / 256 ^ (k+1)):=(by show _=_;rw[HY.out,NF,Fl]);have HL:Hid (GW x (k+1)=GW x k++ [y % 256]):=(by show _=_;rw[jJ,HY.out]);clear HY;go_wp2_with(at_builtin;refine iZ rfl (.tmp 19) (.tmp 23) 28 rfl w 5 j0 _ 1 1 underlying28 J Q Y N rfl ip _ _ _ nc (HO.out.alloc _) _ 1 1 [.int .u8 (y % 256:Nat)] nc (Src.of_blk (Blk.made_at _ _ _ pI) 1 1 1 rfl) mj qg mz pQ ?_;intro v6 w6 h i j;obtain⟨A6,c6,rfl⟩:=bZ h);have U:Hid (w6.ownsRow w 5 1 (.slice A6 (k+1) c6) (k+1) (cZ .u8 (GW x (k+1)))):=(by show World.ownsRow _ _ _ _ _ _ _;rw[HL.out,show cZ .u8 (GW x k++ [y % 256])=cZ .u8 (GW x k)++ [.int .u8 (y % 256:Nat)] by simp[cZ]];exact h);have M:Hid (Below w w w6):=(mZ G HB.out).grown i pQ (fun z hz=>(Am HO.out z hz).1);clear h i j HO HB HL;go_roundw
   case measure=>exact jo
   case rel=>go_light;exact⟨k+1,y / 256,mz,mz,iu,iu,Z.out,U.out,M.out⟩
  ·obtain rfl:k=4:=by omega
   have E:y=0:=(by rw[HY.out];exact Nat.div_eq_of_lt mz);subst E;clear HY;go_wp2_with fail;go_ret2;exact⟨_,rfl,by rw[<-kC];exact HO.out,HB.out⟩
end Idx
namespace Ef
open Go.RowKit Mem Own Canon Huff NumPut
open Block (nZ)
theorem own_row{k:IntKind}(h:w.ownsRow base e 1 (.slice A n c) n (cZ k ls))(hn:ls.length=n):Row w w A n 1 (jZ k ls):=
 Row.of_own h rfl (fun i j hi hj=>by have e0:j=0:=mz;subst e0;exact numL_get mz)
theorem SW(w:World)(bound:Nat)(A:Option Addr)(n c:Nat)(ls:List Nat)(hn:ls.length=n)(h1:1<=n)(bh:n<=bound)(hb:bound<=20000)(hm:Ca bound none ls=true)(ha:Row w w A n 1 (jZ .i64 ls)):
 Calls prog 105 #[bound, .slice A n c] w fun e w'=>∃v,e= .returned (.tuple #[v,ij])/\w'.ownsRow w 5 1 v (efO bound ls).length (cZ .u8 (efO bound ls))/\Below w w w':=by
 have HN:=hid hn;have HA:=hid ha;have DM:=hid (i5 w bound A n c ls hn mz ha);rw[hm]at DM;have hq:1<=bound / n:=(Nat.one_le_div_iff mz).2 bh;have DN:=hid (fun wx=>Gf wx n mz);have DW:=hid (fun wx=>Tf wx bound n h1 bh mz);have cj:=sZ (x:=n) mz;have y1:=ig ((bound:Int)<0)
 have y2:=ig ((20000:Int)<bound)
 have co:=ig (20000<bound)
 have u1:IntKind.u64.wrap (n:Int)=(n:Int):=n5
 have z1:((n:Int)==0)=false:=pQ
 have ci:¬(n:Int)=0:=mz
 have bS:Hid (∀x∈ls,x<bound):=Ha bound ls none hm;have b8:Hid (∀ (k x y:Nat),ls[k]? =some x->ls[k+1]? =some y->x<y):=ND bound ls none hm;have HE:Hid (efO bound ls=fZ n++bytesOf (Fs (efW bound n) ls)):=by show _=_;unfold efO;rw[Ab (fun e=>by rw[e]at hn;simp at hn;omega),hn]
 have G:efW bound n<=14:=by refine Ju fun h=> ?_;have h2:2 ^ 15<=2 ^ efW bound n:=Cl mz mz;have h3:=Lr (q:=bound / n) mz;have h4:bound / n<=bound:=Ho _ _;unfold efW at h2;omega
 obtain⟨W,hW⟩:=ii (efW bound n);rw[<-hW]at DW HE G;clear hn ha hm hW hq;go_enter func105,ntmps105;go_wp2_with fail;refine DM.out.mono ?_;rintro e w1 ⟨rfl,rfl⟩;obtain⟨w,rfl⟩:=ii w1;clear DM;go_wp2_with fail;refine(DN.out _).mono ?_;rintro e w2 ⟨v2,rfl,a0,bc⟩;obtain⟨A2,c2,rfl⟩:=bZ a0;have af:=hid bc;have bu:=hid a0;clear a0 bc DN;go_wp2_with fail;refine(DW.out _).mono ?_;rintro e w3 ⟨rfl,rfl⟩;go_wp2_with fail;have bd:Below w3 w3 (w3.alloc (.cells #[W,(),()] 229)):=aZ (Ag _ _);have bC:Hid (Prt 229 (w3.alloc (.cells #[W,(),()] 229)) w3 w3 W ((ls.take 0).map (·/ 2 ^ W)) ((ls.take 0).map (·% 2 ^ W)) (.slice none 0 0) (.slice none 0 0)):=⟨Blk.made _ _ _,AK _ _ _ _,AK _ _ _ _,Aq _⟩;generalize w3.alloc (.cells #[W,(),()] 229)=w4 at *;have bi:=hid bd;clear bd;go_loopw [43] (fun iv wr=>∃ (k:Nat) (vH vL:Value),k<=n/\iv= .int .i64 k/\Hid (Prt 229 wr w3 w3 W ((ls.take k).map (·/ 2 ^ W)) ((ls.take k).map (·% 2 ^ W)) vH vL)/\Hid (Below w3 w3 wr)) (fun iv _=>n-(intOf iv).toNat)
 case atStart=>exact⟨0,_,_,mz,rfl,bC.out,bi.out⟩
 case round=>
  obtain⟨k,vH,vL,hk,rfl,HP,HB⟩:=hrel;clear bC bi;obtain⟨wi,rfl⟩:=ii wr;have ah:Hid (Below w w wi):=uZ HB.out af.out.size af.out;by_cases U:k<n
  ·have bn:Row wi w A n 1 (jZ .i64 ls):=HA.out.below ah.out;have gk:=ic ((k:Int)<n);have ac:=ic (k<n);have x0:(0:Int)<=(k:Int):=mz;have x1:(k:Int)<(n:Int):=mz;obtain⟨b,be,x,rfl,_,hx,ck⟩:=CF bn HN.out U;have ay:=bS.out x (Bg hx);have D0:=iP 229 ip ip wi w3 w3 W _ _ vH vL x mz G (by rw[Bc,Bd];omega) (by rw[Bc,Bd];omega) HP.out;have e1:(ls.take (k+1)).map (·/ 2 ^ W)=(ls.take k).map (·/ 2 ^ W)++ [x / 2 ^ W]:=(by rw[Cm,hx];simp);have e2:(ls.take (k+1)).map (·% 2 ^ W)=(ls.take k).map (·% 2 ^ W)++ [x % 2 ^ W]:=(by rw[Cm,hx];simp);rw[<-e1,<-e2]at D0;have D:=hid D0;clear D0 e1 e2 hx ay HP bn;go_wp2_with fail;refine D.out.mono ?_;rintro e w6 ⟨rfl,cc,b3,bl,bt⟩;have ce:=hid bl;have cf:=hid (HB.out.trans bt);clear bl bt D HB ah;go_wp2_with fail;go_roundw
   case measure=>exact jo
   case rel=>go_light;exact⟨k+1,cc,b3,mz,iu,ce.out,cf.out⟩
  ·obtain rfl:k=n:=by omega
   have gk:=ig ((k:Int)<k);have ac:=ig (k<k);have E:ls.take k=ls:=BV oq;rw[E]at HP;obtain⟨P,hP⟩:=ii (2 ^ W);rw[<-hP]at HP;have aq:=hid hP;have cp:1<=P:=(by rw[hP];exact Nat.one_le_two_pow);obtain⟨HS,an⟩:=ii (ls.map (·/ P));obtain⟨LS,al⟩:=ii (ls.map (·% P));rw[<-an,<-al]at HP;have aj:HS.length=k:=(by rw[an,Bc];exact HN.out);have ar:LS.length=k:=(by rw[al,Bc];exact HN.out);have oh:=HP.out.oh;have ol:=HP.out.ol;rw[aj]at oh;rw[ar]at ol;obtain⟨AH,cH,rfl⟩:=bZ oh;obtain⟨AL,cL,rfl⟩:=bZ ol;have RH:=hid (own_row oh aj);have RL:=hid (own_row ol ar);have b0:=HP.out.blk;have d0:=(b0.alloc (.cells #[(),ij] 234)).cell 0;have d1:=(b0.alloc (.cells #[(),ij] 234)).cell 1;have d2:=(b0.alloc (.cells #[(),ij] 234)).cell 2;simp only[List.getElem?_toArray,List.getElem?_cons_zero,List.getElem?_cons_succ]at d0 d1 d2;have b1:=hid an;have ca:=hid al;have cg:=hid aj;have b5:=hid ar;have B0:=hid b0;clear oh ol an al aj ar hP E HP b0;go_wp2_with fail;have ab:Hid (Wr (fun q=>q<wi.heap.size) (wi.alloc (.cells #[(),ij] 234)) wi wi 234 [] (Di W (ls.take 0)) (.slice none 0 0)):=Wr.start4 wi wi _ [] (Aq _) (fun q h=>h);have N:Hid (Kept (fun q=>q<wi.heap.size) wi (wi.alloc (.cells #[(),ij] 234))):=Kept.of_below (aZ (Ag _ _)) (fun q h=>h);clear d0 d1 d2;generalize wi.alloc (.cells #[(),ij] 234)=wz at *;go_loopw [53] (fun iv wr=>∃ (j:Nat) (v':Value),j<=k/\iv= .int .i64 j/\Hid (Wr (fun q=>q<wi.heap.size) wr wi wi 234 [] (Di W (ls.take j)) v')/\Hid (Kept (fun q=>q<wi.heap.size) wi wr)) (fun iv _=>k-(intOf iv).toNat)
   case atStart=>exact⟨0,_,mz,rfl,ab.out,N.out⟩
   case round=>
    obtain⟨j,v',hj,rfl,z,HK⟩:=hrel;clear ab N;obtain⟨wj,rfl⟩:=ii wr;by_cases U:j<k
    ·have gk:=ic ((j:Int)<k);have ac:=ic (j<k);have x0:(0:Int)<=(j:Int):=mz;have x1:(j:Int)<(k:Int):=mz;have bf:Row wj wi AL k 1 (jZ .u16 LS):=RL.out.keep fun p hp=>World.cell?_of_block (HK.out.block p.block hp);obtain⟨b,be,x,rfl,_,hx,ck⟩:=CF bf b5.out U;obtain⟨y,hy⟩:∃y,ls[j]? =some y:=⟨_,AD lp⟩;have a9:x=y % P:=(by rw[ca.out,BE,hy]at hx;exact(Option.some.inj hx).symm);have ba:x<P:=(by rw[a9];exact Nat.mod_lt _ mz);have b6:P<=2 ^ 14:=(by rw[aq.out];exact Cl mz G);have d0:wj.cell? ⟨w3,0,none⟩=some (.int .i64 (W:Nat)):=(World.cell?_of_block (a:=⟨w3,0,none⟩) (HK.out.block _ B0.out.lt)).trans (B0.out.cell 0);have u2:IntKind.u64.wrap (x:Int)=(x:Int):=n5;have bx:(Di W (ls.take j)).length<=400000:=(by rw[Hk,Bd];have h2:min j ls.length*W<=20000*14:=Hn mz G;omega);have D0:=put_any (fun q=>q<wi.heap.size) wj wi wi _ [] v' _ x W (by rw[<-aq.out];exact ba) mz mz z.out;have J:Di W (ls.take (j+1))=Di W (ls.take j)++msb x W W:=(by rw[Cm,hy,a9,aq.out];exact dW W _ y);rw[<-J]at D0;have D:=hid D0;clear D0 J bx hx a9 hy ba b6 z bf;go_wp2_with fail;refine D.out.mono ?_;rintro e w6 ⟨rfl,v6,aa,Z⟩;have av:=hid aa;have aw:Hid (Kept (fun q=>q<wi.heap.size) wi w6):=HK.out.trans Z;clear aa Z D HK d0 ck;go_wp2_with fail;go_roundw
     case measure=>exact jo
     case rel=>go_light;exact⟨j+1,v6,mz,iu,av.out,aw.out⟩
    ·obtain rfl:j=k:=by omega
     have gk:=ig ((j:Int)<j);have ac:=ig (j<j);have E:ls.take j=ls:=BV oq;rw[E]at z;obtain⟨BT,ai⟩:∃BT:Nat->List Bool,BT=fun i=>Di W ls++Es 0 ((ls.take i).map (·/ P)):=⟨_,rfl⟩;have ah:=hid ai;have a6:BT 0=Di W ls:=(by rw[ai];show Di W ls++Es 0 ((ls.take 0).map (·/ P))=_;rw[List.take_zero,FC,Es,Ce]);have ag:Hid (BT j=Fs W ls):=(by show _=_;rw[ai];show Di W ls++Es 0 ((ls.take j).map (·/ P))=_;rw[E,aq.out];rfl);rw[<-a6]at z;have bN:Hid ((BT 0).length<=300000):=(by show _<=_;rw[a6,Hk,HN.out];have h2:j*W<=20000*14:=Hn mz G;omega);have bj:Hid (0=((ls.take 0).map (·/ P)).getLast?.getD 0):=rfl;have ab:=hid z.out;have N:=hid HK.out;have d1:wj.cell? ⟨w3,1,none⟩=some (.slice AH j cH):=(World.cell?_of_block (a:=⟨w3,1,none⟩) (HK.out.block _ B0.out.lt)).trans (B0.out.cell 1);clear z HK E ai a6;go_wp2_with fail;clear d1;go_loopw [13,66] (fun uv iv wr=>∃ (i u:Nat) (v':Value),i<=j/\u<=20000/\iv= .int .i64 i/\uv= .int .i64 u/\Hid (u=((ls.take i).map (·/ P)).getLast?.getD 0)/\Hid (Wr (fun q=>q<wi.heap.size) wr wi wi 234 [] (BT i) v')/\Hid ((BT i).length<=300000+i+u)/\Hid (Kept (fun q=>q<wi.heap.size) wi wr)) (fun _ iv _=>j-(intOf iv).toNat)
     case atStart=>exact⟨0,0,_,mz,mz,rfl,rfl,bj.out,ab.out,bN.out,N.out⟩
     case round=>
      obtain⟨i,u,v2,hi,hu,rfl,rfl,HU,z,M,HK⟩:=hrel;clear ab bN N bj;obtain⟨wk,rfl⟩:=ii wr;by_cases U:i<j
      ·have gk:=ic ((i:Int)<j);have ac:=ic (i<j);have x0:(0:Int)<=(i:Int):=mz;have x1:(i:Int)<(j:Int):=mz;have bk:Row wk wi AH j 1 (jZ .i64 HS):=RH.out.keep fun p hp=>World.cell?_of_block (HK.out.block p.block hp);obtain⟨b,be,q,rfl,_,hq,ck⟩:=CF bk cg.out U;obtain⟨x,hx⟩:∃x,ls[i]? =some x:=⟨_,AD lp⟩;have ae:q=x / P:=(by rw[b1.out,BE,hx]at hq;exact(Option.some.inj hq).symm);have ay:=bS.out x (Bg hx);have cl:q<=20000:=(by rw[ae];exact AN (Ho _ _) mz);have b4:=j6 P hx b8.out;rw[<-HU.out,<-ae]at b4;have az:=Ws P hx;have J:=iG P hx;rw[<-HU.out,<-ae]at J;rw[<-ae]at az;obtain⟨d,hd⟩:=ii (q-u);rw[<-hd]at J;have us:IntKind.i64.wrap ((q:Int)-(u:Int))=(d:Int):=nW;have bx:(BT i).length<=350000:=(by have:=M.out;omega);have cm:d<=20000:=mz;have Q:BT (i+1)=BT i++unary d:=(by rw[ah.out];show _++_=_++_++_;rw[J,AJ]);have bm:Hid ((BT (i+1)).length<=300000+(i+1)+q):=(by show _<=_;rw[Q,Aj,JH];have:=M.out;omega);have D0:=cK (fun q=>q<wi.heap.size) wk wi wi _ [] v2 _ d mz mz z.out;rw[<-Q]at D0;have D:=hid D0;have cd:Hid (q=((ls.take (i+1)).map (·/ P)).getLast?.getD 0):=az.symm;clear D0 J Q az hx ae hq hd z M HU bk ay;go_wp2_with fail;refine D.out.mono ?_;rintro e w6 ⟨rfl,v6,aa,Z⟩;have av:=hid aa;have aw:Hid (Kept (fun q=>q<wi.heap.size) wi w6):=HK.out.trans Z;clear aa Z D HK ck;go_wp2_with fail;go_roundw
       case measure=>exact jo
       case rel=>go_light;exact⟨i+1,q,v6,mz,mz,iu,iu,cd.out,av.out,bm.out,aw.out⟩
      ·obtain rfl:i=j:=by omega
       have gk:=ig ((i:Int)<i);have ac:=ig (i<i);obtain⟨A3,c3,rfl⟩:=bZ z.out.own;obtain⟨bq,bb,Y⟩:=z.out.rowOf;have a5:=z.out.blk.ia 0;have ax:=bytesOf_length (BT i);have D:=hid (Tw wk wi A3 _ c3 (bytesOf (BT i)) bq (by have:=M.out;omega) Y a5 bb);rw[ag.out]at D ax;have bg:Hid ((bytesOf (Fs W ls)).length<=100000):=(by show _<=_;rw[ax,<-ag.out];have:=M.out;omega);have am:Below w w wk:=(af.out.trans (HB.out.mono af.out.size)).trans ((HK.out.below (fun q h=>h)).mono (by have:=HB.out.size;have:=af.out.size;omega));have au:Hid (wk.ownsRow w 5 1 (.slice A2 (fZ i).length c2) (fZ i).length (cZ .u8 (fZ i))):=eZ bu.out (fun y hy=>((HB.out.trans ((HK.out.below (fun q h=>h)).mono HB.out.size)).block y (Am bu.out y hy).2));have a1:=hid am;obtain⟨BO,bp⟩:=ii (bytesOf (Fs W ls));rw[<-bp]at D HE bg;clear bq bb Y a5 ax z M HU bp am;go_wp2_with fail;refine D.out.mono ?_;rintro e w8 ⟨v8,rfl,a4,a3⟩;obtain⟨A8,c8,rfl⟩:=bZ a4;have P1:Hid (Part.Ok (⟨A2,c2,fZ i⟩:Part) w8):=nZ (eZ au.out (fun y hy=>a3.block y (Am au.out y hy).2)) rfl;have P2:Hid (Part.Ok (⟨A8,c8,BO⟩:Part) w8):=nZ a4 rfl;have ak:=hid (uZ a3 a1.out.size a1.out);have b7:BM [(⟨A2,c2,fZ i⟩:Part),⟨A8,c8,BO⟩]<=1000000:=(by have:=bg.out;simp[BM];omega);clear a4 a3 D au a1;go_wp2_with fail;refine(FJ _ _ 2 [(⟨A2,c2,fZ i⟩:Part),⟨A8,c8,BO⟩] rfl mz b7 (fun p hp=>by rcases AQ.1 hp with rfl|hp;exact P1.out.step (aZ (Ag _ _));rcases AQ.1 hp with rfl|hp;exact P2.out.step (aZ (Ag _ _));cases hp) (Blk.made _ _ _)).mono ?_;rintro e w9 ⟨v9,rfl,b9,am⟩;go_wp2_with fail;go_ret2;refine⟨v9,rfl,?_,?_⟩
       ·rw[HE.out];have h:=kZ b9 (show w.heap.size<=_ by have:=ak.out.size;simp;omega);simp only[List.flatMap_cons,List.flatMap_nil,List.append_nil]at h;exact h
       ·exact uZ am (by have:=ak.out.size;simp;omega) (mZ ak.out.size ak.out)
end Ef
namespace Ef
open Go.RowKit Mem Own Canon Huff NumPut
def Ev(W:Nat)(bs:List Bool)(n:Nat):List Nat:=(List.range n).map fun i=>zZ bs (i*W) W
theorem U6(W:Nat)(bs:List Bool)(n:Nat):(Ev W bs n).length=n:=by simp[Ev]
theorem aF(W:Nat)(bs:List Bool)(n:Nat):∀x∈Ev W bs n,x<2 ^ W:=by intro x hx;obtain⟨i,_,rfl⟩:=Cc.1 hx;exact GO _ _ _
def rowN(bound W:Nat)(bs:List Bool):List Nat->Nat->Nat->List Nat->List Nat×Nat×Int
 | [],at_,_,acc=>(acc,at_,0)
 |x :: xs,at_,high,acc=>
  if unE bs at_≠0 then([],at_,unE bs at_)
  else if acc≠ []/\(high+unV bs at_)*2 ^ W+x<=acc.getLast?.getD 0 then([],at_,2)
  else if bound<=(high+unV bs at_)*2 ^ W+x then([],at_,8)
  else rowN bound W bs xs (unA bs at_) (high+unV bs at_) (acc++ [(high+unV bs at_)*2 ^ W+x])
def G6(at_:Nat):Nat:=(8-at_ % 8) % 8
def G5(bound n:Nat)(bs:List Bool):List Nat×Nat×Int:=
 if bs.length<n*efW bound n then([],0,1)
 else if(rowN bound (efW bound n) bs (Ev (efW bound n) bs n) (n*efW bound n) 0 []).2.2≠0 then([],0,(rowN bound (efW bound n) bs (Ev (efW bound n) bs n) (n*efW bound n) 0 []).2.2)
 else if zZ bs (rowN bound (efW bound n) bs (Ev (efW bound n) bs n) (n*efW bound n) 0 []).2.1 (G6 (rowN bound (efW bound n) bs (Ev (efW bound n) bs n) (n*efW bound n) 0 []).2.1)≠0 then([],0,2)
 else((rowN bound (efW bound n) bs (Ev (efW bound n) bs n) (n*efW bound n) 0 []).1,((rowN bound (efW bound n) bs (Ev (efW bound n) bs n) (n*efW bound n) 0 []).2.1+7) / 8,0)
theorem UV{bs:List Bool}{at_:Nat}(h:at_<=bs.length):unA bs at_<=bs.length:=by unfold unA;split<;>omega
theorem lN(bs:List Bool)(at_:Nat):unV bs at_<=bs.length:=by unfold unV;split<;>omega
theorem Up{bound W:Nat}{bs:List Bool}:∀ (xs:List Nat) (at_ i:Nat) (j:List Nat),at_<=bs.length->(rowN bound W bs xs at_ i j).2.1<=bs.length
 | [],at_,_,_,h=>h
 |x :: xs,at_,i,j,h=>by
  unfold rowN;split
  ·exact h
  ·split
   ·exact h
   ·split
    ·exact h
    ·exact Up xs _ _ _ (UV h)
theorem Ud(h x W:Nat)(hx:x<2 ^ W):(h*2 ^ W |||x)=h*2 ^ W+x:=by rw[Nat.mul_comm,Nat.two_pow_add_eq_or_of_lt hx]
end Ef
namespace Ef
open Go.RowKit Mem Own Canon Huff NumPut
def CM(W:Nat)(bs:List Bool)(n k:Nat):List Value:=(List.range n).map fun i=>Value.int .u16 ((if i<k then zZ bs (i*W) W else 0:Nat):Int)
theorem bM(W:Nat)(bs:List Bool)(n k:Nat):(CM W bs n k).length=n:=by simp[CM]
theorem MO{bs:List Bool}(h:i<n):(CM W bs n k)[i]? =some (.int .u16 ((if i<k then zZ bs (i*W) W else 0:Nat):Int)):=by simp[CM,h]
theorem ZU{bs:List Bool}:(CM W bs n k).toArray.setIfInBounds k (.int .u16 (zZ bs (k*W) W:Nat))=(CM W bs n (k+1)).toArray:=by
 apply Array.ext_getElem?
 intro i;rw[FE];by_cases e:k=i
 ·subst e;by_cases hk:k<n
  ·rw[Ae rfl,Ae (by simpa[CM]using hk)];simp only[List.getElem?_toArray];rw[MO hk,Ae mz]
  ·rw[Ae rfl,Ab (by simpa[CM]using hk)];simp[CM,hk]
 ·rw[Ab e];simp only[List.getElem?_toArray];by_cases hi:i<n
  ·rw[MO hi,MO hi];congr 3;by_cases h2:i<k
   ·rw[Ae h2,Ae mz]
   ·rw[Ab h2,Ab mz]
  ·simp[CM,hi]
theorem RV(W:Nat)(bs:List Bool)(n:Nat):CM W bs n n=cZ .u16 (Ev W bs n):=by unfold CM Ev cZ;rw[List.map_map];apply Kf;intro i hi;simp only[Function.comp];rw[Ae (Fm.1 hi)]
theorem gY(W:Nat)(bs:List Bool)(n:Nat):madeCells #[.int .u16 0] n=(CM W bs n 0).toArray:=by
 apply Array.ext_getElem?
 intro i;by_cases h:i<n
 ·simp[CM,madeCells,h,Nat.mod_one]
 ·simp[CM,madeCells,h]
theorem fV:(prog.info? 25).map (fun i=>(i.zero,i.size,i.bytes))=some (some (.int .u16 0),1,2):=mr
theorem eU(n:Nat)(hn:n<=8388608)(w:World):(Instr.makeSlice 227 (.int .i64 (n:Int)) (.int .i64 (n:Int))).run prog w=
 .ok (.slice (some ⟨w,0,none⟩) n n) (w.alloc (.cells (madeCells #[.int .u16 0] n) 25)):=by
 obtain⟨i0,hi,y,i,j⟩:=info_parts fV;have h:=run_make (P:=prog) w 227 25 i0 (.int .u16 0) underlying227 hi y .i64 .i64 (n:Int) (n:Int) mz (Int.le_refl _) o7 mz;simp only[Int.toNat_natCast]at h;simpa[i,Value.cells]using h
def P7(w:World)(lo g:Nat)(bs:List Bool)(n W:Nat)(e:Ending)(w':World):Prop:=
 Kept (fun x=>x<w.heap.size/\x≠g) w w'/\if bs.length<n*W then e= .returned (.tuple #[(), .int .i64 1])
 else ∃v,e= .returned (.tuple #[v,ij])/\w'.ownsRow w 25 1 v n (cZ .u16 (Ev W bs n))/\Rd w' lo g bs (n*W)
theorem ZC(w:World)(lo g:Nat)(bs:List Bool)(n W:Nat)(hn:n<=20000)(hW:W<=14)(Y:lo<=g)(hR:Rd w lo g bs 0):
 Calls prog 295 #[.pointer (some ⟨g,0,none⟩), .int .i64 (n:Nat), .int .i64 (W:Nat)] w (P7 w lo g bs n W):=by
 have az:=hR.lt;have hz:bs.length<=800000:=mt
 have D0:=hid (left_any w lo g bs 0 hR);have HR:=hid hR;have av:n*W<=280000:=AN (Hn hn hW) ip;obtain⟨N,hN⟩:=ii (n*W);have ay:IntKind.i64.wrap ((n:Int)*(W:Int))=(N:Int):=by rw[show(n:Int)*(W:Int)=(N:Int) by rw[hN];simp,Aw _ mz]
 have U:=eU n mz;rw[gY W bs n]at U;unfold P7;rw[<-hN]at av ⊢;have HN:=hid hN;rw[Nat.sub_zero]at D0;clear hR hN;by_cases E:bs.length<N
 ·simp only[if_pos E];have g1:=ic ((bs.length:Int)<N)
  have Q:=ic (bs.length<N)
  clear E;generalize bs.length=z at *;go_enter func295,ntmps295;go_wp2_with fail;refine D0.out.mono ?_;rintro e w1 ⟨rfl,q,rfl⟩;go_wp2_with fail;go_ret2;exact⟨(Kept.refl _ _).drewN q,rfl⟩
 ·simp only[if_neg E];have g1:=ig ((bs.length:Int)<N)
  have Q:=ig (bs.length<N)
  have ax:Hid (N<=bs.length):=pp
  obtain⟨z,ag⟩:=ii bs.length;rw[<-ag]at D0 g1 Q hz;clear E ag;go_enter func295,ntmps295;go_wp2_with fail;refine D0.out.mono ?_;rintro e w1 ⟨rfl,q,hq⟩;have an:Hid (Rd w1 lo g bs 0):=by rw[hq];exact HR.out.drewN q
  have am:Hid (Kept (fun x=>x<w.heap.size/\x≠g) w w1):=oY
  have Z:w1.heap.size=w.heap.size:=by rw[hq];rfl
  clear hq;go_wp2_with fail;have aj:Blk (w1.alloc (.cells (CM W bs n 0).toArray 25)) w1 25 (CM W bs n 0).toArray:=Blk.made _ _ _;have ak:Hid (Rd (w1.alloc (.cells (CM W bs n 0).toArray 25)) lo g bs 0):=an.out.keep (fun b hb1 hb2=>Ed w1 _ b mz) Y;have ac:Hid (Kept (fun x=>x<w.heap.size/\x≠g) w (w1.alloc (.cells (CM W bs n 0).toArray 25))):=am.out.alloc (fun x hx=>by have:=hx.1;omega) _;generalize w1.alloc (.cells (CM W bs n 0).toArray 25)=w2 at *;have aa:=hid aj;clear aj U D0;rw[Z]at *;clear Z;generalize M:w.heap.size=b at *;have ar:=hid M;clear M;go_loopw [22] (fun iv wr=>∃k:Nat,k<=n/\iv= .int .i64 k/\Hid (Blk wr b 25 (CM W bs n k).toArray)/\Hid (Rd wr lo g bs (k*W))/\Hid (Kept (fun x=>x<b/\x≠g) w wr)) (fun iv _=>n-(intOf iv).toNat)
  case atStart=>exact⟨0,mz,rfl,aa.out,by rw[Nat.zero_mul];exact ak.out,ac.out⟩
  case round=>
   obtain⟨k,hk,rfl,HB,J,HK⟩:=hrel;clear aa ak ac;by_cases ab:k<n
   ·have gk:=ic ((k:Int)<n);have a3:=ic (k<n);have j:k*W+W<=bs.length:=(by have h1:(k+1)*W<=n*W:=Gp W ab;rw[I1]at h1;have:=HN.out;have:=ax.out;omega);have D:=JG wr lo g bs (k*W) W mz J.out;unfold IM IL II at D;rw[Ae j,Ae j,Ae j]at D;have hv:zZ bs (k*W) W<2 ^ W:=GO _ _ _;have a1:zZ bs (k*W) W<16384:=Et hv kx;have HS:Hid ((CM W bs n k).toArray.setIfInBounds k (.int .u16 (zZ bs (k*W) W:Nat))=(CM W bs n (k+1)).toArray):=ZU;have ae:k*W+W=(k+1)*W:=(by rw[I1]);rw[ae]at D;generalize zZ bs (k*W) W=y at *;have a0:IntKind.u16.wrap (y:Int)=(y:Int):=(by rw[IntKind.wrap_u16];omega);have D:=hid D;have x0:(0:Int)<=(k:Int):=mz;have x1:(k:Int)<(n:Int):=mz;have al:Hid (∃u,(CM W bs n k).toArray[k]? =some u):=⟨_,by simp only[List.getElem?_toArray];exact MO ab⟩;clear j hv ae;go_wp2_with fail;refine D.out.mono ?_;rintro e w3 ⟨rfl,ai,i⟩;have G:Hid (Blk w3 b 25 (CM W bs n k).toArray):=(i.block b mz).trans HB.out;have ah:Hid (Kept (fun x=>x<b/\x≠g) w w3):=HK.out.trans ⟨i.os,i.tape,i.output,i.size,fun x hx=>i.block x hx.2⟩;have af:=hid ai;obtain⟨u,hu⟩:=al.out;have c3:w3.cell? ⟨b,k,none⟩=some u:=(G.out.cell k).trans hu;have f3:=G.out.frozen k;clear ai i HB J HK D hu al;go_wp2_with fail;have aq:Hid (Blk (w3.setCell ⟨b,k,none⟩ (.int .u16 (y:Nat))) b 25 (CM W bs n (k+1)).toArray):=(by rw[<-HS.out];exact G.out.set k _);have aw:Hid (Rd (w3.setCell ⟨b,k,none⟩ (.int .u16 (y:Nat))) lo g bs ((k+1)*W)):=af.out.keep (fun x _ hx2=>AV w3 _ _ x (show x≠b by omega)) Y;have au:Hid (Kept (fun x=>x<b/\x≠g) w (w3.setCell ⟨b,k,none⟩ (.int .u16 (y:Nat)))):=ah.out.set (p:=⟨b,k,none⟩) (fun h=>absurd h.1 pI) _;clear G af ah c3 f3;go_roundw
    case measure=>exact jo
    case rel=>go_light;exact⟨k+1,mz,iu,aq.out,aw.out,au.out⟩
   ·obtain rfl:k=n:=by omega
    have gk:=ig ((k:Int)<k);go_wp2_with fail;go_ret2;rw[ar.out];refine⟨HK.out,_,rfl,⟨by rw[<-RV,bM];simp, .inr ⟨b,k,_,rfl,Aq _,HB.out,Aq _,qg,by simp[CM],?_⟩⟩,by rw[HN.out];exact J.out⟩;rw[<-RV,CG];exact BV (by simp[CM])
end Ef
namespace Idx
open Go.RowKit Mem Own Canon Sift
open NumPut Recs Crc Block
open Nums
def toS(ls:List Nat):Str:=ls.map UInt8.ofNat
theorem kP(ls:List Nat):FN ls=bs (toS ls):=rfl
def nxN(ls:List Nat)(was:Str)(first:Bool)(at_:Nat):Nat:=if first then 0 else Ba was.length ls at_ 0
def nxA(ls:List Nat)(was:Str)(first:Bool)(at_:Nat):Nat:=if first then at_ else AM was.length ls at_ 0
def nxE(ls:List Nat)(was:Str)(first:Bool)(at_:Nat):Int:=if first then 0 else AO was.length ls at_ 0
def nxS(was:Str)(first:Bool)(n:Nat)(t:Str)(a:Nat)(e:Int):Str×Nat×Int:=
 if e≠0 then([],a,e)else if t= []∨El was (was.take n++t)=false∨(first=false/\Bt was (was.take n++t)≠n)then(was.take n++t,a,2)else(was.take n++t,a,0)
def EH(ls:List Nat)(was:Str)(first:Bool)(at_:Nat):Str×Nat×Int:=
 nxS was first (nxN ls was first at_) (toS (EI 25 ls (nxA ls was first at_) (nxE ls was first at_))) (DQ 25 ls (nxA ls was first at_) (nxE ls was first at_)) (DJ 25 ls (nxA ls was first at_) (nxE ls was first at_))
theorem run_head(s:Str)(n:Nat)(hn:n<=s.length)(w:World):(Instr.slice 9 (.string (bs s)) none (some (.int .i64 (n:Int))) none).run prog w= .ok (.string (bs (s.take n))) w:=by
 have hz:=EE s;rw[run_slice_string_h w (t:=9) (s:=bs s) (ht:=underlying9) .i64 (n:Int) mz mz,Bw];have e:(bs s).extract 0 n=bs (s.take n):=by refine ByteArray.ext (Array.ext' ?_);rw[VA,Ht,Iy,Nat.sub_zero];rfl
 rw[e]
theorem jT(a b:Str):bs a++bs b=bs (a++b):=by refine ByteArray.ext (Array.ext' ?_);simp[bs]
theorem Zj{most:Nat}(h8:∀x∈ls,x<=255)(at_:Nat)(er:Int):(EI most ls at_ er).length<=most:=by
 unfold EI;split
 ·exact Cr _
 ·exact(L4 most (ls.drop at_) fun x hx=>h8 x (Cb hx)).1
theorem next_any(w:World)(g base:Nat)(ls:List Nat)(A:Option Addr)(c at_:Nat)(i:Str)(first:Bool)(ah:ls.length<=100000)(h8:∀x∈ls,x<=255)(a9:i.length<=25)(h:Cur w g base ls A c at_ 0):
 Calls prog 245 #[.pointer (some ⟨g,0,none⟩), .string (bs i),first] w fun e w'=>e= .returned (.string (bs (EH ls i first at_).1))/\Cur w' g base ls A c (EH ls i first at_).2.1 (EH ls i first at_).2.2/\Kept (BD g w) w w':=by
 have hz:=EE i;have bc:=h.blk.lt;obtain⟨R,hR⟩:=ii (EH ls i first at_);rw[<-hR];unfold EH at hR;have D1:=hid (fun wx hx=>IG wx g base ls A c at_ 0 i.length ah h8 mz hx)
 have hn:nxN ls i first at_<=i.length:=by
  unfold nxN;split
  ·exact Cr _
  ·exact Gb h8 _ _
 have D2:=hid (fun wx hx=>NN wx g base ls A c (nxA ls i first at_) (nxE ls i first at_) 25 ah h8 mz hx);have av:=Zj (most:=25) h8 (nxA ls i first at_) (nxE ls i first at_);rw[kP]at D2
 have HN:Hid ((first=true->nxN ls i first at_=0/\nxA ls i first at_=at_/\nxE ls i first at_=0)/\(first=false->nxN ls i first at_=Ba i.length ls at_ 0/\nxA ls i first at_=AM i.length ls at_ 0/\nxE ls i first at_=AO i.length ls at_ 0)):=by
  constructor
  ·intro hf;subst hf;exact⟨rfl,rfl,rfl⟩
  ·intro hf;subst hf;exact⟨rfl,rfl,rfl⟩
 generalize nxN ls i first at_=n at *;generalize nxA ls i first at_=a1 at *;generalize nxE ls i first at_=e1 at *;obtain⟨t,ht⟩:=ii (toS (EI 25 ls a1 e1));have a4:t.length<=25:=by rw[ht];unfold toS;rw[Bc];exact av
 rw[<-ht]at D2 hR;generalize DQ 25 ls a1 e1=a2 at *;generalize DJ 25 ls a1 e1=e2 at *;have H:=hid h;unfold nxS at hR;clear h h8 ah ht av;have KH:=fun wx=>run_head i n hn wx;have a3:(i.take n).length<=25:=nX
 obtain⟨s,hs⟩:=ii (i.take n++t);have bb:s.length<=50:=by rw[hs,Aj];omega
 have HS:=hid hs;rw[<-hs]at hR;have ar:Hid (bs (i.take n)++bs t=bs s):=by show _=_;rw[jT,hs]
 have HH:Hid (n=0->i.take n= []):=fun h=>oV
 have HR:=hid hR;clear hR;have DM:=hid (fun wx=>Tt wx i s);have DA:=hid (fun wx=>Vy wx i s mz mz);have HT:Hid ((t= []->((bs t).toList==({data:=#[] }:ByteArray).toList)=true/\((bs t).toList== [])=true/\(bs t).toList.isEmpty=true/\(bs t).toList= [])/\(t≠ []->((bs t).toList==({data:=#[] }:ByteArray).toList)=false/\((bs t).toList== [])=false/\(bs t).toList.isEmpty=false/\¬(bs t).toList= [])):=⟨fun h=>by rw[h];exact Q0,fun h=>So t h⟩;generalize i.take n=hd at *;have ak:=hid (EE hd);have af:=hid (EE t);obtain⟨bd,aw⟩:=ii hd.length;obtain⟨tl,ag⟩:=ii t.length;rw[<-aw]at ak a3;rw[<-ag]at af a4;clear hs aw ag;have HF:Hid (Ga 0 2=2):=Ae rfl;cases first with
 |true=>
  obtain⟨q1,q2,q3⟩:=HN.out.1 rfl;have ac:Hid (Cur w g base ls A c a1 e1):=by rw[q2,q3];exact H.out
  have aa:Hid (Kept (BD g w) w w):=Kept.refl _ _;have am:=HH.out q1;have an:s=t:=by rw[HS.out,am];rfl
  have az:bs t=bs s:=by rw[an]
  rw[az]at HT af;have z2:=af.out;clear an;clear q2 q3 HN H D1 ar HH ak am KH HS;subst q1;go_enter func245,ntmps245;go_wp2_with fail;refine(D2.out _ ac.out).mono ?_;rintro e w2 ⟨rfl,ab,J⟩;have N:Hid (Kept (BD g w) w w2):=aa.out.trans ⟨J.os,J.tape,J.output,J.size,fun x hx=>J.block x ⟨Et hx.1 aa.out.size,hx.2⟩⟩;have DE:=hid (Dv w2 g base ls A c a2 e2 ab);have Q:=hid ab;clear ab J ac aa D2;go_wp2_with fail;refine DE.out.mono ?_;rintro e a0 ⟨rfl,rfl⟩;by_cases he:e2=0
  ·skip
   subst he;rw[Ab (show ¬((0:Int)≠0) from fun h=>h rfl)]at HR;clear DE;by_cases ht:t= []
   ·obtain⟨b1,b2,b3,b4⟩:=HT.out.1 ht;have z:Hid (R=(s,a2,2)):=(by have h:=HR.out;rw[Ae (.inl ht)]at h;exact h);clear ht HT;have E:=Q;have G:=N;go_wp2_with fail;refine(GR _ g base ls A c a2 0 2 E.out).mono ?_;rintro e w5 ⟨rfl,y,j⟩;rw[HF.out]at y;have Z:=hid y;have U:Hid (Kept (BD g w) w w5):=G.out.trans ⟨j.os,j.tape,j.output,j.size,fun x hx=>j.block x hx.2⟩;clear y j E G;go_wp2_with fail;go_ret;rw[z.out];exact⟨rfl,Z.out,U.out⟩
   ·have aj:=hid ht;obtain⟨b1,b2,b3,b4⟩:=HT.out.2 ht;clear ht HT;obtain⟨M,hM⟩:=ii (El i s);rw[<-hM]at DM;have HM:=hid hM;clear hM;by_cases Y:M=false
    ·have z:Hid (R=(s,a2,2)):=jz;subst Y;go_wp2_with fail;refine(DM.out _).mono ?_;rintro e w3 ⟨rfl,rfl⟩;have E:=Q;have G:=N;go_wp2_with fail;refine(GR _ g base ls A c a2 0 2 E.out).mono ?_;rintro e w5 ⟨rfl,y,j⟩;rw[HF.out]at y;have Z:=hid y;have U:Hid (Kept (BD g w) w w5):=G.out.trans ⟨j.os,j.tape,j.output,j.size,fun x hx=>j.block x hx.2⟩;clear y j E G;go_wp2_with fail;go_ret;rw[z.out];exact⟨rfl,Z.out,U.out⟩
    ·have ai:M=true:=io;clear Y;subst ai;go_wp2_with fail;refine(DM.out _).mono ?_;rintro e w3 ⟨rfl,rfl⟩;have z:Hid (R=(s,a2,0)):=(by have h:=HR.out;rw[Ab (fun h=>h.elim aj.out (fun h=>h.elim (by rw[<-HM.out];decide) (fun h=>by cases h.1)))]at h;exact h);go_wp2_with fail;go_ret;rw[z.out];exact⟨rfl,Q.out,N.out⟩
  ·have gE:(e2 != 0)=true:=p7;have z:Hid (R=([],a2,e2)):=(by have h:=HR.out;rw[Ae he]at h;exact h);clear he HR HT;go_wp2_with fail;go_ret;rw[z.out];exact⟨rfl,Q.out,N.out⟩
 |false=>
  obtain⟨q1,q2,q3⟩:=HN.out.2 rfl;rw[<-q1,<-q2,<-q3]at D1;have z1:=ak.out;have z2:=af.out;have ba:=ar.out;clear q1 q2 q3 HN HH;go_enter func245,ntmps245;go_wp2_with fail;refine(D1.out _ H.out).mono ?_;rintro e w1 ⟨rfl,aq,au⟩;have ac:=hid aq;have aa:=hid au;clear aq au H D1;go_wp2_with fail;refine(D2.out _ ac.out).mono ?_;rintro e w2 ⟨rfl,ab,J⟩;have N:Hid (Kept (BD g w) w w2):=aa.out.trans ⟨J.os,J.tape,J.output,J.size,fun x hx=>J.block x ⟨Et hx.1 aa.out.size,hx.2⟩⟩;have DE:=hid (Dv w2 g base ls A c a2 e2 ab);have Q:=hid ab;clear ab J ac aa D2;go_wp2_with fail;refine DE.out.mono ?_;rintro e a0 ⟨rfl,rfl⟩;by_cases he:e2=0
  ·skip
   subst he;rw[Ab (show ¬((0:Int)≠0) from fun h=>h rfl)]at HR;clear DE;by_cases ht:t= []
   ·obtain⟨b1,b2,b3,b4⟩:=HT.out.1 ht;have z:Hid (R=(s,a2,2)):=(by have h:=HR.out;rw[Ae (.inl ht)]at h;exact h);clear ht HT;have E:=Q;have G:=N;go_wp2_with fail;refine(GR _ g base ls A c a2 0 2 E.out).mono ?_;rintro e w5 ⟨rfl,y,j⟩;rw[HF.out]at y;have Z:=hid y;have U:Hid (Kept (BD g w) w w5):=G.out.trans ⟨j.os,j.tape,j.output,j.size,fun x hx=>j.block x hx.2⟩;clear y j E G;go_wp2_with fail;go_ret;rw[z.out];exact⟨rfl,Z.out,U.out⟩
   ·have aj:=hid ht;obtain⟨b1,b2,b3,b4⟩:=HT.out.2 ht;clear ht HT;obtain⟨M,hM⟩:=ii (El i s);rw[<-hM]at DM;have HM:=hid hM;clear hM;by_cases Y:M=false
    ·have z:Hid (R=(s,a2,2)):=jz;subst Y;go_wp2_with fail;refine(DM.out _).mono ?_;rintro e w3 ⟨rfl,rfl⟩;have E:=Q;have G:=N;go_wp2_with fail;refine(GR _ g base ls A c a2 0 2 E.out).mono ?_;rintro e w5 ⟨rfl,y,j⟩;rw[HF.out]at y;have Z:=hid y;have U:Hid (Kept (BD g w) w w5):=G.out.trans ⟨j.os,j.tape,j.output,j.size,fun x hx=>j.block x hx.2⟩;clear y j E G;go_wp2_with fail;go_ret;rw[z.out];exact⟨rfl,Z.out,U.out⟩
    ·have ai:M=true:=io;clear Y;subst ai;go_wp2_with fail;refine(DM.out _).mono ?_;rintro e w3 ⟨rfl,rfl⟩;by_cases ae:Bt i s=n
     ·have a5:((Bt i s:Int) != (n:Int))=false:=(by rw[ae];simp);have a6:=hid ae;clear ae;go_wp2_with fail;refine(DA.out _).mono ?_;rintro e w4 ⟨rfl,q,hq⟩;have ax:Hid (Cur w4 g base ls A c a2 0):=(by rw[hq];exact Q.out.drewN q);have ay:Hid (Kept (BD g w) w w4):=(by rw[hq];exact N.out.drewN q);have z:Hid (R=(s,a2,0)):=(by have h:=HR.out;rw[Ab (fun h=>h.elim aj.out (fun h=>h.elim (by rw[<-HM.out];decide) (fun h=>h.2 a6.out)))]at h;exact h);clear hq DM DA Q N;generalize Bt i s=al at *;go_wp2_with fail;go_ret;rw[z.out];exact⟨rfl,ax.out,ay.out⟩
     ·have a5:((Bt i s:Int) != (n:Int))=true:=oO;have z:Hid (R=(s,a2,2)):=(by have h:=HR.out;rw[Ae (.inr (.inr ⟨trivial,ae⟩))]at h;exact h);clear ae;go_wp2_with fail;refine(DA.out _).mono ?_;rintro e w3 ⟨rfl,q,hq⟩;have E:Hid (Cur w3 g base ls A c a2 0):=(by rw[hq];exact Q.out.drewN q);have G:Hid (Kept (BD g w) w w3):=(by rw[hq];exact N.out.drewN q);clear hq DM DA Q N;generalize Bt i s=al at *;go_wp2_with fail;refine(GR _ g base ls A c a2 0 2 E.out).mono ?_;rintro e w5 ⟨rfl,y,j⟩;rw[HF.out]at y;have Z:=hid y;have U:Hid (Kept (BD g w) w w5):=G.out.trans ⟨j.os,j.tape,j.output,j.size,fun x hx=>j.block x hx.2⟩;clear y j E G;go_wp2_with fail;go_ret;rw[z.out];exact⟨rfl,Z.out,U.out⟩
  ·have gE:(e2 != 0)=true:=p7;have z:Hid (R=([],a2,e2)):=(by have h:=HR.out;rw[Ae he]at h;exact h);clear he HR HT;go_wp2_with fail;go_ret;rw[z.out];exact⟨rfl,Q.out,N.out⟩
end Idx
namespace Idx
open Go.RowKit Mem Own Canon Sift
open NumPut Recs Crc Block
open Nums
def CU(ls:List Nat):Nat->Bool->Nat->List Str->List Str×Int
 |0,_,at_,acc=>(acc,Gu ls at_ 0)
 |k+1,first,at_,acc=>
  if(EH ls (acc.getLast?.getD []) first at_).2.2≠0 then([],(EH ls (acc.getLast?.getD []) first at_).2.2)
  else CU ls k false (EH ls (acc.getLast?.getD []) first at_).2.1 (acc++ [(EH ls (acc.getLast?.getD []) first at_).1])
theorem gN{a s:Str}(h:El a s=true):s.length<=25:=by unfold El at h;simp at h;exact h.2.1
theorem YX{i:Str}{first:Bool}{at_:Nat}(h:(EH ls i first at_).2.2=0):(EH ls i first at_).1.length<=25:=by
 unfold EH nxS at *;split at h
 ·rename_i he;exact absurd h he
 ·rename_i he;rw[Ab he];split at h
  ·cases h
  ·rename_i hn;rw[Ab hn]
   have hm:El i (List.take (nxN ls i first at_) i++toS (EI 25 ls (nxA ls i first at_) (nxE ls i first at_)))=true:=by
    cases hb:El i (List.take (nxN ls i first at_) i++toS (EI 25 ls (nxA ls i first at_) (nxE ls i first at_)))with
    |true=>rfl
    |false=>exact absurd (.inr (.inl hb)) hn
   exact gN hm
structure DAt (w:World) (base gd size:Nat) (ts hs:List Str) (vT vH:Value):Prop where
 blk:Blk w gd 254 #[vT, .int .i64 (size:Nat),vH]
 ot:w.ownsRow base 9 1 vT ts.length (Bh ts)
 oh:w.ownsRow base 9 1 vH hs.length (Bh hs)
 apart:∀y,vT.ownBlock=some y->vH.ownBlock≠some y
 gb:base<=gd
section
variable {w w1 w3 w':World} {base gd size g:Nat} {ts hs:List Str} {vT vH v3:Value} {s:Str}
theorem DAt.keep(h:DAt w base gd size ts hs vT vH)(hk:∀y,base<=y->y<w.heap.size->w'.heap[y]? =w.heap[y]?):DAt w' base gd size ts hs vT vH:=
 ⟨(hk gd h.gb h.blk.lt).trans h.blk,eZ h.ot (fun y hy=>hk y (Am h.ot y hy).1 (Am h.ot y hy).2),eZ h.oh (fun y hy=>hk y (Am h.oh y hy).1 (Am h.oh y hy).2),h.apart,h.gb⟩
theorem DAt.oth(h:DAt w base gd size ts hs vT vH){cs:Array Value}(hc:Blk w g 243 cs)(hk:Kept (fun y=>y<w.heap.size/\y≠g) w w'):DAt w' base gd size ts hs vT vH:=
 ⟨(hk.block gd ⟨h.blk.lt,Blk.apart h.blk hc ip⟩).trans h.blk,eZ h.ot (fun y hy=>hk.block y ⟨(Am h.ot y hy).2,fun e=>gZ h.ot hc ip (e ▸ hy)⟩),eZ h.oh (fun y hy=>hk.block y ⟨(Am h.oh y hy).2,fun e=>gZ h.oh hc ip (e ▸ hy)⟩),h.apart,h.gb⟩
theorem DAt.texts(h:DAt w base gd size ts hs vT vH)(hb:Below w w w1)(hg:w1.grownBy w3 vT.ownBlock)(i:w3.ownsRow base 9 1 v3 (ts.length+1) (Bh ts++ [.string (bs s)]))(j:v3.ownBlock=vT.ownBlock∨v3.ownBlock=some w1.heap.size):
 DAt (w3.setCell ⟨gd,0,none⟩ v3) base gd size (ts++ [s]) hs v3 vH:=by
 have z:vT.ownBlock≠some gd:=gZ h.ot h.blk ip;have b3:=(h.blk.step hb).grown hg (AZ z);have o1:w1.ownsRow base 9 1 vH hs.length (Bh hs):=eZ h.oh (fun y hy=>hb.block y (Am h.oh y hy).2);have o3:w3.ownsRow base 9 1 vH hs.length (Bh hs):=eZ o1 (fun y hy=>hg.block y (Am o1 y hy).2 (fun e=>h.apart y e.symm hy));have n3:v3.ownBlock≠some gd:=gZ i b3 ip;have nh:vH.ownBlock≠some gd:=gZ o3 b3 ip;refine⟨by simpa using b3.set 0 v3,?_,eZ o3 (fun y hy=>AV _ _ _ y (fun e=>nh o6)),?_,h.gb⟩
 ·rw[Aj,N3];exact eZ i (fun y hy=>AV _ _ _ y (fun e=>n3 o6))
 ·intro y hy hh;rcases j with e|e
  ·exact h.apart y (by rw[<-e];exact hy) hh
  ·rw[e]at hy;injection hy with hy;have:=(Am h.oh y hh).2;have:=hb.size;omega
theorem DAt.heads(h:DAt w base gd size ts hs vT vH)(hb:Below w w w1)(hg:w1.grownBy w3 vH.ownBlock)(i:w3.ownsRow base 9 1 v3 (hs.length+1) (Bh hs++ [.string (bs s)]))(j:v3.ownBlock=vH.ownBlock∨v3.ownBlock=some w1.heap.size):
 DAt (w3.setCell ⟨gd,2,none⟩ v3) base gd size ts (hs++ [s]) vT v3:=by
 have z:vH.ownBlock≠some gd:=gZ h.oh h.blk ip;have b3:=(h.blk.step hb).grown hg (AZ z);have o1:w1.ownsRow base 9 1 vT ts.length (Bh ts):=eZ h.ot (fun y hy=>hb.block y (Am h.ot y hy).2);have o3:w3.ownsRow base 9 1 vT ts.length (Bh ts):=eZ o1 (fun y hy=>hg.block y (Am o1 y hy).2 (fun e=>h.apart y hy e.symm));have n3:v3.ownBlock≠some gd:=gZ i b3 ip;have nh:vT.ownBlock≠some gd:=gZ o3 b3 ip;refine⟨by simpa using b3.set 2 v3,eZ o3 (fun y hy=>AV _ _ _ y (fun e=>nh o6)),?_,?_,h.gb⟩
 ·rw[Aj,N3];exact eZ i (fun y hy=>AV _ _ _ y (fun e=>n3 o6))
 ·intro y hy hh;rcases j with e|e
  ·exact h.apart y hy (by rw[<-e];exact hh)
  ·rw[e]at hh;injection hh with hh;have:=(Am h.ot y hy).2;have:=hb.size;omega
theorem Rm{at_ ob:Nat}{cs:Array Value}(h:Cur w g base j A c at_ er)(i:Blk w ob 254 cs)(k:Nat)(u:Value):Cur (w.setCell ⟨ob,k,none⟩ u) g base j A c at_ er:=
 ⟨h.blk.far (fun e=>Blk.apart i h.blk ip e.symm) _,BZ h.own (gZ h.own i ip) _,h.le,h.lo⟩
theorem cur_far{at_:Nat}{v:Value}(h:Cur w g base j A c at_ er)(ho:w.ownsRow i 9 1 v n xs)(hg:w.grownBy w' v.ownBlock):Cur w' g base j A c at_ er:=
 ⟨h.blk.grown hg (AZ (gZ ho h.blk ip)),eZ h.own (fun y hy=>hg.block y (Am h.own y hy).2 (fun e2=>by
  rcases EZ ho h.own ip with e3|e3
  ·rw[e3]at e2;cases e2
  ·exact e3 (by rw[<-e2,hy]))),h.le,h.lo⟩
end
theorem dO:(prog.info? 9).map (fun i=>(i.zero,i.size,i.bytes))=some (some (.string ⟨#[]⟩),1,16):=mr
def Ii(w:World)(gd:Nat)(vT vH:Value)(y:Nat):Prop:=y<w.heap.size/\y≠gd/\vT.ownBlock≠some y/\vH.ownBlock≠some y
structure FI (w wr:World) (g:Nat) (B:Option Addr) (d:Nat) (ls:List Nat) (base gd size:Nat) (vT vH:Value) (at_:Nat) (t2 h2:List Str) (uT uH:Value):Prop where
 cur:Cur wr g w ls B d at_ 0
 dat:DAt wr base gd size t2 h2 uT uH
 kept:Kept (Ii w gd vT vH) w wr
 lt:∀y,y<w.heap.size->uT.ownBlock=some y->vT.ownBlock=some y
 lh:∀y,y<w.heap.size->uH.ownBlock=some y->vH.ownBlock=some y
section
variable {w wr w5:World} {g d base gd size at_:Nat} {B:Option Addr} {ls:List Nat} {vT vH uT uH v5:Value} {t2 h2:List Str} {s:Str} {o:Obj}
theorem FI.next{w2:World}{a2:Nat}(h:FI w wr g B d ls base gd size vT vH at_ t2 h2 uT uH)(hg:w.heap.size<=g)(j:Cur w2 g w ls B d a2 0)(i:Kept (BD g wr) wr w2):FI w w2 g B d ls base gd size vT vH a2 t2 h2 uT uH:=
 have hz:=h.kept.size
 ⟨j,h.dat.oth h.cur.blk i,h.kept.trans ⟨i.os,i.tape,i.output,i.size,fun y hy=>i.block y ⟨mh,fun e=>mh⟩⟩,h.lt,h.lh⟩
theorem FI.texts(h:FI w wr g B d ls base gd size vT vH at_ t2 h2 uT uH)(hg:(wr.alloc o).grownBy w5 uT.ownBlock)(j:w5.ownsRow base 9 1 v5 (t2.length+1) (Bh t2++ [.string (bs s)]))(i:v5.ownBlock=uT.ownBlock∨v5.ownBlock=some (wr.alloc o).heap.size):
 FI w (w5.setCell ⟨gd,0,none⟩ v5) g B d ls base gd size vT vH at_ (t2++ [s]) h2 v5 uH:=by
 have hz:=h.kept.size;have hb:Below wr wr (wr.alloc o):=aZ (Ag _ _);have hD:=h.dat.texts hb hg j i;have b5:Blk w5 gd 254 #[uT, .int .i64 (size:Nat),uH]:=(h.dat.blk.step hb).grown hg (AZ (gZ h.dat.ot h.dat.blk ip));refine⟨Rm (cur_far (h.cur.step hb) (h.dat.ot.alloc o) hg) b5 0 _,hD,?_,?_,h.lh⟩
 ·exact((h.kept.alloc (fun y hy=>by have:=hy.1;omega) o).grown hg (fun y hy=>by have:=hy.1;simp;omega) (fun y hy hk=>hk.2.2.1 (h.lt y hk.1 hy))).set (fun hk=>hk.2.1 rfl) _
 ·intro y hy he;rcases i with e|e
  ·exact h.lt y hy (by rw[<-e];exact he)
  ·rw[e]at he;injection he with he;simp at he;omega
theorem FI.heads(h:FI w wr g B d ls base gd size vT vH at_ t2 h2 uT uH)(hg:(wr.alloc o).grownBy w5 uH.ownBlock)(j:w5.ownsRow base 9 1 v5 (h2.length+1) (Bh h2++ [.string (bs s)]))(i:v5.ownBlock=uH.ownBlock∨v5.ownBlock=some (wr.alloc o).heap.size):
 FI w (w5.setCell ⟨gd,2,none⟩ v5) g B d ls base gd size vT vH at_ t2 (h2++ [s]) uT v5:=by
 have hz:=h.kept.size;have hb:Below wr wr (wr.alloc o):=aZ (Ag _ _);have hD:=h.dat.heads hb hg j i;have b5:Blk w5 gd 254 #[uT, .int .i64 (size:Nat),uH]:=(h.dat.blk.step hb).grown hg (AZ (gZ h.dat.oh h.dat.blk ip));refine⟨Rm (cur_far (h.cur.step hb) (h.dat.oh.alloc o) hg) b5 2 _,hD,?_,h.lt,?_⟩
 ·exact((h.kept.alloc (fun y hy=>by have:=hy.1;omega) o).grown hg (fun y hy=>by have:=hy.1;simp;omega) (fun y hy hk=>hk.2.2.2 (h.lh y hk.1 hy))).set (fun hk=>hk.2.1 rfl) _
 ·intro y hy he;rcases i with e|e
  ·exact h.lh y hy (by rw[<-e];exact he)
  ·rw[e]at he;injection he with he;simp at he;omega
end
def YD(w:World)(base gd size:Nat)(vT vH:Value)(F:List Str×Int)(e:Ending)(w':World):Prop:=
 e= .returned (.int .i64 F.2)/\Kept (Ii w gd vT vH) w w'/\(F.2=0->(∀s∈F.1,s.length<=25)/\∃hs' vT' vH',DAt w' base gd size F.1 hs' vT' vH'/\(∀y,y<w.heap.size->vT'.ownBlock=some y->vT.ownBlock=some y)/\(∀y,y<w.heap.size->vH'.ownBlock=some y->vH.ownBlock=some y)/\hs'.length<=F.1.length)
theorem Q8(w:World)(A:Option Addr)(m c n base gd size:Nat)(ls:List Nat)(ts hs:List Str)(vT vH:Value)(hm:ls.length=m)(bj:m<=100000)(h8:∀x∈ls,x<=255)(a9:A=none->m=0/\c=0)(ha:Row w w A m 1 (jZ .u8 ls))(hn:n<=64)(hD:DAt w base gd size ts hs vT vH)(bl:∀s∈ts,s.length<=25)(cm:ts.length<=1100000)(b3:hs.length<=ts.length):
 Calls prog 196 #[.pointer (some ⟨gd,0,none⟩), .slice A m c, .int .i64 (n:Nat)] w (YD w base gd size vT vH (CU ls n true 0 ts)):=by
 obtain⟨j0,aw,ax,au,av⟩:=info_parts dO;have D0:=hid (new_any w A m c ls hm bj a9 ha);have bc:ls.length<=100000:=mz
 have H8:=hid h8;have b6:=hid bc;obtain⟨F,hF⟩:=ii (CU ls n true 0 ts);rw[<-hF];have bp:Hid (CU ls (n-0) (decide (0=0)) 0 ts=F):=hF.symm;have HD:=hid hD;have b8:=hid bl;have cg:=hD.blk.lt;clear hm a9 ha h8 bj bc hF hD bl;go_enter func196,ntmps196;go_wp2_with fail;refine D0.out.mono ?_;rintro e w1 ⟨g,B,d,rfl,a4,a3⟩;have z1:=a3.size;have bb:=a4.lo;have cf:=a4.blk.lt;have bn:=hid a4;have bm:Hid (DAt w1 base gd size ts hs vT vH):=HD.out.keep (fun y _ hy=>a3.block y hy);have bq:Hid (Kept (Ii w gd vT vH) w w1):=Kept.of_below a3 (fun y hy=>hy.1);clear a4 a3 D0 HD;go_wp2_with fail;go_loopw [15] (fun iv wr=>∃ (i at_:Nat) (t2 h2:List Str) (uT uH:Value),i<=n/\iv= .int .i64 i/\t2.length<=1100000+i/\h2.length<=t2.length/\Hid (FI w wr g B d ls base gd size vT vH at_ t2 h2 uT uH)/\Hid (∀s∈t2,s.length<=25)/\Hid (CU ls (n-i) (decide (i=0)) at_ t2=F)) (fun iv _=>n-(intOf iv).toNat)
 case atStart=>exact⟨0,0,ts,hs,vT,vH,mz,rfl,mz,b3,⟨bn.out,bm.out,bq.out,fun _ _ h=>h,fun _ _ h=>h⟩,b8.out,bp.out⟩
 case round=>
  obtain⟨i,at_,t2,h2,uT,uH,hi,rfl,ca,a5,HI,ar,HG⟩:=hrel;have zr:=HI.out.kept.size;clear bn bm bq bp;by_cases cj:i<n
  ·have gi:=ic ((i:Int)<n);have ci:=ic (i<n);have hG:=HG.out;rw[show n-i=(n-(i+1))+1 by omega,CU]at hG;obtain⟨fb,a1⟩:∃fb,fb=decide (i=0):=⟨_,rfl⟩
   have gz:((i:Int)==0)=fb:=by
    rw[a1];by_cases h:i=0
    ·subst h;rfl
    ·rw[Bi h,FQ];omega
   obtain⟨ab,an⟩:=ii (t2.getLast?.getD [])
   have bt:ab.length<=25:=by
    rw[an];cases hl:t2.getLast? with
    |none=>exact Cr _
    |some y=>exact ar.out y (List.mem_of_getLast? hl)
   rw[<-a1,<-an]at hG;have DN:=hid (fun wx hx=>next_any wx g w ls B d at_ ab fb b6.out H8.out bt hx);have al:Hid ((EH ls ab fb at_).2.2=0->(EH ls ab fb at_).1.length<=25):=YX;generalize EH ls ab fb at_=S at *;obtain⟨s,a2,e2⟩:=S;simp only at hG DN al;have ac:=hid hG;have cp:=hid a1;have ba:=hid an;have c0:=HI.out.dat.blk.ia 0;have aq:=HI.out.dat.ot;obtain⟨p,hp⟩:=ii t2.length;rw[<-hp]at aq ca a5;obtain⟨Au,cu,rfl⟩:=bZ aq;have HP:=hid hp;have a6:=hid aq;have ce:=HI.out.dat.blk.lt;have co:base<=wr.heap.size:=(by have:=HI.out.dat.gb;omega);clear hG HG a1 an hp aq bt;by_cases bd:p=0
   ·have gp:=ig ((0:Int)<p);have bi:=ig (0<p);have b0:ab= []:=(by rw[ba.out,Gr (HP.out.symm.trans bd)];rfl);subst b0;have bC:Hid (∀wx,Cur wx g w ls B d at_ 0->Calls prog 245 #[.pointer (some ⟨g,0,none⟩), .string ⟨#[]⟩,fb] wx fun e w'=>e= .returned (.string (bs s))/\Cur w' g w ls B d a2 e2/\Kept (BD g wx) wx w'):=DN.out;clear DN bd;go_wp2_with fail;refine(bC.out _ HI.out.cur).mono ?_;rintro e w2 ⟨rfl,ak,z⟩;clear bC;have be:=HI.out.cur.blk;have z2:=z.size;have aj:=hid (fun he:e2=0=>HI.out.next bb (he ▸ ak) z);have bg:Hid (Kept (Ii w gd vT vH) w w2):=HI.out.kept.trans ⟨z.os,z.tape,z.output,z.size,fun y hy=>z.block y ⟨mh,fun e=>mh⟩⟩;have DE:=hid (Dv w2 g w ls B d a2 e2 ak);clear ak z HI c0 be a6;go_wp2_with fail;refine DE.out.mono ?_;rintro e w3 ⟨rfl,rfl⟩;by_cases he:e2=0
    ·subst he;have J:=aj.out rfl;have ae:=hid J;have hG:=ac.out;rw[Ab (show ¬((0:Int)≠0) from fun h=>h rfl)]at hG;have az:=hid hG;have af:=hid (al.out rfl);have k0:=J.dat.blk.ia 0;have Q:=J.dat.ot;rw[<-HP.out]at Q;have U:=hid Q;have bu:base<=w3.heap.size:=mz;have kf:=J.dat.blk.frozen 0;have kb:=J.dat.blk;have a0:=AZ (gZ J.dat.ot J.dat.blk ip:_≠some gd);have am:=hid kb;have aa:=hid a0;clear J hG ac al aj DE Q kf kb a0;cases fb with
     |false=>
      go_wp2_with(at_builtin;refine iZ rfl (.tmp 54) (.tmp 56) 50 rfl base 9 j0 _ 1 16 underlying50 aw ax au av rfl ip _ _ _ nc (U.out.alloc _) _ 1 1 [.string (bs s)] nc (Src.of_blk (Blk.made_at _ _ _ pI) 1 1 1 rfl) mj qg mz pQ ?_;intro v5 w5 j M G;obtain⟨A5,c5,rfl⟩:=bZ j;have b5:=(am.out.alloc (.cells #[.string (bs s)] 9)).grown M aa.out;have q0:=b5.ia 0;have q1:=b5.frozen 0);have E:=hid (ae.out.texts (s:=s) M ng G);clear j M G b5 q0 q1 ae U am aa k0;go_roundw
      case measure=>exact jo
      case rel=>exact jb
     |true=>
      have ai:=ae.out.dat.oh;obtain⟨q,hq⟩:=ii h2.length;rw[<-hq]at ai a5;obtain⟨Ah,ch,rfl⟩:=bZ ai;have HQ:=hid hq;clear ai hq;go_wp2_with(first|(at_builtin;refine iZ rfl (.tmp 54) (.tmp 56) 50 rfl base 9 j0 _ 1 16 underlying50 aw ax au av rfl ip _ _ _ nc (U.out.alloc _) _ 1 1 [.string (bs s)] nc (Src.of_blk (Blk.made_at _ _ _ pI) 1 1 1 rfl) mj qg mz pQ ?_;intro v5 w5 j M G;obtain⟨A5,c5,rfl⟩:=bZ j;have b5:=(am.out.alloc (.cells #[.string (bs s)] 9)).grown M aa.out;have q0:=b5.ia 0;have q1:=b5.frozen 0;have E:=hid (ae.out.texts (s:=s) M ng G);have r0:=E.out.dat.blk.ia 2;have r1:=E.out.dat.blk.frozen 2;have b9:base<=w5.heap.size:=(by have h1:=E.out.dat.gb;have h2:=b5.lt;omega);have Z:=E.out.dat.oh;rw[<-HQ.out]at Z;have ay:=hid Z;clear Z j M G)|(at_builtin;refine iZ rfl (.tmp 67) (.tmp 69) 50 rfl base 9 j0 _ 1 16 underlying50 aw ax au av rfl ip _ _ _ nc (ay.out.alloc _) _ 1 1 [.string (bs s)] nc (Src.of_blk (Blk.made_at _ _ _ pI) 1 1 1 rfl) mj qg mz pQ ?_;intro v7 w7 N ah ag;obtain⟨A7,c7,rfl⟩:=bZ N;have b7:=(E.out.dat.blk.alloc (.cells #[.string (bs s)] 9)).grown ah (AZ (gZ E.out.dat.oh E.out.dat.blk ip));have s0:=b7.ia 2;have s1:=b7.frozen 2;have bf:=hid (E.out.heads (s:=s) ah (by rw[<-HQ.out];exact N) ag);clear N ah ag));go_roundw
      case measure=>exact jo
      case rel=>exact ja
    ·have gE:(e2 != 0)=true:=p7;have bh:Hid (F=([],e2)):=(by have h:=ac.out;rw[Ae he]at h;exact h.symm);have aa:=hid he;clear he ac al aj DE;go_wp2_with fail;go_ret;rw[bh.out];exact⟨rfl,bg.out,fun h=>absurd h aa.out⟩
   ·obtain⟨gq,cq,b4,cl,_⟩:=a6.out.form mz;injection b4 with q1 q2 q3;subst q1 q3;clear q2;have bk:t2[p-1]? =some ab:=(by have h:=ba.out;rw[List.getLast?_eq_getElem?,<-HP.out,AD lq]at h;rw[AD lq,h];rfl);have cy:wr.cell? ⟨gq,p-1,none⟩=some (.string (bs ab)):=(by rw[a6.out.cellAt (p-1) mz];exact Ns bk);obtain⟨p1,bx⟩:=ii (p-1);rw[<-bx]at cy;have sp:IntKind.i64.wrap ((p:Int)-1)=(p1:Int):=nW;have gp:=ic ((0:Int)<p);have bi:=ic (0<p);have cd:(0:Int)<=(p1:Int):=mz;have b1:(p1:Int)<(p:Int):=mz;clear bk bx bd;go_wp2_with fail;go_quiet (fail);go_wp2_with fail;refine(DN.out _ (HI.out.cur.drewN _)).mono ?_;rintro e w2 ⟨rfl,ak,z⟩;clear DN;have z:Kept (BD g wr) wr w2:=⟨z.os,z.tape,z.output,z.size,z.block⟩;have be:=HI.out.cur.blk;clear cy sp gp bi cd b1;have z2:=z.size;have aj:=hid (fun he:e2=0=>HI.out.next bb (he ▸ ak) z);have bg:Hid (Kept (Ii w gd vT vH) w w2):=HI.out.kept.trans ⟨z.os,z.tape,z.output,z.size,fun y hy=>z.block y ⟨mh,fun e=>mh⟩⟩;have DE:=hid (Dv w2 g w ls B d a2 e2 ak);clear ak z HI c0 be a6;go_wp2_with fail;refine DE.out.mono ?_;rintro e w3 ⟨rfl,rfl⟩;by_cases he:e2=0
    ·subst he;have J:=aj.out rfl;have ae:=hid J;have hG:=ac.out;rw[Ab (show ¬((0:Int)≠0) from fun h=>h rfl)]at hG;have az:=hid hG;have af:=hid (al.out rfl);have k0:=J.dat.blk.ia 0;have Q:=J.dat.ot;rw[<-HP.out]at Q;have U:=hid Q;have bu:base<=w3.heap.size:=mz;have kf:=J.dat.blk.frozen 0;have kb:=J.dat.blk;have a0:=AZ (gZ J.dat.ot J.dat.blk ip:_≠some gd);have am:=hid kb;have aa:=hid a0;clear J hG ac al aj DE Q kf kb a0;cases fb with
     |false=>
      go_wp2_with(at_builtin;refine iZ rfl (.tmp 54) (.tmp 56) 50 rfl base 9 j0 _ 1 16 underlying50 aw ax au av rfl ip _ _ _ nc (U.out.alloc _) _ 1 1 [.string (bs s)] nc (Src.of_blk (Blk.made_at _ _ _ pI) 1 1 1 rfl) mj qg mz pQ ?_;intro v5 w5 j M G;obtain⟨A5,c5,rfl⟩:=bZ j;have b5:=(am.out.alloc (.cells #[.string (bs s)] 9)).grown M aa.out;have q0:=b5.ia 0;have q1:=b5.frozen 0);have E:=hid (ae.out.texts (s:=s) M ng G);clear j M G b5 q0 q1 ae U am aa k0;go_roundw
      case measure=>exact jo
      case rel=>exact jb
     |true=>
      have ai:=ae.out.dat.oh;obtain⟨q,hq⟩:=ii h2.length;rw[<-hq]at ai a5;obtain⟨Ah,ch,rfl⟩:=bZ ai;have HQ:=hid hq;clear ai hq;go_wp2_with(first|(at_builtin;refine iZ rfl (.tmp 54) (.tmp 56) 50 rfl base 9 j0 _ 1 16 underlying50 aw ax au av rfl ip _ _ _ nc (U.out.alloc _) _ 1 1 [.string (bs s)] nc (Src.of_blk (Blk.made_at _ _ _ pI) 1 1 1 rfl) mj qg mz pQ ?_;intro v5 w5 j M G;obtain⟨A5,c5,rfl⟩:=bZ j;have b5:=(am.out.alloc (.cells #[.string (bs s)] 9)).grown M aa.out;have q0:=b5.ia 0;have q1:=b5.frozen 0;have E:=hid (ae.out.texts (s:=s) M ng G);have r0:=E.out.dat.blk.ia 2;have r1:=E.out.dat.blk.frozen 2;have b9:base<=w5.heap.size:=(by have h1:=E.out.dat.gb;have h2:=b5.lt;omega);have Z:=E.out.dat.oh;rw[<-HQ.out]at Z;have ay:=hid Z;clear Z j M G)|(at_builtin;refine iZ rfl (.tmp 67) (.tmp 69) 50 rfl base 9 j0 _ 1 16 underlying50 aw ax au av rfl ip _ _ _ nc (ay.out.alloc _) _ 1 1 [.string (bs s)] nc (Src.of_blk (Blk.made_at _ _ _ pI) 1 1 1 rfl) mj qg mz pQ ?_;intro v7 w7 N ah ag;obtain⟨A7,c7,rfl⟩:=bZ N;have b7:=(E.out.dat.blk.alloc (.cells #[.string (bs s)] 9)).grown ah (AZ (gZ E.out.dat.oh E.out.dat.blk ip));have s0:=b7.ia 2;have s1:=b7.frozen 2;have bf:=hid (E.out.heads (s:=s) ah (by rw[<-HQ.out];exact N) ag);clear N ah ag));go_roundw
      case measure=>exact jo
      case rel=>exact ja
    ·have gE:(e2 != 0)=true:=p7;have bh:Hid (F=([],e2)):=(by have h:=ac.out;rw[Ae he]at h;exact h.symm);have aa:=hid he;clear he ac al aj DE;go_wp2_with fail;go_ret;rw[bh.out];exact⟨rfl,bg.out,fun h=>absurd h aa.out⟩
  ·obtain rfl:i=n:=by omega
   have hG:=HG.out;rw[Gn,CU]at hG;have gi:=ig ((i:Int)<i);have DE:=hid (U8 wr g w ls B d at_ 0 HI.out.cur);have ac:=hid hG;clear hG HG;generalize Gu ls at_ 0=ee at *;go_wp2_with fail;refine DE.out.mono ?_;rintro e w5 ⟨rfl,bS,Y⟩;have cc:Hid (Kept (Ii w gd vT vH) w w5):=HI.out.kept.trans ⟨Y.os,Y.tape,Y.output,Y.size,fun y hy=>Y.block y (fun e=>by have:=hy.1;omega)⟩;have bN:Hid (DAt w5 base gd size t2 h2 uT uH):=HI.out.dat.oth HI.out.cur.blk ⟨Y.os,Y.tape,Y.output,Y.size,fun y hy=>Y.block y hy.2⟩;clear bS Y;go_wp2_with fail;go_ret;rw[<-ac.out];exact⟨rfl,cc.out,fun _=>⟨ar.out,h2,uT,uH,bN.out,HI.out.lt,HI.out.lh,a5⟩⟩
end Idx
namespace Idx
open Go.RowKit Mem Own Canon Sift
open NumPut Recs Crc Block
open Nums
def szR(n size:Nat)(ls:List Nat):Nat->Nat->Nat->List Nat->List Nat×Nat×Int
 |0,at_,_,acc=>(acc,at_,0)
 |f+1,at_,x,acc=>if n<=x then(acc,at_,0)else if AO 2000 ls at_ 0≠0 then([],AM 2000 ls at_ 0,AO 2000 ls at_ 0)else szR n size ls f (AM 2000 ls at_ 0) (x+size) (acc++ [Ba 2000 ls at_ 0])
theorem TZ{size:Nat}{f at_:Nat}{i:List Nat}(h:n<=x):szR n size ls f at_ x i=(i,at_,0):=by
 cases f with
 |zero=>rfl
 |succ f=>exact Ae h
def bkR(size:Nat)(ls:List Nat):List Nat->Nat->Nat->List Str->List Str×Nat×Int
 | [],_,at_,acc=>(acc,at_,0)
 |k :: ks,r,at_,acc=>if BQ ls at_ 0 k≠0 then([],0,BQ ls at_ 0 k)
  else if(CU (Bx ls at_ 0 k) (min size r) true 0 acc).2≠0 then([],0,(CU (Bx ls at_ 0 k) (min size r) true 0 acc).2)
  else bkR size ls ks (r-size) (takeA ls at_ 0 k) (CU (Bx ls at_ 0 k) (min size r) true 0 acc).1
def Gz(size:Nat)(ls:List Nat):List Nat×Nat×Int:=
 if AO 1048576 ls 0 0≠0 then([],AM 1048576 ls 0 0,AO 1048576 ls 0 0)else szR (Ba 1048576 ls 0 0) size ls (Ba 1048576 ls 0 0) (AM 1048576 ls 0 0) 0 []
def FK(size:Nat)(ls:List Nat):List Str×Nat×Int:=
 if(Gz size ls).2.2≠0 then([],0,(Gz size ls).2.2)else bkR size ls (Gz size ls).1 (Ba 1048576 ls 0 0) (Gz size ls).2.1 []
def QQ(w:World)(R:List Str×Nat×Int)(e:Ending)(w':World):Prop:=
 Below w w w'/\(R.2.2≠0->e= .returned (.tuple #[.pointer none,ij,R.2.2]))/\(R.2.2=0->∃gd size hs vT vH,e= .returned (.tuple #[.pointer (some ⟨gd,0,none⟩), .int .i64 (R.2.1:Nat),ij])/\DAt w' w gd size R.1 hs vT vH)
theorem Ka{R:List Str×Nat×Int}(hR:R=([],0,er))(he:er≠0)(hb:Below w w w'):QQ w R (.returned (.tuple #[.pointer none,ij,er])) w':=qb
theorem V7{row:Option Nat}{at_:Nat}{i:List Nat}(h:Cur w g base i A c at_ er)(hg:w.grownBy w' row)(B:Nat)(y:g<B)(j:∀x,(Value.slice A i.length c).ownBlock=some x->x<B)(hr:∀x,row=some x->B<=x):Cur w' g base i A c at_ er:=
 ⟨h.blk.grown hg (fun e=>by have:=hr g e.symm;omega),eZ h.own (fun x hx=>hg.block x (Am h.own x hx).2 (fun e=>by have:=j x hx;have:=hr x e.symm;omega)),h.le,h.lo⟩
theorem TK{size:Nat}{ts hs:List Str}(hD:DAt w base gd size ts hs uT uH)(hy:y<w.heap.size)(hb:y<base):Ii w gd uT uH y:=
 ⟨hy,by have:=hD.gb;omega,fun e=>by have:=(Am hD.ot y e).1;omega,fun e=>by have:=(Am hD.oh y e).1;omega⟩
theorem PU{size:Nat}{ts hs:List Str}{v:Value}(hD:DAt w base gd size ts hs uT uH)(h:w.ownsRow b2 e 1 v n xs)(he:9≠e)(hd:e≠254)(hy:v.ownBlock=some y):Ii w gd uT uH y:=
 ⟨(Am h y hy).2,fun e2=>gZ h hD.blk hd (e2 ▸ hy),fun e2=>by
   rcases EZ hD.ot h he with e3|e3
   ·rw[e3]at e2;cases e2
   ·exact e3 (by rw[e2,hy]),fun e2=>by
   rcases EZ hD.oh h he with e3|e3
   ·rw[e3]at e2;cases e2
   ·exact e3 (by rw[e2,hy])⟩
theorem QD{size at_:Nat}{ts hs:List Str}(h:Cur w g b2 ls A c at_ er)(hD:DAt w base gd size ts hs uT uH)(hk:Kept (Ii w gd uT uH) w w'):Cur w' g b2 ls A c at_ er:=
 ⟨(hk.block g ⟨h.blk.lt,fun e=>Blk.apart hD.blk h.blk ip e.symm,gZ hD.ot h.blk ip,gZ hD.oh h.blk ip⟩).trans h.blk,eZ h.own (fun y hy=>hk.block y (PU hD h.own ip ip hy)),h.le,h.lo⟩
theorem Nn(ls:List Nat):∀ (k:Nat) (first:Bool) (at_:Nat) (i:List Str),(CU ls k first at_ i).2=0->(CU ls k first at_ i).1.length=i.length+k
 |0,_,_,_,_=>rfl
 |k+1,first,at_,i,h=>by
  unfold CU at h ⊢;split at h
  ·rename_i he;exact absurd h he
  ·rename_i he;rw[Ab he];rw[Nn ls k false _ _ h,Aj];simp;omega
theorem cJ:(prog.info? 3).map (fun i=>(i.zero,i.size,i.bytes))=some (some (.int .i64 0),1,8):=mr
theorem bG(w:World)(A:Option Addr)(m c size:Nat)(ls:List Nat)(hm:ls.length=m)(cg:m<=100000)(h8:∀x∈ls,x<=255)(bl:A=none->m=0/\c=0)(ha:Row w w A m 1 (jZ .u8 ls))(c9:1<=size)(de:size<=64):
 Calls prog 118 #[.int .i64 (size:Nat), .slice A m c] w (QQ w (FK size ls)):=by
 obtain⟨j0,cL,cX,cy,cz⟩:=info_parts cJ;have D0:=hid (new_any w A m c ls hm cg bl ha);have bb:ls.length<=100000:=mz
 have bS:=hid bb;have H8:=hid h8;have D1:=hid (fun wx g B d h=>IG wx g w ls B d 0 0 1048576 bb h8 mz h);have c7:=ig ((size:Int)<1)
 have c2:=ig (size<1)
 have df:=ig ((64:Int)<size)
 have c4:=ig (64<size)
 obtain⟨R,hR⟩:=ii (FK size ls);rw[<-hR];unfold FK at hR;obtain⟨Z,hZ⟩:=ii (Gz size ls);rw[<-hZ]at hR;unfold Gz at hZ;have dc:Ba 1048576 ls 0 0<=1048576:=Gb h8 0 0;have cf:AO 1048576 ls 0 0≠0->Ba 1048576 ls 0 0=0:=by intro h;unfold AO at h;rw[Ab pI]at h;unfold Ba;rw[Ab pI];exact((Hl 1048576 (ls.drop 0) fun x hx=>h8 x (Cb hx)).2.2.2.1 h).1
 generalize Ba 1048576 ls 0 0=n at *;generalize AM 1048576 ls 0 0=a0 at *;generalize AO 1048576 ls 0 0=e0 at *;have bn:Hid ((e0=0->∃f,n<=f+0/\szR n size ls f a0 0 []=Z)/\(e0≠0->Z=([],a0,e0))):=⟨fun h=>⟨n,mz,by rw[hZ,Ab pV]⟩,fun h=>by rw[hZ,Ae h]⟩;have HR:=hid hR;have cE:=hid cf;clear hm h8 bl ha hR hZ cf cg bb;go_enter func118,ntmps118;go_wp2_with fail;refine D0.out.mono ?_;rintro e w1 ⟨g,B,d,rfl,a9,bu⟩;have DI:=hid (D1.out w1 g B d a9);have cj:=hid bu;have c3:=a9.lo;have da:=a9.blk.lt;have dd:=bu.size;have cw:Hid (∀y,(Value.slice B ls.length d).ownBlock=some y->y<w1.heap.size):=fun y hy=>(Am a9.own y hy).2;clear a9 bu D0 D1;go_wp2_with fail;refine DI.out.mono ?_;rintro e w2 ⟨rfl,cm,az⟩;have cr:Hid (Below w w w2):=cj.out.trans (az.below fun b h=>⟨mz,mz⟩);have z2:=az.size;have cq:=hid cm;clear cm az cj DI;go_wp2_with fail;go_loopw [9,10] (fun v xv wr=>∃ (x at_ q:Nat) (er:Int) (G:List Nat),x<=n+64/\q<=x/\xv= .int .i64 x/\Hid (G.length=q)/\Hid (q*size=x)/\Hid (0<q->x<n+size)/\Hid (∀y∈G,y<=2000)/\Hid (Cur wr g w ls B d at_ er)/\Hid (wr.ownsRow w2 3 1 v q (cZ .i64 G))/\Hid (Kept (fun y=>y<w2.heap.size/\y≠g) w2 wr)/\Hid (er=0->∃f,n<=f+x/\szR n size ls f at_ x G=Z)/\Hid (er≠0->Z.2.2=er/\(n=0∨0<q))) (fun _ xv _=>n+64-(intOf xv).toNat)
 case atStart=>exact⟨0,a0,0,e0,[],mz,mz,rfl,rfl,px,fun h=>mz,fun y hy=>by simp at hy,cq.out,AK _ _ _ _,Kept.refl _ _,bn.out.1,fun h=>⟨by rw[bn.out.2 h], .inl (cE.out h)⟩⟩
 case round=>
  obtain⟨x,at_,q,er,G,hx,dg,rfl,HQ,bk,cc,HA,HC,HO,HK,HT,HE⟩:=hrel;have zk:=HK.out.size;obtain⟨va,vc,rfl⟩:=bZ HO.out;clear bn cq;by_cases c8:x<n
  ·have g1:=ic ((x:Int)<n);have cu:=ic (x<n);have DE:=hid (Dv wr g w ls B d at_ er HC.out);by_cases he:er=0
   ·subst he;obtain⟨f,hf,hT⟩:=HT.out rfl;obtain⟨f,rfl⟩:∃f',f=f'+1:=⟨f-1,mz⟩;rw[szR,Ab mz]at hT;have D:=hid (fun wx hx=>IG wx g w ls B d at_ 0 2000 bS.out H8.out mz hx);have az:Ba 2000 ls at_ 0<=2000:=Gb H8.out _ _;generalize Ba 2000 ls at_ 0=k at *;generalize AM 2000 ls at_ 0=a2 at *;generalize AO 2000 ls at_ 0=e2 at *;have sx:IntKind.i64.wrap ((x:Int)+(size:Int))=((x+size:Nat):Int):=nW;have Q:Hid ((e2=0->∃f',n<=f'+(x+size)/\szR n size ls f' a2 (x+size) (G++ [k])=Z)/\(e2≠0->Z.2.2=e2/\(n=0∨0<q+1))):=⟨fun h=>⟨f,mz,by rw[Ab pV]at hT;exact hT⟩,fun h=>by rw[Ae h]at hT;rw[<-hT];exact⟨rfl, .inr mz⟩⟩
    have cC:Hid (∀y∈G++ [k],y<=2000):=fun y hy=>by
     rcases BJ.1 hy with h|h
     ·exact HA.out y h
     ·rw[Eu]at h;omega
    have cl:Hid ((q+1)*size=x+size):=(by show _=_;rw[I1,bk.out]);clear hT HT HE hf HA bk cc;go_wp2_with fail;refine DE.out.mono ?_;rintro e w3 ⟨rfl,rfl⟩;go_wp2_with fail;refine(D.out _ HC.out).mono ?_;rintro e w4 ⟨rfl,ag,J⟩;have z4:=J.size;have aj:=hid ag;have ab:Hid (w4.ownsRow w2 3 1 (.slice va q vc) q (cZ .i64 G)):=eZ HO.out (fun y hy=>J.block y ⟨(Am HO.out y hy).2,by have:=(Am HO.out y hy).1;omega⟩);have b1:Hid (Kept (fun y=>y<w2.heap.size/\y≠g) w2 w4):=HK.out.trans ⟨J.os,J.tape,J.output,J.size,fun y hy=>J.block y ⟨mh,hy.2⟩⟩;clear ag J HC HO HK DE D;go_wp2_with(at_builtin;refine iZ rfl (.tmp 39) (.tmp 42) 37 rfl w2 3 j0 _ 1 8 underlying37 cL cX cy cz rfl ip _ _ _ nc (ab.out.alloc _) _ 1 1 [.int .i64 (k:Nat)] nc (Src.of_blk (Blk.made_at _ _ _ pI) 1 1 1 rfl) mj qg mz pQ ?_;intro v5 w5 am bC ce;obtain⟨A5,c5,rfl⟩:=bZ am);have b6:=fun(y:Nat) hy=>(Am ab.out y hy).1;have c6:=b1.out.size;have ci:=V7 (aj.out.step (aZ (o:= .cells #[.int .i64 (k:Nat)] 3) (Ag w4 w4))) bC w2 mz (fun y hy=>by have:=cw.out y hy;omega) b6;have cS:=hid ci;have cP:Hid (Kept (fun y=>y<w2.heap.size/\y≠g) w2 w5):=(b1.out.alloc (fun y hy=>by have:=hy.1;omega) _).grown bC (fun y hy=>by have:=hy.1;simp;omega) (fun y hy hh=>by have:=b6 y hy;have:=hh.1;omega);have cG:Hid (w5.ownsRow w2 3 1 (.slice A5 (q+1) c5) (q+1) (cZ .i64 (G++ [k]))):=(by show World.ownsRow _ _ _ _ _ _ _;rw[show cZ .i64 (G++ [k])=cZ .i64 G++ [.int .i64 (k:Nat)] by simp[cZ]];exact am);clear am bC ce b6 ci aj ab b1;go_roundw
    case measure=>exact jo
    case rel=>go_light;exact⟨x+size,a2,q+1,e2,G++ [k],mz,mz,iu,by show _=_;rw[Aj,HQ.out];rfl,cl.out,fun _=>mz,cC.out,cS.out,cG.out,cP.out,Q.out.1,Q.out.2⟩
   ·have gE:(er==0)=false:=p7;have aw:Hid ((er=0->Z=(G,at_,0))/\(er≠0->Z.2.2=er)):=⟨fun h=>absurd h he,fun h=>(HE.out h).1⟩;clear he HT HE;go_wp2_with fail;refine DE.out.mono ?_;rintro e w3 ⟨rfl,rfl⟩;clear DE;go_wp2_with fail;have ar:Hid ((er=0->R=bkR size ls (G.drop 0) (n-0) at_ [])/\(er≠0->R=([],0,er))):=⟨fun h=>ku,fun h=>kw⟩;have a4:Hid (DAt (w3.alloc (.cells #[(), .int .i64 (size:Nat),()] 254)) w w3 size [] [] (.slice none 0 0) (.slice none 0 0)):=⟨Blk.made _ _ _,AK _ _ _ _,AK _ _ _ _,(fun y h=>by cases h),mz⟩;have bi:Hid (Cur (w3.alloc (.cells #[(), .int .i64 (size:Nat),()] 254)) g w ls B d at_ er):=HC.out.step (aZ (Ag _ _));have bg:Hid ((w3.alloc (.cells #[(), .int .i64 (size:Nat),()] 254)).ownsRow w2 3 1 (.slice va q vc) q (cZ .i64 G)):=HO.out.alloc _;have av:Hid (Below w w w3):=cr.out.trans (HK.out.below fun b h=>⟨mz,mz⟩);have a6:Hid (Below w w (w3.alloc (.cells #[(), .int .i64 (size:Nat),()] 254))):=mZ av.out.size av.out;generalize b5:w3.heap.size=gd at *;clear b5 aw HR HC HO HK av;go_loopw [49] (fun iv wr=>∃ (i y E:Nat) (j:Int) (ts hs:List Str) (uT uH:Value),i<=q/\iv= .int .i64 i/\Hid (y=i*size)/\ts.length<=y/\hs.length<=ts.length/\Hid (∀s∈ts,s.length<=25)/\Hid (Cur wr g w ls B d E j)/\Hid (DAt wr w gd size ts hs uT uH)/\Hid (wr.ownsRow w2 3 1 (.slice va q vc) q (cZ .i64 G))/\Hid (Below w w wr)/\Hid (j=0->R=bkR size ls (G.drop i) (n-y) E ts)/\Hid (j≠0->R=([],0,j))) (fun iv _=>q-(intOf iv).toNat)
    case atStart=>exact⟨0,0,at_,er,[],[], .slice none 0 0, .slice none 0 0,mz,rfl,px,pI,pI,(fun s hs=>by simp at hs),bi.out,a4.out,bg.out,a6.out,ar.out.1,ar.out.2⟩
    case round=>
     obtain⟨i,y,E,j,ts,hs,uT,uH,hi,rfl,HY,cx,ca,b3,HC,HD,HO,HB,HT,HE⟩:=hrel;clear bi a4 bg a6 ar;have zr:=HB.out.size;by_cases bm:i<q
     ·have gi:=ic ((i:Int)<q);have cF:=ic (i<q);have cT:y+size<=x:=jr;have cB:=cc.out mz;obtain⟨k,hk⟩:∃k,G[i]? =some k:=⟨_,AD lu⟩;have az:=HA.out k (Bg hk);have aa:G.drop i=k :: G.drop (i+1):=(by obtain⟨hl,e⟩:=CE.1 hk;rw[Df hl,e]);obtain⟨gv,cv,b8,ct,_⟩:=HO.out.form mz;injection b8 with q1 q2 q3;subst q1 q3;clear q2;have ck:wr.cell? ⟨gv,i,none⟩=some (.int .i64 (k:Nat)):=ow;have c1:(0:Int)<=(i:Int):=mz;have cA:(i:Int)<(q:Int):=mz;have DT:=JK wr g w ls B d E j k bS.out mz HC.out;unfold JL at DT;have hT:j=0->R=bkR size ls (k :: G.drop (i+1)) (n-y) E ts:=fun h=>by rw[<-aa];exact HT.out h
      unfold bkR at hT;have bh:j≠0->BQ ls E j k=j:=fun h=>Ae h
      have al:∀z∈Bx ls E j k,z<=255:=fun z hz=>by
       unfold Bx at hz;split at hz
       ·simp at hz
       ·split at hz
        ·simp at hz
        ·exact H8.out z (Cb (C7 hz))
      have cH:=VG ls E j k;have bf:j=0->BQ ls E 0 k=BQ ls E j k/\Bx ls E 0 k=Bx ls E j k/\takeA ls E 0 k=takeA ls E j k:=fun h=>by subst h;exact⟨rfl,rfl,rfl⟩
      have Q:Hid (j=0->R=if BQ ls E j k≠0 then([],0,BQ ls E j k)else if(CU (Bx ls E j k) (min size (n-y)) true 0 ts).2≠0 then([],0,(CU (Bx ls E j k) (min size (n-y)) true 0 ts).2)else bkR size ls (G.drop (i+1)) (n-y-size) (takeA ls E j k) (CU (Bx ls E j k) (min size (n-y)) true 0 ts).1):=fun h=>mw
      have ai:=hid bh;have HK:=hid hk;generalize BQ ls E j k=e3 at *;generalize Bx ls E j k=pt at *;generalize takeA ls E j k=a3 at *;have bc:=hid al;have DT:=hid DT;clear aa hk hT bh al bf HT;go_wp2_with fail;refine DT.out.mono ?_;rintro e w4 ⟨v4,rfl,M,ag,J⟩;obtain⟨Ap,cp,rfl⟩:=bZ M;have z4:=J.size;have aj:=hid ag;have Y:Hid (DAt w4 w gd size ts hs uT uH):=HD.out.oth HC.out.blk J;have ab:Hid (w4.ownsRow w2 3 1 (.slice (some ⟨gv,0,none⟩) q vc) q (cZ .i64 G)):=eZ HO.out (fun z hz=>J.block z ⟨(Am HO.out z hz).2,by have:=(Am HO.out z hz).1;omega⟩);have aq:Hid (Below w w w4):=HB.out.trans (J.below fun b h=>⟨mz,mz⟩);have ax:=hid M;have DE:=hid (Dv w4 g w ls B d a3 e3 ag);clear M ag J DT HC HD HO HB ck;go_wp2_with fail;refine DE.out.mono ?_;rintro e w5 ⟨rfl,rfl⟩;by_cases ae:e3=0
      ·subst ae;have ak:j=0:=LC fun h=>h (ai.out h).symm;have hr:=Q.out ak;rw[Ab (show ¬((0:Int)≠0) from fun h=>h rfl)]at hr;obtain⟨r,be⟩:=ii (n-y);obtain⟨mn,au⟩:=ii (min size r);have sy:IntKind.i64.wrap ((i:Int)*(size:Int))=(y:Int):=pk;have sr:IntKind.i64.wrap ((n:Int)-(y:Int))=(r:Int):=nW;have c0:min (size:Int) (r:Int)=(mn:Int):=mz;rw[<-be,<-au]at hr;have DF:=Q8 w5 Ap pt.length cp mn w gd size pt ts hs uT uH rfl mz bc.out (Jl ax.out) (own_row ax.out) mz Y.out b3.out mz ca;have an:=Nn pt mn true 0 ts;generalize CU pt mn true 0 ts=F at *;obtain⟨f1,f2⟩:=F;simp only at hr an;have co:mn<=size:=(by rw[au];exact Nat.min_le_left _ _);have a1:Hid (r-size=n-(y+size)):=px;have DF:=hid DF;have ah:=hid hr;clear hr ax Q ai bc au DE be ak;go_wp2_with fail;refine DF.out.mono ?_;rintro e w6 ⟨rfl,U,ay⟩;have bj:Hid (Below w w w6):=aq.out.trans (U.below fun b hb=>TK Y.out mz hb);by_cases hf:f2=0
       ·subst hf;obtain⟨a5,h6,bx,bq,bd,_,_,ba⟩:=ay rfl;have bt:=hid (QD aj.out Y.out U);have b0:Hid (w6.ownsRow w2 3 1 (.slice (some ⟨gv,0,none⟩) q vc) q (cZ .i64 G)):=eZ ab.out (fun z hz=>U.block z (PU Y.out ab.out ip ip hz));have b4:=hid bd;have bp:=hid a5;have b7:=an rfl;have bN:Hid (R=bkR size ls (G.drop (i+1)) (n-(y+size)) a3 f1):=km;have cd:Hid (y+size=(i+1)*size):=(by show _=_;rw[I1,HY.out]);have b9:f1.length<=y+size:=mz;simp only at ba;clear U ay a5 bd ah DF aj Y ab aq b7 an a1;go_wp2_with fail;go_roundw
        case measure=>exact jo
        case rel=>exact jd
       ·have gE:(f2 != 0)=true:=(by simpa using hf);have N:Hid (R=([],0,f2)):=(by have h:=ah.out;rw[Ae hf]at h;exact h);have af:=hid hf;clear hf ah ay U DF HE;go_wp2_with fail
        go_ret3
        exact Ka N.out af.out bj.out
      ·have gE:(e3 != 0)=true:=by simpa using ae
       have N:Hid (R=([],0,e3)):=by
        by_cases h:j=0
        ·have h2:=Q.out h;rw[Ae ae]at h2;exact h2
        ·rw[ai.out h];exact HE.out h
       have af:=hid ae;clear ae Q HE ai DE;go_wp2_with fail
       go_ret3
       exact Ka N.out af.out aq.out
     ·obtain rfl:i=q:=by omega
      have gi:=ig ((i:Int)<i);have DE:=hid (Dv wr g w ls B d E j HC.out);have DA:=hid (Kd wr g w ls B d E j HC.out);by_cases ac:j=0
      ·subst ac;have N:Hid (R=(ts,E,0)):=ki;clear HT HE;go_wp2_with fail;refine DE.out.mono ?_;rintro e w5 ⟨rfl,rfl⟩;go_wp2_with fail;refine DA.out.mono ?_;rintro e w6 ⟨rfl,rfl⟩;go_wp2_with fail
       go_ret3
       rw[N.out];exact⟨HB.out,fun h=>absurd rfl h,fun _=>⟨gd,size,hs,uT,uH,rfl,HD.out⟩⟩
      ·have gE:(j != 0)=true:=(by simpa using ac);have N:Hid (R=([],0,j)):=HE.out ac;have af:=hid ac;clear ac HT HE DA;go_wp2_with fail;refine DE.out.mono ?_;rintro e w5 ⟨rfl,rfl⟩;go_wp2_with fail
       go_ret3
       exact Ka N.out af.out HB.out
  ·have g1:=ig ((x:Int)<n);have cu:=ig (x<n);have aw:Hid ((er=0->Z=(G,at_,0))/\(er≠0->Z.2.2=er)):=⟨fun h=>by obtain⟨f,_,h2⟩:=HT.out h;rw[TZ mz]at h2;exact h2.symm,fun h=>(HE.out h).1⟩;clear HT HE;obtain⟨w3,rfl⟩:=ii wr;go_wp2_with fail;have ar:Hid ((er=0->R=bkR size ls (G.drop 0) (n-0) at_ [])/\(er≠0->R=([],0,er))):=⟨fun h=>ku,fun h=>kw⟩;have a4:Hid (DAt (w3.alloc (.cells #[(), .int .i64 (size:Nat),()] 254)) w w3 size [] [] (.slice none 0 0) (.slice none 0 0)):=⟨Blk.made _ _ _,AK _ _ _ _,AK _ _ _ _,(fun y h=>by cases h),mz⟩;have bi:Hid (Cur (w3.alloc (.cells #[(), .int .i64 (size:Nat),()] 254)) g w ls B d at_ er):=HC.out.step (aZ (Ag _ _));have bg:Hid ((w3.alloc (.cells #[(), .int .i64 (size:Nat),()] 254)).ownsRow w2 3 1 (.slice va q vc) q (cZ .i64 G)):=HO.out.alloc _;have av:Hid (Below w w w3):=cr.out.trans (HK.out.below fun b h=>⟨mz,mz⟩);have a6:Hid (Below w w (w3.alloc (.cells #[(), .int .i64 (size:Nat),()] 254))):=mZ av.out.size av.out;generalize b5:w3.heap.size=gd at *;clear b5 aw HR HC HO HK av;go_loopw [49] (fun iv wr=>∃ (i y E:Nat) (j:Int) (ts hs:List Str) (uT uH:Value),i<=q/\iv= .int .i64 i/\Hid (y=i*size)/\ts.length<=y/\hs.length<=ts.length/\Hid (∀s∈ts,s.length<=25)/\Hid (Cur wr g w ls B d E j)/\Hid (DAt wr w gd size ts hs uT uH)/\Hid (wr.ownsRow w2 3 1 (.slice va q vc) q (cZ .i64 G))/\Hid (Below w w wr)/\Hid (j=0->R=bkR size ls (G.drop i) (n-y) E ts)/\Hid (j≠0->R=([],0,j))) (fun iv _=>q-(intOf iv).toNat)
   case atStart=>exact⟨0,0,at_,er,[],[], .slice none 0 0, .slice none 0 0,mz,rfl,px,pI,pI,(fun s hs=>by simp at hs),bi.out,a4.out,bg.out,a6.out,ar.out.1,ar.out.2⟩
   case round=>
    obtain⟨i,y,E,j,ts,hs,uT,uH,hi,rfl,HY,cx,ca,b3,HC,HD,HO,HB,HT,HE⟩:=hrel;clear bi a4 bg a6 ar;have zr:=HB.out.size;by_cases bm:i<q
    ·have gi:=ic ((i:Int)<q);have cF:=ic (i<q);have cT:y+size<=x:=jr;have cB:=cc.out mz;obtain⟨k,hk⟩:∃k,G[i]? =some k:=⟨_,AD lu⟩;have az:=HA.out k (Bg hk);have aa:G.drop i=k :: G.drop (i+1):=(by obtain⟨hl,e⟩:=CE.1 hk;rw[Df hl,e]);obtain⟨gv,cv,b8,ct,_⟩:=HO.out.form mz;injection b8 with q1 q2 q3;subst q1 q3;clear q2;have ck:wr.cell? ⟨gv,i,none⟩=some (.int .i64 (k:Nat)):=ow;have c1:(0:Int)<=(i:Int):=mz;have cA:(i:Int)<(q:Int):=mz;have DT:=JK wr g w ls B d E j k bS.out mz HC.out;unfold JL at DT;have hT:j=0->R=bkR size ls (k :: G.drop (i+1)) (n-y) E ts:=fun h=>by rw[<-aa];exact HT.out h
     unfold bkR at hT;have bh:j≠0->BQ ls E j k=j:=fun h=>Ae h
     have al:∀z∈Bx ls E j k,z<=255:=fun z hz=>by
      unfold Bx at hz;split at hz
      ·simp at hz
      ·split at hz
       ·simp at hz
       ·exact H8.out z (Cb (C7 hz))
     have cH:=VG ls E j k;have bf:j=0->BQ ls E 0 k=BQ ls E j k/\Bx ls E 0 k=Bx ls E j k/\takeA ls E 0 k=takeA ls E j k:=fun h=>by subst h;exact⟨rfl,rfl,rfl⟩
     have Q:Hid (j=0->R=if BQ ls E j k≠0 then([],0,BQ ls E j k)else if(CU (Bx ls E j k) (min size (n-y)) true 0 ts).2≠0 then([],0,(CU (Bx ls E j k) (min size (n-y)) true 0 ts).2)else bkR size ls (G.drop (i+1)) (n-y-size) (takeA ls E j k) (CU (Bx ls E j k) (min size (n-y)) true 0 ts).1):=fun h=>mw
     have ai:=hid bh;have HK:=hid hk;generalize BQ ls E j k=e3 at *;generalize Bx ls E j k=pt at *;generalize takeA ls E j k=a3 at *;have bc:=hid al;have DT:=hid DT;clear aa hk hT bh al bf HT;go_wp2_with fail;refine DT.out.mono ?_;rintro e w4 ⟨v4,rfl,M,ag,J⟩;obtain⟨Ap,cp,rfl⟩:=bZ M;have z4:=J.size;have aj:=hid ag;have Y:Hid (DAt w4 w gd size ts hs uT uH):=HD.out.oth HC.out.blk J;have ab:Hid (w4.ownsRow w2 3 1 (.slice (some ⟨gv,0,none⟩) q vc) q (cZ .i64 G)):=eZ HO.out (fun z hz=>J.block z ⟨(Am HO.out z hz).2,by have:=(Am HO.out z hz).1;omega⟩);have aq:Hid (Below w w w4):=HB.out.trans (J.below fun b h=>⟨mz,mz⟩);have ax:=hid M;have DE:=hid (Dv w4 g w ls B d a3 e3 ag);clear M ag J DT HC HD HO HB ck;go_wp2_with fail;refine DE.out.mono ?_;rintro e w5 ⟨rfl,rfl⟩;by_cases ae:e3=0
     ·subst ae;have ak:j=0:=LC fun h=>h (ai.out h).symm;have hr:=Q.out ak;rw[Ab (show ¬((0:Int)≠0) from fun h=>h rfl)]at hr;obtain⟨r,be⟩:=ii (n-y);obtain⟨mn,au⟩:=ii (min size r);have sy:IntKind.i64.wrap ((i:Int)*(size:Int))=(y:Int):=pk;have sr:IntKind.i64.wrap ((n:Int)-(y:Int))=(r:Int):=nW;have c0:min (size:Int) (r:Int)=(mn:Int):=mz;rw[<-be,<-au]at hr;have DF:=Q8 w5 Ap pt.length cp mn w gd size pt ts hs uT uH rfl mz bc.out (Jl ax.out) (own_row ax.out) mz Y.out b3.out mz ca;have an:=Nn pt mn true 0 ts;generalize CU pt mn true 0 ts=F at *;obtain⟨f1,f2⟩:=F;simp only at hr an;have co:mn<=size:=(by rw[au];exact Nat.min_le_left _ _);have a1:Hid (r-size=n-(y+size)):=px;have DF:=hid DF;have ah:=hid hr;clear hr ax Q ai bc au DE be ak;go_wp2_with fail;refine DF.out.mono ?_;rintro e w6 ⟨rfl,U,ay⟩;have bj:Hid (Below w w w6):=aq.out.trans (U.below fun b hb=>TK Y.out mz hb);by_cases hf:f2=0
      ·subst hf;obtain⟨a5,h6,bx,bq,bd,_,_,ba⟩:=ay rfl;have bt:=hid (QD aj.out Y.out U);have b0:Hid (w6.ownsRow w2 3 1 (.slice (some ⟨gv,0,none⟩) q vc) q (cZ .i64 G)):=eZ ab.out (fun z hz=>U.block z (PU Y.out ab.out ip ip hz));have b4:=hid bd;have bp:=hid a5;have b7:=an rfl;have bN:Hid (R=bkR size ls (G.drop (i+1)) (n-(y+size)) a3 f1):=km;have cd:Hid (y+size=(i+1)*size):=(by show _=_;rw[I1,HY.out]);have b9:f1.length<=y+size:=mz;simp only at ba;clear U ay a5 bd ah DF aj Y ab aq b7 an a1;go_wp2_with fail;go_roundw
       case measure=>exact jo
       case rel=>exact jd
      ·have gE:(f2 != 0)=true:=(by simpa using hf);have N:Hid (R=([],0,f2)):=(by have h:=ah.out;rw[Ae hf]at h;exact h);have af:=hid hf;clear hf ah ay U DF HE;go_wp2_with fail
       go_ret3
       exact Ka N.out af.out bj.out
     ·have gE:(e3 != 0)=true:=by simpa using ae
      have N:Hid (R=([],0,e3)):=by
       by_cases h:j=0
       ·have h2:=Q.out h;rw[Ae ae]at h2;exact h2
       ·rw[ai.out h];exact HE.out h
      have af:=hid ae;clear ae Q HE ai DE;go_wp2_with fail
      go_ret3
      exact Ka N.out af.out aq.out
    ·obtain rfl:i=q:=by omega
     have gi:=ig ((i:Int)<i);have DE:=hid (Dv wr g w ls B d E j HC.out);have DA:=hid (Kd wr g w ls B d E j HC.out);by_cases ac:j=0
     ·subst ac;have N:Hid (R=(ts,E,0)):=ki;clear HT HE;go_wp2_with fail;refine DE.out.mono ?_;rintro e w5 ⟨rfl,rfl⟩;go_wp2_with fail;refine DA.out.mono ?_;rintro e w6 ⟨rfl,rfl⟩;go_wp2_with fail
      go_ret3
      rw[N.out];exact⟨HB.out,fun h=>absurd rfl h,fun _=>⟨gd,size,hs,uT,uH,rfl,HD.out⟩⟩
     ·have gE:(j != 0)=true:=(by simpa using ac);have N:Hid (R=([],0,j)):=HE.out ac;have af:=hid ac;clear ac HT HE DA;go_wp2_with fail;refine DE.out.mono ?_;rintro e w5 ⟨rfl,rfl⟩;go_wp2_with fail
      go_ret3
      exact Ka N.out af.out HB.out
end Idx
end Go.Proofs.YtfgdoknipbpfhaaGreatDoor
