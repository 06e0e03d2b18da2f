/- An opened body: the  -/
import Derived.Test.YtfgdoknipbpfhaaGreatDoorZTwoUnpacks29
import Derived.Test.YtfgdoknipbpfhaaGreatDoorZTwoUnpacks30
namespace Go.Proofs.YtfgdoknipbpfhaaGreatDoor
open Go.Proofs.Tryz
open Go.Lib (hid)
variable{C S ls:List Nat}{w w':World}{base bound gb:Nat}{F:List (List Nat)}{K:List Bool}{vF va vc vs x2 x3 x4 x5 x6 x7:Value}{fv:List Value}
namespace Body
open Go.RowKit Mem Own Canon Nums Crc Recs
open Opts
open Idx (Str IxAt)
instance footDec (ls:List Nat):Decidable (Hf ls):=by unfold Hf;exact inferInstance
def Ci(ls:List Nat):Nat:=ls.length-4-Fa (ls.drop (ls.length-4))
def wZ(ls:List Nat):List Nat:=vZ (Eh ls)
def oN(ls:List Nat):Nat:=(Bj (wZ ls)).sum
def Bm(ls:List Nat):List Nat:=((ls.take (Ci ls)).drop (By (wZ ls)).sum).take (dP (wZ ls))
def Cx(ls:List Nat):List Nat:=(ls.take (Ci ls)).drop ((By (wZ ls)).sum+dP (wZ ls))
def opnI(o:Opt)(ls:List Nat):Int:=if Bx (Cx ls)≠0 then Bx (Cx ls)else(Idx.ixR o.bucket.toNat (oN ls) (vZ (Cx ls))).2
def Hv(o:Opt)(ls:List Nat):Int:=if FY (oN ls) (Bm ls)≠0 then FY (oN ls) (Bm ls)else opnI o ls
def Hs(o:Opt)(ls:List Nat):Int:=if EX (Ci ls) (wZ ls)≠0 then EX (Ci ls) (wZ ls)else Hv o ls
def Hr(o:Opt)(ls:List Nat):Int:=if Hf ls then 1 else if Bx (Eh ls)≠0 then Bx (Eh ls)else Hs o ls
def BO(o:Opt)(ls:List Nat):Int:=if Dl o≠0 then Dl o else Hr o ls
theorem Ti{i:Nat}(h:EX i ls=0):0 ∉ Bj ls/\(Bj ls).sum=Co ls/\(By ls).sum+dP ls+dQ ls=i:=by
 unfold EX at h;split at h
 ·rename_i he;exact absurd h he
 ·split at h
  ·cases h
  ·rename_i hn;exact⟨fun h=>hn (.inl h),Fm fun h=>hn (.inr (.inl h)),Fm fun h=>hn (.inr (.inr h))⟩
def BodyAt(w:World)(base gb:Nat)(C S T L:List Nat)(X:List Str×List (List Nat))(F:List (List Nat))(K:List Bool):Prop:=
 ∃vc vs p q vt vl vT vL vF va vals fv,Blk w gb 102 #[vc,vs,p,q,vt,vl,vT,vL,vF,va]/\w.ownsRow base 3 1 vc C.length (cZ .i64 C)/\w.ownsRow base 3 1 vs S.length (cZ .i64 S)/\
  w.ownsRow base 41 1 vt T.length (cZ .u64 T)/\w.ownsRow base 5 1 vl L.length (cZ .u8 L)/\IxAt w base vT vL vals X.1 X.2/\FrAt w base vF fv F/\w.ownsRow base 4 1 va K.length (K.map Value.bool)
theorem BodyAt.step{T L:List Nat}{X:List Str×List (List Nat)}(h:BodyAt w base gb C S T L X F K)(hb:aO w w'):BodyAt w' base gb C S T L X F K:=by obtain⟨vc,vs,p,q,vt,vl,vT,vL,vF,va,vals,fv,h0,h1,h2,h3,h4,h5,h6,h7⟩:=h;have far:∀ {n:Nat} {e:TypeId} {v:Value} {xs:List Value},w.ownsRow base e 1 v n xs->w'.ownsRow base e 1 v n xs:=fun ho=>dZ ho fun y hy=>hb.block y (Ae ho y hy).2;exact⟨vc,vs,p,q,vt,vl,vT,vL,vF,va,vals,fv,h0.step hb,far h1,far h2,far h3,far h4,⟨far h5.t,far h5.l,fun i v ids hv hi=>far (h5.r i v ids hv hi)⟩,h6.step hb,far h7⟩
structure BSt (w:World) (base gb:Nat) (C S:List Nat) (F:List (List Nat)) (K:List Bool) (vc vs x2 x3 x4 x5 x6 x7 vF va:Value) (fv:List Value):Prop where
 blk:Blk w gb 102 #[vc,vs,x2,x3,x4,x5,x6,x7,vF,va]
 oc:w.ownsRow base 3 1 vc C.length (cZ .i64 C)
 os:w.ownsRow base 3 1 vs S.length (cZ .i64 S)
 fr:FrAt w base vF fv F
 oa:w.ownsRow base 4 1 va K.length (K.map Value.bool)
theorem BSt.keep{y4 y5 y6 y7:Value}(h:BSt w base gb C S F K vc vs x2 x3 x4 x5 x6 x7 vF va fv)(hk:Kept (fun x=>x<w.heap.size/\x≠gb) w w')(hb:Blk w' gb 102 #[vc,vs,x2,x3,y4,y5,y6,y7,vF,va]):BSt w' base gb C S F K vc vs x2 x3 y4 y5 y6 y7 vF va fv:=by have far:∀ {n:Nat} {e:TypeId} {v:Value} {xs:List Value},w.ownsRow base e 1 v n xs->e≠102->w'.ownsRow base e 1 v n xs:=fun ho hne=>dZ ho fun y hy=>hk.block y ⟨(Ae ho y hy).2,fun e=>fZ ho h.blk hne (e ▸ hy)⟩;exact⟨hb,far h.oc iX,far h.os iX,⟨far h.fr.l iX,fun i v b hv hi=>far (h.fr.r i v b hv hi) iX⟩,far h.oa iX⟩
theorem BSt.step(h:BSt w base gb C S F K vc vs x2 x3 x4 x5 x6 x7 vF va fv)(hb:aO w w'):BSt w' base gb C S F K vc vs x2 x3 x4 x5 x6 x7 vF va fv:=
 h.keep (Kept.of_below hb fun _ hx=>hx.1) (h.blk.step hb)
theorem ZI:(prog.info? 4).map (fun i=>(i.zero,i.size,i.bytes))=some (some (.bool false),1,1):=kG
theorem Zq(n:Nat)(hn:n<=8388608)(w:World):(Instr.makeSlice 76 (.int .i64 (n:Int)) (.int .i64 (n:Int))).run prog w=
 .ok (.slice (some ⟨w,0,none⟩) n n) (w.alloc (.cells (madeCells #[false] n) 4)):=by
 obtain⟨i0,hi,y,i,j⟩:=info_parts ZI;have h:=run_make (P:=prog) w 76 4 i0 (.bool false) underlying76 hi y .i64 .i64 (n:Int) (n:Int) kR (Int.le_refl _) mr kR;simp only[Int.toNat_natCast]at h;simpa[i,Value.cells]using h
theorem Za(w:World)(base n:Nat)(hb:base<=w.heap.size)(hn:n<=8388608):(w.alloc (.cells (madeCells #[false] n) 4)).ownsRow base 4 1 (.slice (some ⟨w,0,none⟩) n n) n ((List.replicate n false).map Value.bool):=by
 refine⟨mY, .inr ⟨w.heap.size,n,madeCells #[false] n,rfl,hb,heap_alloc_new w _,Ai _,nI,by simp[size_madeCells],?_⟩⟩;apply List.ext_getElem
 ·simp[madeCells]
 ·intro i h1 h2;simp[madeCells,Nat.mod_one]
def ON(o:Opt)(ls:List Nat)(w:World)(e:Ending)(w':World):Prop:=
 aO w w'/\(BO o ls≠0->e= .returned (.tuple #[.pointer none, .int .i64 (BO o ls)]))/\
  (BO o ls=0->∃gb,e= .returned (.tuple #[.pointer (some ⟨gb,0,none⟩),iT])/\BodyAt w' w gb (Bj (wZ ls)) (By (wZ ls)) (AU (oN ls) (vZ (Bm ls))).1 (AU (oN ls) (vZ (Bm ls))).2.1 (Idx.ixR o.bucket.toNat (oN ls) (vZ (Cx ls))).1 (Bv (By (wZ ls)) (ls.take (Ci ls))) (List.replicate (By (wZ ls)).length false))
theorem IQ{o:Opt}{er:Int}(hE:BO o ls=er)(i:er≠0)(hb:aO w w'):ON o ls w (.returned (.tuple #[.pointer none,er])) w':=nE
theorem QE{o:Opt}(h:Dl o=0):∃bu:Nat,o.bucket=(bu:Int)/\1<=bu/\bu<=64:=by
 unfold Dl Dj Opt.body at h;split at h
 ·rename_i hc;obtain⟨_,⟨h1,h2⟩,_⟩:=hc;simp only at h1 h2;exact⟨o.bucket.toNat,kR,kR,kR⟩
 ·cases h
end Body
namespace Body
open Go.RowKit Mem Own Canon Nums Crc Recs
open Opts
open Idx (Str IxAt PH)
set_option maxHeartbeats 4000000 in
set_option maxRecDepth 100000 in
theorem YW(w:World)(o:Opt)(A:Option Addr)(n c:Nat)(ls:List Nat)(hn:ls.length=n)(dx:n<=100000)(hc:n<=c)(h8:∀x∈ls,x<=255)(bX:A=none->n=0/\c=0)(ht:TabAt w)(ha:Row w w A n 1 (jZ .u8 ls)):
 Calls prog 13 #[o.val, .slice A n c] w (ON o ls w):=by
 have cU:Hid (∀wx,aO w wx->Row wx wx A n 1 (jZ .u8 ls)):=fun wx h=>(ha.below h).mono h.size;have D0:=hid (fun wx=>Qt wx o);have D1:=hid (fun wx (h:aO w wx)=>Ug wx A n c ls hn dx hc h8 (ht.step h) (fun a _=>rfl) (cU.out wx h));have HT:=hid ht;have HN:=hid hn;have H8:=hid h8;have dv:=hid bX;have HA:=hid ha;have cF:Hid (Dl o=0->∃bu:Nat,o.bucket=(bu:Int)/\1<=bu/\bu<=64):=QE;clear ha bX h8 ht hn cU;obtain⟨O,hO⟩:=iS (BO o ls);have HO:=hid hO;unfold BO at hO;generalize Dl o=oe at *;have b6:=hid hO;clear hO;unfold Opt.val;unfold Opt.val at D0;generalize am:o.bucket=b2 at *;have dp:=hid am;clear am;generalize o.block=b0 at *;generalize o.plain=b1 at *;generalize o.data=b3 at *;generalize o.parity=b4 at *;generalize o.chunk=b5 at *;go_enter func13,ntmps13;go_wp2_with fail;have c8:Blk (w.alloc (.cells #[b0,b1,b2,b3,b4,b5] 23)) w 23 #[b0,b1,b2,b3,b4,b5]:=Blk.made _ _ _;have cX:aO w (w.alloc (.cells #[b0,b1,b2,b3,b4,b5] 23)):=bZ (Ag _ _);have dG:w.heap.size+1<=(w.alloc (.cells #[b0,b1,b2,b3,b4,b5] 23)).heap.size:=mY
 generalize w.alloc (.cells #[b0,b1,b2,b3,b4,b5] 23)=w1 at *;have bM:=hid c8;have cQ:=hid cX;clear c8 cX;refine(D0.out _).mono ?_;rintro e w2 ⟨rfl,am⟩;have cr:Hid (aO w w2):=cQ.out.trans (am.mono kR);have av:=hid (bM.out.step am);have z2:=am.size;clear am cQ bM D0;by_cases bi:oe=0
 ·subst bi;obtain⟨bu,rfl,cP,dd⟩:=cF.out rfl;have hO:=b6.out;rw[Aa (show ¬((0:Int)≠0) from fun h=>h rfl)]at hO;have bG:=hid hO;have D1:=hid (D1.out w2 cr.out);have da:Hid (o.bucket.toNat=bu):=by show _=_;rw[dp.out];exact CA _
  clear hO cF dp;go_wp2_with fail;refine D1.out.mono ?_;rintro e w3 ⟨bp,a7,cy⟩;have bI:Hid (aO w w3):=cr.out.trans (bp.mono kR);have au:=hid (av.out.step bp);have z3:=bp.size;by_cases aS:Hf ls
  ·obtain rfl:=a7 aS;have HF:Hid (O=1):=(by have h:=bG.out;unfold Hr at h;rw[Ab aS]at h;exact h);have G:Hid ((1:Int)≠0):=show(1:Int)≠0 by decide
   have E:=bI;clear aS a7 cy bp av au D1;go_wp2_with fail;go_ret2;exact IQ (HO.out.symm.trans HF.out) G.out E.out
  ·obtain⟨v,rfl,an⟩:=cy aS;have hO:=bG.out;unfold Hr at hO;rw[Aa aS]at hO;rw[show ls.length-4-Fa (ls.drop (ls.length-4))=Ci ls from rfl];have di:Ci ls<=n:=(by unfold Ci;rw[HN.out];omega);obtain⟨r,hr⟩:=iS (Ci ls);rw[<-hr]at di ⊢;have aU:=hid hr;have bK:=hid hO;have an:w3.ownsRow w2 5 1 v (wZ ls).length (cZ .u8 (wZ ls)):=an;have dg:(wZ ls).length<=n:=(by unfold wZ;refine AY (JC _) ?_;unfold Eh;rw[AN,AK,HN.out];omega);have cu:∀x∈wZ ls,x<=255:=(by unfold wZ;exact GA (fun x hx=>by unfold Eh at hx;exact H8.out x (Be (BZ hx))));generalize Bx (Eh ls)=ce at *;obtain⟨D,hD⟩:=iS (wZ ls);rw[<-hD]at an dg cu;have al:=hid hD;have cg:=hid cu;obtain⟨dl,a4⟩:=iS D.length;rw[<-a4]at an dg;obtain⟨Ad,cd,rfl⟩:=aZ an;have bB:=hid a4;have cH:=hid an;have dy:Hid (Row w w A r 1 (jZ .u8 (ls.take r))):=Dd HA.out di;clear aS a7 cy bp av D1 hO hr hD cu an a4;by_cases Z:ce=0
   ·subst Z;have hO:=bK.out;rw[Aa (show ¬((0:Int)≠0) from fun h=>h rfl)]at hO;have aW:=hid hO;clear hO bK bG;go_wp2_with fail;have cO:Blk (w3.alloc (.cells #[(),(),iT,iT,(),(),(),(),(),()] 102)) w3 102 #[(),(),iT,iT,(),(),(),(),(),()]:=Blk.made _ _ _;have cm:aO w3 (w3.alloc (.cells #[(),(),iT,iT,(),(),(),(),(),()] 102)):=bZ (Ag _ _);have dw:w3.heap.size+1<=(w3.alloc (.cells #[(),(),iT,iT,(),(),(),(),(),()] 102)).heap.size:=mY;have ay:=cH.out.alloc (.cells #[(),(),iT,iT,(),(),(),(),(),()] 102);generalize w3.alloc (.cells #[(),(),iT,iT,(),(),(),(),(),()] 102)=w4 at *;have cA:Hid (aO w w4):=bI.out.trans (cm.mono kR);have bn:=hid (au.out.step cm);have dF:w3.heap.size<w4.heap.size:=kR;generalize du:w3.heap.size=gb at *;have dK:w.heap.size<gb:=kR;rw[bB.out]at ay;have DD:=hid (Un w4 gb 102 (.int .i64 0) (.int .i64 0) [.slice none 0 0, .slice none 0 0, .slice none 0 0, .slice none 0 0, .slice none 0 0, .slice none 0 0] Ad dl cd r D cO iX iX bB.out.symm kR cg.out (by rw[bB.out];exact G7 ay) (by have h:=own_row ay;rw[<-bB.out]at h;exact h));have cq:Hid (EX r D=0->0 ∉ Bj D/\(Bj D).sum=Co D/\(By D).sum+dP D+dQ D=r):=Ti;have ck:Hid (Co D<=20000):=CI cg.out _ _;have aT:Hid ((Bj D).length=(By D).length/\(Bj D).length<=20000):=(by have h:=KR (rec:=Co D) (ls:=D) (EZ D) (nZ (Co D) D (nZ 20000 D 0 0) (oZ 20000 D 0 0)) (oZ (Co D) D (nZ 20000 D 0 0) (oZ 20000 D 0 0)) [] [] rfl;have h2:EZ D<=20000:=AY (CI cg.out _ _) ck.out;refine⟨h.1,?_⟩;have h3:(Bj D).length<=0+EZ D:=h.2.1;omega);unfold MZ at DD;unfold Hs at aW;rw[<-aU.out,<-al.out]at aW;generalize EX r D=de at *;clear cO cm ay au cH bI du dw;refine DD.out.mono ?_;rintro e w5 ⟨rfl,a3,bm⟩;have a5:Hid (aO w w5):=cA.out.trans (a3.below fun b h=>⟨kR,kR⟩);have bc:Hid (Blk w5 w 23 #[b0,b1, .int .i64 (bu:Nat),b3,b4,b5]):=(a3.block w ⟨kR,kR⟩).trans bn.out;have z5:=a3.size;by_cases a0:de=0
    ·subst a0;obtain⟨vc,vs,bE,bk,ag,bT⟩:=bm rfl;obtain⟨dz,cG,bg⟩:=cq.out rfl;have hO:=aW.out;rw[Aa (show ¬((0:Int)≠0) from fun h=>h rfl)]at hO;unfold Hv oN Bm at hO;rw[<-aU.out,<-al.out]at hO;have aj:=hid hO;have bh:Hid ((Bj D).sum<=20000):=(by show _<=_;rw[cG];exact ck.out);obtain⟨C,hC⟩:=iS (Bj D);obtain⟨S,hS⟩:=iS (By D);have ct:=hid hC;have bF:=hid hS;rw[<-hC]at bk bh aT cG aj;rw[<-hS]at ag bg aT aj;obtain⟨p,hp⟩:=iS (dP D);obtain⟨q,hq⟩:=iS (dQ D);have cI:=hid hp;rw[<-hp]at bE bg aj;rw[<-hq]at bE bg;obtain⟨ns,bf⟩:=iS S.length;have co:=hid bf;have dL:ns<=20000:=(by rw[bf,<-aT.out.1];exact aT.out.2);rw[<-bf]at ag;obtain⟨As,cs,rfl⟩:=aZ ag;have aX:(ls.take r).length=r:=(by rw[AN,HN.out];omega);have dq:∀x∈ls.take r,x<=255:=fun x hx=>H8.out x (BZ hx);have DS:=Wh w5 gb w w4 p q 102 vc (.slice none 0 0) (.slice none 0 0) (.slice none 0 0) (.slice none 0 0) [.slice none 0 0] As A ns cs r c S (ls.take r) bE iX iX iX bf.symm kR ag aX kR kR dq kR (dy.out.below a5.out) kR (fun e=>by have:=dv.out e;omega);unfold M4 at DS;rw[aX,show r-S.sum-p=q by omega]at DS;have DS:=hid DS;have aw:=hid bk;have aQ:=hid ag;have cR:=hid bT;have dN:q<=r:=kR;have dO:p<=r:=kR;have bU:=hid bg;clear hO hC hS hp hq bf bE bk ag bT dz cG bg a3 bm DD cq ck aW aX dq bn cA;go_wp2_with fail;refine DS.out.mono ?_;rintro e w6 ⟨A2,A3,c2,c3,vF,fv,rfl,dr,c6,c1,c4,j⟩;have c5:Hid (aO w w6):=a5.out.trans (j.kept.below fun b h=>⟨kR,kR⟩);have z6:=j.kept.size;have cJ:(Bv S (ls.take r)).length=ns:=(by rw[JF,co.out]);have cv:=j.fr.l;rw[cJ]at cv;obtain⟨Af,cf,rfl⟩:=aZ cv;have b8:=j.blk.cell 8;have b9:=j.blk.cell 9;have f9:=j.blk.frozen 9;simp only[List.cons_append,List.nil_append,List.getElem?_toArray,List.getElem?_cons_zero,List.getElem?_cons_succ]at b8 b9;have dt:=hid j;have c0:Hid (Row w w A2 p 1 (jZ .u8 (((ls.take r).drop S.sum).take p))):=c1.keep fun a ha=>(a5.out.cell ha).symm;have cY:Hid (Row w w A3 q 1 (jZ .u8 ((ls.take r).drop (S.sum+p)))):=c4.keep fun a ha=>(a5.out.cell ha).symm;have dA:=Zq ns kR;have dc:gb<w6.heap.size:=kR;have bQ:Hid (Blk w6 w 23 #[b0,b1, .int .i64 (bu:Nat),b3,b4,b5]):=(j.kept.block w ⟨kR,kR⟩).trans bc.out;have cC:w6.ownsRow w4 3 1 vc C.length (cZ .i64 C):=dZ aw.out (fun y hy=>j.kept.block y ⟨(Ae aw.out y hy).2,by have:=(Ae aw.out y hy).1;omega⟩);have cl:w6.ownsRow w4 3 1 (.slice As ns cs) ns (cZ .i64 S):=dZ aQ.out (fun y hy=>j.kept.block y ⟨(Ae aQ.out y hy).2,by have:=(Ae aQ.out y hy).1;omega⟩);have bj:=Za w6 w ns kR kR;have cV:Blk ((w6.alloc (.cells (madeCells #[false] ns) 4)).setCell ⟨gb,9,none⟩ (.slice (some ⟨w6,0,none⟩) ns ns)) gb 102 #[vc, .slice As ns cs, .int .i64 (p:Nat), .int .i64 (q:Nat),(),(),(),(), .slice Af ns cf, .slice (some ⟨w6,0,none⟩) ns ns]:=(by have h:=(j.blk.alloc (.cells (madeCells #[false] ns) 4)).set 9 (.slice (some ⟨w6,0,none⟩) ns ns);simpa using h);have bd:=j.blk.alloc (.cells (madeCells #[false] ns) 4)
     have bq:Hid (BSt ((w6.alloc (.cells (madeCells #[false] ns) 4)).setCell ⟨gb,9,none⟩ (.slice (some ⟨w6,0,none⟩) ns ns)) w gb C S (Bv S (ls.take r)) (List.replicate ns false) vc (.slice As ns cs) (.int .i64 (p:Nat)) (.int .i64 (q:Nat)) (.slice none 0 0) (.slice none 0 0) (.slice none 0 0) (.slice none 0 0) (.slice Af ns cf) (.slice (some ⟨w6,0,none⟩) ns ns) fv):=by
      refine⟨cV,iZ (sZ (cC.alloc _) (fZ (cC.alloc _) bd iX) _) kR,iZ (sZ (by rw[<-co.out];exact cl.alloc _) (fZ (by exact cl.alloc _) bd iX) _) kR,?_,?_⟩
      ·exact((j.fr.step (bZ (Ag _ _))).mono kR).set bd iX iX 9 _
      ·rw[Do];exact sZ bj (fZ bj bd iX) _
     have bN:aO w6 (w6.alloc (.cells (madeCells #[false] ns) 4)):=bZ (Ag _ _);have bJ:Kept (fun x=>x<w6.heap.size/\x≠gb) w6 ((w6.alloc (.cells (madeCells #[false] ns) 4)).setCell ⟨gb,9,none⟩ (.slice (some ⟨w6,0,none⟩) ns ns)):=(Kept.of_below bN (fun x hx=>hx.1)).set (fun h=>h.2 rfl) _;have bO:Hid (Blk ((w6.alloc (.cells (madeCells #[false] ns) 4)).setCell ⟨gb,9,none⟩ (.slice (some ⟨w6,0,none⟩) ns ns)) w 23 #[b0,b1, .int .i64 (bu:Nat),b3,b4,b5]):=(bJ.block w ⟨kR,kR⟩).trans bQ.out;have bt:Hid (aO w ((w6.alloc (.cells (madeCells #[false] ns) 4)).setCell ⟨gb,9,none⟩ (.slice (some ⟨w6,0,none⟩) ns ns))):=c5.out.trans (bJ.below fun b h=>⟨kR,kR⟩);have z7:=bJ.size;clear j c1 c4 cv cJ DS cC cl bj cV bd bN bJ aw aQ cR bQ c5 dt bc;have bW:=World.setCell_alloc_past (w:=w6) (.cells (madeCells #[false] ns) 4) gb 9 (.slice (some ⟨w6,0,none⟩) ns ns) dc;have cS:=hid bW;clear bW;go_wp2_with fail;rw[<-cS.out];clear cS;generalize (w6.alloc (.cells (madeCells #[false] ns) 4)).setCell ⟨gb,9,none⟩ (.slice (some ⟨w6,0,none⟩) ns ns)=w7 at *;obtain⟨N,hN⟩:=iS C.sum;obtain⟨z,af⟩:=iS (((ls.take r).drop S.sum).take p);obtain⟨kc,aR⟩:=iS C.length;have ai:=bq.out;have ac:=ai.oc;rw[<-aR]at ac;obtain⟨Ac,cc,rfl⟩:=aZ ac;have dH:kc<=20000:=(by rw[aR];exact aT.out.2);have cK:N<=20000:=(by rw[hN];exact bh.out);have cM:z.length=p:=(by rw[af,AN,AK,AN,HN.out];have:=bU.out;omega);have cj:∀x∈z,x<=255:=fun x hx=>by rw[af]at hx;exact H8.out x (BZ (Be (BZ hx)))
     have dC:=hid cj;have U:=hid (fun wx (hb:aO w7 wx)=>RV wx gb kc cc Ac C ((ai.blk.step hb).cell 0) aR.symm kR (by rw[<-hN];omega) (Hq (dZ ac (fun y hy=>hb.block y (Ae ac y hy).2)) aR.symm));rw[<-hN]at U;have cw:=hid (fun wx (hb:aO w7 wx)=>Y1 wx gb 102 _ A2 p c2 N z (ai.blk.step hb) mY iX iX cM kR dr cj (HT.out.step (bt.out.trans (hb.mono kR))) (by rw[af];exact(c0.out.below (bt.out.trans (hb.mono kR))).mono (by have:=hb.size;omega)) cK);unfold M0 at cw;rw[<-hN,<-af]at aj;have bC:=hid hN;have dn:=hid af;have cx:=hid aR;generalize dm:FY N z=cE at *;have dM:=hid dm;clear ai ac hN af aR cM cj dm c0 bh aT dA b8 b9 f9;go_region_held3 (fun _=>True) (trivial) (first|(go_at_call 18;(with_reducible refine(U.out _ nJ).mono ?_);rintro e wA ⟨rfl,rfl⟩)|(go_at_call 59;(with_reducible refine(cw.out _ nJ).mono ?_);rintro e w8 ⟨rfl,M,aY⟩))
     all_goals
      have M:Kept (fun x=>x<w7.heap.size/\x≠gb) w7 w8:=⟨M.os,M.tape,M.output,M.size,M.block⟩;have z8:=M.size;have ba:Hid (aO w w8):=bt.out.trans (M.below fun b h=>⟨kR,kR⟩);have a8:Hid (Blk w8 w 23 #[b0,b1, .int .i64 (bu:Nat),b3,b4,b5]):=(M.block w ⟨kR,kR⟩).trans bO.out;by_cases Z:cE=0
      ·subst Z;obtain⟨vt,vl,bL,aq,ax⟩:=aY rfl;have bL:Blk w8 gb 102 #[.slice Ac kc cc, .slice As ns cs, .int .i64 (p:Nat), .int .i64 (q:Nat),vt,vl,(),(), .slice Af ns cf, .slice (some ⟨w6,0,none⟩) ns ns]:=(by simpa using bL);have bY:=hid (bq.out.keep M bL);have aq:w8.ownsRow w 41 1 vt (AU N (vZ z)).1.length (cZ .u64 (AU N (vZ z)).1):=iZ aq (by show _<=w7.heap.size;omega);have ax:w8.ownsRow w 5 1 vl (AU N (vZ z)).2.1.length (cZ .u8 (AU N (vZ z)).2.1):=iZ ax (by show _<=w7.heap.size;omega);have bl:=hid aq;have bb:=hid ax;have hO:=aj.out;rw[Aa (show ¬((0:Int)≠0) from fun h=>h rfl)]at hO;unfold opnI Cx oN at hO;rw[da.out,<-aU.out,<-al.out,<-bF.out,<-ct.out,<-cI.out,<-bC.out]at hO;obtain⟨Y,ae⟩:=iS ((ls.take r).drop (S.sum+p));rw[<-ae]at hO;have dj:Y.length=q:=(by rw[ae,AK,AN,HN.out];have:=bU.out;omega);have cD:∀x∈Y,x<=255:=fun x hx=>by rw[ae]at hx;exact H8.out x (BZ (Be hx))
       have cN:=hid ae;have Q:=JG w8 A3 q c3 Y dj kR c6 cD (HT.out.step ba.out) (by rw[ae];exact(cY.out.below ba.out).mono kR);unfold EL at Q;have b7:(vZ Y).length<=100000:=(by have:=JC Y;omega);have df:Hid (∀x∈vZ Y,x<=255):=GA cD;generalize Bx Y=ie at *;obtain⟨xi,cz⟩:=iS (vZ Y);rw[<-cz]at Q b7 df hO;have dB:=hid cz;obtain⟨xm,ch⟩:=iS xi.length;rw[<-ch]at Q b7;have ci:=hid ch;have bD:=hid hO;have Q:=hid Q;clear bL aq ax aY hO ae dj cD cz ch M bq aj cY U cw bO bt HT;go_wp2_with fail;refine Q.out.mono ?_;rintro e w9 ⟨v9,rfl,cp,ab⟩;obtain⟨A9,c9,rfl⟩:=aZ cp;have z9:=ab.size;have aP:=hid (bY.out.step ab);have dk:Hid (aO w w9):=ba.out.trans (ab.mono kR);have ah:=hid (a8.out.step ab);have ar:=hid (dZ bl.out (fun y hy=>ab.block y (Ae bl.out y hy).2));have az:=hid (dZ bb.out (fun y hy=>ab.block y (Ae bb.out y hy).2));have bA:=hid cp;clear cp ab bY ba a8 bl bb Q;by_cases a9:ie=0
       ·subst a9;have hO:=bD.out;rw[Aa (show ¬((0:Int)≠0) from fun h=>h rfl)]at hO;have ai:=aP.out;have ac:=ai.oc;rw[<-cx.out]at ac;have U:=hid (fun wx (hb:aO w9 wx)=>RV wx gb kc cc Ac C ((ai.blk.step hb).cell 0) cx.out.symm kR (by rw[<-bC.out];omega) (Hq (dZ ac (fun y hy=>hb.block y (Ae ac y hy).2)) cx.out.symm));rw[<-bC.out]at U;have cB:=Da bA.out;have bV:Row w9 w9 A9 xm 1 (jZ .u8 xi):=(by have h:=bA.out;rw[ci.out]at h;have h2:=own_row h;rw[<-ci.out]at h2;exact h2);have be:=hid (fun wx (hb:aO w9 wx)=>PH wx A9 xm c9 bu N xi ci.out.symm b7 df.out cB.2 cB.1 ((bV.below hb).mono hb.size) cP dd cK);unfold Idx.JI at be;obtain⟨X,hX⟩:=iS (Idx.ixR bu N xi);rw[<-hX]at be hO;have ds:=hid hX;obtain⟨xv,xe⟩:=X;simp only at be hO;have ca:=hid hO;have k9:w9.cell? ⟨w,2,none⟩=some (.int .i64 (bu:Nat)):=ah.out.cell 2;clear hO ai ac cB bV hX bD;go_wp2_with fail;go_region_held3 (fun wx=>wx.cell? ⟨w,2,none⟩=some (.int .i64 (bu:Nat))) (first|exact k9|exact dh|exact c7) (first|(go_at_call 18;(with_reducible refine(U.out _ nJ).mono ?_);rintro e wA ⟨rfl,rfl⟩)|(go_at_call 61;(with_reducible refine(be.out _ nJ).mono ?_);rintro e J ⟨vT,vL,vals,rfl,aV,bS⟩;obtain⟨AT,cT,rfl⟩:=aZ aV.t;obtain⟨AL,cL,rfl⟩:=aZ aV.l;have ak:aO w9 J:=eZ bS nJ;have dh:J.cell? ⟨w,2,none⟩=some (.int .i64 (bu:Nat)):=(ah.out.step ak).cell 2;have L:=aP.out.step ak;have m6:=L.blk.iO 6;have m7:=L.blk.iO 7;have n6:=L.blk.frozen 6;have n7:=L.blk.frozen 7;have c7:((J.setCell ⟨gb,6,none⟩ (.slice AT xv.1.length cT)).setCell ⟨gb,7,none⟩ (.slice AL xv.2.length cL)).cell? ⟨w,2,none⟩=some (.int .i64 (bu:Nat)):=(((ah.out.step ak).far (p:=⟨gb,6,none⟩) (by show _≠gb;omega) _).far (p:=⟨gb,7,none⟩) (by show _≠gb;omega) _).cell 2))
        all_goals
         have ab:=(L.blk.set 6 (.slice AT xv.1.length cT)).set 7 (.slice AL xv.2.length cL);have a1:Blk ((J.setCell ⟨gb,6,none⟩ (.slice AT xv.1.length cT)).setCell ⟨gb,7,none⟩ (.slice AL xv.2.length cL)) gb 102 #[.slice Ac kc cc, .slice As ns cs, .int .i64 (p:Nat), .int .i64 (q:Nat),vt,vl,(.slice AT xv.1.length cT),(.slice AL xv.2.length cL), .slice Af ns cf, .slice (some ⟨w6,0,none⟩) ns ns]:=ny;have a6:Kept (fun x=>x<J.heap.size/\x≠gb) J ((J.setCell ⟨gb,6,none⟩ (.slice AT xv.1.length cT)).setCell ⟨gb,7,none⟩ (.slice AL xv.2.length cL)):=((Kept.refl _ _).set (fun h=>h.2 rfl) _).set (fun h=>h.2 rfl) _;have aa:=L.keep a6 a1;have far:∀ {b n:Nat} {e:TypeId} {v:Value} {xs:List Value},J.ownsRow b e 1 v n xs->e≠102->((J.setCell ⟨gb,6,none⟩ (.slice AT xv.1.length cT)).setCell ⟨gb,7,none⟩ (.slice AL xv.2.length cL)).ownsRow b e 1 v n xs:=fun ho hne=>dZ ho fun y hy=>a6.block y ⟨(Ae ho y hy).2,fun e=>fZ ho L.blk hne (e ▸ hy)⟩;have dD:w9.heap.size<=J.heap.size:=ak.size;have dI:∀q,(w9.drewN q).heap.size=w9.heap.size:=fun _=>rfl
         have bR:BodyAt ((J.setCell ⟨gb,6,none⟩ (.slice AT xv.1.length cT)).setCell ⟨gb,7,none⟩ (.slice AL xv.2.length cL)) w gb C S (AU N (vZ z)).1 (AU N (vZ z)).2.1 xv (Bv S (ls.take r)) (List.replicate ns false):=
          ⟨_,_,_,_,vt,vl,(.slice AT xv.1.length cT),(.slice AL xv.2.length cL),_,_,vals,fv,a1,aa.oc,aa.os,far (dZ ar.out (fun y hy=>ak.block y (Ae ar.out y hy).2)) iX,far (dZ az.out (fun y hy=>ak.block y (Ae az.out y hy).2)) iX,⟨far (iZ aV.t mK) iX,far (iZ aV.l mK) iX,fun i v ids hv hi=>far (iZ (aV.r i v ids hv hi) mK) iX⟩,aa.fr,aa.oa⟩
         have bP:Hid (aO w ((J.setCell ⟨gb,6,none⟩ (.slice AT xv.1.length cT)).setCell ⟨gb,7,none⟩ (.slice AL xv.2.length cL))):=kZ (by show _<=gb;omega) (kZ (by show _<=gb;omega) (dk.out.trans (ak.mono kR)));have cW:=hid bR;clear ab a1 a6 aa far bR L aV bS ak dh c7 m6 m7 n6 n7 k9 U be aP ah ar az bA;generalize (J.setCell ⟨gb,6,none⟩ (.slice AT xv.1.length cT)).setCell ⟨gb,7,none⟩ (.slice AL xv.2.length cL)=dJ at *;by_cases bH:xe=0
         ·subst bH;have HF:Hid (BO o ls=0):=HO.out.symm.trans ca.out;go_wp2_with fail;go_ret2;refine⟨bP.out,fun h=>absurd HF.out h,fun _=>⟨gb,rfl,?_⟩⟩;have h:=cW.out;rw[co.out]at h;rw[show ls.take (Ci ls)=ls.take r by rw[aU.out],<-al.out,<-ct.out,<-bF.out,da.out];rw[show oN ls=N by rw[bC.out,ct.out,al.out];rfl,show Bm ls=z by rw[dn.out,bF.out,cI.out,al.out,aU.out];rfl,show Cx ls=Y by rw[cN.out,bF.out,cI.out,al.out,aU.out];rfl,<-dB.out,<-ds.out];exact h
         ·have gE:(xe != 0)=true:=(by simpa using bH);have HF:Hid (O=xe):=ca.out;have G:=hid bH;have E:=bP;clear bH ca cW;go_wp2_with fail;go_ret2;exact IQ (HO.out.symm.trans HF.out) G.out E.out
       ·have gE:(ie != 0)=true:=(by simpa using a9);have HF:Hid (O=ie):=(by have h:=bD.out;rw[Ab a9]at h;exact h);have G:=hid a9;have E:=dk;clear a9 bD aP ah ar az bA;go_wp2_with fail;go_ret2;exact IQ (HO.out.symm.trans HF.out) G.out E.out
      ·have gE:(cE != 0)=true:=(by simpa using Z);have HF:Hid (O=cE):=(by have h:=aj.out;rw[Ab Z]at h;exact h);have G:=hid Z;have E:=ba;clear Z aj M aY bq a8;go_wp2_with fail;go_ret2;exact IQ (HO.out.symm.trans HF.out) G.out E.out
    ·have gE:(de != 0)=true:=(by simpa using a0);have HF:Hid (O=de):=(by have h:=aW.out;rw[Ab a0]at h;exact h);have G:=hid a0;have E:=a5;clear a0 aW a3 bm DD bc bn cA cq;go_wp2_with fail;go_ret2;exact IQ (HO.out.symm.trans HF.out) G.out E.out
   ·have gE:(ce != 0)=true:=(by simpa using Z);have HF:Hid (O=ce):=(by have h:=bK.out;rw[Ab Z]at h;exact h);have G:=hid Z;have E:=bI;clear Z bK bG au cH;go_wp2_with fail;go_ret2;exact IQ (HO.out.symm.trans HF.out) G.out E.out
 ·have gE:(oe != 0)=true:=by simpa using bi
  have HF:Hid (O=oe):=by have h:=b6.out;rw[Ab bi]at h;exact h
  have G:=hid bi;have E:=cr;clear bi b6 cF av D1;go_wp2_with fail;go_ret2;exact IQ (HO.out.symm.trans HF.out) G.out E.out
end Body
namespace Body
open Go.RowKit Mem Own Canon Nums Crc Recs Opts
open Idx (Str Ee Mc ixF lsR)
open Ef (rowN Ga efR efG Cc)
theorem SH:∀ (k:Nat) (bs:List Nat) (at_ j:Nat) (i:List Nat),(CR k bs at_ j i).2.2=0->(CR k bs at_ j i).1.length=i.length+k
 |0,_,_,_,_,_=>rfl
 |k+1,bs,at_,j,i,h=>by
  unfold CR at h ⊢;split at h
  ·rename_i he;exact absurd h he
  ·rename_i he;rw[Aa he,SH k _ _ _ _ h,Aj];simp;omega
theorem Qu{n:Nat}{bs:List Nat}(h8:∀x∈bs,x<=255):∀ (f at_:Nat) (i:List Nat),i.length<=n->(CN f n bs at_ i).1.length<=n
 |0,_,_,h=>h
 |f+1,at_,i,h=>by
  unfold CN;split
  ·exact h
  ·split
   ·exact Ba _
   ·refine Qu h8 f _ _ ?_;rw[Aj,Do];have h1:(Gj (n-i.length) bs at_).2.1<=n-i.length:=CI h8 _ _;omega
theorem YJ{n:Nat}{bs:List Nat}(h8:∀x∈bs,x<=255):(AU n bs).2.1.length<=n/\((AU n bs).2.2.2=0->(AU n bs).1.length=n):=by
 unfold AU Gh;split
 ·rename_i he;exact⟨Ba _,fun h=>absurd h he⟩
 ·rename_i he;have hl:(EJ n bs (CR n bs 0 0 [])).2.2=0:=Fm he;refine⟨?_,fun _=> ?_⟩
  ·show(EJ n bs (CR n bs 0 0 [])).1.length<=n;unfold EJ;split
   ·exact Ba _
   ·exact Qu h8 _ _ _ (Ba _)
  ·have h:=SH n bs 0 0 [] (M9 hl);simpa using h
theorem PF{bound W:Nat}{bs:List Bool}:∀ (xs:List Nat) (at_ h:Nat) (i:List Nat),(rowN bound W bs xs at_ h i).1.length<=i.length+xs.length
 | [],_,_,_=>Ai _
 |x :: xs,at_,h,i=>by
  unfold rowN;split
  ·exact Ba _
  ·split
   ·exact Ba _
   ·split
    ·exact Ba _
    ·refine AY (PF xs _ _ _) ?_;rw[Aj,Bu];simp;omega
theorem Vr{bs:List Nat}(h8:∀x∈bs,x<=255):(efR bound bs).1.length<=bound:=by
 have hv:zZ bound bs 0 0<=bound:=CI h8 _ _;unfold efR;split
 ·exact Ba _
 ·split
  ·exact Ba _
  ·unfold efG;split
   ·exact Ba _
   ·show(Ga bound (zZ bound bs 0 0) _).1.length<=bound;unfold Ga;split
    ·exact Ba _
    ·split
     ·exact Ba _
     ·split
      ·exact Ba _
      ·refine AY (PF _ _ _ _) ?_;rw[Ef.Mv];simp;omega
theorem Oj{bound:Nat}{ls:List Nat}(h8:∀x∈ls,x<=255):∀ (k at_:Nat) (i:List (List Nat)),(∀l∈i,l.length<=bound)->(lsR bound ls k at_ i).1.length<=i.length+k/\∀l∈(lsR bound ls k at_ i).1,l.length<=bound
 |0,at_,i,h=>by
  unfold lsR;split
  ·exact⟨Ba _,fun l hl=>m4⟩
  ·exact⟨Ai _,h⟩
 |k+1,at_,i,h=>by
  unfold lsR;split
  ·exact⟨Ba _,fun l hl=>m4⟩
  ·split
   ·exact⟨Ba _,fun l hl=>m4⟩
   ·have h1:=Oj h8 k (at_+(efR bound (ls.drop at_)).2.1) (i++ [(efR bound (ls.drop at_)).1]) (fun l hl=>by
     rcases BN.1 hl with h2|h2
     ·exact h l h2
     ·rw[Dw]at h2;rw[h2];exact Vr fun x hx=>h8 x (Be hx))
    rw[Aj]at h1;exact⟨by have:=h1.1;simp at this;omega,h1.2⟩
theorem Tw{size:Nat}(h8:∀x∈ls,x<=255):(Idx.ixR size bound ls).1.1.length<=1048576/\(Idx.ixR size bound ls).1.2.length<=1048576/\∀l∈(Idx.ixR size bound ls).1.2,l.length<=bound:=by
 have hd:=(Mc (size:=size) h8).2;have hl:=Oj (bound:=bound) (ls:=ls.drop (Ee size ls).2.1) (fun x hx=>h8 x (Be hx)) (Ee size ls).1.length 0 [] (fun l hl=>by simp at hl);unfold Idx.ixR;split
 ·exact⟨Ba _,Ba _,fun l hl=>m4⟩
 ·unfold ixF;split
  ·exact⟨Ba _,Ba _,fun l hl=>m4⟩
  ·exact⟨hd,by have:=hl.1;simp at this;exact AY this hd,hl.2⟩
theorem R3{o:Opt}(h8:∀x∈ls,x<=255)(h:BO o ls=0):oN ls<=20000/\(Bj (wZ ls)).length<=20000/\(By (wZ ls)).length=(Bj (wZ ls)).length/\(∀x∈Bj (wZ ls),x<=20000)/\(AU (oN ls) (vZ (Bm ls))).1.length=oN ls/\(AU (oN ls) (vZ (Bm ls))).2.1.length<=oN ls:=by
 have j:∀x∈wZ ls,x<=255:=GA (fun x hx=>by unfold Eh at hx;exact h8 x (Be (BZ hx)));have E:∀x∈vZ (Bm ls),x<=255:=GA (fun x hx=>by unfold Bm at hx;exact h8 x (BZ (Be (BZ hx))));have i:Co (wZ ls)<=20000:=CI j _ _;have J:EZ (wZ ls)<=20000:=AY (CI j _ _) i;have z:=KR (rec:=Co (wZ ls)) (ls:=wZ ls) (EZ (wZ ls)) (nZ (Co (wZ ls)) (wZ ls) (nZ 20000 (wZ ls) 0 0) (oZ 20000 (wZ ls) 0 0)) (oZ (Co (wZ ls)) (wZ ls) (nZ 20000 (wZ ls) 0 0) (oZ 20000 (wZ ls) 0 0)) [] [] rfl;have G:=Nm (rec:=Co (wZ ls)) j (EZ (wZ ls)) (nZ (Co (wZ ls)) (wZ ls) (nZ 20000 (wZ ls) 0 0) (oZ 20000 (wZ ls) 0 0)) (oZ (Co (wZ ls)) (wZ ls) (nZ 20000 (wZ ls) 0 0) (oZ 20000 (wZ ls) 0 0)) [] [] (fun x hx=>by simp at hx) (fun x hx=>by simp at hx)
 have h1:Hr o ls=0:=by
  unfold BO at h;split at h
  ·rename_i he;exact absurd h he
  ·exact h
 have h2:Hs o ls=0:=by
  unfold Hr at h1;split at h1
  ·cases h1
  ·split at h1
   ·rename_i he;exact absurd h1 he
   ·exact h1
 have h3:EX (Ci ls) (wZ ls)=0/\Hv o ls=0:=by
  unfold Hs at h2;split at h2
  ·rename_i he;exact absurd h2 he
  ·rename_i he;exact⟨Fm he,h2⟩
 have h4:FY (oN ls) (Bm ls)=0:=by
  have h5:=h3.2;unfold Hv at h5;split at h5
  ·rename_i he;exact absurd h5 he
  ·rename_i he;exact Fm he
 have h6:(AU (oN ls) (vZ (Bm ls))).2.2.2=0:=by
  unfold FY at h4;split at h4
  ·rename_i he;exact absurd h4 he
  ·split at h4
   ·rename_i he;exact absurd h4 he
   ·rename_i he;exact Fm he
 have hk:=Ti h3.1;have y:=YJ (n:=oN ls) E;have h7:(Bj (wZ ls)).length<=0+EZ (wZ ls):=z.2.1;exact⟨by unfold oN;rw[hk.2.1];exact i,kR,z.1.symm,fun x hx=>AY (G.1 x hx) i,y.2 h6,y.1⟩
end Body
end Go.Proofs.YtfgdoknipbpfhaaGreatDoor
