/- An opened body: the  -/
import Derived.Test.YtbgoibedicbkjaaGreatDoorZBodyLogs29
import Derived.Test.YtbgoibedicbkjaaGreatDoorZBodyLogs30
namespace Go.Proofs.YtbgoibedicbkjaaGreatDoor
open Go.Lib (hid)
namespace Body
open Go.RowKit Mem Own Canon Nums Crc Recs
open Opts
open Go.Proofs.YtbgoibedicbkjaaGreatDoor.Idx (Str IxAt)
instance footDec (ls:List Nat):Decidable (GO ls):=by unfold GO;exact inferInstance
def CR(ls:List Nat):Nat:=ls.length-4-Ey (ls.drop (ls.length-4))
def AE(ls:List Nat):List Nat:=AI (Di ls)
def oN(ls:List Nat):Nat:=(Bt (AE ls)).sum
def Cb(ls:List Nat):List Nat:=((ls.take (CR ls)).drop (Cd (AE ls)).sum).take (dP (AE ls))
def EU(ls:List Nat):List Nat:=(ls.take (CR ls)).drop ((Cd (AE ls)).sum+dP (AE ls))
def opnI(o:Opt)(ls:List Nat):Int:=if BS (EU ls)≠0 then BS (EU ls)else(Idx.ixR o.bucket.toNat (oN ls) (AI (EU ls))).2
def Ha(o:Opt)(ls:List Nat):Int:=if Fs (oN ls) (Cb ls)≠0 then Fs (oN ls) (Cb ls)else opnI o ls
def G9(o:Opt)(ls:List Nat):Int:=if Ew (CR ls) (AE ls)≠0 then Ew (CR ls) (AE ls)else Ha o ls
def G7(o:Opt)(ls:List Nat):Int:=if GO ls then 1 else if BS (Di ls)≠0 then BS (Di ls)else G9 o ls
def CA(o:Opt)(ls:List Nat):Int:=if DY o≠0 then DY o else G7 o ls
theorem NG{i:Nat}{ls:List Nat}(h:Ew i ls=0):0 ∉ Bt ls/\(Bt ls).sum=BW ls/\(Cd ls).sum+dP ls+dQ ls=i:=by
 unfold Ew at h;split at h
 ·rename_i he;exact absurd h he
 ·split at h
  ·cases h
  ·rename_i hn;exact⟨fun h=>hn (.inl h),EO fun h=>hn (.inr (.inl h)),EO fun h=>hn (.inr (.inr h))⟩
def BodyAt(w:World)(base gb:Nat)(C S T L:List Nat)(X:List Str×List (List Nat))(F:List (List Nat))(K:List Bool):Prop:=
 ∃vc vs p q vt vl vT vL vF va vals fv,Blk w gb 96 #[vc,vs,p,q,vt,vl,vT,vL,vF,va]/\w.ownsRow base 3 1 vc C.length (cZ .i64 C)/\w.ownsRow base 3 1 vs S.length (cZ .i64 S)/\
  w.ownsRow base 57 1 vt T.length (cZ .u64 T)/\w.ownsRow base 5 1 vl L.length (cZ .u8 L)/\IxAt w base vT vL vals X.1 X.2/\FrAt w base vF fv F/\w.ownsRow base 4 1 va K.length (K.map Value.bool)
theorem BodyAt.step{w w':World}{base gb:Nat}{C S T L:List Nat}{X:List Str×List (List Nat)}{F:List (List Nat)}{K:List Bool}(h:BodyAt w base gb C S T L X F K)(hb:Below w.heap.size w w'):BodyAt w' base gb C S T L X F K:=by obtain⟨vc,vs,p,q,vt,vl,vT,vL,vF,va,vals,fv,h0,h1,h2,h3,h4,h5,h6,h7⟩:=h;have far:∀ {n:Nat} {e:TypeId} {v:Value} {xs:List Value},w.ownsRow base e 1 v n xs->w'.ownsRow base e 1 v n xs:=fun ho=>dZ ho fun y hy=>hb.block y (Ae ho y hy).2;exact⟨vc,vs,p,q,vt,vl,vT,vL,vF,va,vals,fv,h0.step hb,far h1,far h2,far h3,far h4,⟨far h5.t,far h5.l,fun i v ids hv hi=>far (h5.r i v ids hv hi)⟩,h6.step hb,far h7⟩
structure BSt (w:World) (base gb:Nat) (C S:List Nat) (F:List (List Nat)) (K:List Bool) (vc vs x2 x3 x4 x5 x6 x7 vF va:Value) (fv:List Value):Prop where
 blk:Blk w gb 96 #[vc,vs,x2,x3,x4,x5,x6,x7,vF,va]
 oc:w.ownsRow base 3 1 vc C.length (cZ .i64 C)
 os:w.ownsRow base 3 1 vs S.length (cZ .i64 S)
 fr:FrAt w base vF fv F
 oa:w.ownsRow base 4 1 va K.length (K.map Value.bool)
theorem BSt.keep{w w':World}{base gb:Nat}{C S:List Nat}{F:List (List Nat)}{K:List Bool}{vc vs x2 x3 x4 x5 x6 x7 vF va y4 y5 y6 y7:Value}{fv:List Value}(h:BSt w base gb C S F K vc vs x2 x3 x4 x5 x6 x7 vF va fv)(hk:Kept (fun x=>x<w.heap.size/\x≠gb) w w')(hb:Blk w' gb 96 #[vc,vs,x2,x3,y4,y5,y6,y7,vF,va]):BSt w' base gb C S F K vc vs x2 x3 y4 y5 y6 y7 vF va fv:=by have far:∀ {n:Nat} {e:TypeId} {v:Value} {xs:List Value},w.ownsRow base e 1 v n xs->e≠96->w'.ownsRow base e 1 v n xs:=fun ho hne=>dZ ho fun y hy=>hk.block y ⟨(Ae ho y hy).2,fun e=>fZ ho h.blk hne (e ▸ hy)⟩;exact⟨hb,far h.oc (by decide),far h.os (by decide),⟨far h.fr.l (by decide),fun i v b hv hi=>far (h.fr.r i v b hv hi) (by decide)⟩,far h.oa (by decide)⟩
theorem BSt.step{w w':World}{base gb:Nat}{C S:List Nat}{F:List (List Nat)}{K:List Bool}{vc vs x2 x3 x4 x5 x6 x7 vF va:Value}{fv:List Value}(h:BSt w base gb C S F K vc vs x2 x3 x4 x5 x6 x7 vF va fv)(hb:Below w.heap.size w w'):BSt w' base gb C S F K vc vs x2 x3 x4 x5 x6 x7 vF va fv:=
 h.keep (Kept.of_below hb fun _ hx=>hx.1) (h.blk.step hb)
theorem SA:(Tryz.prog.info? 4).map (fun i=>(i.zero,i.size,i.bytes))=some (some (.bool false),1,1):=by kernel_rfl
theorem Y2(n:Nat)(hn:n<=8388608)(w:World):(Instr.makeSlice 66 (.int .i64 (n:Int)) (.int .i64 (n:Int))).run Tryz.prog w=
 .ok (.slice (some ⟨w.heap.size,0,none⟩) n n) (w.alloc (.cells (madeCells #[.bool false] n) 4)):=by
 obtain⟨i0,hi,y,i,j⟩:=info_parts SA;have h:=run_make (P:=Tryz.prog) w 66 4 i0 (.bool false) Tryz.underlying66 hi y .i64 .i64 (n:Int) (n:Int) (by omega) (Int.le_refl _) (by rw[j];omega) (by omega);simp only[Int.toNat_natCast]at h;simpa[i,Value.cells]using h
theorem YO(w:World)(base n:Nat)(hb:base<=w.heap.size)(hn:n<=8388608):(w.alloc (.cells (madeCells #[.bool false] n) 4)).ownsRow base 4 1 (.slice (some ⟨w.heap.size,0,none⟩) n n) n ((List.replicate n false).map Value.bool):=by
 refine⟨by simp, .inr ⟨w.heap.size,n,madeCells #[.bool false] n,rfl,hb,heap_alloc_new w _,Aj _,by unfold maxLen;omega,by simp[size_madeCells],?_⟩⟩;apply List.ext_getElem
 ·simp[madeCells]
 ·intro i h1 h2;simp[madeCells,Nat.mod_one]
def Mt(o:Opt)(ls:List Nat)(w:World)(e:Ending)(w':World):Prop:=
 Below w.heap.size w w'/\(CA o ls≠0->e= .returned (.tuple #[.pointer none, .int .i64 (CA o ls)]))/\
  (CA o ls=0->∃gb,e= .returned (.tuple #[.pointer (some ⟨gb,0,none⟩), .int .i64 0])/\BodyAt w' w.heap.size gb (Bt (AE ls)) (Cd (AE ls)) (Bk (oN ls) (AI (Cb ls))).1 (Bk (oN ls) (AI (Cb ls))).2.1 (Idx.ixR o.bucket.toNat (oN ls) (AI (EU ls))).1 (BJ (Cd (AE ls)) (ls.take (CR ls))) (List.replicate (Cd (AE ls)).length false))
theorem Ig{o:Opt}{ls:List Nat}{w w':World}{er:Int}(hE:CA o ls=er)(i:er≠0)(hb:Below w.heap.size w w'):Mt o ls w (.returned (.tuple #[.pointer none, .int .i64 er])) w':=by subst hE;exact⟨hb,fun _=>rfl,fun h=>absurd h i⟩
theorem Rj{o:Opt}(h:DY o=0):∃bu:Nat,o.bucket=(bu:Int)/\1<=bu/\bu<=64:=by
 unfold DY Fo Opt.body at h;split at h
 ·rename_i hc;obtain⟨_,⟨h1,h2⟩,_⟩:=hc;simp only at h1 h2;exact⟨o.bucket.toNat,by omega,by omega,by omega⟩
 ·cases h
end Body
namespace Body
open Go.RowKit Mem Own Canon Nums Crc Recs
open Opts
open Go.Proofs.YtbgoibedicbkjaaGreatDoor.Idx (Str IxAt Ny)
set_option maxHeartbeats 4000000 in
set_option maxRecDepth 100000 in
theorem YA(w:World)(o:Opt)(A:Option Addr)(n c:Nat)(ls:List Nat)(hn:ls.length=n)(dh:n<=100000)(hc:n<=c)(h8:∀x∈ls,x<=255)(bt:A=none->n=0/\c=0)(ht:TabAt w)(ha:Row w w.heap.size A n 1 (iZ .u8 ls)):
 Calls Tryz.prog 18 #[o.val, .slice A n c] w (Mt o ls w):=by
 have cO:Hid (∀wx,Below w.heap.size w wx->Row wx wx.heap.size A n 1 (iZ .u8 ls)):=fun wx h=>(ha.below h).mono h.size;have D0:=hid (fun wx=>Sl wx o);have D1:=hid (fun wx (h:Below w.heap.size w wx)=>Vc wx A n c ls hn dh hc h8 (ht.step h) (fun a _=>rfl) (cO.out wx h));have HT:=hid ht;have HN:=hid hn;have H8:=hid h8;have dj:=hid bt;have HA:=hid ha;have bS:Hid (DY o=0->∃bu:Nat,o.bucket=(bu:Int)/\1<=bu/\bu<=64):=Rj;clear ha bt h8 ht hn cO;obtain⟨O,hO⟩:∃O,O=CA o ls:=⟨_,rfl⟩;have HO:=hid hO;unfold CA at hO;generalize DY o=oe at *;have ci:=hid hO;clear hO;unfold Opt.val;unfold Opt.val at D0;generalize am:o.bucket=b2 at *;have cG:=hid am;clear am;generalize o.block=b0 at *;generalize o.plain=b1 at *;generalize o.data=b3 at *;generalize o.parity=b4 at *;generalize o.chunk=b5 at *;go_enter Tryz.func18,Tryz.ntmps18;go_wp2_with fail;have cA:Blk (w.alloc (.cells #[.int .i64 b0, .bool b1, .int .i64 b2, .int .i64 b3, .int .i64 b4, .int .i64 b5] 25)) w.heap.size 25 #[.int .i64 b0, .bool b1, .int .i64 b2, .int .i64 b3, .int .i64 b4, .int .i64 b5]:=Blk.made _ _ _;have c4:Below w.heap.size w (w.alloc (.cells #[.int .i64 b0, .bool b1, .int .i64 b2, .int .i64 b3, .int .i64 b4, .int .i64 b5] 25)):=bZ (Ag _ _);have du:w.heap.size+1<=(w.alloc (.cells #[.int .i64 b0, .bool b1, .int .i64 b2, .int .i64 b3, .int .i64 b4, .int .i64 b5] 25)).heap.size:=by simp
 generalize w.alloc (.cells #[.int .i64 b0, .bool b1, .int .i64 b2, .int .i64 b3, .int .i64 b4, .int .i64 b5] 25)=w1 at *;have bJ:=hid cA;have cw:=hid c4;clear cA c4;refine(D0.out _).mono ?_;rintro e w2 ⟨rfl,am⟩;have cm:Hid (Below w.heap.size w w2):=cw.out.trans (am.mono (by omega));have aB:=hid (bJ.out.step am);have z2:=am.size;clear am cw bJ D0;by_cases a5:oe=0
 ·subst a5;obtain⟨bu,rfl,cz,cD⟩:=bS.out rfl;have hO:=ci.out;rw[Aa (show ¬((0:Int)≠0) from fun h=>h rfl)]at hO;have bi:=hid hO;have D1:=hid (D1.out w2 cm.out);have cJ:Hid (o.bucket.toNat=bu):=by show _=_;rw[cG.out];exact Cl _
  clear hO bS cG;go_wp2_with fail;refine D1.out.mono ?_;rintro e w3 ⟨aW,aM,bN⟩;have bc:Hid (Below w.heap.size w w3):=cm.out.trans (aW.mono (by omega));have ay:=hid (aB.out.step aW);have z3:=aW.size;by_cases aH:GO ls
  ·obtain rfl:=aM aH;have HF:Hid (O=1):=(by have h:=bi.out;unfold G7 at h;rw[Ab aH]at h;exact h);have z:Hid ((1:Int)≠0):=show(1:Int)≠0 by decide
   have G:=bc;clear aH aM bN aW aB ay D1;go_wp2_with fail;go_ret2;exact Ig (HO.out.symm.trans HF.out) z.out G.out
  ·obtain⟨v,rfl,an⟩:=bN aH;have hO:=bi.out;unfold G7 at hO;rw[Aa aH]at hO;rw[show ls.length-4-Ey (ls.drop (ls.length-4))=CR ls from rfl];have cX:CR ls<=n:=(by unfold CR;rw[HN.out];omega);obtain⟨r,hr⟩:∃r,r=CR ls:=⟨_,rfl⟩;rw[<-hr]at cX ⊢;have aE:=hid hr;have bf:=hid hO;have an:w3.ownsRow w2.heap.size 5 1 v (AE ls).length (cZ .u8 (AE ls)):=an;have cF:(AE ls).length<=n:=(by unfold AE;refine AV (I0 _) ?_;unfold Di;rw[AO,AQ,HN.out];omega);have bV:∀x∈AE ls,x<=255:=(by unfold AE;exact Gn (fun x hx=>by unfold Di at hx;exact H8.out x (Bb (BV hx))));generalize BS (Di ls)=ce at *;obtain⟨D,hD⟩:∃D,D=AE ls:=⟨_,rfl⟩;rw[<-hD]at an cF bV;have al:=hid hD;have bM:=hid bV;obtain⟨dl,a6⟩:∃dl,dl=D.length:=⟨_,rfl⟩;rw[<-a6]at an cF;obtain⟨Ad,cd,rfl⟩:=aZ an;have bm:=hid a6;have b7:=hid an;have dg:Hid (Row w w.heap.size A r 1 (iZ .u8 (ls.take r))):=Du HA.out cX;clear aH aM bN aW aB D1 hO hr hD bV an a6;by_cases Q:ce=0
   ·subst Q;have hO:=bf.out;rw[Aa (show ¬((0:Int)≠0) from fun h=>h rfl)]at hO;have aF:=hid hO;clear hO bf bi;go_wp2_with fail;have c5:Blk (w3.alloc (.cells #[.slice none 0 0, .slice none 0 0, .int .i64 0, .int .i64 0, .slice none 0 0, .slice none 0 0, .slice none 0 0, .slice none 0 0, .slice none 0 0, .slice none 0 0] 96)) w3.heap.size 96 #[.slice none 0 0, .slice none 0 0, .int .i64 0, .int .i64 0, .slice none 0 0, .slice none 0 0, .slice none 0 0, .slice none 0 0, .slice none 0 0, .slice none 0 0]:=Blk.made _ _ _;have cq:Below w3.heap.size w3 (w3.alloc (.cells #[.slice none 0 0, .slice none 0 0, .int .i64 0, .int .i64 0, .slice none 0 0, .slice none 0 0, .slice none 0 0, .slice none 0 0, .slice none 0 0, .slice none 0 0] 96)):=bZ (Ag _ _);have dc:w3.heap.size+1<=(w3.alloc (.cells #[.slice none 0 0, .slice none 0 0, .int .i64 0, .int .i64 0, .slice none 0 0, .slice none 0 0, .slice none 0 0, .slice none 0 0, .slice none 0 0, .slice none 0 0] 96)).heap.size:=(by simp);have az:=b7.out.alloc (.cells #[.slice none 0 0, .slice none 0 0, .int .i64 0, .int .i64 0, .slice none 0 0, .slice none 0 0, .slice none 0 0, .slice none 0 0, .slice none 0 0, .slice none 0 0] 96);generalize w3.alloc (.cells #[.slice none 0 0, .slice none 0 0, .int .i64 0, .int .i64 0, .slice none 0 0, .slice none 0 0, .slice none 0 0, .slice none 0 0, .slice none 0 0, .slice none 0 0] 96)=w4 at *;have cr:Hid (Below w.heap.size w w4):=bc.out.trans (cq.mono (by omega));have aR:=hid (ay.out.step cq);have dp:w3.heap.size<w4.heap.size:=(by omega);generalize dk:w3.heap.size=gb at *;have dx:w.heap.size<gb:=(by omega);rw[bm.out]at az;have DD:=hid (YG w4 gb 96 (.int .i64 0) (.int .i64 0) [.slice none 0 0, .slice none 0 0, .slice none 0 0, .slice none 0 0, .slice none 0 0, .slice none 0 0] Ad dl cd r D c5 (by decide) (by decide) bm.out.symm (by omega) bM.out (by rw[bm.out];exact GC az) (by have h:=own_row az;rw[<-bm.out]at h;exact h));have b6:Hid (Ew r D=0->0 ∉ Bt D/\(Bt D).sum=BW D/\(Cd D).sum+dP D+dQ D=r):=NG;have bL:Hid (BW D<=20000):=Cs bM.out _ _;have aG:Hid ((Bt D).length=(Cd D).length/\(Bt D).length<=20000):=(by have h:=Kl (rec:=BW D) (ls:=D) (Ex D) (mZ (BW D) D (mZ 20000 D 0 0) (oZ 20000 D 0 0)) (oZ (BW D) D (mZ 20000 D 0 0) (oZ 20000 D 0 0)) [] [] rfl;have h2:Ex D<=20000:=AV (Cs bM.out _ _) bL.out;refine⟨h.1,?_⟩;have h3:(Bt D).length<=0+Ex D:=h.2.1;omega);unfold Nc at DD;unfold G9 at aF;rw[<-aE.out,<-al.out]at aF;generalize Ew r D=de at *;clear c5 cq az ay b7 bc dk dc;refine DD.out.mono ?_;rintro e w5 ⟨rfl,a1,aP⟩;have a9:Hid (Below w.heap.size w w5):=cr.out.trans (a1.below fun b h=>⟨by omega,by omega⟩);have aN:Hid (Blk w5 w.heap.size 25 #[.int .i64 b0, .bool b1, .int .i64 (bu:Nat), .int .i64 b3, .int .i64 b4, .int .i64 b5]):=(a1.block w.heap.size ⟨by omega,by omega⟩).trans aR.out;have z5:=a1.size;by_cases aK:de=0
    ·subst aK;obtain⟨vc,vs,bn,aU,ae,bI⟩:=aP rfl;obtain⟨c8,cg,a7⟩:=b6.out rfl;have hO:=aF.out;rw[Aa (show ¬((0:Int)≠0) from fun h=>h rfl)]at hO;unfold Ha oN Cb at hO;rw[<-aE.out,<-al.out]at hO;have ak:=hid hO;have aL:Hid ((Bt D).sum<=20000):=(by show _<=_;rw[cg];exact bL.out);obtain⟨C,hC⟩:∃C,C=Bt D:=⟨_,rfl⟩;obtain⟨S,hS⟩:∃S,S=Cd D:=⟨_,rfl⟩;have bR:=hid hC;have bh:=hid hS;rw[<-hC]at aU aL aG cg ak;rw[<-hS]at ae a7 aG ak;obtain⟨p,hp⟩:∃p,p=dP D:=⟨_,rfl⟩;obtain⟨q,hq⟩:∃q,q=dQ D:=⟨_,rfl⟩;have bT:=hid hp;rw[<-hp]at bn a7 ak;rw[<-hq]at bn a7;obtain⟨ns,aX⟩:∃ns,ns=S.length:=⟨_,rfl⟩;have bQ:=hid aX;have dq:ns<=20000:=(by rw[aX,<-aG.out.1];exact aG.out.2);rw[<-aX]at ae;obtain⟨As,cs,rfl⟩:=aZ ae;have a0:(ls.take r).length=r:=(by rw[AO,HN.out];omega);have cH:∀x∈ls.take r,x<=255:=fun x hx=>H8.out x (BV hx);have DS:=VK w5 gb w.heap.size w4.heap.size p q 96 vc (.slice none 0 0) (.slice none 0 0) (.slice none 0 0) (.slice none 0 0) [.slice none 0 0] As A ns cs r c S (ls.take r) bn (by decide) (by decide) (by decide) aX.symm (by omega) ae a0 (by omega) (by omega) cH (by omega) (dg.out.below a9.out) (by omega) (fun e=>by have:=dj.out e;omega);unfold MD at DS;rw[a0,show r-S.sum-p=q by omega]at DS;have DS:=hid DS;have aq:=hid aU;have au:=hid ae;have cP:=hid bI;have dr:q<=r:=(by omega);have dt:p<=r:=(by omega);have bF:=hid a7;clear hO hC hS hp hq aX bn aU ae bI c8 cg a7 a1 aP DD b6 bL aF a0 cH aR cr;go_wp2_with fail;refine DS.out.mono ?_;rintro e w6 ⟨A2,A3,c2,c3,vF,fv,rfl,cI,cK,c0,cR,j⟩;have cB:Hid (Below w.heap.size w w6):=a9.out.trans (j.kept.below fun b h=>⟨by omega,by omega⟩);have z6:=j.kept.size;have cv:(BJ S (ls.take r)).length=ns:=(by rw[I9,bQ.out]);have bY:=j.fr.l;rw[cv]at bY;obtain⟨Af,cf,rfl⟩:=aZ bY;have b8:=j.blk.cell 8;have b9:=j.blk.cell 9;have f9:=j.blk.frozen 9;simp only[List.cons_append,List.nil_append,List.getElem?_toArray,List.getElem?_cons_zero,List.getElem?_cons_succ]at b8 b9;have da:=hid j;have cN:Hid (Row w w.heap.size A2 p 1 (iZ .u8 (((ls.take r).drop S.sum).take p))):=c0.keep fun a ha=>(a9.out.cell ha).symm;have cW:Hid (Row w w.heap.size A3 q 1 (iZ .u8 ((ls.take r).drop (S.sum+p)))):=cR.keep fun a ha=>(a9.out.cell ha).symm;have di:=Y2 ns (by omega);have c1:gb<w6.heap.size:=(by omega);have bC:Hid (Blk w6 w.heap.size 25 #[.int .i64 b0, .bool b1, .int .i64 (bu:Nat), .int .i64 b3, .int .i64 b4, .int .i64 b5]):=(j.kept.block w.heap.size ⟨by omega,by omega⟩).trans aN.out;have ch:w6.ownsRow w4.heap.size 3 1 vc C.length (cZ .i64 C):=dZ aq.out (fun y hy=>j.kept.block y ⟨(Ae aq.out y hy).2,by have:=(Ae aq.out y hy).1;omega⟩);have bP:w6.ownsRow w4.heap.size 3 1 (.slice As ns cs) ns (cZ .i64 S):=dZ au.out (fun y hy=>j.kept.block y ⟨(Ae au.out y hy).2,by have:=(Ae au.out y hy).1;omega⟩);have aI:=YO w6 w.heap.size ns (by omega) (by omega);have cQ:Blk ((w6.alloc (.cells (madeCells #[.bool false] ns) 4)).setCell ⟨gb,9,none⟩ (.slice (some ⟨w6.heap.size,0,none⟩) ns ns)) gb 96 #[vc, .slice As ns cs, .int .i64 (p:Nat), .int .i64 (q:Nat), .slice none 0 0, .slice none 0 0, .slice none 0 0, .slice none 0 0, .slice Af ns cf, .slice (some ⟨w6.heap.size,0,none⟩) ns ns]:=(by have h:=(j.blk.alloc (.cells (madeCells #[.bool false] ns) 4)).set 9 (.slice (some ⟨w6.heap.size,0,none⟩) ns ns);simpa using h);have a8:=j.blk.alloc (.cells (madeCells #[.bool false] ns) 4)
     have bb:Hid (BSt ((w6.alloc (.cells (madeCells #[.bool false] ns) 4)).setCell ⟨gb,9,none⟩ (.slice (some ⟨w6.heap.size,0,none⟩) ns ns)) w.heap.size gb C S (BJ S (ls.take r)) (List.replicate ns false) vc (.slice As ns cs) (.int .i64 (p:Nat)) (.int .i64 (q:Nat)) (.slice none 0 0) (.slice none 0 0) (.slice none 0 0) (.slice none 0 0) (.slice Af ns cf) (.slice (some ⟨w6.heap.size,0,none⟩) ns ns) fv):=by
      refine⟨cQ,jZ (wZ (ch.alloc _) (fZ (ch.alloc _) a8 (by decide)) _) (by omega),jZ (wZ (by rw[<-bQ.out];exact bP.alloc _) (fZ (by exact bP.alloc _) a8 (by decide)) _) (by omega),?_,?_⟩
      ·exact((j.fr.step (bZ (Ag _ _))).mono (by omega)).set a8 (by decide) (by decide) 9 _
      ·rw[CM];exact wZ aI (fZ aI a8 (by decide)) _
     have bp:Below w6.heap.size w6 (w6.alloc (.cells (madeCells #[.bool false] ns) 4)):=bZ (Ag _ _);have ba:Kept (fun x=>x<w6.heap.size/\x≠gb) w6 ((w6.alloc (.cells (madeCells #[.bool false] ns) 4)).setCell ⟨gb,9,none⟩ (.slice (some ⟨w6.heap.size,0,none⟩) ns ns)):=(Kept.of_below bp (fun x hx=>hx.1)).set (fun h=>h.2 rfl) _;have bH:Hid (Blk ((w6.alloc (.cells (madeCells #[.bool false] ns) 4)).setCell ⟨gb,9,none⟩ (.slice (some ⟨w6.heap.size,0,none⟩) ns ns)) w.heap.size 25 #[.int .i64 b0, .bool b1, .int .i64 (bu:Nat), .int .i64 b3, .int .i64 b4, .int .i64 b5]):=(ba.block w.heap.size ⟨by omega,by omega⟩).trans bC.out;have bg:Hid (Below w.heap.size w ((w6.alloc (.cells (madeCells #[.bool false] ns) 4)).setCell ⟨gb,9,none⟩ (.slice (some ⟨w6.heap.size,0,none⟩) ns ns))):=cB.out.trans (ba.below fun b h=>⟨by omega,by omega⟩);have z7:=ba.size;clear j c0 cR bY cv DS ch bP aI cQ a8 bp ba aq au cP bC cB da aN;have bD:=World.setCell_alloc_past (w:=w6) (.cells (madeCells #[.bool false] ns) 4) gb 9 (.slice (some ⟨w6.heap.size,0,none⟩) ns ns) c1;have cC:=hid bD;clear bD;go_wp2_with fail;rw[<-cC.out];clear cC;generalize (w6.alloc (.cells (madeCells #[.bool false] ns) 4)).setCell ⟨gb,9,none⟩ (.slice (some ⟨w6.heap.size,0,none⟩) ns ns)=w7 at *;obtain⟨N,hN⟩:∃N,N=C.sum:=⟨_,rfl⟩;obtain⟨J,af⟩:∃J,J=((ls.take r).drop S.sum).take p:=⟨_,rfl⟩;obtain⟨kc,aC⟩:∃kc,kc=C.length:=⟨_,rfl⟩;have aj:=bb.out;have ab:=aj.oc;rw[<-aC]at ab;obtain⟨Ac,cc,rfl⟩:=aZ ab;have dw:kc<=20000:=(by rw[aC];exact aG.out.2);have cy:N<=20000:=(by rw[hN];exact aL.out);have cx:J.length=p:=(by rw[af,AO,AQ,AO,HN.out];have:=bF.out;omega);have cl:∀x∈J,x<=255:=fun x hx=>by rw[af]at hx;exact H8.out x (BV (Bb (BV hx)))
     have dn:=hid cl;have aa:=hid (fun wx (hb:Below w7.heap.size w7 wx)=>PK wx gb kc cc Ac C ((aj.blk.step hb).cell 0) aC.symm (by omega) (by rw[<-hN];omega) (GZ (dZ ab (fun y hy=>hb.block y (Ae ab y hy).2)) aC.symm));rw[<-hN]at aa;have cj:=hid (fun wx (hb:Below w7.heap.size w7 wx)=>WB wx gb 96 _ A2 p c2 N J (aj.blk.step hb) (by simp) (by decide) (by decide) cx (by omega) cI cl (HT.out.step (bg.out.trans (hb.mono (by omega)))) (by rw[af];exact(cN.out.below (bg.out.trans (hb.mono (by omega)))).mono (by have:=hb.size;omega)) cy);unfold M4 at cj;rw[<-hN,<-af]at ak;have bj:=hid hN;have cS:=hid af;have bX:=hid aC;generalize c6:Fs N J=cE at *;have dv:=hid c6;clear aj ab hN af aC cx cl c6 cN aL aG di b8 b9 f9;go_region_held3 (fun _=>True) (trivial) (first|(go_at_call 64;(with_reducible refine(aa.out _ (by(repeat (with_reducible first|exact Ag _ _|assumption|refine Aq ?_ |refine below_drewN ?_ _|refine qZ ?_ |refine bZ ?_ |refine eZ (by assumption) ?_ |refine belA ?_ |refine rZ (by assumption) ?_)))).mono ?_);rintro e wA ⟨rfl,rfl⟩)|(go_at_call 63;(with_reducible refine(cj.out _ (by(repeat (with_reducible first|exact Ag _ _|assumption|refine Aq ?_ |refine below_drewN ?_ _|refine qZ ?_ |refine bZ ?_ |refine eZ (by assumption) ?_ |refine belA ?_ |refine rZ (by assumption) ?_)))).mono ?_);rintro e w8 ⟨rfl,M,aO⟩))
     all_goals
      have M:Kept (fun x=>x<w7.heap.size/\x≠gb) w7 w8:=⟨M.os,M.tape,M.output,M.size,M.block⟩;have z8:=M.size;have aY:Hid (Below w.heap.size w w8):=bg.out.trans (M.below fun b h=>⟨by omega,by omega⟩);have aJ:Hid (Blk w8 w.heap.size 25 #[.int .i64 b0, .bool b1, .int .i64 (bu:Nat), .int .i64 b3, .int .i64 b4, .int .i64 b5]):=(M.block w.heap.size ⟨by omega,by omega⟩).trans bH.out;by_cases Q:cE=0
      ·subst Q;obtain⟨vt,vl,bl,av,aw⟩:=aO rfl;have bl:Blk w8 gb 96 #[.slice Ac kc cc, .slice As ns cs, .int .i64 (p:Nat), .int .i64 (q:Nat),vt,vl, .slice none 0 0, .slice none 0 0, .slice Af ns cf, .slice (some ⟨w6.heap.size,0,none⟩) ns ns]:=(by simpa using bl);have bG:=hid (bb.out.keep M bl);have av:w8.ownsRow w.heap.size 57 1 vt (Bk N (AI J)).1.length (cZ .u64 (Bk N (AI J)).1):=jZ av (by show _<=w7.heap.size;omega);have aw:w8.ownsRow w.heap.size 5 1 vl (Bk N (AI J)).2.1.length (cZ .u8 (Bk N (AI J)).2.1):=jZ aw (by show _<=w7.heap.size;omega);have a4:=hid av;have aS:=hid aw;have hO:=ak.out;rw[Aa (show ¬((0:Int)≠0) from fun h=>h rfl)]at hO;unfold opnI EU oN at hO;rw[cJ.out,<-aE.out,<-al.out,<-bh.out,<-bR.out,<-bT.out,<-bj.out]at hO;obtain⟨Z,ag⟩:∃Z,Z=(ls.take r).drop (S.sum+p):=⟨_,rfl⟩;rw[<-ag]at hO;have cU:Z.length=q:=(by rw[ag,AQ,AO,HN.out];have:=bF.out;omega);have bW:∀x∈Z,x<=255:=fun x hx=>by rw[ag]at hx;exact H8.out x (BV (Bb hx))
       have cM:=hid ag;have Y:=Lc w8 A3 q c3 Z cU (by omega) cK bW (HT.out.step aY.out) (by rw[ag];exact(cW.out.below aY.out).mono (by omega));unfold ER at Y;have ck:(AI Z).length<=100000:=(by have:=I0 Z;omega);have cY:Hid (∀x∈AI Z,x<=255):=Gn bW;generalize BS Z=ie at *;obtain⟨xi,ca⟩:∃xi,xi=AI Z:=⟨_,rfl⟩;rw[<-ca]at Y ck cY hO;have dd:=hid ca;obtain⟨xm,bK⟩:∃xm,xm=xi.length:=⟨_,rfl⟩;rw[<-bK]at Y ck;have bU:=hid bK;have bd:=hid hO;have Y:=hid Y;clear bl av aw aO hO ag cU bW ca bK M bb ak cW aa cj bH bg HT;go_wp2_with fail;refine Y.out.mono ?_;rintro e w9 ⟨v9,rfl,cp,ac⟩;obtain⟨A9,c9,rfl⟩:=aZ cp;have z9:=ac.size;have aA:=hid (bG.out.step ac);have cu:Hid (Below w.heap.size w w9):=aY.out.trans (ac.mono (by omega));have ah:=hid (aJ.out.step ac);have ar:=hid (dZ a4.out (fun y hy=>ac.block y (Ae a4.out y hy).2));have ax:=hid (dZ aS.out (fun y hy=>ac.block y (Ae aS.out y hy).2));have bk:=hid cp;clear cp ac bG aY aJ a4 aS Y;by_cases aV:ie=0
       ·subst aV;have hO:=bd.out;rw[Aa (show ¬((0:Int)≠0) from fun h=>h rfl)]at hO;have aj:=aA.out;have ab:=aj.oc;rw[<-bX.out]at ab;have aa:=hid (fun wx (hb:Below w9.heap.size w9 wx)=>PK wx gb kc cc Ac C ((aj.blk.step hb).cell 0) bX.out.symm (by omega) (by rw[<-bj.out];omega) (GZ (dZ ab (fun y hy=>hb.block y (Ae ab y hy).2)) bX.out.symm));rw[<-bj.out]at aa;have bO:=CQ bk.out;have bB:Row w9 w9.heap.size A9 xm 1 (iZ .u8 xi):=(by have h:=bk.out;rw[bU.out]at h;have h2:=own_row h;rw[<-bU.out]at h2;exact h2);have aT:=hid (fun wx (hb:Below w9.heap.size w9 wx)=>Ny wx A9 xm c9 bu N xi bU.out.symm ck cY.out bO.2 bO.1 ((bB.below hb).mono hb.size) cz cD cy);unfold Idx.I4 at aT;obtain⟨X,hX⟩:∃X,X=Idx.ixR bu N xi:=⟨_,rfl⟩;rw[<-hX]at aT hO;have df:=hid hX;obtain⟨xv,xe⟩:=X;simp only at aT hO;have co:=hid hO;have k9:w9.cell? ⟨w.heap.size,2,none⟩=some (.int .i64 (bu:Nat)):=ah.out.cell 2;clear hO aj ab bO bB hX bd;go_wp2_with fail;go_region_held3 (fun wx=>wx.cell? ⟨w.heap.size,2,none⟩=some (.int .i64 (bu:Nat))) (first|exact k9|exact ct|exact c7) (first|(go_at_call 64;(with_reducible refine(aa.out _ (by(repeat (with_reducible first|exact Ag _ _|assumption|refine Aq ?_ |refine below_drewN ?_ _|refine qZ ?_ |refine bZ ?_ |refine eZ (by assumption) ?_ |refine belA ?_ |refine rZ (by assumption) ?_)))).mono ?_);rintro e wA ⟨rfl,rfl⟩)|(go_at_call 66;(with_reducible refine(aT.out _ (by(repeat (with_reducible first|exact Ag _ _|assumption|refine Aq ?_ |refine below_drewN ?_ _|refine qZ ?_ |refine bZ ?_ |refine eZ (by assumption) ?_ |refine belA ?_ |refine rZ (by assumption) ?_)))).mono ?_);rintro e E ⟨vT,vL,vals,rfl,aD,bA⟩;obtain⟨AT,cT,rfl⟩:=aZ aD.t;obtain⟨AL,cL,rfl⟩:=aZ aD.l;have ai:Below w9.heap.size w9 E:=eZ bA (by(repeat (with_reducible first|exact Ag _ _|assumption|refine Aq ?_ |refine below_drewN ?_ _|refine qZ ?_ |refine bZ ?_ |refine eZ (by assumption) ?_ |refine belA ?_ |refine rZ (by assumption) ?_)));have ct:E.cell? ⟨w.heap.size,2,none⟩=some (.int .i64 (bu:Nat)):=(ah.out.step ai).cell 2;have L:=aA.out.step ai;have m6:=L.blk.cell 6;have m7:=L.blk.cell 7;have n6:=L.blk.frozen 6;have n7:=L.blk.frozen 7;simp only[List.getElem?_toArray,List.getElem?_cons_zero,List.getElem?_cons_succ]at m6 m7;have c7:((E.setCell ⟨gb,6,none⟩ (.slice AT xv.1.length cT)).setCell ⟨gb,7,none⟩ (.slice AL xv.2.length cL)).cell? ⟨w.heap.size,2,none⟩=some (.int .i64 (bu:Nat)):=(((ah.out.step ai).far (p:=⟨gb,6,none⟩) (by show _≠gb;omega) _).far (p:=⟨gb,7,none⟩) (by show _≠gb;omega) _).cell 2))
        all_goals
         have ac:=(L.blk.set 6 (.slice AT xv.1.length cT)).set 7 (.slice AL xv.2.length cL);have aQ:Blk ((E.setCell ⟨gb,6,none⟩ (.slice AT xv.1.length cT)).setCell ⟨gb,7,none⟩ (.slice AL xv.2.length cL)) gb 96 #[.slice Ac kc cc, .slice As ns cs, .int .i64 (p:Nat), .int .i64 (q:Nat),vt,vl,(.slice AT xv.1.length cT),(.slice AL xv.2.length cL), .slice Af ns cf, .slice (some ⟨w6.heap.size,0,none⟩) ns ns]:=(by simpa using ac);have a3:Kept (fun x=>x<E.heap.size/\x≠gb) E ((E.setCell ⟨gb,6,none⟩ (.slice AT xv.1.length cT)).setCell ⟨gb,7,none⟩ (.slice AL xv.2.length cL)):=((Kept.refl _ _).set (fun h=>h.2 rfl) _).set (fun h=>h.2 rfl) _;have U:=L.keep a3 aQ;have far:∀ {b n:Nat} {e:TypeId} {v:Value} {xs:List Value},E.ownsRow b e 1 v n xs->e≠96->((E.setCell ⟨gb,6,none⟩ (.slice AT xv.1.length cT)).setCell ⟨gb,7,none⟩ (.slice AL xv.2.length cL)).ownsRow b e 1 v n xs:=fun ho hne=>dZ ho fun y hy=>a3.block y ⟨(Ae ho y hy).2,fun e=>fZ ho L.blk hne (e ▸ hy)⟩;have dm:w9.heap.size<=E.heap.size:=ai.size;have ds:∀q,(w9.drewN q).heap.size=w9.heap.size:=fun _=>rfl
         have bE:BodyAt ((E.setCell ⟨gb,6,none⟩ (.slice AT xv.1.length cT)).setCell ⟨gb,7,none⟩ (.slice AL xv.2.length cL)) w.heap.size gb C S (Bk N (AI J)).1 (Bk N (AI J)).2.1 xv (BJ S (ls.take r)) (List.replicate ns false):=
          ⟨_,_,_,_,vt,vl,(.slice AT xv.1.length cT),(.slice AL xv.2.length cL),_,_,vals,fv,aQ,U.oc,U.os,far (dZ ar.out (fun y hy=>ai.block y (Ae ar.out y hy).2)) (by decide),far (dZ ax.out (fun y hy=>ai.block y (Ae ax.out y hy).2)) (by decide),⟨far (jZ aD.t (by show _<=w9.heap.size;omega)) (by decide),far (jZ aD.l (by show _<=w9.heap.size;omega)) (by decide),fun i v ids hv hi=>far (jZ (aD.r i v ids hv hi) (by show _<=w9.heap.size;omega)) (by decide)⟩,U.fr,U.oa⟩
         have bq:Hid (Below w.heap.size w ((E.setCell ⟨gb,6,none⟩ (.slice AT xv.1.length cT)).setCell ⟨gb,7,none⟩ (.slice AL xv.2.length cL))):=nZ (by show _<=gb;omega) (nZ (by show _<=gb;omega) (cu.out.trans (ai.mono (by omega))));have cV:=hid bE;clear ac aQ a3 U far bE L aD bA ai ct c7 m6 m7 n6 n7 k9 aa aT aA ah ar ax bk;generalize (E.setCell ⟨gb,6,none⟩ (.slice AT xv.1.length cT)).setCell ⟨gb,7,none⟩ (.slice AL xv.2.length cL)=dy at *;by_cases be:xe=0
         ·subst be;have HF:Hid (CA o ls=0):=HO.out.symm.trans co.out;go_wp2_with fail;go_ret2;refine⟨bq.out,fun h=>absurd HF.out h,fun _=>⟨gb,rfl,?_⟩⟩;have h:=cV.out;rw[bQ.out]at h;rw[show ls.take (CR ls)=ls.take r by rw[aE.out],<-al.out,<-bR.out,<-bh.out,cJ.out];rw[show oN ls=N by rw[bj.out,bR.out,al.out];rfl,show Cb ls=J by rw[cS.out,bh.out,bT.out,al.out,aE.out];rfl,show EU ls=Z by rw[cM.out,bh.out,bT.out,al.out,aE.out];rfl,<-dd.out,<-df.out];exact h
         ·have gE:(xe != 0)=true:=(by simpa using be);have HF:Hid (O=xe):=co.out;have z:=hid be;have G:=bq;clear be co cV;go_wp2_with fail;go_ret2;exact Ig (HO.out.symm.trans HF.out) z.out G.out
       ·have gE:(ie != 0)=true:=(by simpa using aV);have HF:Hid (O=ie):=(by have h:=bd.out;rw[Ab aV]at h;exact h);have z:=hid aV;have G:=cu;clear aV bd aA ah ar ax bk;go_wp2_with fail;go_ret2;exact Ig (HO.out.symm.trans HF.out) z.out G.out
      ·have gE:(cE != 0)=true:=(by simpa using Q);have HF:Hid (O=cE):=(by have h:=ak.out;rw[Ab Q]at h;exact h);have z:=hid Q;have G:=aY;clear Q ak M aO bb aJ;go_wp2_with fail;go_ret2;exact Ig (HO.out.symm.trans HF.out) z.out G.out
    ·have gE:(de != 0)=true:=(by simpa using aK);have HF:Hid (O=de):=(by have h:=aF.out;rw[Ab aK]at h;exact h);have z:=hid aK;have G:=a9;clear aK aF a1 aP DD aN aR cr b6;go_wp2_with fail;go_ret2;exact Ig (HO.out.symm.trans HF.out) z.out G.out
   ·have gE:(ce != 0)=true:=(by simpa using Q);have HF:Hid (O=ce):=(by have h:=bf.out;rw[Ab Q]at h;exact h);have z:=hid Q;have G:=bc;clear Q bf bi ay b7;go_wp2_with fail;go_ret2;exact Ig (HO.out.symm.trans HF.out) z.out G.out
 ·have gE:(oe != 0)=true:=by simpa using a5
  have HF:Hid (O=oe):=by have h:=ci.out;rw[Ab a5]at h;exact h
  have z:=hid a5;have G:=cm;clear a5 ci bS aB D1;go_wp2_with fail;go_ret2;exact Ig (HO.out.symm.trans HF.out) z.out G.out
end Body
namespace Body
open Go.RowKit Mem Own Canon Nums Crc Recs Opts
open Go.Proofs.YtbgoibedicbkjaaGreatDoor.Idx (Str Dq Lx ixF lsR)
open Go.Proofs.YtbgoibedicbkjaaGreatDoor.Ef (rowN Fx efR efG BK)
theorem Pf:∀ (k:Nat) (bs:List Nat) (at_ j:Nat) (i:List Nat),(Cw k bs at_ j i).2.2=0->(Cw k bs at_ j i).1.length=i.length+k
 |0,_,_,_,_,_=>rfl
 |k+1,bs,at_,j,i,h=>by
  unfold Cw at h ⊢;split at h
  ·rename_i he;exact absurd h he
  ·rename_i he;rw[Aa he,Pf k _ _ _ _ h,Ai];simp;omega
theorem Q7{n:Nat}{bs:List Nat}(h8:∀x∈bs,x<=255):∀ (f at_:Nat) (i:List Nat),i.length<=n->(Cx f n bs at_ i).1.length<=n
 |0,_,_,h=>h
 |f+1,at_,i,h=>by
  unfold Cx;split
  ·exact h
  ·split
   ·exact AY _
   ·refine Q7 h8 f _ _ ?_;rw[Ai,CM];have h1:(FY (n-i.length) bs at_).2.1<=n-i.length:=Cs h8 _ _;omega
theorem Yl{n:Nat}{bs:List Nat}(h8:∀x∈bs,x<=255):(Bk n bs).2.1.length<=n/\((Bk n bs).2.2.2=0->(Bk n bs).1.length=n):=by
 unfold Bk FX;split
 ·rename_i he;exact⟨AY _,fun h=>absurd h he⟩
 ·rename_i he;have hl:(Eh n bs (Cw n bs 0 0 [])).2.2=0:=EO he;refine⟨?_,fun _=> ?_⟩
  ·show(Eh n bs (Cw n bs 0 0 [])).1.length<=n;unfold Eh;split
   ·exact AY _
   ·exact Q7 h8 _ _ _ (AY _)
  ·have h:=Pf n bs 0 0 [] (M9 hl);simpa using h
theorem Nv{bound W:Nat}{bs:List Bool}:∀ (xs:List Nat) (at_ h:Nat) (i:List Nat),(rowN bound W bs xs at_ h i).1.length<=i.length+xs.length
 | [],_,_,_=>Aj _
 |x :: xs,at_,h,i=>by
  unfold rowN;split
  ·exact AY _
  ·split
   ·exact AY _
   ·split
    ·exact AY _
    ·refine AV (Nv xs _ _ _) ?_;rw[Ai,Bh];simp;omega
theorem Wq{bound:Nat}{bs:List Nat}(h8:∀x∈bs,x<=255):(efR bound bs).1.length<=bound:=by
 have hv:xZ bound bs 0 0<=bound:=Cs h8 _ _;unfold efR;split
 ·exact AY _
 ·split
  ·exact AY _
  ·unfold efG;split
   ·exact AY _
   ·show(Fx bound (xZ bound bs 0 0) _).1.length<=bound;unfold Fx;split
    ·exact AY _
    ·split
     ·exact AY _
     ·split
      ·exact AY _
      ·refine AV (Nv _ _ _ _) ?_;rw[Ef.MY];simp;omega
theorem Sd{bound:Nat}{ls:List Nat}(h8:∀x∈ls,x<=255):∀ (k at_:Nat) (i:List (List Nat)),(∀l∈i,l.length<=bound)->(lsR bound ls k at_ i).1.length<=i.length+k/\∀l∈(lsR bound ls k at_ i).1,l.length<=bound
 |0,at_,i,h=>by
  unfold lsR;split
  ·exact⟨AY _,fun l hl=>by simp at hl⟩
  ·exact⟨Aj _,h⟩
 |k+1,at_,i,h=>by
  unfold lsR;split
  ·exact⟨AY _,fun l hl=>by simp at hl⟩
  ·split
   ·exact⟨AY _,fun l hl=>by simp at hl⟩
   ·have h1:=Sd h8 k (at_+(efR bound (ls.drop at_)).2.1) (i++ [(efR bound (ls.drop at_)).1]) (fun l hl=>by
     rcases BH.1 hl with h2|h2
     ·exact h l h2
     ·rw[Df]at h2;rw[h2];exact Wq fun x hx=>h8 x (Bb hx))
    rw[Ai]at h1;exact⟨by have:=h1.1;simp at this;omega,h1.2⟩
theorem Wb{size bound:Nat}{ls:List Nat}(h8:∀x∈ls,x<=255):(Idx.ixR size bound ls).1.1.length<=1048576/\(Idx.ixR size bound ls).1.2.length<=1048576/\∀l∈(Idx.ixR size bound ls).1.2,l.length<=bound:=by
 have hd:=(Lx (size:=size) h8).2;have hl:=Sd (bound:=bound) (ls:=ls.drop (Dq size ls).2.1) (fun x hx=>h8 x (Bb hx)) (Dq size ls).1.length 0 [] (fun l hl=>by simp at hl);unfold Idx.ixR;split
 ·exact⟨AY _,AY _,fun l hl=>by simp at hl⟩
 ·unfold ixF;split
  ·exact⟨AY _,AY _,fun l hl=>by simp at hl⟩
  ·exact⟨hd,by have:=hl.1;simp at this;exact AV this hd,hl.2⟩
theorem Ry{o:Opt}{ls:List Nat}(h8:∀x∈ls,x<=255)(h:CA o ls=0):oN ls<=20000/\(Bt (AE ls)).length<=20000/\(Cd (AE ls)).length=(Bt (AE ls)).length/\(∀x∈Bt (AE ls),x<=20000)/\(Bk (oN ls) (AI (Cb ls))).1.length=oN ls/\(Bk (oN ls) (AI (Cb ls))).2.1.length<=oN ls:=by
 have j:∀x∈AE ls,x<=255:=Gn (fun x hx=>by unfold Di at hx;exact h8 x (Bb (BV hx)));have E:∀x∈AI (Cb ls),x<=255:=Gn (fun x hx=>by unfold Cb at hx;exact h8 x (BV (Bb (BV hx))));have i:BW (AE ls)<=20000:=Cs j _ _;have J:Ex (AE ls)<=20000:=AV (Cs j _ _) i;have z:=Kl (rec:=BW (AE ls)) (ls:=AE ls) (Ex (AE ls)) (mZ (BW (AE ls)) (AE ls) (mZ 20000 (AE ls) 0 0) (oZ 20000 (AE ls) 0 0)) (oZ (BW (AE ls)) (AE ls) (mZ 20000 (AE ls) 0 0) (oZ 20000 (AE ls) 0 0)) [] [] rfl;have G:=LV (rec:=BW (AE ls)) j (Ex (AE ls)) (mZ (BW (AE ls)) (AE ls) (mZ 20000 (AE ls) 0 0) (oZ 20000 (AE ls) 0 0)) (oZ (BW (AE ls)) (AE ls) (mZ 20000 (AE ls) 0 0) (oZ 20000 (AE ls) 0 0)) [] [] (fun x hx=>by simp at hx) (fun x hx=>by simp at hx)
 have h1:G7 o ls=0:=by
  unfold CA at h;split at h
  ·rename_i he;exact absurd h he
  ·exact h
 have h2:G9 o ls=0:=by
  unfold G7 at h1;split at h1
  ·cases h1
  ·split at h1
   ·rename_i he;exact absurd h1 he
   ·exact h1
 have h3:Ew (CR ls) (AE ls)=0/\Ha o ls=0:=by
  unfold G9 at h2;split at h2
  ·rename_i he;exact absurd h2 he
  ·rename_i he;exact⟨EO he,h2⟩
 have h4:Fs (oN ls) (Cb ls)=0:=by
  have h5:=h3.2;unfold Ha at h5;split at h5
  ·rename_i he;exact absurd h5 he
  ·rename_i he;exact EO he
 have h6:(Bk (oN ls) (AI (Cb ls))).2.2.2=0:=by
  unfold Fs at h4;split at h4
  ·rename_i he;exact absurd h4 he
  ·split at h4
   ·rename_i he;exact absurd h4 he
   ·rename_i he;exact EO he
 have hk:=NG h3.1;have y:=Yl (n:=oN ls) E;have h7:(Bt (AE ls)).length<=0+Ex (AE ls):=z.2.1;exact⟨by unfold oN;rw[hk.2.1];exact i,by omega,z.1.symm,fun x hx=>AV (G.1 x hx) i,y.2 h6,y.1⟩
end Body
end Go.Proofs.YtbgoibedicbkjaaGreatDoor
