/- An opened body: the  -/
import Derived.Test.YtfgdoknipbpfhaaGreatDoorZTwoBack31
import Derived.Test.YtfgdoknipbpfhaaGreatDoorZTwoBack32
namespace Go.Proofs.YtfgdoknipbpfhaaGreatDoor
open Go.Proofs.Tryz
open Go.Lib (hid)
variable{C S ls:List Nat}{w w':World}{base bound gb:Nat}{F:List (List Nat)}{K:List Bool}{vF va vc vs x2 x3 x4 x5 x6 x7:Value}{fv:List Value}
open Go.RowKit
instance footDec (ls:List Nat):Decidable (Hn ls):=by unfold Hn;exact inferInstance
def Dd(ls:List Nat):Nat:=ls.length-4-Gd (ls.drop (ls.length-4))
def zZ(ls:List Nat):List Nat:=AJ (FV ls)
def oN(ls:List Nat):Nat:=(BM (zZ ls)).sum
def Cr(ls:List Nat):List Nat:=((ls.take (Dd ls)).drop (Cc (zZ ls)).sum).take (dP (zZ ls))
def Fu(ls:List Nat):List Nat:=(ls.take (Dd ls)).drop ((Cc (zZ ls)).sum+dP (zZ ls))
def opnI(o:Opt)(ls:List Nat):Int:=if BI (Fu ls)≠0 then BI (Fu ls)else(Ah5 o.bucket.toNat (oN ls) (AJ (Fu ls))).2
def opnC(o:Opt)(ls:List Nat):Int:=if GJ (oN ls) (Cr ls)≠0 then GJ (oN ls) (Cr ls)else opnI o ls
def opnD(o:Opt)(ls:List Nat):Int:=if Gb (Dd ls) (zZ ls)≠0 then Gb (Dd ls) (zZ ls)else opnC o ls
def I9(o:Opt)(ls:List Nat):Int:=if Hn ls then 1 else if BI (FV ls)≠0 then BI (FV ls)else opnD o ls
def Ei(o:Opt)(ls:List Nat):Int:=if Dj o≠0 then Dj o else I9 o ls
theorem Rw{i:Nat}(h:Gb i ls=0):0 ∉ BM ls/\(BM ls).sum=Db ls/\(Cc ls).sum+dP ls+dQ ls=i:=by
 unfold Gb at h;split at h
 ·rename_i he;exact absurd h he
 ·split at h
  ·cases h
  ·rename_i hn;exact⟨fun h=>hn (.inl h),G1 fun h=>hn (.inr (.inl h)),G1 fun h=>hn (.inr (.inr h))⟩
def BodyAt(w:World)(base gb:Nat)(C S T L:List Nat)(X:List Str×List (List Nat))(F:List (List Nat))(K:List Bool):Prop:=
 ∃vc vs p q vt vl vT vL vF va vals fv,Blk w gb 102 #[vc,vs,p,q,vt,vl,vT,vL,vF,va]/\w.ownsRow base 3 1 vc C.length (dZ .i64 C)/\w.ownsRow base 3 1 vs S.length (dZ .i64 S)/\
  w.ownsRow base 41 1 vt T.length (dZ .u64 T)/\w.ownsRow base 5 1 vl L.length (dZ .u8 L)/\IxAt w base vT vL vals X.1 X.2/\FrAt w base vF fv F/\w.ownsRow base 4 1 va K.length (K.map Value.bool)
theorem BodyAt.step{T L:List Nat}{X:List Str×List (List Nat)}(h:BodyAt w base gb C S T L X F K)(hb:Below w w w'):BodyAt w' base gb C S T L X F K:=by obtain⟨vc,vs,p,q,vt,vl,vT,vL,vF,va,vals,fv,h0,h1,h2,h3,h4,h5,h6,h7⟩:=h;have far:∀ {n:Nat} {e:TypeId} {v:Value} {xs:List Value},w.ownsRow base e 1 v n xs->w'.ownsRow base e 1 v n xs:=fun ho=>eZ ho fun y hy=>hb.block y (Aj ho y hy).2;exact⟨vc,vs,p,q,vt,vl,vT,vL,vF,va,vals,fv,h0.step hb,far h1,far h2,far h3,far h4,⟨far h5.t,far h5.l,fun i v ids hv hi=>far (h5.r i v ids hv hi)⟩,h6.step hb,far h7⟩
structure BSt (w:World) (base gb:Nat) (C S:List Nat) (F:List (List Nat)) (K:List Bool) (vc vs x2 x3 x4 x5 x6 x7 vF va:Value) (fv:List Value):Prop where
 blk:Blk w gb 102 #[vc,vs,x2,x3,x4,x5,x6,x7,vF,va]
 oc:w.ownsRow base 3 1 vc C.length (dZ .i64 C)
 os:w.ownsRow base 3 1 vs S.length (dZ .i64 S)
 fr:FrAt w base vF fv F
 oa:w.ownsRow base 4 1 va K.length (K.map Value.bool)
theorem BSt.keep{y4 y5 y6 y7:Value}(h:BSt w base gb C S F K vc vs x2 x3 x4 x5 x6 x7 vF va fv)(hk:Kept (fun x=>x<w.heap.size/\x≠gb) w w')(hb:Blk w' gb 102 #[vc,vs,x2,x3,y4,y5,y6,y7,vF,va]):BSt w' base gb C S F K vc vs x2 x3 y4 y5 y6 y7 vF va fv:=by have far:∀ {n:Nat} {e:TypeId} {v:Value} {xs:List Value},w.ownsRow base e 1 v n xs->e≠102->w'.ownsRow base e 1 v n xs:=fun ho hne=>eZ ho fun y hy=>hk.block y ⟨(Aj ho y hy).2,fun e=>gZ ho h.blk hne (e ▸ hy)⟩;exact⟨hb,far h.oc ip,far h.os ip,⟨far h.fr.l ip,fun i v b hv hi=>far (h.fr.r i v b hv hi) ip⟩,far h.oa ip⟩
theorem BSt.step(h:BSt w base gb C S F K vc vs x2 x3 x4 x5 x6 x7 vF va fv)(hb:Below w w w'):BSt w' base gb C S F K vc vs x2 x3 x4 x5 x6 x7 vF va fv:=
 h.keep (Kept.of_below hb fun _ hx=>hx.1) (h.blk.step hb)
theorem Xw:(prog.info? 4).map (fun i=>(i.zero,i.size,i.bytes))=some (some (.bool false),1,1):=my
theorem W8(n:Nat)(hn:n<=8388608)(w:World):(Instr.makeSlice 76 (.int .i64 (n:Int)) (.int .i64 (n:Int))).run prog w=
 .ok (.slice (some ⟨w,0,none⟩) n n) (w.alloc (.cells (madeCells #[false] n) 4)):=by
 obtain⟨i0,hi,y,j,i⟩:=info_parts Xw;have h:=run_make (P:=prog) w 76 4 i0 (.bool false) underlying76 hi y .i64 .i64 (n:Int) (n:Int) nj (Int.le_refl _) ri nj;exact a1j
theorem qK(w:World)(base n:Nat)(hb:base<=w.heap.size)(hn:n<=8388608):(w.alloc (.cells (madeCells #[false] n) 4)).ownsRow base 4 1 (.slice (some ⟨w,0,none⟩) n n) n ((List.replicate n false).map Value.bool):=by
 refine⟨rX, .inr ⟨w.heap.size,n,madeCells #[false] n,rfl,hb,heap_alloc_new w _,Ak _,sS,by simp[size_madeCells],?_⟩⟩;apply List.ext_getElem
 ·simp[madeCells]
 ·intro i h1 h2;simp[madeCells,Nat.mod_one]
def Rh(o:Opt)(ls:List Nat)(w:World)(e:Ending)(w':World):Prop:=
 Below w w w'/\(Ei o ls≠0->e= .returned (.tuple #[.pointer none, .int .i64 (Ei o ls)]))/\
  (Ei o ls=0->∃gb,e= .returned (.tuple #[.pointer (some ⟨gb,0,none⟩),ij])/\BodyAt w' w gb (BM (zZ ls)) (Cc (zZ ls)) (By (oN ls) (AJ (Cr ls))).1 (By (oN ls) (AJ (Cr ls))).2.1 (Ah5 o.bucket.toNat (oN ls) (AJ (Fu ls))).1 (CA (Cc (zZ ls)) (ls.take (Dd ls))) (List.replicate (Cc (zZ ls)).length false))
theorem JK{o:Opt}{er:Int}(hE:Ei o ls=er)(i:er≠0)(hb:Below w w w'):Rh o ls w (.returned (.tuple #[.pointer none,er])) w':=sN
theorem YE{o:Opt}(h:Dj o=0):∃bu:Nat,o.bucket=(bu:Int)/\1<=bu/\bu<=64:=by
 unfold Dj CT Opt.body at h;split at h
 ·rename_i hc;obtain⟨_,⟨h1,h2⟩,_⟩:=hc;simp only at h1 h2;exact⟨o.bucket.toNat,nj,nj,nj⟩
 ·cases h
theorem WA:∀ (k:Nat) (bs:List Nat) (at_ j:Nat) (i:List Nat),(EC k bs at_ j i).2.2=0->(EC k bs at_ j i).1.length=i.length+k
 |0,_,_,_,_,_=>rfl
 |k+1,bs,at_,j,i,h=>by
  unfold EC at h ⊢;split at h
  ·rename_i he;exact absurd h he
  ·rename_i he;rw[Aa he,WA k _ _ _ _ h,Ag];simp;omega
theorem Um{n:Nat}{bs:List Nat}(h8:∀x∈bs,x<=255):∀ (f at_:Nat) (i:List Nat),i.length<=n->(EF f n bs at_ i).1.length<=n
 |0,_,_,h=>h
 |f+1,at_,i,h=>by
  unfold EF;split
  ·exact h
  ·split
   ·exact Bf _
   ·refine Um h8 f _ _ ?_;rw[Ag,Dv];have h1:(Hb (n-i.length) bs at_).2.1<=n-i.length:=zY h8 _ _;omega
theorem pM{n:Nat}{bs:List Nat}(h8:∀x∈bs,x<=255):(By n bs).2.1.length<=n/\((By n bs).2.2.2=0->(By n bs).1.length=n):=by
 unfold By Kr;split
 ·rename_i he;exact⟨Bf _,fun h=>absurd h he⟩
 ·rename_i he;have hl:(Ha n bs (EC n bs 0 0 [])).2.2=0:=G1 he;refine⟨?_,fun _=> ?_⟩
  ·show(Ha n bs (EC n bs 0 0 [])).1.length<=n;unfold Ha;split
   ·exact Bf _
   ·exact Um h8 _ _ _ (Bf _)
  ·have h:=WA n bs 0 0 [] (O8 hl);simpa using h
theorem T3{bound W:Nat}{bs:List Bool}:∀ (xs:List Nat) (at_ h:Nat) (i:List Nat),(Ae2 bound W bs xs at_ h i).1.length<=i.length+xs.length
 | [],_,_,_=>Ak _
 |x :: xs,at_,h,i=>by
  unfold Ae2;split
  ·exact Bf _
  ·split
   ·exact Bf _
   ·split
    ·exact Bf _
    ·refine AN (T3 xs _ _ _) ?_;rw[Ag,AD];simp;omega
theorem Yn{bs:List Nat}(h8:∀x∈bs,x<=255):(efR bound bs).1.length<=bound:=by
 have hv:AV bound bs 0 0<=bound:=zY h8 _ _;unfold efR;split
 ·exact Bf _
 ·split
  ·exact Bf _
  ·unfold efG;split
   ·exact Bf _
   ·show(GP bound (AV bound bs 0 0) _).1.length<=bound;unfold GP;split
    ·exact Bf _
    ·split
     ·exact Bf _
     ·split
      ·exact Bf _
      ·refine AN (T3 _ _ _ _) ?_;rw[Pj];simp;omega
theorem Rl{bound:Nat}{ls:List Nat}(h8:∀x∈ls,x<=255):∀ (k at_:Nat) (i:List (List Nat)),(∀l∈i,l.length<=bound)->(lsR bound ls k at_ i).1.length<=i.length+k/\∀l∈(lsR bound ls k at_ i).1,l.length<=bound
 |0,at_,i,h=>by
  unfold lsR;split
  ·exact⟨Bf _,fun l hl=>r6⟩
  ·exact⟨Ak _,h⟩
 |k+1,at_,i,h=>by
  unfold lsR;split
  ·exact⟨Bf _,fun l hl=>r6⟩
  ·split
   ·exact⟨Bf _,fun l hl=>r6⟩
   ·have h1:=Rl h8 k (at_+(efR bound (ls.drop at_)).2.1) (i++ [(efR bound (ls.drop at_)).1]) (fun l hl=>by
     rcases BJ.1 hl with h2|h2
     ·exact h l h2
     ·rw[Eo]at h2;rw[h2];exact Yn fun x hx=>h8 x (Bz hx))
    rw[Ag]at h1;exact⟨by have:=h1.1;simp at this;omega,h1.2⟩
theorem X6{size:Nat}(h8:∀x∈ls,x<=255):(Ah5 size bound ls).1.1.length<=1048576/\(Ah5 size bound ls).1.2.length<=1048576/\∀l∈(Ah5 size bound ls).1.2,l.length<=bound:=by
 have hd:=(Pm (size:=size) h8).2;have hl:=Rl (bound:=bound) (ls:=ls.drop (FH size ls).2.1) (fun x hx=>h8 x (Bz hx)) (FH size ls).1.length 0 [] (fun l hl=>by simp at hl);unfold Ah5;split
 ·exact⟨Bf _,Bf _,fun l hl=>r6⟩
 ·unfold ixF;split
  ·exact⟨Bf _,Bf _,fun l hl=>r6⟩
  ·exact⟨hd,by have:=hl.1;simp at this;exact AN this hd,hl.2⟩
theorem a2t{p:Prop}(h:p:=by
  unfold GJ at h4;split at h4
  ·rename_i he;exact absurd h4 he
  ·split at h4
   ·rename_i he;exact absurd h4 he
   ·rename_i he;exact G1 he):p:=h
theorem a3e{p:Prop}(h:p:=by
  unfold I9 at h1;split at h1
  ·cases h1
  ·split at h1
   ·rename_i he;exact absurd h1 he
   ·exact h1):p:=h
theorem a3f{p:Prop}(h:p:=by
  have h5:=h3.2;unfold opnC at h5;split at h5
  ·rename_i he;exact absurd h5 he
  ·rename_i he;exact G1 he):p:=h
theorem a3h{p:Prop}(h:p:=by
  unfold opnD at h2;split at h2
  ·rename_i he;exact absurd h2 he
  ·rename_i he;exact⟨G1 he,h2⟩):p:=h
theorem Wq{o:Opt}(h8:∀x∈ls,x<=255)(h:Ei o ls=0):oN ls<=20000/\(BM (zZ ls)).length<=20000/\(Cc (zZ ls)).length=(BM (zZ ls)).length/\(∀x∈BM (zZ ls),x<=20000)/\(By (oN ls) (AJ (Cr ls))).1.length=oN ls/\(By (oN ls) (AJ (Cr ls))).2.1.length<=oN ls:=by
 have j:∀x∈zZ ls,x<=255:=JM (fun x hx=>by unfold FV at hx;exact h8 x (Bz (BX hx)));have E:∀x∈AJ (Cr ls),x<=255:=JM (fun x hx=>by unfold Cr at hx;exact h8 x (BX (Bz (BX hx))));have i:Db (zZ ls)<=20000:=zY j _ _;have J:Gu (zZ ls)<=20000:=AN (zY j _ _) i;have z:=Ms (rec:=Db (zZ ls)) (ls:=zZ ls) (Gu (zZ ls)) (uZ (Db (zZ ls)) (zZ ls) (uZ 20000 (zZ ls) 0 0) (wZ 20000 (zZ ls) 0 0)) (wZ (Db (zZ ls)) (zZ ls) (uZ 20000 (zZ ls) 0 0) (wZ 20000 (zZ ls) 0 0)) [] [] rfl;have G:=PK (rec:=Db (zZ ls)) j (Gu (zZ ls)) (uZ (Db (zZ ls)) (zZ ls) (uZ 20000 (zZ ls) 0 0) (wZ 20000 (zZ ls) 0 0)) (wZ (Db (zZ ls)) (zZ ls) (uZ 20000 (zZ ls) 0 0) (wZ 20000 (zZ ls) 0 0)) [] [] (fun x hx=>by simp at hx) (fun x hx=>by simp at hx)
 have h1:I9 o ls=0:=by
  unfold Ei at h;split at h
  ·rename_i he;exact absurd h he
  ·exact h
 have h2:opnD o ls=0:=by
  exact a3e
 have h3:Gb (Dd ls) (zZ ls)=0/\opnC o ls=0:=by
  exact a3h
 have h4:GJ (oN ls) (Cr ls)=0:=by
  exact a3f
 have h6:(By (oN ls) (AJ (Cr ls))).2.2.2=0:=by
  exact a2t
 have hk:=Rw h3.1;have y:=pM (n:=oN ls) E;have h7:(BM (zZ ls)).length<=0+Gu (zZ ls):=z.2.1;exact⟨by unfold oN;rw[hk.2.1];exact i,nj,z.1.symm,fun x hx=>AN (G.1 x hx) i,y.2 h6,y.1⟩
theorem a1e{p:Prop}(h:p:=by go_wp2_with fail;go_ret2;exact JK (HO.out.symm.trans HF.out) E.out G.out):p:=h
set_option maxHeartbeats 4000000 in
set_option maxRecDepth 100000 in
theorem nS(w:World)(o:Opt)(A:Option Addr)(n c:Nat)(ls:List Nat)(hn:ls.length=n)(e3:n<=100000)(hc:n<=c)(h8:∀x∈ls,x<=255)(cG:A=none->n=0/\c=0)(ht:TabAt w)(ha:Row w w A n 1 (jZ .u8 ls)):
 Calls prog 13 #[o.val, .slice A n c] w (Rh o ls w):=by
 have ev:Hid (∀wx,Below w w wx->Row wx wx A n 1 (jZ .u8 ls)):=fun wx h=>(ha.below h).mono h.size;have D0:=hid (fun wx=>MR wx o);have D1:=hid (fun wx (h:Below w w wx)=>ZV wx A n c ls hn e3 hc h8 (ht.step h) (fun a _=>rfl) (ev.out wx h));have HT:=hid ht;have HN:=hid hn;have H8:=hid h8;have eV:=hid cG;have HA:=hid ha;have df:Hid (Dj o=0->∃bu:Nat,o.bucket=(bu:Int)/\1<=bu/\bu<=64):=YE;clear ha cG h8 ht hn ev;obtain⟨O,hO⟩:=ii (Ei o ls);have HO:=hid hO;unfold Ei at hO;generalize Dj o=oe at *;have dm:=hid hO;clear hO;unfold Opt.val;unfold Opt.val at D0;generalize al:o.bucket=b2 at *;have eb:=hid al;clear al;generalize o.block=b0 at *;generalize o.plain=b1 at *;generalize o.data=b3 at *;generalize o.parity=b4 at *;generalize o.chunk=b5 at *;go_enter func13,ntmps13;go_wp2_with fail;have ew:Blk (w.alloc (.cells #[b0,b1,b2,b3,b4,b5] 23)) w 23 #[b0,b1,b2,b3,b4,b5]:=Blk.made _ _ _;have et:Below w w (w.alloc (.cells #[b0,b1,b2,b3,b4,b5] 23)):=aZ (Ae _ _);have fc:w.heap.size+1<=(w.alloc (.cells #[b0,b1,b2,b3,b4,b5] 23)).heap.size:=rX
 generalize w.alloc (.cells #[b0,b1,b2,b3,b4,b5] 23)=w1 at *;have cA:=hid ew;have eB:=hid et;clear ew et;refine(D0.out _).mono ?_;rintro e w2 ⟨rfl,al⟩;have c6:Hid (Below w w w2):=eB.out.trans (al.mono nj);have av:=hid (cA.out.step al);have z2:=al.size;clear al eB cA D0;by_cases bm:oe=0
 ·subst bm;obtain⟨bu,rfl,ex,ek⟩:=df.out rfl;have hO:=dm.out;rw[Aa (show ¬((0:Int)≠0) from fun h=>h rfl)]at hO;have cu:=hid hO;have D1:=hid (D1.out w2 c6.out);have eo:Hid (o.bucket.toNat=bu):=by show _=_;rw[eb.out];exact BD _
  clear hO df eb;go_wp2_with fail;refine D1.out.mono ?_;rintro e w3 ⟨bx,bg,dc⟩;have ct:Hid (Below w w w3):=c6.out.trans (bx.mono nj);have ax:=hid (av.out.step bx);have z3:=bx.size;by_cases a8:Hn ls
  ·obtain rfl:=bg a8;have HF:Hid (O=1):=(by have h:=cu.out;unfold I9 at h;rw[Ab a8]at h;exact h);have E:Hid ((1:Int)≠0):=show(1:Int)≠0 by decide
   have G:=ct;clear a8 bg dc bx av ax D1;exact a1e
  ·obtain⟨v,rfl,an⟩:=dc a8;have hO:=cu.out;unfold I9 at hO;rw[Aa a8]at hO;rw[show ls.length-4-Gd (ls.drop (ls.length-4))=Dd ls from rfl];have eE:Dd ls<=n:=(by unfold Dd;rw[HN.out];omega);obtain⟨r,hr⟩:=ii (Dd ls);rw[<-hr]at eE ⊢;have a7:=hid hr;have cx:=hid hO;have an:w3.ownsRow w2 5 1 v (zZ ls).length (dZ .u8 (zZ ls)):=an;have ei:(zZ ls).length<=n:=(by unfold zZ;refine AN (OH _) ?_;unfold FV;rw[AY,AQ,HN.out];omega);have c5:∀x∈zZ ls,x<=255:=(by unfold zZ;exact JM (fun x hx=>by unfold FV at hx;exact H8.out x (Bz (BX hx))));generalize BI (FV ls)=ce at *;obtain⟨D,hD⟩:=ii (zZ ls);rw[<-hD]at an ei c5;have am:=hid hD;have di:=hid c5;obtain⟨dl,bq⟩:=ii D.length;rw[<-bq]at an ei;obtain⟨Ad,cd,rfl⟩:=bZ an;have cq:=hid bq;have dx:=hid an;have eK:Hid (Row w w A r 1 (jZ .u8 (ls.take r))):=Fj HA.out eE;clear a8 bg dc bx av D1 hO hr hD c5 an bq;by_cases aa:ce=0
   ·subst aa;have hO:=cx.out;rw[Aa (show ¬((0:Int)≠0) from fun h=>h rfl)]at hO;have a3:=hid hO;clear hO cx cu;go_wp2_with fail;have dF:Blk (w3.alloc (.cells #[(),(),ij,ij,(),(),(),(),(),()] 102)) w3 102 #[(),(),ij,ij,(),(),(),(),(),()]:=Blk.made _ _ _;have dt:Below w3 w3 (w3.alloc (.cells #[(),(),ij,ij,(),(),(),(),(),()] 102)):=aZ (Ae _ _);have e0:w3.heap.size+1<=(w3.alloc (.cells #[(),(),ij,ij,(),(),(),(),(),()] 102)).heap.size:=rX;have az:=dx.out.alloc (.cells #[(),(),ij,ij,(),(),(),(),(),()] 102);generalize w3.alloc (.cells #[(),(),ij,ij,(),(),(),(),(),()] 102)=w4 at *;have c0:Hid (Below w w w4):=ct.out.trans (dt.mono nj);have bj:=hid (ax.out.step dt);have e4:w3.heap.size<w4.heap.size:=nj;generalize eP:w3.heap.size=gb at *;have fg:w.heap.size<gb:=nj;rw[cq.out]at az;have DD:=hid (ZJ w4 gb 102 (.int .i64 0) (.int .i64 0) [.slice none 0 0, .slice none 0 0, .slice none 0 0, .slice none 0 0, .slice none 0 0, .slice none 0 0] Ad dl cd r D dF ip ip cq.out.symm nj di.out (by rw[cq.out];exact JT az) (by have h:=Ab5 az;rw[<-cq.out]at h;exact h));have du:Hid (Gb r D=0->0 ∉ BM D/\(BM D).sum=Db D/\(Cc D).sum+dP D+dQ D=r):=Rw;have c1:Hid (Db D<=20000):=zY di.out _ _;have a6:Hid ((BM D).length=(Cc D).length/\(BM D).length<=20000):=(by have h:=Ms (rec:=Db D) (ls:=D) (Gu D) (uZ (Db D) D (uZ 20000 D 0 0) (wZ 20000 D 0 0)) (wZ (Db D) D (uZ 20000 D 0 0) (wZ 20000 D 0 0)) [] [] rfl;have h2:Gu D<=20000:=AN (zY di.out _ _) c1.out;refine⟨h.1,?_⟩;have h3:(BM D).length<=0+Gu D:=h.2.1;omega);unfold Pe at DD;unfold opnD at a3;rw[<-a7.out,<-am.out]at a3;generalize Gb r D=de at *;clear dF dt az ax dx ct eP e0;refine DD.out.mono ?_;rintro e w5 ⟨rfl,b7,bh⟩;have bd:Hid (Below w w w5):=c0.out.trans (b7.below fun b h=>⟨nj,nj⟩);have bn:Hid (Blk w5 w 23 #[b0,b1, .int .i64 (bu:Nat),b3,b4,b5]):=(b7.block w ⟨nj,nj⟩).trans bj.out;have z5:=b7.size;by_cases bk:de=0
    ·subst bk;obtain⟨vc,vs,cg,bl,ag,cM⟩:=bh rfl;obtain⟨eG,dd,bt⟩:=du.out rfl;have hO:=a3.out;rw[Aa (show ¬((0:Int)≠0) from fun h=>h rfl)]at hO;unfold opnC oN Cr at hO;rw[<-a7.out,<-am.out]at hO;have ai:=hid hO;have bS:Hid ((BM D).sum<=20000):=(by show _<=_;rw[dd];exact c1.out);obtain⟨C,hC⟩:=ii (BM D);obtain⟨S,hS⟩:=ii (Cc D);have c7:=hid hC;have cj:=hid hS;rw[<-hC]at bl bS a6 dd ai;rw[<-hS]at ag bt a6 ai;obtain⟨p,hp⟩:=ii (dP D);obtain⟨q,hq⟩:=ii (dQ D);have c4:=hid hp;rw[<-hp]at cg bt ai;rw[<-hq]at cg bt;obtain⟨ns,bc⟩:=ii S.length;have dh:=hid bc;have e9:ns<=20000:=(by rw[bc,<-a6.out.1];exact a6.out.2);rw[<-bc]at ag;obtain⟨As,cs,rfl⟩:=bZ ag;have ba:(ls.take r).length=r:=(by rw[AY,HN.out];omega);have eh:∀x∈ls.take r,x<=255:=fun x hx=>H8.out x (BX hx);have DS:=bI w5 gb w w4 p q 102 vc (.slice none 0 0) (.slice none 0 0) (.slice none 0 0) (.slice none 0 0) [.slice none 0 0] As A ns cs r c S (ls.take r) cg ip ip ip bc.symm nj ag ba nj nj eh nj (eK.out.below bd.out) nj (fun e=>by have:=eV.out e;omega);unfold ON at DS;rw[ba,show r-S.sum-p=q by omega]at DS;have DS:=hid DS;have ar:=hid bl;have a0:=hid ag;have ey:=hid cM;have ff:q<=r:=nj;have e7:p<=r:=nj;have cH:=hid bt;clear hO hC hS hp hq bc cg bl ag cM eG dd bt b7 bh DD du c1 a3 ba eh bj c0;go_wp2_with fail;refine DS.out.mono ?_;rintro e w6 ⟨A2,A3,c2,c3,vF,fv,rfl,d4,ef,ec,d9,j⟩;have en:Hid (Below w w w6):=bd.out.trans (j.kept.below fun b h=>⟨nj,nj⟩);have z6:=j.kept.size;have es:(CA S (ls.take r)).length=ns:=(by rw[K0,dh.out]);have dr:=j.fr.l;rw[es]at dr;obtain⟨Af,cf,rfl⟩:=bZ dr;have b8:=j.blk.cell 8;have b9:=j.blk.cell 9;have f9:=j.blk.frozen 9;simp only[List.cons_append,List.nil_append,List.getElem?_toArray,List.getElem?_cons_zero,List.getElem?_cons_succ]at b8 b9;have eS:=hid j;have d8:Hid (Row w w A2 p 1 (jZ .u8 (((ls.take r).drop S.sum).take p))):=ec.keep fun a ha=>(bd.out.cell ha).symm;have ep:Hid (Row w w A3 q 1 (jZ .u8 ((ls.take r).drop (S.sum+p)))):=d9.keep fun a ha=>(bd.out.cell ha).symm;have eH:=W8 ns nj;have dX:gb<w6.heap.size:=nj;have cC:Hid (Blk w6 w 23 #[b0,b1, .int .i64 (bu:Nat),b3,b4,b5]):=(j.kept.block w ⟨nj,nj⟩).trans bn.out;have c8:w6.ownsRow w4 3 1 vc C.length (dZ .i64 C):=eZ ar.out (fun y hy=>j.kept.block y ⟨(Aj ar.out y hy).2,by have:=(Aj ar.out y hy).1;omega⟩);have ds:w6.ownsRow w4 3 1 (.slice As ns cs) ns (dZ .i64 S):=eZ a0.out (fun y hy=>j.kept.block y ⟨(Aj a0.out y hy).2,by have:=(Aj a0.out y hy).1;omega⟩);have b6:=qK w6 w ns nj nj;have ez:Blk ((w6.alloc (.cells (madeCells #[false] ns) 4)).setCell ⟨gb,9,none⟩ (.slice (some ⟨w6,0,none⟩) ns ns)) gb 102 #[vc, .slice As ns cs, .int .i64 (p:Nat), .int .i64 (q:Nat),(),(),(),(), .slice Af ns cf, .slice (some ⟨w6,0,none⟩) ns ns]:=(by have h:=(j.blk.alloc (.cells (madeCells #[false] ns) 4)).set 9 (.slice (some ⟨w6,0,none⟩) ns ns);simpa using h);have bO:=j.blk.alloc (.cells (madeCells #[false] ns) 4)
     have cr:Hid (BSt ((w6.alloc (.cells (madeCells #[false] ns) 4)).setCell ⟨gb,9,none⟩ (.slice (some ⟨w6,0,none⟩) ns ns)) w gb C S (CA S (ls.take r)) (List.replicate ns false) vc (.slice As ns cs) (.int .i64 (p:Nat)) (.int .i64 (q:Nat)) (.slice none 0 0) (.slice none 0 0) (.slice none 0 0) (.slice none 0 0) (.slice Af ns cf) (.slice (some ⟨w6,0,none⟩) ns ns) fv):=by
      refine⟨ez,kZ (BK (c8.alloc _) (gZ (c8.alloc _) bO ip) _) nj,kZ (BK (by rw[<-dh.out];exact ds.alloc _) (gZ (by exact ds.alloc _) bO ip) _) nj,?_,?_⟩
      ·exact((j.fr.step (aZ (Ae _ _))).mono nj).set bO ip ip 9 _
      ·rw[Dv];exact BK b6 (gZ b6 bO ip) _
     have cz:Below w6 w6 (w6.alloc (.cells (madeCells #[false] ns) 4)):=aZ (Ae _ _);have cl:Kept (fun x=>x<w6.heap.size/\x≠gb) w6 ((w6.alloc (.cells (madeCells #[false] ns) 4)).setCell ⟨gb,9,none⟩ (.slice (some ⟨w6,0,none⟩) ns ns)):=(Kept.of_below cz (fun x hx=>hx.1)).set (fun h=>h.2 rfl) _;have cS:Hid (Blk ((w6.alloc (.cells (madeCells #[false] ns) 4)).setCell ⟨gb,9,none⟩ (.slice (some ⟨w6,0,none⟩) ns ns)) w 23 #[b0,b1, .int .i64 (bu:Nat),b3,b4,b5]):=(cl.block w ⟨nj,nj⟩).trans cC.out;have cv:Hid (Below w w ((w6.alloc (.cells (madeCells #[false] ns) 4)).setCell ⟨gb,9,none⟩ (.slice (some ⟨w6,0,none⟩) ns ns))):=en.out.trans (cl.below fun b h=>⟨nj,nj⟩);have z7:=cl.size;clear j ec d9 dr es DS c8 ds b6 ez bO cz cl ar a0 ey cC en eS bn;have cy:=World.setCell_alloc_past (w:=w6) (.cells (madeCells #[false] ns) 4) gb 9 (.slice (some ⟨w6,0,none⟩) ns ns) dX;have dC:=hid cy;clear cy;go_wp2_with fail;rw[<-dC.out];clear dC;generalize (w6.alloc (.cells (madeCells #[false] ns) 4)).setCell ⟨gb,9,none⟩ (.slice (some ⟨w6,0,none⟩) ns ns)=w7 at *;obtain⟨N,hN⟩:=ii C.sum;obtain⟨J,ae⟩:=ii (((ls.take r).drop S.sum).take p);obtain⟨kc,a4⟩:=ii C.length;have ak:=cr.out;have ac:=ak.oc;rw[<-a4]at ac;obtain⟨Ac,cc,rfl⟩:=bZ ac;have e8:kc<=20000:=(by rw[a4];exact a6.out.2);have ea:N<=20000:=(by rw[hN];exact bS.out);have ed:J.length=p:=(by rw[ae,AY,AQ,AY,HN.out];have:=cH.out;omega);have dz:∀x∈J,x<=255:=fun x hx=>by rw[ae]at hx;exact H8.out x (BX (Bz (BX hx)))
     have e6:=hid dz;have Y:=hid (fun wx (hb:Below w7 w7 wx)=>Vi wx gb kc cc Ac C ((ak.blk.step hb).cell 0) a4.symm nj (by rw[<-hN];omega) (Ah0 (eZ ac (fun y hy=>hb.block y (Aj ac y hy).2)) a4.symm));rw[<-hN]at Y;have dg:=hid (fun wx (hb:Below w7 w7 wx)=>Y0 wx gb 102 _ A2 p c2 N J (ak.blk.step hb) rX ip ip ed nj d4 dz (HT.out.step (cv.out.trans (hb.mono nj))) (by rw[ae];exact(d8.out.below (cv.out.trans (hb.mono nj))).mono mj) ea);unfold O0 at dg;rw[<-hN,<-ae]at ai;have cp:=hid hN;have eu:=hid ae;have dp:=hid a4;generalize eg:GJ N J=cE at *;have fa:=hid eg;clear ak ac hN ae a4 ed dz eg d8 bS a6 eH b8 b9 f9;go_region_held3 (fun _=>True) (trivial) (first|(go_at_call 18;(with_reducible refine(Y.out _ sT).mono ?_);rintro e wA ⟨rfl,rfl⟩)|(go_at_call 59;(with_reducible refine(dg.out _ sT).mono ?_);rintro e w8 ⟨rfl,M,ca⟩))
     all_goals
      have M:Kept (fun x=>x<w7.heap.size/\x≠gb) w7 w8:=⟨M.os,M.tape,M.output,M.size,M.block⟩;have z8:=M.size;have bN:Hid (Below w w w8):=cv.out.trans (M.below fun b h=>⟨nj,nj⟩);have bb:Hid (Blk w8 w 23 #[b0,b1, .int .i64 (bu:Nat),b3,b4,b5]):=(M.block w ⟨nj,nj⟩).trans cS.out;by_cases aa:cE=0
      ·subst aa;obtain⟨vt,vl,ci,aw,ay⟩:=ca rfl;have ci:Blk w8 gb 102 #[.slice Ac kc cc, .slice As ns cs, .int .i64 (p:Nat), .int .i64 (q:Nat),vt,vl,(),(), .slice Af ns cf, .slice (some ⟨w6,0,none⟩) ns ns]:=(by simpa using ci);have cB:=hid (cr.out.keep M ci);have aw:w8.ownsRow w 41 1 vt (By N (AJ J)).1.length (dZ .u64 (By N (AJ J)).1):=kZ aw (by show _<=w7.heap.size;omega);have ay:w8.ownsRow w 5 1 vl (By N (AJ J)).2.1.length (dZ .u8 (By N (AJ J)).2.1):=kZ ay (by show _<=w7.heap.size;omega);have a9:=hid aw;have bf:=hid ay;have hO:=ai.out;rw[Aa (show ¬((0:Int)≠0) from fun h=>h rfl)]at hO;unfold opnI Fu oN at hO;rw[eo.out,<-a7.out,<-am.out,<-cj.out,<-c7.out,<-c4.out,<-cp.out]at hO;obtain⟨Q,af⟩:=ii ((ls.take r).drop (S.sum+p));rw[<-af]at hO;have d3:Q.length=q:=(by rw[af,AQ,AY,HN.out];have:=cH.out;omega);have dq:∀x∈Q,x<=255:=fun x hx=>by rw[af]at hx;exact H8.out x (BX (Bz hx))
       have ej:=hid af;have Z:=KF w8 A3 q c3 Q d3 nj ef dq (HT.out.step bN.out) (by rw[af];exact(ep.out.below bN.out).mono nj);unfold GK at Z;have dn:(AJ Q).length<=100000:=(by have:=OH Q;omega);have ee:Hid (∀x∈AJ Q,x<=255):=JM dq;generalize BI Q=ie at *;obtain⟨xi,dv⟩:=ii (AJ Q);rw[<-dv]at Z dn ee hO;have eO:=hid dv;obtain⟨xm,da⟩:=ii xi.length;rw[<-da]at Z dn;have dk:=hid da;have co:=hid hO;have Z:=hid Z;clear ci aw ay ca hO af d3 dq dv da M cr ai ep Y dg cS cv HT;go_wp2_with fail;refine Z.out.mono ?_;rintro e w9 ⟨v9,rfl,dw,ab⟩;obtain⟨A9,c9,rfl⟩:=bZ dw;have z9:=ab.size;have a1:=hid (cB.out.step ab);have em:Hid (Below w w w9):=bN.out.trans (ab.mono nj);have aj:=hid (bb.out.step ab);have aq:=hid (eZ a9.out (fun y hy=>ab.block y (Aj a9.out y hy).2));have au:=hid (eZ bf.out (fun y hy=>ab.block y (Aj bf.out y hy).2));have cm:=hid dw;clear dw ab cB bN bb a9 bf Z;by_cases bi:ie=0
       ·subst bi;have hO:=co.out;rw[Aa (show ¬((0:Int)≠0) from fun h=>h rfl)]at hO;have ak:=a1.out;have ac:=ak.oc;rw[<-dp.out]at ac;have Y:=hid (fun wx (hb:Below w9 w9 wx)=>Vi wx gb kc cc Ac C ((ak.blk.step hb).cell 0) dp.out.symm nj (by rw[<-cp.out];omega) (Ah0 (eZ ac (fun y hy=>hb.block y (Aj ac y hy).2)) dp.out.symm));rw[<-cp.out]at Y;have dj:=Et cm.out;have cX:Row w9 w9 A9 xm 1 (jZ .u8 xi):=(by have h:=cm.out;rw[dk.out]at h;have h2:=Ab5 h;rw[<-dk.out]at h2;exact h2);have bp:=hid (fun wx (hb:Below w9 w9 wx)=>RN wx A9 xm c9 bu N xi dk.out.symm dn ee.out dj.2 dj.1 ((cX.below hb).mono hb.size) ex ek ea);unfold OK at bp;obtain⟨X,hX⟩:=ii (Ah5 bu N xi);rw[<-hX]at bp hO;have e1:=hid hX;obtain⟨xv,xe⟩:=X;simp only at bp hO;have dy:=hid hO;have k9:w9.cell? ⟨w,2,none⟩=some (.int .i64 (bu:Nat)):=aj.out.cell 2;clear hO ak ac dj cX hX co;go_wp2_with fail;go_region_held3 (fun wx=>wx.cell? ⟨w,2,none⟩=some (.int .i64 (bu:Nat))) (first|exact k9|exact d0|exact eA) (first|(go_at_call 18;(with_reducible refine(Y.out _ sT).mono ?_);rintro e wA ⟨rfl,rfl⟩)|(go_at_call 61;(with_reducible refine(bp.out _ sT).mono ?_);rintro e z ⟨vT,vL,vals,rfl,a5,cF⟩;obtain⟨AT,cT,rfl⟩:=bZ a5.t;obtain⟨AL,cL,rfl⟩:=bZ a5.l;have ah:Below w9 w9 z:=cZ cF sT;have d0:z.cell? ⟨w,2,none⟩=some (.int .i64 (bu:Nat)):=(aj.out.step ah).cell 2;have L:=a1.out.step ah;have m6:=L.blk.ia 6;have m7:=L.blk.ia 7;have n6:=L.blk.frozen 6;have n7:=L.blk.frozen 7;have eA:((z.setCell ⟨gb,6,none⟩ (.slice AT xv.1.length cT)).setCell ⟨gb,7,none⟩ (.slice AL xv.2.length cL)).cell? ⟨w,2,none⟩=some (.int .i64 (bu:Nat)):=(((aj.out.step ah).far (p:=⟨gb,6,none⟩) (by show _≠gb;omega) _).far (p:=⟨gb,7,none⟩) (by show _≠gb;omega) _).cell 2))
        all_goals
         have ab:=(L.blk.set 6 (.slice AT xv.1.length cT)).set 7 (.slice AL xv.2.length cL);have bC:Blk ((z.setCell ⟨gb,6,none⟩ (.slice AT xv.1.length cT)).setCell ⟨gb,7,none⟩ (.slice AL xv.2.length cL)) gb 102 #[.slice Ac kc cc, .slice As ns cs, .int .i64 (p:Nat), .int .i64 (q:Nat),vt,vl,(.slice AT xv.1.length cT),(.slice AL xv.2.length cL), .slice Af ns cf, .slice (some ⟨w6,0,none⟩) ns ns]:=(by simpa using ab);have be:Kept (fun x=>x<z.heap.size/\x≠gb) z ((z.setCell ⟨gb,6,none⟩ (.slice AT xv.1.length cT)).setCell ⟨gb,7,none⟩ (.slice AL xv.2.length cL)):=((Kept.refl _ _).set (fun h=>h.2 rfl) _).set (fun h=>h.2 rfl) _;have U:=L.keep be bC;have far:∀ {b n:Nat} {e:TypeId} {v:Value} {xs:List Value},z.ownsRow b e 1 v n xs->e≠102->((z.setCell ⟨gb,6,none⟩ (.slice AT xv.1.length cT)).setCell ⟨gb,7,none⟩ (.slice AL xv.2.length cL)).ownsRow b e 1 v n xs:=fun ho hne=>eZ ho fun y hy=>be.block y ⟨(Aj ho y hy).2,fun e=>gZ ho L.blk hne (e ▸ hy)⟩;have e5:w9.heap.size<=z.heap.size:=ah.size;have fd:∀q,(w9.drewN q).heap.size=w9.heap.size:=fun _=>rfl
         have cO:BodyAt ((z.setCell ⟨gb,6,none⟩ (.slice AT xv.1.length cT)).setCell ⟨gb,7,none⟩ (.slice AL xv.2.length cL)) w gb C S (By N (AJ J)).1 (By N (AJ J)).2.1 xv (CA S (ls.take r)) (List.replicate ns false):=
          ⟨_,_,_,_,vt,vl,(.slice AT xv.1.length cT),(.slice AL xv.2.length cL),_,_,vals,fv,bC,U.oc,U.os,far (eZ aq.out (fun y hy=>ah.block y (Aj aq.out y hy).2)) ip,far (eZ au.out (fun y hy=>ah.block y (Aj au.out y hy).2)) ip,⟨far (kZ a5.t rM) ip,far (kZ a5.l rM) ip,fun i v ids hv hi=>far (kZ (a5.r i v ids hv hi) rM) ip⟩,U.fr,U.oa⟩
         have cP:Hid (Below w w ((z.setCell ⟨gb,6,none⟩ (.slice AT xv.1.length cT)).setCell ⟨gb,7,none⟩ (.slice AL xv.2.length cL))):=BS (by show _<=gb;omega) (BS (by show _<=gb;omega) (em.out.trans (ah.mono nj)));have el:=hid cO;clear ab bC be U far cO L a5 cF ah d0 eA m6 m7 n6 n7 k9 Y bp a1 aj aq au cm;generalize (z.setCell ⟨gb,6,none⟩ (.slice AT xv.1.length cT)).setCell ⟨gb,7,none⟩ (.slice AL xv.2.length cL)=fe at *;by_cases cw:xe=0
         ·subst cw;have HF:Hid (Ei o ls=0):=HO.out.symm.trans dy.out;go_wp2_with fail;go_ret2;refine⟨cP.out,fun h=>absurd HF.out h,fun _=>⟨gb,rfl,?_⟩⟩;have h:=el.out;rw[dh.out]at h;rw[show ls.take (Dd ls)=ls.take r by rw[a7.out],<-am.out,<-c7.out,<-cj.out,eo.out];rw[show oN ls=N by rw[cp.out,c7.out,am.out];rfl,show Cr ls=J by rw[eu.out,cj.out,c4.out,am.out,a7.out];rfl,show Fu ls=Q by rw[ej.out,cj.out,c4.out,am.out,a7.out];rfl,<-eO.out,<-e1.out];exact h
         ·have gE:(xe != 0)=true:=(by simpa using cw);have HF:Hid (O=xe):=dy.out;have E:=hid cw;have G:=cP;clear cw dy el;exact a1e
       ·have gE:(ie != 0)=true:=(by simpa using bi);have HF:Hid (O=ie):=(by have h:=co.out;rw[Ab bi]at h;exact h);have E:=hid bi;have G:=em;clear bi co a1 aj aq au cm;exact a1e
      ·have gE:(cE != 0)=true:=(by simpa using aa);have HF:Hid (O=cE):=(by have h:=ai.out;rw[Ab aa]at h;exact h);have E:=hid aa;have G:=bN;clear aa ai M ca cr bb;exact a1e
    ·have gE:(de != 0)=true:=(by simpa using bk);have HF:Hid (O=de):=(by have h:=a3.out;rw[Ab bk]at h;exact h);have E:=hid bk;have G:=bd;clear bk a3 b7 bh DD bn bj c0 du;exact a1e
   ·have gE:(ce != 0)=true:=(by simpa using aa);have HF:Hid (O=ce):=(by have h:=cx.out;rw[Ab aa]at h;exact h);have E:=hid aa;have G:=ct;clear aa cx cu ax dx;exact a1e
 ·have gE:(oe != 0)=true:=by simpa using bm
  have HF:Hid (O=oe):=by have h:=dm.out;rw[Ab bm]at h;exact h
  have E:=hid bm;have G:=c6;clear bm dm df av D1;exact a1e
end Go.Proofs.YtfgdoknipbpfhaaGreatDoor
