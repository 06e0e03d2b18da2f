/- A block's records th -/
import Derived.Test.YtbgoibedicbkjaaGreatDoorZBodyLogs31
import Derived.Test.YtbgoibedicbkjaaGreatDoorZBodyLogs42
namespace Go.Proofs.YtbgoibedicbkjaaGreatDoor
open Go.Lib (hid)
set_option maxRecDepth 100000
namespace Body
open Go.RowKit Mem Own Canon Nums Crc Recs Opts
open Block (opE opO opA)
def CJ(T L:List Nat):Nat->List Rec->List Rec
 |_,[]=> []
 |a,r :: rs=>⟨(T.getD a 0:Nat),(L.getD a 0:Nat),r.source,r.text⟩ :: CJ T L (a+1) rs
theorem IS(T L:List Nat):∀ (a:Nat) (R:List Rec),(CJ T L a R).length=R.length
 |_,[]=>rfl
 |a,r :: rs=>by rw[CJ,Bh,Bh,IS]
theorem Q5(T L:List Nat):∀ (a:Nat) (R S:List Rec),CJ T L a (R++S)=CJ T L a R++CJ T L (a+R.length) S
 |_,[],_=>by simp[CJ]
 |a,r :: rs,S=>by rw[Ht,CJ,CJ,Q5,Ht,Bh,show a+1+rs.length=a+(rs.length+1) by omega]
def CF(T L:List Nat)(a:Nat)(R:List Rec)(i:Nat):List Rec:=CJ T L a (R.take i)++R.drop i
theorem QW(T L:List Nat)(a:Nat)(R:List Rec):CF T L a R 0=R:=by simp[CF,CJ]
theorem Qy(T L:List Nat)(a:Nat)(R:List Rec):CF T L a R R.length=CJ T L a R:=by simp[CF]
theorem Qm(T L:List Nat)(a:Nat)(R:List Rec)(i:Nat):(CF T L a R i).length=R.length:=by unfold CF;rw[Ai,IS,AO,AQ];omega
theorem Qb:∀ (l:List Rec),(Bc l).length=l.length*4
 | []=>rfl
 |r :: l=>by show(_ :: _ :: _ :: _ :: Bc l).length=_;simp[Qb l];omega
theorem So{l m:List Value}{k:Nat}(h:l.length=k)(j:Nat)(u:Value):(l++m).set (k+j) u=l++m.set j u:=by subst h;rw[List.set_append_right _ _ (by omega),LH]
theorem QL{T L:List Nat}{a i:Nat}{R:List Rec}(h:i<R.length):((Bc (CF T L a R i)).set (i*4) (.int .u64 (T.getD (a+i) 0:Nat))).set (i*4+1) (.int .u8 (L.getD (a+i) 0:Nat))=Bc (CF T L a R (i+1)):=by
 have h1:R.drop i=R[i] :: R.drop (i+1):=CC h;have h2:R.take (i+1)=R.take i++ [R[i]]:=by rw[List.take_append_getElem]
 have h3:(R.take i).length=i:=by rw[AO];omega
 have hp:(Bc (CJ T L a (R.take i))).length=i*4:=by rw[Qb,IS,h3]
 unfold CF;rw[J0,J0,h1,h2,Q5,h3,J0];have h4:Bc (R[i] :: R.drop (i+1))= [.int .u64 R[i].time, .int .u8 R[i].level, .string R[i].source, .string R[i].text]++Bc (R.drop (i+1)):=rfl;have h5:Bc (CJ T L (a+i) [R[i]])= [.int .u64 (T.getD (a+i) 0:Nat), .int .u8 (L.getD (a+i) 0:Nat), .string R[i].source, .string R[i].text]:=rfl;rw[h4,h5,show ∀m u,(Bc (CJ T L a (R.take i))++m).set (i*4) u=Bc (CJ T L a (R.take i))++m.set 0 u from fun m u=>So hp 0 u,So hp];simp
def Cz(C:List Nat)(F:List (List Nat))(k:Nat):Int:=
 if opE (F.getD k [])≠0 then opE (F.getD k [])else if opA (F.getD k [])<(F.getD k []).length then 2 else
 if(Dz (opO (F.getD k []))).2≠0 then(Dz (opO (F.getD k []))).2 else if(Dz (opO (F.getD k []))).1.length≠C.getD k 0 then 2 else 0
def CY(C T L:List Nat)(F:List (List Nat))(k:Nat):List Rec:=if Cz C F k=0 then CJ T L (C.take k).sum (Dz (opO (F.getD k []))).1 else []
def IU(C T L:List Nat)(F:List (List Nat))(k:Nat)(w:World)(e:Ending)(w':World):Prop:=
 ∃v,e= .returned (.tuple #[v, .int .i64 (Cz C F k)])/\w'.ownsRow w.heap.size 59 4 v (CY C T L F k).length (Bc (CY C T L F k))/\Below w.heap.size w w'
theorem KQ{C T L:List Nat}{F:List (List Nat)}{k:Nat}{w w':World}{er:Int}(hE:Cz C F k=er)(h:er≠0)(hb:Below w.heap.size w w'):IU C T L F k w (.returned (.tuple #[.slice none 0 0, .int .i64 er])) w':=by subst hE;refine⟨_,rfl,?_,hb⟩;rw[show CY C T L F k= [] from Aa h];exact Am _ _ _ _
theorem MC{C:List Nat}(k:Nat):(C.take k).sum+C.getD k 0<=C.sum:=by
 rcases Nat.lt_or_ge k C.length with h|h
 ·have h1:C=C.take k++C[k] :: C.drop (k+1):=by rw[<-CC h,Ix]
  have h2:C.getD k 0=C[k]:=by rw[Ar,AD h];rfl
  have h3:C.sum=(C.take k).sum+(C[k]+(C.drop (k+1)).sum):=by
   conv=>lhs;rw[h1]
   rw[Iy,GR]
  omega
 ·rw[Bv h,Ar,Gr h];simp
theorem QY{n:Nat}{bs:List Nat}(h8:∀x∈bs,x<=255):∀ (f at_:Nat) (i:List Nat),i.length<=n->n<=i.length+f->(Cx f n bs at_ i).2.2=0->(Cx f n bs at_ i).1.length=n
 |0,_,i,h,h2,_=>by show i.length=n;omega
 |f+1,at_,i,h,h2,h3=>by
  unfold Cx at h3 ⊢;split
  ·show i.length=n;omega
  ·rename_i hl;rw[Aa hl]at h3;split
   ·rename_i he;rw[Ab he]at h3;exact absurd h3 he
   ·rename_i he;rw[Aa he]at h3;have h1:(FY (n-i.length) bs at_).2.1<=n-i.length:=Cs h8 _ _
    have h4:(FY (n-i.length) bs at_).2.1≠0:=fun h0=>he (by
     unfold JH;intro hx;split at hx
     ·rename_i h5;exact h5 hx
     ·rw[Ab (.inl h0)]at hx;cases hx)
    exact QY h8 f _ _ (by rw[Ai,CM];omega) (by rw[Ai,CM];omega) h3
theorem VG{n:Nat}{bs:List Nat}(h8:∀x∈bs,x<=255)(h:(Bk n bs).2.2.2=0):(Bk n bs).2.1.length=n:=by
 unfold Bk FX at h ⊢;split
 ·rename_i he;rw[Ab he]at h;exact absurd h he
 ·rename_i he;have hl:(Eh n bs (Cw n bs 0 0 [])).2.2=0:=EO he;show(Eh n bs (Cw n bs 0 0 [])).1.length=n;have ht:=M9 hl;unfold Eh at hl ⊢;rw[Aa (by simp[ht])]at hl ⊢;exact QY h8 _ _ _ (AY _) (by simp) hl
end Body
namespace Body
open Go.RowKit Mem Own Canon Nums Crc Recs Opts
theorem TI{o:Opt}{ls:List Nat}(h8:∀x∈ls,x<=255)(h:CA o ls=0):(Bk (oN ls) (AI (Cb ls))).2.1.length=oN ls:=by
 have i:∀x∈AI (Cb ls),x<=255:=Gn (fun x hx=>by unfold Cb at hx;exact h8 x (BV (Bb (BV hx))))
 have h1:G7 o ls=0:=by
  unfold CA at h;split at h
  ·rename_i he;exact absurd h he
  ·exact h
 have h2:G9 o ls=0:=by
  unfold G7 at h1;split at h1
  ·cases h1
  ·split at h1
   ·rename_i he;exact absurd h1 he
   ·exact h1
 have h3:Ew (CR ls) (AE ls)=0/\Ha o ls=0:=by
  unfold G9 at h2;split at h2
  ·rename_i he;exact absurd h2 he
  ·rename_i he;exact⟨EO he,h2⟩
 have h4:Fs (oN ls) (Cb ls)=0:=by
  have h5:=h3.2;unfold Ha at h5;split at h5
  ·rename_i he;exact absurd h5 he
  ·rename_i he;exact EO he
 have h6:(Bk (oN ls) (AI (Cb ls))).2.2.2=0:=by
  unfold Fs at h4;split at h4
  ·rename_i he;exact absurd h4 he
  ·split at h4
   ·rename_i he;exact absurd h4 he
   ·rename_i he;exact EO he
 exact VG i h6
theorem PX:∀ (S ls:List Nat) (f:List Nat),f∈BJ S ls->f.length<=ls.length/\∀x∈f,x∈ls
 | [],_,_,h=>by cases h
 |n :: S,ls,f,h=>by
  rcases BZ.1 h with rfl|h
  ·exact⟨by rw[AO];omega,fun x hx=>BV hx⟩
  ·have ih:=PX S (ls.drop n) f h;exact⟨AV ih.1 (by rw[AQ];omega),fun x hx=>Bb (ih.2 x hx)⟩
theorem TZ{o:Opt}{ls:List Nat}(h8:∀x∈ls,x<=255)(hl:ls.length<=100000)(h:CA o ls=0):
 (Bt (AE ls)).length=(BJ (Cd (AE ls)) (ls.take (CR ls))).length/\(Bk (oN ls) (AI (Cb ls))).1.length=(Bt (AE ls)).sum/\(Bk (oN ls) (AI (Cb ls))).2.1.length=(Bt (AE ls)).sum/\
 (∀f∈BJ (Cd (AE ls)) (ls.take (CR ls)),f.length<=100000/\∀x∈f,x<=255)/\(Bt (AE ls)).sum<=20000/\(BJ (Cd (AE ls)) (ls.take (CR ls))).length<=20000:=by
 obtain⟨J,E,y,G,i,z⟩:=Ry h8 h;have hN:oN ls=(Bt (AE ls)).sum:=rfl;have j:=TI h8 h;refine⟨by rw[I9];exact y.symm,i.trans hN,j.trans hN,fun f hf=> ?_,by omega,by rw[I9];omega⟩;have hi:=PX _ _ f hf;exact⟨AV hi.1 (by rw[AO];omega),fun x hx=>h8 x (BV (hi.2 x hx))⟩
end Body
namespace Body
open Go.RowKit Mem Own Canon Nums Recs Opts
open Crc (Ct Du Dx TabAt)
open Block (opE opO opA Rc GX Lr Ju Lb)
theorem V4(w:World)(gb n c k:Nat)(A:Option Addr)(C:List Nat)(hc:w.cell? ⟨gb,0,none⟩=some (.slice A n c))(hn:C.length=n)(hN:n<=1000000)(hs:C.sum<=1000000000)(hk:k<=n)(i:n<=c)(hA:∀a,A=some a->a.add 0=a)(ha:Row w w.heap.size A n 1 (iZ .i64 C)):
 Calls Tryz.prog 120 #[.pointer (some ⟨gb,0,none⟩), .int .i64 (k:Nat)] w fun e w'=>e= .returned (.int .i64 ((C.take k).sum:Nat))/\w'=w:=by
 have h:(C.take k).sum<=C.sum:=Body.Hj C k;have D:=hid (sum_any w A k c (C.take k) (by rw[AO];omega) (by omega) (by omega) (Du ha hk));have ks:=fun wx=>Dx (P:=Tryz.prog) (t:=30) (s:=1) Tryz.underlying30 (fun _=>by kernel_rfl) A n c .i64 (k:Int) k rfl (by omega) hA wx;generalize (C.take k).sum=S at *;clear hn ha hs h hA;go_enter Tryz.func120,Tryz.ntmps120;go_wp2_with fail;refine D.out.mono ?_;rintro e w1 ⟨rfl,rfl⟩;go_wp2_with fail;go_ret;exact⟨rfl,rfl⟩
set_option maxHeartbeats 4000000 in
theorem QA(w:World)(base gb k:Nat)(C S T L:List Nat)(X:List Idx.Str×List (List Nat))(F:List (List Nat))(K:List Bool)(hk:k<F.length)(av:C.length=F.length)(hT:T.length=C.sum)(hL:L.length=C.sum)(hF:∀f∈F,f.length<=100000/\∀x∈f,x<=255)(hN:C.sum<=20000)(a1:F.length<=20000)(ht:TabAt w)(aI:BodyAt w base gb C S T L X F K):
 Calls Tryz.prog 67 #[.pointer (some ⟨gb,0,none⟩), .int .i64 (k:Nat)] w (IU C T L F k w):=by
 obtain⟨vc,vs,p,q,vt,vl,vT,vL,vF,va,vals,fv,h0,h1,h2,h3,h4,h5,h6,h7⟩:=aI;have aH:fv.length=F.length:=by have:=h6.l.1;omega
 obtain⟨f,hf⟩:∃f,F[k]? =some f:=⟨_,AD hk⟩;obtain⟨u,hu⟩:∃u,fv[k]? =some u:=⟨_,AD (by omega)⟩;have z:=h6.r k u f hu hf;have ai:F.getD k []=f:=by rw[Ar,hf];rfl
 obtain⟨cn,ah⟩:∃cn,C[k]? =some cn:=⟨_,AD (by omega)⟩;have an:C.getD k 0=cn:=by rw[Ar,ah];rfl
 have aR:(C.take k).sum+cn<=C.sum:=by rw[<-an];exact MC k
 have ag:=hF f (BF hf);have G:=h6.l;have E:=hid (show Cz C F k=if opE f≠0 then opE f else if opA f<f.length then 2 else if(Dz (opO f)).2≠0 then(Dz (opO f)).2 else if(Dz (opO f)).1.length≠cn then 2 else 0 by unfold Cz;rw[ai,an]);have M:Hid (Cz C F k=0->CY C T L F k=CJ T L (C.take k).sum (Dz (opO f)).1):=fun h=>by unfold CY;rw[Ab h,ai]
 obtain⟨nf,aC⟩:∃x,x=F.length:=⟨_,rfl⟩;obtain⟨kc,Z⟩:∃x,x=C.length:=⟨_,rfl⟩;obtain⟨nt,aB⟩:∃x,x=T.length:=⟨_,rfl⟩;obtain⟨nl,ay⟩:∃x,x=L.length:=⟨_,rfl⟩;obtain⟨n,hn⟩:∃x,x=f.length:=⟨_,rfl⟩;rw[<-aC]at G hk a1 av;rw[<-Z]at h1 av;rw[<-aB]at h3 hT;rw[<-ay]at h4 hL;rw[<-hn]at z;obtain⟨Ac,dC,rfl⟩:=aZ h1;obtain⟨At,ct,rfl⟩:=aZ h3;obtain⟨Al,cl,rfl⟩:=aZ h4;obtain⟨AF,dF,rfl⟩:=aZ G;obtain⟨Af,cf,rfl⟩:=aZ z;obtain⟨gF,ba,aG,aS,_⟩:=G.form (by omega);injection aG with q1 q2 q3;subst q1 q3;clear q2;obtain⟨gC,bd,aX,aM,_⟩:=h1.form (by omega);injection aX with q1 q2 q3;subst q1 q3;clear q2;have cF:=(G.cellAt k (by omega)).trans hu;have cC:w.cell? ⟨gC,k,none⟩=some (.int .i64 (cn:Nat)):=by rw[h1.cellAt k (by omega)];unfold cZ;rw[Bw,ah];rfl
 have HS:Hid (∀wx,Below w.heap.size w wx->wx.cell? ⟨gb,8,none⟩=some (.slice (some ⟨gF,0,none⟩) nf dF)/\wx.cell? ⟨gF,k,none⟩=some (.slice Af n cf)/\wx.cell? ⟨gb,0,none⟩=some (.slice (some ⟨gC,0,none⟩) kc dC)/\wx.cell? ⟨gC,k,none⟩=some (.int .i64 (cn:Nat))/\wx.cell? ⟨gb,4,none⟩=some (.slice At nt ct)/\wx.cell? ⟨gb,5,none⟩=some (.slice Al nl cl)):=fun wx hb=>⟨(h0.step hb).cell 8,(hb.cell (p:=⟨gF,k,none⟩) (Ae G gF rfl).2).trans cF,(h0.step hb).cell 0,(hb.cell (p:=⟨gC,k,none⟩) (Ae h1 gC rfl).2).trans cC,(h0.step hb).cell 4,(h0.step hb).cell 5⟩;have ac:=ag.2;have aK:=Ju ac;have aD:=Lb ac;have aV:=hid aD;have aO:Hid ((opO f).length<=100000):=by show _<=_;have:=ag.1;omega
 have Q:=Ef.own_row z hn.symm;have D1:=hid (Rc w f Af n cf hn.symm (by have:=ag.1;omega) (CQ z).2 (CQ z).1 (fun h=>Lr Q (by omega)) ac ht Q);unfold GX at D1;have DF:=hid (fun wx (hb:Below w.heap.size w wx)=>V4 wx gb kc dC k (some ⟨gC,0,none⟩) C (HS.out wx hb).2.2.1 Z.symm (by omega) (by omega) (by omega) (CQ h1).2 (fun a ha=>by injection ha with ha;subst ha;rfl) (Ef.own_row (dZ h1 fun y hy=>hb.block y (Ae h1 y hy).2) Z.symm));have HT:Hid (∀wx i,Below w.heap.size w wx->i<nt->∃g,At=some ⟨g,0,none⟩/\wx.cell? ⟨g,i,none⟩=some (.int .u64 (T.getD i 0:Nat))):=fun wx i hb hi=>by obtain⟨b,cX,hA,hg,_⟩:=h3.form (by omega);injection hA with q1 q2 q3;subst q1;have h:=h3.cellAt i (by omega);refine⟨b,rfl,(hb.cell (p:=⟨b,i,none⟩) (Ae h3 b rfl).2).trans (h.trans ?_)⟩;unfold cZ;rw[Bw,Ar,AD (by omega)];rfl
 have HL:Hid (∀wx i,Below w.heap.size w wx->i<nl->∃g,Al=some ⟨g,0,none⟩/\wx.cell? ⟨g,i,none⟩=some (.int .u8 (L.getD i 0:Nat))):=fun wx i hb hi=>by obtain⟨b,cX,hA,hg,_⟩:=h4.form (by omega);injection hA with q1 q2 q3;subst q1;have h:=h4.cellAt i (by omega);refine⟨b,rfl,(hb.cell (p:=⟨b,i,none⟩) (Ae h4 b rfl).2).trans (h.trans ?_)⟩;unfold cZ;rw[Bw,Ar,AD (by omega)];rfl
 obtain⟨s1,s2,s3,s4,s5,s6⟩:=HS.out w (Ag _ _);have a5:(k:Int)<(nf:Int):=by omega
 have a3:(k:Int)<(kc:Int):=by omega
 have bc:(0:Int)<=(k:Int):=by omega
 have U:Hid ((C.take k).sum+cn<=nt/\(C.take k).sum+cn<=nl/\(C.take k).sum+cn<=20000):=by show _/\_;omega
 generalize (C.take k).sum=a0 at *;have ae:Hid (f.length=n):=hn.symm;clear h0 h1 h2 h3 h4 h5 h6 h7 G z hu hf ai ah an aR ag hn aC Z aB ay ac aK aD Q cF cC hT hL hF hN ht aS aM aH av;go_enter Tryz.func67,Tryz.ntmps67;go_wp2_with fail;refine D1.out.mono ?_;rintro e w1 ⟨v1,rfl,J,N⟩;obtain⟨A1,c1,rfl⟩:=aZ J;have B1:=hid N;obtain⟨s1,s2,s3,s4,s5,s6⟩:=HS.out w1 N;have au:=N.size;by_cases j:opE f=0
 ·have hE:=E.out;rw[Aa (by simp[j])]at hE;rw[j];by_cases aa:opA f<f.length
  ·rw[Ab aa]at hE;have HE:=hid hE;have ga:decide ((opA f:Int)<(n:Int))=true:=(by simp;have:=ae.out;omega);have aU:decide (opA f<n)=true:=(by simp;have:=ae.out;omega);generalize opA f=oa at *;clear E hE J N D1 DF j aa HT HL U M HS;go_wp2_with fail;go_ret2;exact KQ HE.out (by decide) B1.out
  ·rw[Aa aa]at hE;have ga:decide ((opA f:Int)<(n:Int))=false:=(by simp;have:=ae.out;omega);have aU:decide (opA f<n)=false:=(by simp;have:=ae.out;omega);have D2:=hid (VC w1 A1 _ c1 (opO f) rfl aO.out aV.out (CQ J).1 (Ef.own_row J rfl));unfold Kz at D2;generalize opA f=oa at *;generalize hR:Dz (opO f)=R at *;generalize (opO f).length=lo at *;obtain⟨R,re⟩:=R;simp only at hE D2;have HE:=hid hE;clear E hE J N D1 j aa hR;go_wp2_with fail;refine D2.out.mono ?_;rintro e w2 ⟨v2,rfl,af,am⟩;obtain⟨m,hm⟩:∃m,m=R.length:=⟨_,rfl⟩;rw[<-hm]at af;obtain⟨A2,c2,rfl⟩:=aZ af;have B2:Hid (Below w.heap.size w w2):=B1.out.trans (am.mono au);obtain⟨s1,s2,s3,s4,s5,s6⟩:=HS.out w2 B2.out;have aF:Hid (w2.ownsRow w1.heap.size 59 4 (.slice A2 m c2) m (Bc R)):=af;have aP:=hid am;have HM:=hid hm;clear af am D2 hm;by_cases Y:re=0
   ·subst Y;by_cases aA:m=cn
    ·subst aA;have gm:((m:Int) != (m:Int))=false:=(by simp);have ax:Hid (Cz C F k=0):=(by have h:=HE.out;rw[Aa (by simp),Aa (by simp[HM.out])]at h;exact h);have aE:Hid (CY C T L F k=CJ T L a0 R):=M.out ax.out;have D3:=hid (DF.out w2 B2.out);obtain⟨l1,l2,l3⟩:=U.out;clear HE M DF;go_wp2_with fail;refine D3.out.mono ?_;rintro e w3 ⟨rfl,rfl⟩;clear D3;go_wp2_with fail;go_loopw [67] (fun iv wr=>∃i:Nat,i<=m/\iv= .int .i64 i/\Hid (wr.ownsRow w1.heap.size 59 4 (.slice A2 m c2) m (Bc (CF T L a0 R i)))/\Hid (Below w1.heap.size w1 wr)) (fun iv _=>m-(intOf iv).toNat)
     case atStart=>exact⟨0,by omega,rfl,by rw[QW];exact aF.out,aP.out⟩
     case round=>
      obtain⟨i,hi,rfl,HO,HB⟩:=hrel;have ab:Hid (Below w.heap.size w wr):=B1.out.trans (HB.out.mono au);by_cases ak:i<m
      ·obtain⟨gt,aN,aT⟩:=HT.out wr (a0+i) ab.out (by omega);obtain⟨gl,aW,aJ⟩:=HL.out wr (a0+i) ab.out (by omega);subst aN aW;obtain⟨s1,s2,s3,s4,s5,s6⟩:=HS.out wr ab.out;have ho:=HO.out;obtain⟨gr,cX,aL,az,_⟩:=ho.form (by omega);injection aL with q1 q2 q3;subst q1 q3;clear q2;have gk:decide ((i:Int)<(m:Int))=true:=(by simp;omega);have bb:decide (i<m)=true:=(by simp;omega);have a8:(0:Int)<=(i:Int):=(by omega);have a4:(i:Int)<(m:Int):=(by omega);have a6:IntKind.i64.wrap ((a0:Int)+(i:Int))=((a0+i:Nat):Int):=(by rw[Ak _ (by omega)];omega);have be:(0:Int)<=((a0+i:Nat):Int):=(by omega);have a9:((a0+i:Nat):Int)<(nt:Int):=(by omega);have a7:((a0+i:Nat):Int)<(nl:Int):=(by omega);have aw:i<(CF T L a0 R i).length:=(by rw[Qm,<-HM.out];exact ak);have k0:wr.cell? ⟨gr,i*4,none⟩=some (.int .u64 ((CF T L a0 R i).getD i FC).time):=(ho.cellAt (i*4) (by omega)).trans (IR _ i 0 aw (by omega));have k1:wr.cell? ⟨gr,i*4+1,none⟩=some (.int .u8 ((CF T L a0 R i).getD i FC).level):=(ho.cellAt (i*4+1) (by omega)).trans (IR _ i 1 aw (by omega));have f0:=ho.frozenAt (i*4);have f1:=ho.frozenAt (i*4+1);generalize ((CF T L a0 R i).getD i FC).time=z0 at k0;generalize ((CF T L a0 R i).getD i FC).level=z1 at k1;obtain⟨tv,aj⟩:∃tv,tv=T.getD (a0+i) 0:=⟨_,rfl⟩;obtain⟨lv,ar⟩:∃lv,lv=L.getD (a0+i) 0:=⟨_,rfl⟩;rw[<-aj]at aT;rw[<-ar]at aJ;have aQ:=hid aj;have aY:=hid ar;clear ho HT HL aj ar aw;go_wp2_with fail;go_region;go_wp2_with fail;go_roundw
       case measure=>go_light;simp[intOf];omega
       case rel=>go_light;refine⟨i+1,by omega,by go_num,?_,((HB.out.setCell (p:=⟨gr,i*4,none⟩) az _).setCell (p:=⟨gr,i*4+1,none⟩) az _).drew⟩;rw[aQ.out,aY.out,<-QL (by rw[<-HM.out];exact ak)];exact(World.ownsRow.stored (World.ownsRow.stored HO.out (i*4) _).1 (i*4+1) _).1.drew
      ·obtain rfl:i=m:=by omega
       have gk:decide ((i:Int)<(i:Int))=false:=(by simp);clear HT HL HS ak;go_wp2_with fail;go_ret2;have hz:CF T L a0 R i=CJ T L a0 R:=(by rw[HM.out];exact Qy ..);refine⟨.slice A2 i c2,by rw[ax.out];rfl,?_,ab.out⟩;rw[aE.out,IS,<-HM.out,<-hz];exact jZ HO.out au
    ·have gm:((m:Int) != (cn:Int))=true:=(by rw[bne_iff_ne];omega);have al:Hid (Cz C F k=2):=(by have h:=HE.out;rw[Aa (by simp),Ab (by have:=HM.out;omega)]at h;exact h);clear HE DF aA HT HL U M HS;go_wp2_with fail;go_ret2;exact KQ al.out (by decide) B2.out
   ·have gr:(re != 0)=true:=(by simpa using Y);have al:Hid (Cz C F k=re):=(by have h:=HE.out;rw[Ab Y]at h;exact h);have aq:=hid Y;clear HE DF Y HT HL U M HS;go_wp2_with fail;go_ret2;exact KQ al.out aq.out B2.out
 ·have hE:=E.out;rw[Ab j]at hE;have HE:=hid hE;have aq:=hid j;have gE:(opE f != 0)=true:=by simpa using j
  generalize opE f=oe at *;generalize opA f=oa at *;clear E hE J N D1 DF j HT HL U M HS;go_wp2_with fail;go_ret2;exact KQ HE.out aq.out B1.out
end Body
end Go.Proofs.YtbgoibedicbkjaaGreatDoor
