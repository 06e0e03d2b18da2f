/- A block's records th -/
import Derived.Test.YtfgdoknipbpfhaaGreatDoorZTwoUnpacks31
import Derived.Test.YtfgdoknipbpfhaaGreatDoorZTwoUnpacks45
namespace Go.Proofs.YtfgdoknipbpfhaaGreatDoor
open Go.Proofs.Tryz
open Go.Lib (hid)
set_option maxRecDepth 100000
variable{k:Nat}{C L T ls:List Nat}
namespace Body
open Go.RowKit Mem Own Canon Nums Crc Recs Opts
open Block (opE opO opA)
def CZ(T L:List Nat):Nat->List Rec->List Rec
 |_,[]=> []
 |a,r :: rs=>⟨(T.getD a 0:Nat),(L.getD a 0:Nat),r.source,r.text⟩ :: CZ T L (a+1) rs
theorem Jv(T L:List Nat):∀ (a:Nat) (R:List Rec),(CZ T L a R).length=R.length
 |_,[]=>rfl
 |a,r :: rs=>by rw[CZ,Bu,Bu,Jv]
theorem Te(T L:List Nat):∀ (a:Nat) (R S:List Rec),CZ T L a (R++S)=CZ T L a R++CZ T L (a+R.length) S
 |_,[],_=>by simp[CZ]
 |a,r :: rs,S=>by rw[Ix,CZ,CZ,Te,Ix,Bu,show a+1+rs.length=a+(rs.length+1) by omega]
def De(T L:List Nat)(a:Nat)(R:List Rec)(i:Nat):List Rec:=CZ T L a (R.take i)++R.drop i
theorem S5(T L:List Nat)(a:Nat)(R:List Rec):De T L a R 0=R:=by simp[De,CZ]
theorem Sz(T L:List Nat)(a:Nat)(R:List Rec):De T L a R R.length=CZ T L a R:=by simp[De]
theorem Sl(T L:List Nat)(a:Nat)(R:List Rec)(i:Nat):(De T L a R i).length=R.length:=by unfold De;rw[Aj,Jv,AN,AK];omega
theorem R7:∀ (l:List Rec),(Bo l).length=l.length*4
 | []=>rfl
 |r :: l=>by show(_ :: _ :: _ :: _ :: Bo l).length=_;simp[R7 l];omega
theorem Sv{l m:List Value}(h:l.length=k)(j:Nat)(u:Value):(l++m).set (k+j) u=l++m.set j u:=by subst h;rw[List.set_append_right _ _ kR,Mi]
theorem SQ{a i:Nat}{R:List Rec}(h:i<R.length):((Bo (De T L a R i)).set (i*4) (.int .u64 (T.getD (a+i) 0:Nat))).set (i*4+1) (.int .u8 (L.getD (a+i) 0:Nat))=Bo (De T L a R (i+1)):=by
 have h1:R.drop i=R[i] :: R.drop (i+1):=CU h;have h2:R.take (i+1)=R.take i++ [R[i]]:=by rw[List.take_append_getElem]
 have h3:(R.take i).length=i:=ln
 have hp:(Bo (CZ T L a (R.take i))).length=i*4:=by rw[R7,Jv,h3]
 unfold De;rw[J4,J4,h1,h2,Te,h3,J4];have h4:Bo (R[i] :: R.drop (i+1))= [.int .u64 R[i].time, .int .u8 R[i].level, .string R[i].source, .string R[i].text]++Bo (R.drop (i+1)):=rfl;have h5:Bo (CZ T L (a+i) [R[i]])= [.int .u64 (T.getD (a+i) 0:Nat), .int .u8 (L.getD (a+i) 0:Nat), .string R[i].source, .string R[i].text]:=rfl;rw[h4,h5,show ∀m u,(Bo (CZ T L a (R.take i))++m).set (i*4) u=Bo (CZ T L a (R.take i))++m.set 0 u from fun m u=>Sv hp 0 u,Sv hp];simp
def Dr(C:List Nat)(F:List (List Nat))(k:Nat):Int:=
 if opE (F.getD k [])≠0 then opE (F.getD k [])else if opA (F.getD k [])<(F.getD k []).length then 2 else
 if(Eu (opO (F.getD k []))).2≠0 then(Eu (opO (F.getD k []))).2 else if(Eu (opO (F.getD k []))).1.length≠C.getD k 0 then 2 else 0
def EH(C T L:List Nat)(F:List (List Nat))(k:Nat):List Rec:=if Dr C F k=0 then CZ T L (C.take k).sum (Eu (opO (F.getD k []))).1 else []
def J3(C T L:List Nat)(F:List (List Nat))(k:Nat)(w:World)(e:Ending)(w':World):Prop:=
 ∃v,e= .returned (.tuple #[v, .int .i64 (Dr C F k)])/\w'.ownsRow w 43 4 v (EH C T L F k).length (Bo (EH C T L F k))/\aO w w'
theorem Lm{F:List (List Nat)}{w w':World}{er:Int}(hE:Dr C F k=er)(h:er≠0)(hb:aO w w'):J3 C T L F k w (.returned (.tuple #[(),er])) w':=by subst hE;refine⟨_,rfl,?_,hb⟩;rw[show EH C T L F k= [] from Aa h];exact Aq _ _ _ _
theorem Tv(k:Nat):(C.take k).sum+C.getD k 0<=C.sum:=by
 rcases Nat.lt_or_ge k C.length with h|h
 ·have h1:C=C.take k++C[k] :: C.drop (k+1):=by rw[<-CU h,I5]
  have h2:C.getD k 0=C[k]:=by rw[Ar,AE h];rfl
  have h3:C.sum=(C.take k).sum+(C[k]+(C.drop (k+1)).sum):=by
   conv=>lhs;rw[h1]
   rw[I6,GU]
  omega
 ·rw[BR h,Ar,GV h];simp
theorem OP{n:Nat}{bs:List Nat}(h8:∀x∈bs,x<=255):∀ (f at_:Nat) (i:List Nat),i.length<=n->n<=i.length+f->(CN f n bs at_ i).2.2=0->(CN f n bs at_ i).1.length=n
 |0,_,i,h,h2,_=>by show i.length=n;omega
 |f+1,at_,i,h,h2,h3=>by
  unfold CN at h3 ⊢;split
  ·show i.length=n;omega
  ·rename_i hl;rw[Aa hl]at h3;split
   ·rename_i he;rw[Ab he]at h3;exact absurd h3 he
   ·rename_i he;rw[Aa he]at h3;have h1:(Gj (n-i.length) bs at_).2.1<=n-i.length:=CI h8 _ _
    have h4:(Gj (n-i.length) bs at_).2.1≠0:=fun h0=>he (by
     unfold Kt;intro hx;split at hx
     ·rename_i h5;exact h5 hx
     ·rw[Ab (.inl h0)]at hx;cases hx)
    exact OP h8 f _ _ ly ly h3
theorem Ue{n:Nat}{bs:List Nat}(h8:∀x∈bs,x<=255)(h:(AU n bs).2.2.2=0):(AU n bs).2.1.length=n:=by
 unfold AU Gh at h ⊢;split
 ·rename_i he;rw[Ab he]at h;exact absurd h he
 ·rename_i he;have hl:(EJ n bs (CR n bs 0 0 [])).2.2=0:=Fm he;show(EJ n bs (CR n bs 0 0 [])).1.length=n;have ht:=M9 hl;unfold EJ at hl ⊢;rw[Aa (by simp[ht])]at hl ⊢;exact OP h8 _ _ _ (Ba _) mY hl
end Body
namespace Body
open Go.RowKit Mem Own Canon Nums Crc Recs Opts
theorem Z7{o:Opt}(h8:∀x∈ls,x<=255)(h:BO o ls=0):(AU (oN ls) (vZ (Bm ls))).2.1.length=oN ls:=by
 have i:∀x∈vZ (Bm ls),x<=255:=GA (fun x hx=>by unfold Bm at hx;exact h8 x (BZ (Be (BZ hx))))
 have h1:Hr o ls=0:=by
  unfold BO at h;split at h
  ·rename_i he;exact absurd h he
  ·exact h
 have h2:Hs o ls=0:=by
  unfold Hr at h1;split at h1
  ·cases h1
  ·split at h1
   ·rename_i he;exact absurd h1 he
   ·exact h1
 have h3:EX (Ci ls) (wZ ls)=0/\Hv o ls=0:=by
  unfold Hs at h2;split at h2
  ·rename_i he;exact absurd h2 he
  ·rename_i he;exact⟨Fm he,h2⟩
 have h4:FY (oN ls) (Bm ls)=0:=by
  have h5:=h3.2;unfold Hv at h5;split at h5
  ·rename_i he;exact absurd h5 he
  ·rename_i he;exact Fm he
 have h6:(AU (oN ls) (vZ (Bm ls))).2.2.2=0:=by
  unfold FY at h4;split at h4
  ·rename_i he;exact absurd h4 he
  ·split at h4
   ·rename_i he;exact absurd h4 he
   ·rename_i he;exact Fm he
 exact Ue i h6
theorem RU:∀ (S ls:List Nat) (f:List Nat),f∈Bv S ls->f.length<=ls.length/\∀x∈f,x∈ls
 | [],_,_,h=>by cases h
 |n :: S,ls,f,h=>by
  rcases BK.1 h with rfl|h
  ·exact⟨ln,fun x hx=>BZ hx⟩
  ·have ih:=RU S (ls.drop n) f h;exact⟨AY ih.1 lk,fun x hx=>Be (ih.2 x hx)⟩
theorem Oa{o:Opt}(h8:∀x∈ls,x<=255)(hl:ls.length<=100000)(h:BO o ls=0):
 (Bj (wZ ls)).length=(Bv (By (wZ ls)) (ls.take (Ci ls))).length/\(AU (oN ls) (vZ (Bm ls))).1.length=(Bj (wZ ls)).sum/\(AU (oN ls) (vZ (Bm ls))).2.1.length=(Bj (wZ ls)).sum/\
 (∀f∈Bv (By (wZ ls)) (ls.take (Ci ls)),f.length<=100000/\∀x∈f,x<=255)/\(Bj (wZ ls)).sum<=20000/\(Bv (By (wZ ls)) (ls.take (Ci ls))).length<=20000:=by
 obtain⟨G,E,j,z,y,J⟩:=R3 h8 h;have hN:oN ls=(Bj (wZ ls)).sum:=rfl;have i:=Z7 h8 h;refine⟨by rw[JF];exact j.symm,y.trans hN,i.trans hN,fun f hf=> ?_,kR,by rw[JF];omega⟩;have hi:=RU _ _ f hf;exact⟨AY hi.1 ln,fun x hx=>h8 x (BZ (hi.2 x hx))⟩
end Body
namespace Body
open Go.RowKit Mem Own Canon Nums Recs Opts
open Crc (Cv Dd CX TabAt)
open Block (opE opO opA Tn Ho Mf JY KZ)
theorem Xb(w:World)(gb n c k:Nat)(A:Option Addr)(C:List Nat)(hc:w.cell? ⟨gb,0,none⟩=some (.slice A n c))(hn:C.length=n)(hN:n<=1000000)(hs:C.sum<=1000000000)(hk:k<=n)(i:n<=c)(hA:∀a,A=some a->a.add 0=a)(ha:Row w w A n 1 (jZ .i64 C)):
 Calls prog 124 #[.pointer (some ⟨gb,0,none⟩), .int .i64 (k:Nat)] w fun e w'=>e= .returned (.int .i64 ((C.take k).sum:Nat))/\w'=w:=by
 have h:(C.take k).sum<=C.sum:=Body.Hu C k;have D:=hid (sum_any w A k c (C.take k) ln kR kR (Dd ha hk));have ks:=fun wx=>CX (P:=prog) (t:=37) (s:=1) underlying37 (fun _=>by kernel_rfl) A n c .i64 (k:Int) k rfl kR hA wx;generalize (C.take k).sum=S at *;clear hn ha hs h hA;go_enter func124,ntmps124;go_wp2_with fail;refine D.out.mono ?_;rintro e w1 ⟨rfl,rfl⟩;go_wp2_with fail;go_ret;exact⟨rfl,rfl⟩
set_option maxHeartbeats 4000000 in
theorem YI(w:World)(base gb k:Nat)(C S T L:List Nat)(X:List Idx.Str×List (List Nat))(F:List (List Nat))(K:List Bool)(hk:k<F.length)(ah:C.length=F.length)(hT:T.length=C.sum)(hL:L.length=C.sum)(hF:∀f∈F,f.length<=100000/\∀x∈f,x<=255)(hN:C.sum<=20000)(a4:F.length<=20000)(ht:TabAt w)(aV:BodyAt w base gb C S T L X F K):
 Calls prog 63 #[.pointer (some ⟨gb,0,none⟩), .int .i64 (k:Nat)] w (J3 C T L F k w):=by
 obtain⟨vc,vs,p,q,vt,vl,vT,vL,vF,va,vals,fv,h0,h1,h2,h3,h4,h5,h6,h7⟩:=aV;have aU:fv.length=F.length:=by have:=h6.l.1;omega
 obtain⟨f,hf⟩:∃f,F[k]? =some f:=⟨_,AE hk⟩;obtain⟨u,hu⟩:∃u,fv[k]? =some u:=⟨_,AE kR⟩;have J:=h6.r k u f hu hf;have av:F.getD k []=f:=by rw[Ar,hf];rfl
 obtain⟨cn,an⟩:∃cn,C[k]? =some cn:=⟨_,AE kR⟩;have aq:C.getD k 0=cn:=by rw[Ar,an];rfl
 have bb:(C.take k).sum+cn<=C.sum:=by rw[<-aq];exact Tv k
 have af:=hF f (BP hf);have G:=h6.l;have E:=hid (show Dr C F k=if opE f≠0 then opE f else if opA f<f.length then 2 else if(Eu (opO f)).2≠0 then(Eu (opO f)).2 else if(Eu (opO f)).1.length≠cn then 2 else 0 by unfold Dr;rw[av,aq]);have M:Hid (Dr C F k=0->EH C T L F k=CZ T L (C.take k).sum (Eu (opO f)).1):=fun h=>by unfold EH;rw[Ab h,av]
 obtain⟨nf,ay⟩:=iS F.length;obtain⟨kc,ab⟩:=iS C.length;obtain⟨nt,aQ⟩:=iS T.length;obtain⟨nl,aP⟩:=iS L.length;obtain⟨n,hn⟩:=iS f.length;rw[<-ay]at G hk a4 ah;rw[<-ab]at h1 ah;rw[<-aQ]at h3 hT;rw[<-aP]at h4 hL;rw[<-hn]at J;obtain⟨Ac,dC,rfl⟩:=aZ h1;obtain⟨At,ct,rfl⟩:=aZ h3;obtain⟨Al,cl,rfl⟩:=aZ h4;obtain⟨AF,dF,rfl⟩:=aZ G;obtain⟨Af,cf,rfl⟩:=aZ J;obtain⟨gF,bp,aY,bd,_⟩:=G.form kR;injection aY with q1 q2 q3;subst q1 q3;clear q2;obtain⟨gC,bm,ba,bc,_⟩:=h1.form kR;injection ba with q1 q2 q3;subst q1 q3;clear q2;have cF:=(G.cellAt k kR).trans hu;have cC:w.cell? ⟨gC,k,none⟩=some (.int .i64 (cn:Nat)):=by rw[h1.cellAt k kR];unfold cZ;rw[B0,an];rfl
 have HS:Hid (∀wx,aO w wx->wx.cell? ⟨gb,8,none⟩=some (.slice (some ⟨gF,0,none⟩) nf dF)/\wx.cell? ⟨gF,k,none⟩=some (.slice Af n cf)/\wx.cell? ⟨gb,0,none⟩=some (.slice (some ⟨gC,0,none⟩) kc dC)/\wx.cell? ⟨gC,k,none⟩=some (.int .i64 (cn:Nat))/\wx.cell? ⟨gb,4,none⟩=some (.slice At nt ct)/\wx.cell? ⟨gb,5,none⟩=some (.slice Al nl cl)):=fun wx hb=>⟨(h0.step hb).cell 8,(hb.cell (p:=⟨gF,k,none⟩) (Ae G gF rfl).2).trans cF,(h0.step hb).cell 0,(hb.cell (p:=⟨gC,k,none⟩) (Ae h1 gC rfl).2).trans cC,(h0.step hb).cell 4,(h0.step hb).cell 5⟩;have ag:=af.2;have bg:=JY ag;have aT:=KZ ag;have a5:=hid aT;have bf:Hid ((opO f).length<=100000):=by show _<=_;have:=af.1;omega
 have U:=Ef.own_row J hn.symm;have D1:=hid (Tn w f Af n cf hn.symm (by have:=af.1;omega) (Da J).2 (Da J).1 (fun h=>Mf U kR) ag ht U);unfold Ho at D1;have DF:=hid (fun wx (hb:aO w wx)=>Xb wx gb kc dC k (some ⟨gC,0,none⟩) C (HS.out wx hb).2.2.1 ab.symm kR kR kR (Da h1).2 (fun a ha=>by injection ha with ha;subst ha;rfl) (Ef.own_row (dZ h1 fun y hy=>hb.block y (Ae h1 y hy).2) ab.symm));have HT:Hid (∀wx i,aO w wx->i<nt->∃g,At=some ⟨g,0,none⟩/\wx.cell? ⟨g,i,none⟩=some (.int .u64 (T.getD i 0:Nat))):=fun wx i hb hi=>by obtain⟨b,cX,hA,hg,_⟩:=h3.form kR;injection hA with q1 q2 q3;subst q1;have h:=h3.cellAt i kR;refine⟨b,rfl,(hb.cell (p:=⟨b,i,none⟩) (Ae h3 b rfl).2).trans (h.trans ?_)⟩;unfold cZ;rw[B0,Ar,AE kR];rfl
 have HL:Hid (∀wx i,aO w wx->i<nl->∃g,Al=some ⟨g,0,none⟩/\wx.cell? ⟨g,i,none⟩=some (.int .u8 (L.getD i 0:Nat))):=fun wx i hb hi=>by obtain⟨b,cX,hA,hg,_⟩:=h4.form kR;injection hA with q1 q2 q3;subst q1;have h:=h4.cellAt i kR;refine⟨b,rfl,(hb.cell (p:=⟨b,i,none⟩) (Ae h4 b rfl).2).trans (h.trans ?_)⟩;unfold cZ;rw[B0,Ar,AE kR];rfl
 obtain⟨s1,s2,s3,s4,s5,s6⟩:=HS.out w (Ag _ _);have bq:(k:Int)<(nf:Int):=kR
 have bA:(k:Int)<(kc:Int):=kR
 have bu:(0:Int)<=(k:Int):=kR
 have Q:Hid ((C.take k).sum+cn<=nt/\(C.take k).sum+cn<=nl/\(C.take k).sum+cn<=20000):=by show _/\_;omega
 generalize (C.take k).sum=a0 at *;have ac:Hid (f.length=n):=hn.symm;clear h0 h1 h2 h3 h4 h5 h6 h7 G J hu hf av an aq bb af hn ay ab aQ aP ag bg aT U cF cC hT hL hF hN ht bd bc aU ah;go_enter func63,ntmps63;go_wp2_with fail;refine D1.out.mono ?_;rintro e w1 ⟨v1,rfl,N,z⟩;obtain⟨A1,c1,rfl⟩:=aZ N;have B1:=hid z;obtain⟨s1,s2,s3,s4,s5,s6⟩:=HS.out w1 z;have ai:=z.size;by_cases j:opE f=0
 ·have hE:=E.out;rw[Aa (by simp[j])]at hE;rw[j];by_cases ae:opA f<f.length
  ·rw[Ab ae]at hE;have HE:=hid hE;have ga:decide ((opA f:Int)<(n:Int))=true:=na;have a6:decide (opA f<n)=true:=na;generalize opA f=oa at *;clear E hE N z D1 DF j ae HT HL Q M HS;go_wp2_with fail;go_ret2;exact Lm HE.out iX B1.out
  ·rw[Aa ae]at hE;have ga:decide ((opA f:Int)<(n:Int))=false:=na;have a6:decide (opA f<n)=false:=na;have D2:=hid (X4 w1 A1 _ c1 (opO f) rfl bf.out a5.out (Da N).1 (Ef.own_row N rfl));unfold La at D2;generalize opA f=oa at *;generalize hR:Eu (opO f)=R at *;generalize (opO f).length=lo at *;obtain⟨R,re⟩:=R;simp only at hE D2;have HE:=hid hE;clear E hE N z D1 j ae hR;go_wp2_with fail;refine D2.out.mono ?_;rintro e w2 ⟨v2,rfl,Z,ak⟩;obtain⟨m,hm⟩:=iS R.length;rw[<-hm]at Z;obtain⟨A2,c2,rfl⟩:=aZ Z;have B2:Hid (aO w w2):=B1.out.trans (ak.mono ai);obtain⟨s1,s2,s3,s4,s5,s6⟩:=HS.out w2 B2.out;have a7:Hid (w2.ownsRow w1 43 4 (.slice A2 m c2) m (Bo R)):=Z;have a3:=hid ak;have HM:=hid hm;clear Z ak D2 hm;by_cases Y:re=0
   ·subst Y;by_cases az:m=cn
    ·subst az;have gm:((m:Int) != (m:Int))=false:=mY;have ax:Hid (Dr C F k=0):=jD;have aS:Hid (EH C T L F k=CZ T L a0 R):=M.out ax.out;have D3:=hid (DF.out w2 B2.out);obtain⟨l1,l2,l3⟩:=Q.out;clear HE M DF;go_wp2_with fail;refine D3.out.mono ?_;rintro e w3 ⟨rfl,rfl⟩;clear D3;go_wp2_with fail;go_loopw [67] (fun iv wr=>∃i:Nat,i<=m/\iv= .int .i64 i/\Hid (wr.ownsRow w1 43 4 (.slice A2 m c2) m (Bo (De T L a0 R i)))/\Hid (aO w1 wr)) (fun iv _=>m-(intOf iv).toNat)
     case atStart=>exact⟨0,kR,rfl,by rw[S5];exact a7.out,a3.out⟩
     case round=>
      obtain⟨i,hi,rfl,HO,HB⟩:=hrel;have aa:Hid (aO w wr):=B1.out.trans (HB.out.mono ai);by_cases al:i<m
      ·obtain⟨gt,bh,aX⟩:=HT.out wr (a0+i) aa.out kR;obtain⟨gl,a1,a9⟩:=HL.out wr (a0+i) aa.out kR;subst bh a1;obtain⟨s1,s2,s3,s4,s5,s6⟩:=HS.out wr aa.out;have ho:=HO.out;obtain⟨gr,cX,aW,aR,_⟩:=ho.form kR;injection aW with q1 q2 q3;subst q1 q3;clear q2;have gk:=iQ ((i:Int)<m);have bi:=iQ (i<m);have bt:(0:Int)<=(i:Int):=kR;have bk:(i:Int)<(m:Int):=kR;have bj:IntKind.i64.wrap ((a0:Int)+(i:Int))=((a0+i:Nat):Int):=lD;have bl:(0:Int)<=((a0+i:Nat):Int):=kR;have bB:((a0+i:Nat):Int)<(nt:Int):=kR;have bn:((a0+i:Nat):Int)<(nl:Int):=kR;have am:i<(De T L a0 R i).length:=(by rw[Sl,<-HM.out];exact al);have k0:wr.cell? ⟨gr,i*4,none⟩=some (.int .u64 ((De T L a0 R i).getD i Gf).time):=(ho.cellAt (i*4) kR).trans (Jz _ i 0 am kR);have k1:wr.cell? ⟨gr,i*4+1,none⟩=some (.int .u8 ((De T L a0 R i).getD i Gf).level):=(ho.cellAt (i*4+1) kR).trans (Jz _ i 1 am kR);have f0:=ho.frozenAt (i*4);have f1:=ho.frozenAt (i*4+1);generalize ((De T L a0 R i).getD i Gf).time=z0 at k0;generalize ((De T L a0 R i).getD i Gf).level=z1 at k1;obtain⟨tv,au⟩:=iS (T.getD (a0+i) 0);obtain⟨lv,aj⟩:=iS (L.getD (a0+i) 0);rw[<-au]at aX;rw[<-aj]at a9;have a8:=hid au;have be:=hid aj;clear ho HT HL au aj am;go_wp2_with fail;go_region;go_wp2_with fail;go_roundw
       case measure=>exact jw
       case rel=>go_light;refine⟨i+1,kR,jx,?_,((HB.out.setCell (p:=⟨gr,i*4,none⟩) aR _).setCell (p:=⟨gr,i*4+1,none⟩) aR _).drew⟩;rw[a8.out,be.out,<-SQ (by rw[<-HM.out];exact al)];exact(World.ownsRow.stored (World.ownsRow.stored HO.out (i*4) _).1 (i*4+1) _).1.drew
      ·obtain rfl:i=m:=by omega
       have gk:=iR ((i:Int)<i);clear HT HL HS al;go_wp2_with fail;go_ret2;have hz:De T L a0 R i=CZ T L a0 R:=(by rw[HM.out];exact Sz ..);refine⟨.slice A2 i c2,by rw[ax.out];rfl,?_,aa.out⟩;rw[aS.out,Jv,<-HM.out,<-hz];exact iZ HO.out ai
    ·have gm:((m:Int) != (cn:Int))=true:=l7;have aw:Hid (Dr C F k=2):=jE;clear HE DF az HT HL Q M HS;go_wp2_with fail;go_ret2;exact Lm aw.out iX B2.out
   ·have gr:(re != 0)=true:=(by simpa using Y);have aw:Hid (Dr C F k=re):=(by have h:=HE.out;rw[Ab Y]at h;exact h);have ar:=hid Y;clear HE DF Y HT HL Q M HS;go_wp2_with fail;go_ret2;exact Lm aw.out ar.out B2.out
 ·have hE:=E.out;rw[Ab j]at hE;have HE:=hid hE;have ar:=hid j;have gE:(opE f != 0)=true:=by simpa using j
  generalize opE f=oe at *;generalize opA f=oa at *;clear E hE N z D1 DF j HT HL Q M HS;go_wp2_with fail;go_ret2;exact Lm HE.out ar.out B1.out
end Body
end Go.Proofs.YtfgdoknipbpfhaaGreatDoor
