/- All records of a bod -/
import Derived.Test.YtfgdoknipbpfhaaGreatDoorZBodyOpened42
namespace Go.Proofs.YtfgdoknipbpfhaaGreatDoor
open Go.Proofs.Tryz
open Go.Lib (hid)
set_option maxRecDepth 100000
variable{C L T:List Nat}{F:List (List Nat)}{k:Nat}
namespace Body
open Go.RowKit Mem Own Canon Nums Recs Opts
open Idx (Str IxAt eqX AY Cf lZ)
def FM(C T L:List Nat)(F:List (List Nat)):Nat->Nat->List Rec->List Rec×Int
 |0,_,acc=>(acc,0)
 |m+1,k,acc=>if Eh C F k≠0 then([],Eh C F k)else FM C T L F m (k+1) (acc++FL C T L F k)
def Db(l:List Rec):List Str×List (List Nat):=(AY (l.map lZ),(AY (l.map lZ)).map (Cf (l.map lZ)))
def MH(X:List Str×List (List Nat))(R:List Rec×Int):Int:=if R.2≠0 then R.2 else if CH R.1≠0 then 6 else if eqX X (Db R.1)=true then 0 else 15
def G3(C T L:List Nat)(X:List Str×List (List Nat))(F:List (List Nat)):Int:=MH X (FM C T L F F.length 0 [])
def Jw(C T L:List Nat)(X:List Str×List (List Nat))(F:List (List Nat)):List Rec:=if G3 C T L X F=0 then(FM C T L F F.length 0 []).1 else []
theorem fN(h:Eh C F k=0):(FL C T L F k).length=C.getD k 0:=by
 rw[show FL C T L F k=_ from Ae h,KJ];unfold Eh at h;split at h
 ·rename_i h1;exact absurd h h1
 ·split at h
  ·cases h
  ·split at h
   ·rename_i h1;exact absurd h h1
   ·split at h
    ·cases h
    ·rename_i h1;exact LC h1
theorem NY(h:k<C.length):(C.take (k+1)).sum=(C.take k).sum+C.getD k 0:=by rw[<-List.take_append_getElem h,NH,Ar,AD h];simp
theorem OJ{l:List Rec}(h:CH l=0):(∀r∈l,r.source.size<=50000/\r.text.size<=50000)/\(Db l).1.length<=2000000/\(Db l).2.length<=2000000/\(∀x∈(Db l).2,x.length<=2000000):=by
 have h1:=One.Js h
 have hw:Bp l<=1048576/\l.length<=20000:=by
  unfold CH at h;split at h
  ·cases h
  ·split at h
   ·cases h
   ·split at h
    ·cases h
    ·constructor<;>omega
 have a:=MD (l.map lZ);have b:=Li l;have c:(AY (l.map lZ)).length<=2000000:=mz
 refine⟨fun r hr=> ?_,c,?_,fun x hx=> ?_⟩
 ·have h2:=h1 r hr;unfold CA at h2;simp at h2;omega
 ·unfold Db;simp only;rw[Bc];exact c
 ·unfold Db at hx;simp only at hx;obtain⟨u,_,rfl⟩:=Cc.1 hx;have:=Idx.Mr (l.map lZ) u;rw[Bc]at this;omega
def O9(C T L:List Nat)(X:List Str×List (List Nat))(F:List (List Nat))(w:World)(e:Ending)(w':World):Prop:=
 ∃v,e= .returned (.tuple #[v, .int .i64 (G3 C T L X F)])/\w'.ownsRow w 43 4 v (Jw C T L X F).length (Ci (Jw C T L X F))/\Below w w w'
theorem O5{X:List Str×List (List Nat)}{w w':World}{er:Int}(hE:G3 C T L X F=er)(h:er≠0)(hb:Below w w w'):O9 C T L X F w (.returned (.tuple #[(),er])) w':=by subst hE;refine⟨_,rfl,?_,hb⟩;rw[show Jw C T L X F= [] from Ab h];exact AK _ _ _ _
end Body
namespace Body
open Go.RowKit Mem Own Canon Nums Recs Opts
open Crc (Fe GC FG TabAt)
open Block (opE opO opA RQ L2 UE OC Ru)
theorem iB(w:World)(gb n c k:Nat)(A:Option Addr)(C:List Nat)(hc:w.cell? ⟨gb,0,none⟩=some (.slice A n c))(hn:C.length=n)(hN:n<=1000000)(hs:C.sum<=1000000000)(hk:k<=n)(i:n<=c)(hA:∀a,A=some a->a.add 0=a)(ha:Row w w A n 1 (jZ .i64 C)):
 Calls prog 124 #[.pointer (some ⟨gb,0,none⟩), .int .i64 (k:Nat)] w fun e w'=>e= .returned (.int .i64 ((C.take k).sum:Nat))/\w'=w:=by
 have h:(C.take k).sum<=C.sum:=Body.Lv C k;have D:=hid (sum_any w A k c (C.take k) nX mz mz (GC ha hk));have ks:=fun wx=>FG (P:=prog) (t:=37) (s:=1) underlying37 (fun _=>by kernel_rfl) A n c .i64 (k:Int) k rfl mz hA wx;generalize (C.take k).sum=S at *;clear hn ha hs h hA;go_enter func124,ntmps124;go_wp2_with fail;refine D.out.mono ?_;rintro e w1 ⟨rfl,rfl⟩;go_wp2_with fail;go_ret;exact⟨rfl,rfl⟩
set_option maxHeartbeats 4000000 in
theorem RC(w:World)(base gb k:Nat)(C S T L:List Nat)(X:List Idx.Str×List (List Nat))(F:List (List Nat))(K:List Bool)(hk:k<F.length)(aq:C.length=F.length)(hT:T.length=C.sum)(hL:L.length=C.sum)(hF:∀f∈F,f.length<=100000/\∀x∈f,x<=255)(hN:C.sum<=20000)(bp:F.length<=20000)(ht:TabAt w)(bi:BodyAt w base gb C S T L X F K):
 Calls prog 63 #[.pointer (some ⟨gb,0,none⟩), .int .i64 (k:Nat)] w (LN C T L F k w):=by
 obtain⟨vc,vs,p,q,vt,vl,vT,vL,vF,va,vals,fv,h0,h1,h2,h3,h4,h5,h6,h7⟩:=bi;have bc:fv.length=F.length:=by have:=h6.l.1;omega
 obtain⟨f,hf⟩:∃f,F[k]? =some f:=⟨_,AD hk⟩;obtain⟨u,hu⟩:∃u,fv[k]? =some u:=⟨_,AD mz⟩;have J:=h6.r k u f hu hf;have ar:F.getD k []=f:=by rw[Ar,hf];rfl
 obtain⟨cn,ah⟩:∃cn,C[k]? =some cn:=⟨_,AD mz⟩;have aw:C.getD k 0=cn:=by rw[Ar,ah];rfl
 have bb:(C.take k).sum+cn<=C.sum:=by rw[<-aw];exact i7 k
 have af:=hF f (Bg hf);have M:=h6.l;have E:=hid (show Eh C F k=if opE f≠0 then opE f else if opA f<f.length then 2 else if(Gd (opO f)).2≠0 then(Gd (opO f)).2 else if(Gd (opO f)).1.length≠cn then 2 else 0 by unfold Eh;rw[ar,aw]);have G:Hid (Eh C F k=0->FL C T L F k=DH T L (C.take k).sum (Gd (opO f)).1):=fun h=>by unfold FL;rw[Ae h,ar]
 obtain⟨nf,a3⟩:=ii F.length;obtain⟨kc,ag⟩:=ii C.length;obtain⟨nt,ay⟩:=ii T.length;obtain⟨nl,ax⟩:=ii L.length;obtain⟨n,hn⟩:=ii f.length;rw[<-a3]at M hk bp aq;rw[<-ag]at h1 aq;rw[<-ay]at h3 hT;rw[<-ax]at h4 hL;rw[<-hn]at J;obtain⟨Ac,dC,rfl⟩:=bZ h1;obtain⟨At,ct,rfl⟩:=bZ h3;obtain⟨Al,cl,rfl⟩:=bZ h4;obtain⟨AF,dF,rfl⟩:=bZ M;obtain⟨Af,cf,rfl⟩:=bZ J;obtain⟨gF,b1,a9,bj,_⟩:=M.form mz;injection a9 with q1 q2 q3;subst q1 q3;clear q2;obtain⟨gC,b9,be,bn,_⟩:=h1.form mz;injection be with q1 q2 q3;subst q1 q3;clear q2;have cF:=(M.cellAt k mz).trans hu;have cC:w.cell? ⟨gC,k,none⟩=some (.int .i64 (cn:Nat)):=by rw[h1.cellAt k mz];unfold cZ;rw[BE,ah];rfl
 have HS:Hid (∀wx,Below w w wx->wx.cell? ⟨gb,8,none⟩=some (.slice (some ⟨gF,0,none⟩) nf dF)/\wx.cell? ⟨gF,k,none⟩=some (.slice Af n cf)/\wx.cell? ⟨gb,0,none⟩=some (.slice (some ⟨gC,0,none⟩) kc dC)/\wx.cell? ⟨gC,k,none⟩=some (.int .i64 (cn:Nat))/\wx.cell? ⟨gb,4,none⟩=some (.slice At nt ct)/\wx.cell? ⟨gb,5,none⟩=some (.slice Al nl cl)):=fun wx hb=>⟨(h0.step hb).cell 8,(hb.cell (p:=⟨gF,k,none⟩) (Am M gF rfl).2).trans cF,(h0.step hb).cell 0,(hb.cell (p:=⟨gC,k,none⟩) (Am h1 gC rfl).2).trans cC,(h0.step hb).cell 4,(h0.step hb).cell 5⟩;have Z:=af.2;have bt:=OC Z;have a5:=Ru Z;have bd:=hid a5;have bx:Hid ((opO f).length<=100000):=by show _<=_;have:=af.1;omega
 have U:=Ef.own_row J hn.symm;have D1:=hid (RQ w f Af n cf hn.symm (by have:=af.1;omega) (Ex J).2 (Ex J).1 (fun h=>UE U mz) Z ht U);unfold L2 at D1;have DF:=hid (fun wx (hb:Below w w wx)=>iB wx gb kc dC k (some ⟨gC,0,none⟩) C (HS.out wx hb).2.2.1 ag.symm mz mz mz (Ex h1).2 (fun a ha=>by injection ha with ha;subst ha;rfl) (Ef.own_row (eZ h1 fun y hy=>hb.block y (Am h1 y hy).2) ag.symm));have HT:Hid (∀wx i,Below w w wx->i<nt->∃g,At=some ⟨g,0,none⟩/\wx.cell? ⟨g,i,none⟩=some (.int .u64 (T.getD i 0:Nat))):=fun wx i hb hi=>by obtain⟨b,cX,hA,hg,_⟩:=h3.form mz;injection hA with q1 q2 q3;subst q1;have h:=h3.cellAt i mz;refine⟨b,rfl,(hb.cell (p:=⟨b,i,none⟩) (Am h3 b rfl).2).trans (h.trans ?_)⟩;unfold cZ;rw[BE,Ar,AD mz];rfl
 have HL:Hid (∀wx i,Below w w wx->i<nl->∃g,Al=some ⟨g,0,none⟩/\wx.cell? ⟨g,i,none⟩=some (.int .u8 (L.getD i 0:Nat))):=fun wx i hb hi=>by obtain⟨b,cX,hA,hg,_⟩:=h4.form mz;injection hA with q1 q2 q3;subst q1;have h:=h4.cellAt i mz;refine⟨b,rfl,(hb.cell (p:=⟨b,i,none⟩) (Am h4 b rfl).2).trans (h.trans ?_)⟩;unfold cZ;rw[BE,Ar,AD mz];rfl
 obtain⟨s1,s2,s3,s4,s5,s6⟩:=HS.out w (Ag _ _);have bN:(k:Int)<(nf:Int):=mz
 have bS:(k:Int)<(kc:Int):=mz
 have b6:(0:Int)<=(k:Int):=mz
 have Y:Hid ((C.take k).sum+cn<=nt/\(C.take k).sum+cn<=nl/\(C.take k).sum+cn<=20000):=by show _/\_;omega
 generalize (C.take k).sum=a0 at *;have ac:Hid (f.length=n):=hn.symm;clear h0 h1 h2 h3 h4 h5 h6 h7 M J hu hf ar ah aw bb af hn a3 ag ay ax Z bt a5 U cF cC hT hL hF hN ht bj bn bc aq;go_enter func63,ntmps63;go_wp2_with fail;refine D1.out.mono ?_;rintro e w1 ⟨v1,rfl,N,z⟩;obtain⟨A1,c1,rfl⟩:=bZ N;have B1:=hid z;obtain⟨s1,s2,s3,s4,s5,s6⟩:=HS.out w1 z;have am:=z.size;by_cases j:opE f=0
 ·have hE:=E.out;rw[Ab (by simp[j])]at hE;rw[j];by_cases ae:opA f<f.length
  ·rw[Ae ae]at hE;have HE:=hid hE;have ga:decide ((opA f:Int)<(n:Int))=true:=pP;have bm:decide (opA f<n)=true:=pP;generalize opA f=oa at *;clear E hE N z D1 DF j ae HT HL Y G HS;go_wp2_with fail;go_ret2;exact LI HE.out ip B1.out
  ·rw[Ab ae]at hE;have ga:decide ((opA f:Int)<(n:Int))=false:=pP;have bm:decide (opA f<n)=false:=pP;have D2:=hid (nK w1 A1 _ c1 (opO f) rfl bx.out bd.out (Ex N).1 (Ef.own_row N rfl));unfold UM at D2;generalize opA f=oa at *;generalize hR:Gd (opO f)=R at *;generalize (opO f).length=lo at *;obtain⟨R,re⟩:=R;simp only at hE D2;have HE:=hid hE;clear E hE N z D1 j ae hR;go_wp2_with fail;refine D2.out.mono ?_;rintro e w2 ⟨v2,rfl,aa,aj⟩;obtain⟨m,hm⟩:=ii R.length;rw[<-hm]at aa;obtain⟨A2,c2,rfl⟩:=bZ aa;have B2:Hid (Below w w w2):=B1.out.trans (aj.mono am);obtain⟨s1,s2,s3,s4,s5,s6⟩:=HS.out w2 B2.out;have bk:Hid (w2.ownsRow w1 43 4 (.slice A2 m c2) m (Ci R)):=aa;have bC:=hid aj;have HM:=hid hm;clear aa aj D2 hm;by_cases Q:re=0
   ·subst Q;by_cases az:m=cn
    ·subst az;have gm:((m:Int) != (m:Int))=false:=pI;have a4:Hid (Eh C F k=0):=(by have h:=HE.out;rw[Ab pI,Ab (by simp[HM.out])]at h;exact h);have a6:Hid (FL C T L F k=DH T L a0 R):=G.out a4.out;have D3:=hid (DF.out w2 B2.out);obtain⟨l1,l2,l3⟩:=Y.out;clear HE G DF;go_wp2_with fail;refine D3.out.mono ?_;rintro e w3 ⟨rfl,rfl⟩;clear D3;go_wp2_with fail;go_loopw [67] (fun iv wr=>∃i:Nat,i<=m/\iv= .int .i64 i/\Hid (wr.ownsRow w1 43 4 (.slice A2 m c2) m (Ci (Fh T L a0 R i)))/\Hid (Below w1 w1 wr)) (fun iv _=>m-(intOf iv).toNat)
     case atStart=>exact⟨0,mz,rfl,by rw[jI];exact bk.out,bC.out⟩
     case round=>
      obtain⟨i,hi,rfl,HO,HB⟩:=hrel;have ab:Hid (Below w w wr):=B1.out.trans (HB.out.mono am);by_cases al:i<m
      ·obtain⟨gt,ba,bg⟩:=HT.out wr (a0+i) ab.out mz;obtain⟨gl,bh,bf⟩:=HL.out wr (a0+i) ab.out mz;subst ba bh;obtain⟨s1,s2,s3,s4,s5,s6⟩:=HS.out wr ab.out;have ho:=HO.out;obtain⟨gr,cX,bu,a1,_⟩:=ho.form mz;injection bu with q1 q2 q3;subst q1 q3;clear q2;have gk:=ic ((i:Int)<m);have ca:=ic (i<m);have b4:(0:Int)<=(i:Int):=mz;have b5:(i:Int)<(m:Int):=mz;have b0:IntKind.i64.wrap ((a0:Int)+(i:Int))=((a0+i:Nat):Int):=nW;have b8:(0:Int)<=((a0+i:Nat):Int):=mz;have b3:((a0+i:Nat):Int)<(nt:Int):=mz;have b7:((a0+i:Nat):Int)<(nl:Int):=mz;have ai:i<(Fh T L a0 R i).length:=(by rw[gP,<-HM.out];exact al);have k0:wr.cell? ⟨gr,i*4,none⟩=some (.int .u64 ((Fh T L a0 R i).getD i FY).time):=(ho.cellAt (i*4) mz).trans (LK _ i 0 ai mz);have k1:wr.cell? ⟨gr,i*4+1,none⟩=some (.int .u8 ((Fh T L a0 R i).getD i FY).level):=(ho.cellAt (i*4+1) mz).trans (LK _ i 1 ai mz);have f0:=ho.frozenAt (i*4);have f1:=ho.frozenAt (i*4+1);generalize ((Fh T L a0 R i).getD i FY).time=z0 at k0;generalize ((Fh T L a0 R i).getD i FY).level=z1 at k1;obtain⟨tv,ak⟩:=ii (T.getD (a0+i) 0);obtain⟨lv,au⟩:=ii (L.getD (a0+i) 0);rw[<-ak]at bg;rw[<-au]at bf;have bl:=hid ak;have bq:=hid au;clear ho HT HL ak au ai;go_wp2_with fail;go_region;go_wp2_with fail;go_roundw
       case measure=>exact jo
       case rel=>go_light;refine⟨i+1,mz,jp,?_,((HB.out.setCell (p:=⟨gr,i*4,none⟩) a1 _).setCell (p:=⟨gr,i*4+1,none⟩) a1 _).drew⟩;rw[bl.out,bq.out,<-gW (by rw[<-HM.out];exact al)];exact(World.ownsRow.stored (World.ownsRow.stored HO.out (i*4) _).1 (i*4+1) _).1.drew
      ·obtain rfl:i=m:=by omega
       have gk:=ig ((i:Int)<i);clear HT HL HS al;go_wp2_with fail;go_ret2;have hz:Fh T L a0 R i=DH T L a0 R:=(by rw[HM.out];exact iN ..);refine⟨.slice A2 i c2,by rw[a4.out];rfl,?_,ab.out⟩;rw[a6.out,KJ,<-HM.out,<-hz];exact kZ HO.out am
    ·have gm:((m:Int) != (cn:Int))=true:=oO;have an:Hid (Eh C F k=2):=(by have h:=HE.out;rw[Ab pI,Ae (by have:=HM.out;omega)]at h;exact h);clear HE DF az HT HL Y G HS;go_wp2_with fail;go_ret2;exact LI an.out ip B2.out
   ·have gr:(re != 0)=true:=(by simpa using Q);have an:Hid (Eh C F k=re):=(by have h:=HE.out;rw[Ae Q]at h;exact h);have av:=hid Q;clear HE DF Q HT HL Y G HS;go_wp2_with fail;go_ret2;exact LI an.out av.out B2.out
 ·have hE:=E.out;rw[Ae j]at hE;have HE:=hid hE;have av:=hid j;have gE:(opE f != 0)=true:=by simpa using j
  generalize opE f=oe at *;generalize opA f=oa at *;clear E hE N z D1 DF j HT HL Y G HS;go_wp2_with fail;go_ret2;exact LI HE.out av.out B1.out
end Body
end Go.Proofs.YtfgdoknipbpfhaaGreatDoor
