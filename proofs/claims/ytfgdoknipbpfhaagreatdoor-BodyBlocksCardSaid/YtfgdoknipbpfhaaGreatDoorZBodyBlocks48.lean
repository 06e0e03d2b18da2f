/- The walk of a body's -/
import Derived.Test.YtfgdoknipbpfhaaGreatDoorZBodyBlocks47
import Derived.Test.YtfgdoknipbpfhaaGreatDoorZBodyBlocks46
namespace Go.Proofs.YtfgdoknipbpfhaaGreatDoor
open Go.Proofs.Tryz
open Go.Lib (hid)
set_option maxHeartbeats 4000000
set_option maxRecDepth 100000
variable{w wx:World}{base c gb n:Nat}{K:List Bool}{A:Option Addr}
namespace Body
open Go.RowKit Mem Go.Proofs.YtfgdoknipbpfhaaGreatDoor.Own Canon Nums Recs Opts
open Crc (TabAt)
def I2(F:List (List Nat))(i:Int):Prop:=0<=i/\i<(F.length:Int)
instance (F:List (List Nat)) (i:Int):Decidable (I2 F i):=by unfold I2;infer_instance
def ftcE(C:List Nat)(F:List (List Nat))(i:Int):Int:=if I2 F i then Fj C F i.toNat else 13
def ftcO(C T L:List Nat)(F:List (List Nat))(i:Int):List Rec:=if I2 F i then GP C T L F i.toNat else []
def askK(F:List (List Nat))(K:List Bool)(i:Int):List Bool:=if I2 F i then K.set i.toNat true else K
theorem BodyAt.ask{C S T L:List Nat}{X:List Idx.Str×List (List Nat)}{F:List (List Nat)}(h:BodyAt w base gb C S T L X F K)(k:Nat)(hk:k<K.length):
 ∃ga c cs,w.cell? ⟨gb,9,none⟩=some (.slice (some ⟨ga,0,none⟩) K.length c)/\base<=ga/\Blk w ga 4 cs/\(∃b,w.cell? ⟨ga,k,none⟩=some (.bool b))/\w.frozen? ⟨ga,k,none⟩=false/\BodyAt (w.setCell ⟨ga,k,none⟩ (.bool true)) base gb C S T L X F (K.set k true):=by
 obtain⟨vc,vs,p,q,vt,vl,vT,vL,vF,va,vals,fv,h0,h1,h2,h3,h4,h5,h6,h7⟩:=h;obtain⟨A,c,rfl⟩:=bZ h7;obtain⟨ga,cX,hA,y,_⟩:=h7.form mw;injection hA with q1 q2 q3;subst q1 q3;clear q2
 obtain⟨cs,j⟩:∃cs,Blk w ga 4 cs:=by
  rcases h7.2 with ⟨h',_⟩|⟨g,z,cur,h',_,hg,_⟩
  ·cases h'
  ·injection h' with h1 h2 h3;injection h1 with h1;injection h1 with h1;subst h1;exact⟨cur,hg⟩
 have far:∀ {n:Nat} {e:TypeId} {v:Value} {xs:List Value},w.ownsRow base e 1 v n xs->e≠4->(w.setCell ⟨ga,k,none⟩ (.bool true)).ownsRow base e 1 v n xs:=fun ho hne=>BS ho (gZ ho j hne) _;have hc:w.cell? ⟨ga,k,none⟩=some (.bool (K[k]'hk)):=by rw[h7.cellAt k mw,BG,Az hk];rfl
 refine⟨ga,c,cs,h0.cell 9,y,j,⟨_,hc⟩,h7.frozenAt k,vc,vs,p,q,vt,vl,vT,vL,vF,_,vals,fv,h0.far (fun e=>Blk.apart j h0 ip e.symm) _,far h1 ip,far h2 ip,far h3 ip,far h4 ip,⟨far h5.t ip,far h5.l ip,fun i v ids hv hi=>far (h5.r i v ids hv hi) ip⟩,h6.set j ip ip k _,?_⟩;have h:=(World.ownsRow.stored h7 k (.bool true)).1;rw[List.length_set,List.map_set];exact h
def PW(base gb:Nat)(C S T L:List Nat)(X:List Idx.Str×List (List Nat))(F:List (List Nat))(K:List Bool)(i:Int)(w:World)(e:Ending)(w':World):Prop:=
 ∃v wm,e= .returned (.tuple #[v, .int .i64 (ftcE C F i)])/\(wm=w∨∃ga cs k,base<=ga/\Blk w ga 4 cs/\(∃b,w.cell? ⟨ga,k,none⟩=some (.bool b))/\wm=w.setCell ⟨ga,k,none⟩ (.bool true))/\w'.ownsRow w 43 4 v (ftcO C T L F i).length (Ct (ftcO C T L F i))/\Below w wm w'/\BodyAt w' base gb C S T L X F (askK F K i)
theorem Zn(w:World)(base gb:Nat)(i:Int)(C S T L:List Nat)(X:List Idx.Str×List (List Nat))(F:List (List Nat))(K:List Bool)(hK:K.length=F.length)(N:C.length=F.length)(hT:T.length=C.sum)(hL:L.length=C.sum)(hF:∀f∈F,f.length<=100000/\∀x∈f,x<=255)(hN:C.sum<=20000)(M:F.length<=20000)(j:0<base)(ht:TabAt w)(y:BodyAt w base gb C S T L X F K):
 Calls prog 16 #[.pointer (some ⟨gb,0,none⟩),i] w (PW base gb C S T L X F K i w):=by
 have aa:=y;obtain⟨vc,vs,p,q,vt,vl,vT,vL,vF,va,vals,fv,h0,h1,h2,h3,h4,h5,h6,h7⟩:=aa;have z:=h6.l;obtain⟨nf,J⟩:=ii F.length;rw[<-J]at z;obtain⟨AF,dF,rfl⟩:=bZ z;have c8:=h0.ia 8;by_cases hi:I2 F i
 ·have hE:ftcE C F i=Fj C F i.toNat:=Ab hi;have hO:ftcO C T L F i=GP C T L F i.toNat:=Ab hi;have hA:askK F K i=K.set i.toNat true:=Ab hi;unfold PW;rw[hE,hO,hA];obtain⟨i0,i1⟩:=hi;obtain⟨k,rfl⟩:=Hf i0;rw[show((k:Nat):Int).toNat=k from rfl];have hk:k<F.length:=by omega
  obtain⟨ga,c,cs,c9,Q,Y,⟨b,cb⟩,fz,G⟩:=y.ask k mw;have Z:TabAt (w.setCell ⟨ga,k,none⟩ (.bool true)):=ht.below (B:=base) ((Ag base w).setCell (p:=⟨ga,k,none⟩) Q _) j;have D:=hid (XU (w.setCell ⟨ga,k,none⟩ (.bool true)) base gb k C S T L X F (K.set k true) hk N hT hL hF hN M Z G);unfold Nx at D;have ab:=hid G;have ag:=hid Y;have ae:Hid (∃b,w.cell? ⟨ga,k,none⟩=some (.bool b)):=⟨b,cb⟩;have af:=hid Q;have g0:=ig ((k:Int)<0)
  have g1:=ig ((nf:Int)<=k)
  have ah:=ig (nf<=k)
  have y1:(k:Int)<(K.length:Int):=mw
  have y0:(0:Int)<=(k:Int):=mw
  generalize ac:K.length=kl at *;generalize Fj C F k=E at *;generalize GP C T L F k=O at *;clear y G h0 h1 h2 h3 h4 h5 h6 h7 z J hK N hT hL hF hN M ht Z j hE hO hA Y Q ac hk i0 i1;go_enter func16,ntmps16;go_wp2_with fail;refine D.out.mono ?_;rintro e w2 ⟨v2,rfl,ho,hb⟩;have HO:Hid (w2.ownsRow w 43 4 v2 O.length (Ct O)):=hid (by simpa using ho);have HB:Hid (Below w (w.setCell ⟨ga,k,none⟩ (.bool true)) w2):=hid (by simpa using hb);clear ho hb D;go_wp2_with fail;go_ret2;exact⟨_,_,rfl, .inr ⟨ga,cs,k,af.out,ag.out,ae.out,rfl⟩,HO.out,HB.out,ab.out.step (by simpa using HB.out)⟩
 ·have hE:ftcE C F i=13:=Aa hi;have hO:ftcO C T L F i= []:=Aa hi;have hA:askK F K i=K:=Aa hi;unfold PW;rw[hE,hO,hA];have U:=hid y;by_cases i0:i<0
  ·have g0:decide (i<0)=true:=(by simpa using i0);clear y h0 h1 h2 h3 h4 h5 h6 h7 z J hK N hT hL hF hN M ht j hE hO hA hi i0;go_enter func16,ntmps16;go_wp2_with fail;go_ret2;exact⟨_,w,rfl, .inl rfl,AI _ _ _ _,Ag _ _,U.out⟩
  ·have g0:decide (i<0)=false:=(by simpa using i0);have g1:decide ((nf:Int)<=i)=true:=(by rw[decide_eq_true_eq,J];refine Jk fun h=>hi ⟨mw,mw⟩);clear y h0 h1 h2 h3 h4 h5 h6 h7 z J hK N hT hL hF hN M ht j hE hO hA hi i0;go_enter func16,ntmps16;go_wp2_with fail;go_ret2;exact⟨_,w,rfl, .inl rfl,AI _ _ _ _,Ag _ _,U.out⟩
end Body
namespace Body
open Go.RowKit Mem Go.Proofs.YtfgdoknipbpfhaaGreatDoor.Own Canon Nums Recs Opts
open Crc (TabAt Bh Cw)
open Idx (Str IxAt)
theorem XA{l:List Rec}(h:w.ownsRow base 43 4 (.slice A n c) n (Ct l))(hn:l.length=n):Row w w A n 4 (BP l):=by subst hn;exact j7 h
end Body
namespace Body
open Go.RowKit Mem Go.Proofs.YtfgdoknipbpfhaaGreatDoor.Own Canon Nums Recs Opts
open Crc (TabAt)
open Block (lZ)
open Idx (Str IxAt LM AV mZ)
theorem VN{ls:List Nat}(ho:wx.ownsRow base 5 1 (.slice A n c) n (cZ .u8 ls))(hn:ls.length=n):n<=c/\(A=none->n=0/\c=0)/\Row wx wx A n 1 (jZ .u8 ls):=by subst hn;exact⟨(Em ho).2,fun e=>by subst e;exact Jh ho rfl,jV ho rfl⟩
end Body
namespace Body
open Go.RowKit Mem Go.Proofs.YtfgdoknipbpfhaaGreatDoor.Own Canon Nums Recs Opts
open Crc (TabAt)
open Idx (Str IxAt AV mZ)
theorem RE:∀ (C:List Nat) (i:Nat),i<C.sum->Fb C i<C.length/\(C.take (Fb C i)).sum<=i/\i<(C.take (Fb C i)).sum+C.getD (Fb C i) 0
 | [],i,h=>oL
 |x :: C,i,h=>by
  rw[Fo]at h;rw[Fb];split
  ·simp;omega
  ·obtain⟨a,b,c⟩:=RE C (i-x) mw;rw[AD,List.take_succ_cons,Fo,List.getD_cons_succ];omega
def OT(w:World)(l:List Rec)(C:List Nat)(k:Nat)(wx:World)(e:Ending)(w':World):Prop:=
 ∃v m,e= .returned (.tuple #[v,ij])/\m=(l.drop (C.take k).sum).take (C.getD k 0)/\w'.ownsRow wx 43 4 v m.length (Ct m)/\Below w w w'
theorem bX{o:Opt}{l:List Rec}{b:Nat}(h:Small o l)(hw:Below w w wx)(hb:w.heap.size<=b)(hs:0<b)(ht:TabAt wx)(hK:K.length=(FR o l).length)(hB:BodyAt wx b gb (vZ o l) ((FR o l).map List.length) (Bk l) (Bz l) (IF l) (FR o l) K)(k:Nat)(hk:k<(vZ o l).length):
 Calls prog 16 #[.pointer (some ⟨gb,0,none⟩), .int .i64 (k:Nat)] wx (OT w l (vZ o l) k wx):=by
 obtain⟨a1,a2,a3,a4,a5,a6⟩:=h.all;refine(Zn wx b gb (k:Int) _ _ _ _ _ _ K hK a1 a2 a3 a4 a5 a6 hs ht hB).mono ?_;rintro e w' ⟨v,wm,rfl,i,ho,y,_⟩;have hi:I2 (FR o l) (k:Int):=⟨mw,mw⟩;obtain⟨f1,f2⟩:=aU o.plain (JK o l) h.ok (One.K8 h.ck) h.b hk;have e1:ftcE (vZ o l) (FR o l) (k:Int)=0:=by unfold ftcE;rw[Ab hi];exact f1
 have e2:ftcO (vZ o l) (Bk l) (Bz l) (FR o l) (k:Int)=(l.drop ((vZ o l).take k).sum).take ((vZ o l).getD k 0):=by unfold ftcO;rw[Ab hi];exact f2
 rw[e1];rw[e2]at ho
 have j:Below w w wm:=by
  rcases i with rfl|⟨ga,cs,q,z,_,_,rfl⟩
  ·exact hw
  ·exact hw.setCell (p:=⟨ga,q,none⟩) (by show _<=ga;omega) _
 exact⟨v,_,rfl,rfl,ho,j.trans (y.mono (by have:=j.size;rcases i with rfl|⟨ga,cs,q,_,_,_,rfl⟩<;>simp at this ⊢ <;>omega))⟩
theorem aY(w:World)(o:Opt)(A:Option Addr)(n c:Nat)(l:List Rec)(i:Nat)(hi:i<=65535)(hn:l.length=n)(hN:n<=9223372036854775807)(hc:n<=c)(Y:∀r∈l,B8 r)(ht:TabAt w)(ha:Row w w A n 4 (BP l)):
 Calls prog 3 #[o.val, .slice A n c, .int .u16 i] w fun e w'=>e= .returned (.bool true)/\Below w w w':=by
 have D0:=hid (fun wx (hx:Below w w wx)=>Zx wx (ht.step hx));have D2:=hid (fun wx (hx:Below w w wx)=>Yn wx A n c l 60 4000 mw hn hN ((ha.below hx).mono hx.size));have D3:=hid (fun wx (hx:Below w w wx) (hcd:Dt l=0->Cd o l n)=>aQ wx o A n c l hn hN hc Y hcd (ht.step hx) ((ha.below hx).mono hx.size))
 have ah:Hid ((n:Int)<=60/\Bp l<=4000->(Dt l=0->Cd o l n)/\n<=60/\(CL o≠0->Fk o l=9/\GS o l= [])/\(CL o=0->Fk o l=0/\GS o l=Co o l/\(Co o l).length<=99000/\Small o l)):=fun h=>by
  have hk:Dt l=0:=Qt mw h.2;have hb:(xZ false l).length<=16000:=eL hn Y hk h.1 h.2;have hT:(AV (l.map mZ)).length<=20000:=by have a:=NS (l.map mZ);have b:=MK l;omega
  refine⟨fun _=>⟨mw,hb,hT,fun ho=>(Small.of ho mw h.2 Y).x⟩,mw,fun ho=> ?_,fun ho=> ?_⟩
  ·have e:Fk o l=9:=(by unfold Fk;rw[Ab ho,O5 ho]);exact⟨e,by unfold GS;rw[Aa (by rw[e];decide)]⟩
  ·have e:Fk o l=0:=(by unfold Fk;rw[Aa (by simpa using ho),Aa (by simpa using hk)]);have hs:=Small.of ho mw h.2 Y;exact⟨e,by unfold GS;rw[Ab e],hs.m,hs⟩
 have H9:Hid (CL o≠0->CL o=9):=fun h=>O5 h;have D4:Hid (∀wx A2 c2 L,L=(Co o l).length->Below w w wx->wx.ownsRow w 5 1 (.slice A2 L c2) L (cZ .u8 (Co o l))->Small o l->Calls prog 13 #[o.val, .slice A2 L c2] wx (O8 o l wx)):=fun wx A2 c2 L hl hb ho hs=>by obtain⟨r1,r2,r3⟩:=VN ho hl.symm;exact Z7 wx o A2 L c2 l hs hl.symm r1 r2 (ht.step hb) r3
 have D6:Hid (∀wx b gb,Below w w wx->w.heap.size<=b->Small o l->BodyAt wx b gb (vZ o l) ((FR o l).map List.length) (Bk l) (Bz l) (IF l) (FR o l) (List.replicate (FR o l).length false)->
  (∀i:Int,Calls prog 14 #[.pointer (some ⟨gb,0,none⟩), .int .i64 i] wx fun e w'=>e= .returned (.tuple #[.int .i64 (Io (vZ o l) i:Nat), .bool (blkB (vZ o l) i)])/\w'=wx)/\
  (Calls prog 15 #[.pointer (some ⟨gb,0,none⟩)] wx fun e w'=>∃v,e= .returned v/\w'.ownsRow wx 3 1 v (vZ o l).length (cZ .i64 (vZ o l))/\Below wx wx w')):=fun wx b gb hb J hs hB=>by
  obtain⟨a1,a2,a3,a4,a5,a6⟩:=hs.all;obtain⟨vc,vs,p,q,vt,vl,vT,vL,vF,va,vals,fv,h0,h1,h2,h3,h4,h5,h6,h7⟩:=hB;obtain⟨Ac,cc,rfl⟩:=bZ h1;exact⟨fun i=>dI wx gb (vZ o l).length cc Ac (vZ o l) i (h0.cell 0) rfl mw mw (own_ints h1 rfl),cD wx gb b (vZ o l).length cc Ac (cZ .i64 (vZ o l)) (h0.cell 0) mw h1 (Ci _ _)⟩
 have D7:Hid (∀wx b gb k,Below w w wx->w.heap.size<=b->Small o l->BodyAt wx b gb (vZ o l) ((FR o l).map List.length) (Bk l) (Bz l) (IF l) (FR o l) (List.replicate (FR o l).length false)->k<(vZ o l).length->
  Calls prog 16 #[.pointer (some ⟨gb,0,none⟩), .int .i64 (k:Nat)] wx (OT w l (vZ o l) k wx)):=fun wx b gb k hb J hs hB hk=>
  bX hs hb J (Eh ht.lt J) (ht.step hb) (by rw[Di]) hB k hk
 have HR:=hid (fun wx (hx:Below w w wx)=>(ha.below hx).mono hx.size);have HC:Hid ((vZ o l).sum=n):=by show _=_;rw[JK,hn]
 have be:Hid ((vZ o l).length<=n):=by show _<=_;rw[<-hn];exact Kk o l
 unfold KO at D3;unfold TN at D2;unfold O8 at D4;unfold OT at D7;generalize Fk o l=E at *;generalize GS o l=R at *;generalize Co o l=F at *;generalize Small o l=SM at *;generalize (IF l)=XX at *;generalize vZ o l=CC at *;generalize FR o l=FF at *;generalize CL o=oE at *;generalize Dt l=ck at *;generalize Cd o l n=cd at *;obtain⟨S,pl,bu,da,pa,ch⟩:=o;unfold Opt.val at D3 D4 ⊢;simp only at D3 D4 ⊢;have HN:=hid hn;clear hn Y ht ha;go_enter func3,ntmps3;go_wp2_with fail;have ay:Blk (w.alloc (.cells #[S,pl,bu,da,pa,ch] 23)) w 23 #[S,pl,bu,da,pa,ch]:=Blk.made _ _ _;have ac:Below w w (w.alloc (.cells #[S,pl,bu,da,pa,ch] 23)):=aZ (Ag _ _);generalize w.alloc (.cells #[S,pl,bu,da,pa,ch] 23)=wa at *;have z:Hid (∀wx,Below wa wa wx->Below w w wx):=fun wx h=>ac.trans (h.mono ac.size);have an:=hid ay;have bn:=hid ac;clear ay ac;refine(D0.out wa bn.out).mono ?_;rintro e w1 ⟨rfl,bd⟩;have B1:Hid (Below wa wa w1):=bd;have E2:=hid (D2.out w1 (z.out _ B1.out));clear bd D0 D2;go_wp2_with fail;refine E2.out.mono ?_;rintro e w5 ⟨gr,rfl,af,aw⟩;have B5:Hid (Below wa wa w5):=dZ aw B1.out;clear aw E2 B1;cases gr with
 |true=>clear af;go_wp2_with fail;go_ret;exact⟨rfl,z.out _ B5.out⟩
 |false=>
  by_cases bf:n=0
  ·subst bf;clear af D3 D4 D6 D7 ah;go_wp2_with fail;go_ret;exact⟨rfl,z.out _ B5.out⟩
  have ca:((n:Int)==0)=false:=oT
  obtain⟨s1,bb,s2,s3⟩:=ah.out (af rfl);have E5:=hid (D3.out w5 (z.out _ B5.out) s1);have q5:=an.out.step B5.out;obtain⟨k0,k1,k2,k3,k4,k5⟩:=q5.six;obtain⟨at_,al⟩:=ii (i % n);have a0:at_<n:=by rw[al];exact Nat.mod_lt _ mw
  have bt:((i:Int).tmod (n:Int))=(at_:Int):=by rw[al];rfl
  clear af D3 ah s1 q5;by_cases ho:oE=0
  ·obtain⟨rfl,rfl,ax,ar⟩:=s3 ho;have b8:=hid ax;have HS:=hid ar;have b4:=hid bb;clear s2 s3 ho ax ar bb al;obtain⟨L,hL⟩:=ii R.length;have HL:=hid hL;rw[<-hL]at E5;clear hL;go_wp2_with fail;refine E5.out.mono ?_;rintro e w6 ⟨v6,rfl,Z,Q⟩;obtain⟨A6,c6,rfl⟩:=bZ Z;have B6:Hid (Below wa wa w6):=dZ Q B5.out;have E6:=hid (D4.out w6 A6 c6 L HL.out (z.out _ B6.out) (kZ Z (z.out _ B5.out).size) HS.out);have q6:=an.out.step B6.out;clear k0 k1 k2 k3 k4 k5;obtain⟨k0,k1,k2,k3,k4,k5⟩:=q6.six;clear Z Q E5 B5 D4 q6;go_wp2_with fail;refine E6.out.mono ?_;rintro e w7 ⟨gb,rfl,ak,a9⟩;have B7:Hid (Below wa wa w7):=dZ a9 B6.out;have J:w.heap.size<=w6.heap.size:=(z.out _ B6.out).size;obtain⟨ba,aq⟩:=D6.out w7 _ gb (z.out _ B7.out) J HS.out ak;have E7:=hid (fun wx k (hb:Below w7 w7 wx) (hw:Below w w wx) (hk:k<CC.length)=>D7.out wx w6 gb k hw J HS.out (ak.step hb) hk);have EK:=hid (ba (at_:Int));have EL:=hid aq;have ag:=RE CC at_ (by rw[HC.out];exact a0);have hV:Io CC (at_:Int)=Fb CC at_:=(by unfold Io;rw[Ab ⟨mw,by rw[HC.out];omega⟩];rfl);have au:blkB CC (at_:Int)=true:=Bc ⟨mw,by rw[HC.out];omega⟩;rw[hV,au]at EK;generalize Fb CC at_=k at *;obtain⟨N,ae⟩:=ii CC.length;have bp:=hid ae;have aa:=hid ag;have bx:k<N:=(by rw[ae];exact ag.1);have bl:=be.out;rw[<-ae]at EL bl;clear ak a9 ba aq E6 B6 k0 k1 k2 k3 k4 k5 D6 D7 hV au ae ag;go_wp2_with fail;refine EK.out.mono ?_;rintro e w8 ⟨rfl,rfl⟩;clear EK;have g1:=ig ((k:Int)<0);have g2:=ig ((N:Int)<=k);go_wp2_with fail;refine EL.out.mono ?_;rintro e w9 ⟨v9,rfl,aj,am⟩;obtain⟨A9,c9,rfl⟩:=bZ aj;have ai:=hid aj;have bh:=hid am;have B9:Hid (Below wa wa w9):=dZ am B7.out;clear aj am EL B7;go_wp2_with fail;go_loopw [7,15] (fun av jv wr=>∃ (j x:Nat),j<=k/\x<=at_/\jv= .int .i64 j/\av= .int .i64 x/\Hid (x+(CC.take j).sum=at_)/\Hid (wr=w9)) (fun _ jv _=>k-(intOf jv).toNat)
   case atStart=>exact⟨0,at_,mw,mw,rfl,rfl,rfl,iy⟩
   case round=>
    obtain⟨j,x,hj,cf,rfl,rfl,HX,hw⟩:=hrel;have hw:=hw.out;subst hw;by_cases bN:j<k
    ·have gj:=ic ((j:Int)<k);have b6:=ic (j<k);obtain⟨gn,cn,bg,_,_⟩:=ai.out.form mw;injection bg with q1 q2 q3;subst q1 q3;have ab:j<CC.length:=(by rw[<-bp.out];omega);obtain⟨y,hy⟩:=ii (CC.getD j 0);have b3:wr.cell? ⟨gn,j,none⟩=some (.int .i64 (y:Nat)):=(by rw[ai.out.cellAt j mw,hy];unfold cZ;rw[BG,Az ab,Am,Az ab];rfl);have h1:=Ov (C:=CC) (k:=j) ab;have h2:=JD (CC.take k) (j+1);rw[List.take_take,show min (j+1) k=j+1 by omega]at h2;rw[<-hy]at h1;have b0:y<=x:=(by have:=HX.out;have:=aa.out.2.1;omega);have bm:Hid ((x-y)+(CC.take (j+1)).sum=at_):=(by show _=_;have:=HX.out;omega);have s1:IntKind.i64.wrap ((x:Int)-(y:Int))=((x-y:Nat):Int):=m8;have x0:(0:Int)<=(j:Int):=mw;have x1:(j:Int)<(N:Int):=mw;clear q2 hy h1 h2 ab HX;go_wp2_with fail;go_roundw
     case measure=>exact jo
     case rel=>go_light;exact⟨j+1,x-y,mw,mw,iu,iu,bm.out,iy⟩
    ·obtain rfl:j=k:=by omega
     have gj:=ig ((j:Int)<j);have E8:=hid (E7.out wr j bh.out (z.out _ B9.out) aa.out.1);clear E7;go_wp2_with fail;refine E8.out.mono ?_;rintro e b7 ⟨b9,m,rfl,hm,G,U⟩;obtain⟨M,hM⟩:=ii m.length;rw[<-hM]at G;obtain⟨ce,bC,rfl⟩:=bZ G;have bk:(CC.take j).sum+CC.getD j 0<=l.length:=(by have h1:=Ov (C:=CC) (k:=j) aa.out.1;have h2:=JD CC (j+1);have h3:=HC.out;have h4:=HN.out;omega);have bj:M=CC.getD j 0:=(by rw[hM,hm,AZ,AO];omega);have bi:x<M:=(by have:=HX.out;have:=aa.out.2.2;omega);obtain⟨b1,f1,r,rfl,_,hr,c0,c1,c2,c3⟩:=Row.rec (XA G hM.symm) hM.symm bi;obtain⟨b2,f2,r2,rfl,_,bc,d0,d1,d2,d3⟩:=Row.rec (HR.out _ U) HN.out a0;have bq:r2=r:=(by rw[hm,Gd,Ab mw,Ik,show(CC.take j).sum+x=at_ by have:=HX.out;omega,bc]at hr;injection hr);subst bq;have HE:=fX r2 r2;rw[show I5 r2 r2=true from(NI _ _).2 rfl]at HE;have gx:=ic ((0:Int)<=x);have bS:=ic ((x:Int)<M);have b5:=ic (x<M);have x0:(0:Int)<=(x:Int):=mw;have x1:(x:Int)<(M:Int):=mw;have z0:(0:Int)<=(at_:Int):=mw;have z1:(at_:Int)<(n:Int):=mw;have az:=hid U;clear hm bk bj hr bc G U E8 hM HX aa ai;go_wp2_with fail;go_quiet (fail);go_wp2_with fail;go_ret;exact⟨rfl,below_drewN az.out _⟩
  ·obtain⟨rfl,rfl⟩:=s2 ho;have g9:((9:Int) != 0)=true:=rfl;clear s2 s3 D4 D6 D7;go_wp2_with fail;refine E5.out.mono ?_;rintro e w6 ⟨v6,rfl,Z,Q⟩;have B6:Hid (Below wa wa w6):=dZ Q B5.out;clear Z Q E5 B5;go_wp2_with fail;go_ret;exact⟨rfl,z.out _ B6.out⟩
end Body
end Go.Proofs.YtfgdoknipbpfhaaGreatDoor
