/- Small steps of an ar -/
import Derived.Test.YtfgdoknipbpfhaaGreatDoorZBodyIndex31
import Derived.Test.YtfgdoknipbpfhaaGreatDoorZBodyIndex27
namespace Go.Proofs.YtfgdoknipbpfhaaGreatDoor
open Go.Proofs.Tryz
open Go.Lib (hid)
set_option maxHeartbeats 8000000
set_option maxRecDepth 100000
variable{base i k n x:Nat}{w w':World}{xs:List Value}{l:List Nat}
namespace One
open Go.RowKit Mem Own Canon NumPut Crc
open Recs Opts
open Block (Cs Im wZ)
theorem PR(S:Nat):∀ (t:List Nat) (h c:Nat),(goG S h c t).sum=c+t.length
 | [],_,c=>by simp[goG]
 |x :: t,h,c=>by
  rw[goG];split
  ·rw[GH,PR S t];simp;omega
  ·rw[PR S t];simp;omega
theorem PK(S:Nat):∀ (t:List Nat) (h c:Nat),1<=c->∀x∈goG S h c t,1<=x
 | [],_,c,hc,x,hx=>by rw[goG,Em]at hx;omega
 |y :: t,h,c,hc,x,hx=>by
  rw[goG]at hx;split at hx
  ·rcases BK.1 hx with rfl|hx
   ·exact hc
   ·exact PK S t _ 1 nB x hx
  ·exact PK S t _ (c+1) nB x hx
theorem NU(S:Nat)(l:List Nat):(Fo S l).sum=l.length:=by
 cases l with
 |nil=>rfl
 |cons x t=>rw[Fo,PR];simp;omega
theorem Lu(S:Nat)(l:List Nat):∀x∈Fo S l,1<=x:=by
 cases l with
 |nil=>intro x hx;cases hx
 |cons y t=>exact PK S t y 1 nB
theorem NP:∀ {l:List Nat},(∀x∈l,1<=x)->l.length<=l.sum
 | [],_=>pR
 |x :: l,h=>by have h1:=h x pR;have h2:=NP (l:=l) (fun y hy=>h y (by simp[hy]));rw[AI,GH];omega
theorem PQ(wh:Bool)(l:List Rec):(Eb wh l).length=l.length:=by unfold Eb;rw[Bk]
end One
namespace One
open Go.RowKit Mem Own Canon NumPut Crc
open Recs Opts
open Block (Cs Im wZ)
theorem Hn{l:List Rec}(h:DQ l=0):∀r∈l,Cc r=false:=by
 unfold DQ at h;split at h
 ·cases h
 ·split at h
  ·cases h
  ·rename_i h1;intro r hr;cases hb:Cc r
   ·rfl
   ·exact absurd (List.any_eq_true.2 ⟨r,hr,hb⟩) h1
theorem Na{l:List Rec}{m:Nat}(h:i<m)(j:Nat):Cp (l.take m) i j=Cp l i j:=by
 have e:(l.take m).getD i GC=l.getD i GC:=by rw[Aq,Aq,Gn,Ag h]
 unfold Cp;rw[e]
theorem NE(l:List Rec)(k i j:Nat):Cp l (k+i) j=Cp (l.drop k) i j:=by
 have e:(l.drop k).getD i GC=l.getD (k+i) GC:=by rw[Aq,Aq,FX]
 unfold Cp;rw[e]
theorem NS(wh:Bool){l l':List Rec}(h:l.Sublist l'):(Bi wh l).length<=(Bi wh l').length:=by
 induction h with
 |slnil=>exact Am _
 |cons a _ ih=>unfold Bi at *;rw[Dm,Aj];omega
 |cons_cons a _ ih=>unfold Bi at *;rw[Dm,Dm,Aj,Aj];omega
theorem Yl{bs:List Nat}(plain:Bool)(h:bs.length<=16000):(Cs bs plain).length<=bs.length+25:=by
 have hb:(Block.CD bs plain).length<=bs.length:=by
  unfold Block.CD;split
  ·rename_i hc;rw[Ch]at hc;have h2:=hc.2;unfold Block.sqz at h2;simp at h2;omega
  ·omega
 have h1:=sZ (x:=bs.length) nB;have h2:=sZ (x:=(Block.CD bs plain).length) nB;unfold Cs Block.Do Block.IK;simp only[List.length_append,List.length_singleton];have:(CU (Ct (([Block.FJ bs plain]++gZ bs.length++gZ (Block.CD bs plain).length)++Block.CD bs plain))).length=4:=rfl;omega
theorem KQ(wh:Bool)(l:List Rec)(m:Nat):(Bi wh (l.take m)).length+(Bi wh (l.drop m)).length=(Bi wh l).length:=by
 conv=>rhs;rw[<-EX m l]
 unfold Bi;rw[I9,Aj]
end One
namespace One
open Go.RowKit Mem Own Canon NumPut Crc
open Recs Opts
open Block (Cs Im wZ SN own_one)
def FrsAt(w:World)(base:Nat)(ps:List Part):Prop:=∀p∈ps,w.ownsRow base 5 1 p.v p.ls.length (bZ .u8 p.ls)
theorem FrsAt.step{ps:List Part}(h:FrsAt w base ps)(hb:Below w w w'):FrsAt w' base ps:=fun p hp=>eZ (h p hp) (fun y hy=>hb.block y (Ai (h p hp) y hy).2)
theorem Gv{s s' n':Nat}{e e':TypeId}{v v':Value}{E:List Value}(h:w.ownsRow base e s v n xs)(ho:w.ownsRow i e' s' v' n' E)(j:e≠e')(hg:w.grownBy w' v'.ownBlock):w'.ownsRow base e s v n xs:=
 eZ h (fun y hy=>hg.block y (Ai h y hy).2 (fun e=>by
  rcases EN h ho j with h0|h0
  ·rw[h0]at hy;cases hy
  ·exact h0 (hy.trans e)))
theorem FrsAt.grown{v:Value}{ps:List Part}(h:FrsAt w base ps)(ho:w.ownsRow i 28 1 v n xs)(hg:w.grownBy w' v.ownBlock):FrsAt w' base ps:=fun p hp=>Gv (h p hp) ho ji hg
theorem FrsAt.snoc{ps:List Part}{p:Part}(h:FrsAt w base ps)(hp:w.ownsRow base 5 1 p.v p.ls.length (bZ .u8 p.ls)):FrsAt w base (ps++ [p]):=fun q hq=>by
 rcases Bx.1 hq with hq|hq
 ·exact h q hq
 ·rw[Em.1 hq];exact hp
theorem IW:(prog.info? 28).map (fun i=>(i.zero,i.size,i.bytes))=some (some (.slice none 0 0),1,24):=ni
end One
namespace One
open Go.RowKit Mem Own Canon NumPut Crc
open Recs Opts
open Block (Cs wZ)
theorem QJ{fs:List (List Nat)}{x:List Nat}(h:x∈fs):x.length<=fs.flatten.length:=by
 induction fs with
 |nil=>cases h
 |cons y t ih=>
  rw[List.flatten_cons,Aj];rcases BK.1 h with rfl|h
  ·omega
  ·have:=ih h;omega
end One
namespace One
open Go.RowKit Mem Own Canon NumPut Crc
open Recs Opts
open Block (Cs wZ)
theorem Zu{l:List Rec}(h:DQ l≠0):DQ l=6:=by
 unfold DQ at h ⊢;split
 ·rfl
 ·split
  ·rfl
  ·split
   ·rfl
   ·rename_i h1 h2 h3;rw[Ae h1,Ae h2,Ae h3]at h;exact absurd rfl h
end One
namespace Body
open Recs Opts Crc Idx
open NumPut (gZ sZ Ev)
open Block (Cs)
open Go.Proofs.YtfgdoknipbpfhaaGreatDoor.One (NU Lu NP PQ)
def BV(wh pl:Bool):List Nat->List Rec->List (List Nat)
 | [],_=> []
 |c :: t,l=>Cs (Bi wh (l.take c)) pl :: BV wh pl t (l.drop c)
def tZ(o:Opt)(l:List Rec):List Nat:=Fo o.block.toNat (Eb false l)
def Bf:List Nat->List Nat->List Nat
 |a :: g,b :: s=>gZ a++(gZ b++Bf g s)
 |_,_=> []
def yZ(b:List Nat):List Nat:=b++CU (Ct b)
def Dv(n:Nat)(G S:List Nat)(x y:Nat):List Nat:=gZ n++(gZ G.length++(Bf G S++(gZ x++gZ y)))
def CH(n:Nat)(G:List Nat)(FS:List (List Nat))(cols idx:List Nat):List Nat:=
 FS.flatten++(yZ cols++(yZ idx++(yZ (Dv n G (FS.map List.length) (yZ cols).length (yZ idx).length)++Cn (yZ (Dv n G (FS.map List.length) (yZ cols).length (yZ idx).length)).length)))
def ixR(o:Opt)(l:List Rec):List Nat:=ixO o.bucket.toNat l.length (AW (l.map jZ)) ((AW (l.map jZ)).map (BP (l.map jZ)))
def H4(o:Opt)(l:List Rec):List Nat:=CH l.length (tZ o l) (BV false o.plain (tZ o l) l) (BW l) (ixR o l)
theorem Ce(b:List Nat):(yZ b).length=b.length+4:=by unfold yZ;rw[Aj];rfl
theorem PG{b:List Nat}(h:∀x∈b,x<=255):∀x∈yZ b,x<=255:=fun x hx=>by
 rcases Bx.1 hx with hx|hx
 ·exact h x hx
 ·have:=S4 _ x hx;omega
theorem Ux:∀ (g s:List Nat) (a b:Nat),g.length=s.length->Bf (g++ [a]) (s++ [b])=Bf g s++(gZ a++gZ b)
 | [],[],a,b,_=>by simp[Bf]
 |x :: g,y :: s,a,b,h=>by rw[En,En,Bf,Ux g s a b qh,Bf];simp only[List.append_assoc]
 | [],_ :: _,_,_,h=>pS
 |_ :: _,[],_,_,h=>pS
theorem Xv{g s:List Nat}{a b:Nat}(ha:g[k]? =some a)(hb:s[k]? =some b):Bf (g.take (k+1)) (s.take (k+1))=Bf (g.take k) (s.take k)++(gZ a++gZ b):=by obtain⟨hk,_⟩:=BS.1 ha;obtain⟨h,_⟩:=BS.1 hb;rw[Ca,ha,Ca,hb];exact Ux _ _ a b (by rw[Bc,Bc];omega)
theorem Sz:∀ (g s:List Nat),(∀x∈g,x<18446744073709551616)->(∀x∈s,x<18446744073709551616)->(Bf g s).length<=20*g.length
 | [],_,_,_=>by simp[Bf]
 |_ :: _,[],_,_=>by simp[Bf]
 |x :: g,y :: s,h1,h2=>by have a:=sZ (h1 x CP);have b:=sZ (h2 y CP);have c:=Sz g s (fun z hz=>h1 z (Cm _ hz)) (fun z hz=>h2 z (Cm _ hz));rw[Bf,Aj,Aj,AI];omega
theorem Us:∀ (g s:List Nat),∀x∈Bf g s,x<=255
 | [],_,x,h=>by simp[Bf]at h
 |_ :: _,[],x,h=>by simp[Bf]at h
 |a :: g,b :: s,x,h=>by
  rw[Bf]at h;rcases Bx.1 h with h|h
  ·exact Ev _ x h
  ·rcases Bx.1 h with h|h
   ·exact Ev _ x h
   ·exact Us g s x h
theorem LP(n:Nat)(G S:List Nat)(x y:Nat):∀z∈Dv n G S x y,z<=255:=fun z h=>by
 unfold Dv at h;simp only[List.mem_append]at h;rcases h with h|h|h|h|h
 ·exact Ev _ z h
 ·exact Ev _ z h
 ·exact Us _ _ z h
 ·exact Ev _ z h
 ·exact Ev _ z h
theorem LQ{G S:List Nat}{y:Nat}(hn:n<=1000000000)(hg:G.length<=1000000000)(h1:∀z∈G,z<=1000000000)(h2:∀z∈S,z<=1000000000)(hx:x<=1000000000)(hy:y<=1000000000):(Dv n G S x y).length<=40+20*G.length:=by have a:=sZ (x:=n) nB;have b:=sZ (x:=G.length) nB;have c:=sZ (x:=x) nB;have d:=sZ (x:=y) nB;have e:=Sz G S (fun z hz=>by have:=h1 z hz;omega) (fun z hz=>by have:=h2 z hz;omega);unfold Dv;simp only[List.length_append];omega
theorem JM(wh pl:Bool):∀ (cs:List Nat) (l:List Rec),(BV wh pl cs l).length=cs.length
 | [],_=>rfl
 |c :: t,l=>by rw[BV,AI,JM wh pl t,AI]
theorem Jg(wh pl:Bool):∀ (cs:List Nat) (l:List Rec),(Bi wh l).length<=16000->(BV wh pl cs l).flatten.length<=(Bi wh l).length+25*cs.length
 | [],_,_=>by simp[BV]
 |c :: t,l,h=>by have hs:=One.KQ wh l c;have ih:=Jg wh pl t (l.drop c) nB;have hf:=One.Yl (bs:=Bi wh (l.take c)) pl nB;rw[BV,List.flatten_cons,Aj,AI];omega
theorem Je(o:Opt)(l:List Rec):(tZ o l).sum=l.length:=by unfold tZ;rw[NU,PQ]
theorem Jc(o:Opt)(l:List Rec):(tZ o l).length<=l.length:=by have:=NP (Lu o.block.toNat (Eb false l));rw[NU,PQ]at this;exact this
theorem G4:∀ {l:List Nat} {x:Nat},x∈l->x<=l.sum
 |y :: t,x,h=>by
  rw[GH];rcases BK.1 h with rfl|h
  ·omega
  ·have:=G4 h;omega
end Body
namespace Body
open Go.RowKit Mem Own Canon Recs
open NumPut
open Block (wZ)
theorem R0(h:l[k]? =some x):(l.take (k+1)).sum=(l.take k).sum+x:=by rw[Ca,h];simp
theorem K0(l:List Nat)(k:Nat):(l.take k).sum<=l.sum:=by
 conv=>rhs;rw[<-EX k l]
 rw[NG];omega
theorem Lf(w:World)(A:Option Addr)(n c:Nat)(ls:List Nat)(hn:ls.length=n)(hN:n<=1000000)(hs:ls.sum<=1000000000000000)(ha:Row w w A n 1 (kZ .i64 ls)):
 Calls prog 64 #[.slice A n c] w fun e w'=>e= .returned (.int .i64 (ls.sum:Nat))/\w'=w:=by
 have HN:=hid hn;obtain⟨R,hR⟩:=jc ls.sum;have HR:=hid hR;rw[<-hR]at hs ⊢;clear hn hR;go_enter func64,ntmps64;go_wp2_with fail;go_loopw [3,8] (fun sv iv wx=>∃k s:Nat,k<=n/\s<=R/\iv= .int .i64 k/\sv= .int .i64 s/\Hid (s=(ls.take k).sum)/\wx=w) (fun _ iv _=>n-(intOf iv).toNat)
 case atStart=>exact⟨0,0,nB,nB,rfl,rfl,rfl,rfl⟩
 case round=>
  obtain⟨k,s,hk,L,rfl,rfl,HS,rfl⟩:=hrel;by_cases j:k<n
  ·have gk:=ja ((k:Int)<n);have J:=ja (k<n);have x0:(0:Int)<=(k:Int):=nB;have x1:(k:Int)<(n:Int):=nB;obtain⟨b,M,x,rfl,_,hx,ck⟩:=Dg ha HN.out j;have h:=R0 hx;have i:=K0 ls (k+1);rw[h,<-HS.out,<-HR.out]at i;have E:Hid (s+x=(ls.take (k+1)).sum):=(by show _=_;rw[h,HS.out]);have s1:IntKind.i64.wrap ((s:Int)+(x:Int))=((s+x:Nat):Int):=nX;clear h hx HS;go_wp2_with fail;go_roundw
   case measure=>exact ld
   case rel=>go_light;exact⟨k+1,s+x,nB,i,jk,jk,E.out,jm⟩
  ·obtain rfl:k=n:=by omega
   have gk:=jb ((k:Int)<k);have J:=jb (k<k);have G:s=R:=(by rw[HS.out,HR.out,Bp oz]);subst G;clear HS HR j;go_wp2_with fail;go_ret;exact⟨rfl,rfl⟩
theorem sum_any(w:World)(A:Option Addr)(n c:Nat)(ls:List Nat)(hn:ls.length=n)(hN:n<=1000000)(hs:ls.sum<=1000000000)(ha:Row w w A n 1 (kZ .i64 ls)):
 Calls prog 64 #[.slice A n c] w fun e w'=>e= .returned (.int .i64 (ls.sum:Nat))/\w'=w:=Lf w A n c ls hn hN nB ha
end Body
namespace Body
open Go.RowKit Mem Own Canon
theorem eX(w:World)(A:Option Addr)(n c:Nat)(ls:List Nat)(hn:ls.length=n)(hN:n<=1000000)(ha:Row w w A n 1 (kZ .i64 ls)):
 Calls prog 192 #[.slice A n c,jd] w fun e w'=>∃r:Int,e= .returned (.int .i64 r)/\(0<=r↔0∈ls)/\w'=w:=by
 have HN:=hid hn;have H0:Hid (0 ∉ ls.take 0):=by simp[Hid]
 clear hn;go_enter func192,ntmps192;go_wp2_with fail;go_loopw [8] (fun iv wx=>∃k:Nat,k<=n/\iv= .int .i64 k/\Hid (0 ∉ ls.take k)/\wx=w) (fun iv _=>n-(intOf iv).toNat)
 case atStart=>exact⟨0,nB,rfl,H0.out,rfl⟩
 case round=>
  obtain⟨k,hk,rfl,HZ,rfl⟩:=hrel;by_cases j:k<n
  ·have gk:=ja ((k:Int)<n);have G:=ja (k<n);have x0:(0:Int)<=(k:Int):=nB;have x1:(k:Int)<(n:Int):=nB;obtain⟨b,J,x,rfl,_,hx,ck⟩:=Dg ha HN.out j;by_cases i:x=0
   ·have gz:((0:Int)==(x:Int))=true:=(by rw[i];rfl);have HF:Hid (0∈ls):=(by show 0∈ls;rw[<-i];exact AY hx);clear hx i HZ;go_wp2_with fail;go_ret;exact⟨(k:Int),rfl,⟨fun _=>HF.out,fun _=>nB⟩,rfl⟩
   ·have gz:((0:Int)==(x:Int))=false:=by rw[GF];omega
    have E:Hid (0 ∉ ls.take (k+1)):=by
     show ¬_;rw[Ca,hx];intro h;rcases Bx.1 h with h|h
     ·exact HZ.out h
     ·simp at h;exact i h.symm
    clear hx i HZ;go_wp2_with fail;go_roundw
    case measure=>exact ld
    case rel=>go_light;exact⟨k+1,nB,jk,E.out,jm⟩
  ·obtain rfl:k=n:=by omega
   have gk:=jb ((k:Int)<k);have G:=jb (k<k);have HF:Hid (0 ∉ ls):=(by have h:=HZ.out;rw[Bp oz]at h;exact h);clear HZ j;go_wp2_with fail;go_ret;exact⟨-1,rfl,⟨fun h=>nB,fun h=>absurd h HF.out⟩,rfl⟩
theorem RV(w:World)(A:Option Addr)(n c:Nat)(ls:List Nat)(hn:ls.length=n)(hN:n<=1000000)(ha:Row w w A n 1 (kZ .i64 ls)):
 Calls prog 115 #[.slice A n c,jd] w fun e w'=>e= .returned (.bool (decide (0∈ls)))/\w'=w:=by
 have D:=hid (eX w A n c ls hn hN ha);clear hn ha;go_enter func115,ntmps115;go_wp2_with fail;refine D.out.mono ?_;rintro e w1 ⟨r,rfl,hr,rfl⟩;have gr:decide ((0:Int)<=r)=decide (0∈ls):=by rw[decide_eq_decide];exact hr
 clear hr;go_wp2_with fail;go_ret;exact⟨rfl,rfl⟩
end Body
namespace Body
open Go.RowKit Mem Own Canon Nums
theorem Zd:(prog.info? 3).map (fun i=>(i.zero,i.size,i.bytes))=some (some (.int .i64 0),1,8):=ni
def Py(w:World)(gb:Nat)(t:TypeId)(rest:List Value)(room:Nat)(ls:List Nat)(e:Ending)(w':World):Prop:=
 e= .returned (.int .i64 (Gs room ls))/\Kept (fun x=>x<w.heap.size/\x≠gb) w w'/\(Gs room ls=0->∃vc vs,Blk w' gb t (vc :: vs :: .int .i64 (dP ls:Nat) :: .int .i64 (dQ ls:Nat) :: rest).toArray/\w'.ownsRow w 3 1 vc (Ed ls).length (bZ .i64 (Ed ls))/\w'.ownsRow w 3 1 vs (Er ls).length (bZ .i64 (Er ls))/\(∀y,vc.ownBlock=some y->vs.ownBlock≠some y))
theorem Xc(w:World)(gb:Nat)(t:TypeId)(x2 x3:Value)(rest:List Value)(A:Option Addr)(m c Z:Nat)(ls:List Nat)(hB:Blk w gb t (.slice none 0 0 :: .slice none 0 0 :: x2 :: x3 :: rest).toArray)(cf:3≠t)(dd:5≠t)(hm:ls.length=m)(co:m<=100000)(h8:∀x∈ls,x<=255)(bW:A=none->m=0/\c=0)(ha:Row w w A m 1 (kZ .u8 ls)):
 Calls prog 57 #[.pointer (some ⟨gb,0,none⟩), .slice A m c, .int .i64 (Z:Nat)] w (Py w gb t rest Z ls):=by
 obtain⟨j0,c7,cy,c4,c5⟩:=info_parts Zd;have D0:=hid (new_any w A m c ls hm co bW ha);have b0:ls.length<=100000:=nB
 have DI:=hid (fun wx g B d at_ er most (hm:most<=1000000000) h=>I5 wx g w ls B d at_ er most b0 h8 hm h);have a3:=hid (fun wx g B d at_ er h=>Ej wx g w ls B d at_ er h);have a5:=hid (fun wx g B d at_ er h=>Va wx g w ls B d at_ er h);obtain⟨R,hR⟩:=jc (Gs Z ls);unfold Py;rw[<-hR];have az:EB ls<=20000:=Gr h8 _ _;have cE:Hx ls<=20000:=Bm (Gr h8 _ _) az;have al:Hid (∀ (most a:Nat) (er:Int),Bh most ls a er<=most):=fun most a er=>Gr h8 a er;have ct:=PV (rec:=EB ls) (ls:=ls) (Hx ls) (AR (EB ls) ls (AR 20000 ls 0 0) (AU 20000 ls 0 0)) (AU (EB ls) ls (AR 20000 ls 0 0) (AU 20000 ls 0 0)) [] [] rfl;have cr:=TA (rec:=EB ls) h8 (Hx ls) (AR (EB ls) ls (AR 20000 ls 0 0) (AU 20000 ls 0 0)) (AU (EB ls) ls (AR 20000 ls 0 0) (AU 20000 ls 0 0)) [] [] (fun x hx=>by simp at hx) (fun x hx=>by simp at hx);have cT:=hid ct;have a9:=hid cr;have HR:=hid hR;have cu:=hid hB;have cC:=hB.lt;clear hm h8 bW ha hR hB ct cr co b0;go_enter func57,ntmps57;go_wp2_with fail;refine D0.out.mono ?_;rintro e w1 ⟨g,B,d,rfl,ca,ch⟩;have cv:=hid ch;have cG:=hid ca;have dg:=ca.lo;have di:=ch.size;clear ca ch D0;go_wp2_with fail;refine(DI.out _ g B d 0 0 20000 nB cG.out).mono ?_;rintro e w2 ⟨rfl,cA,L⟩;have cS:=hid cA;have b7:Hid (Below w w w2):=cv.out.trans (L.below fun b h=>⟨nB,nB⟩);obtain⟨rec,ah⟩:=jc (EB ls);have ab:=hid ah;rw[<-ah]at az;rw[show Bh 20000 ls 0 0=rec from ah.symm];clear cA L cv cG ah;go_wp2_with fail;refine(DI.out _ g B d _ _ rec nB cS.out).mono ?_;rintro e w3 ⟨rfl,cp,Y⟩;obtain⟨nb,bO⟩:=jc (Hx ls);have c8:=hid bO;rw[<-bO]at cE;rw[show Bh rec ls (AR 20000 ls 0 0) (AU 20000 ls 0 0)=nb by rw[bO,ab.out];rfl];have ce:Hid (Below w w w3):=b7.out.trans (Y.below fun b h=>⟨by have:=b7.out.size;omega,nB⟩);have cq:=hid (cu.out.below ce.out cC);have cH:Hid (DrI w w3 gb t (x2 :: x3 :: rest) g ls B d (AR rec ls (AR 20000 ls 0 0) (AU 20000 ls 0 0)) (AU rec ls (AR 20000 ls 0 0) (AU 20000 ls 0 0)) [] [] (.slice none 0 0) (.slice none 0 0)):=⟨cp,cq.out,AE _ _ _ _,AE _ _ _ _,(fun y h=>by cases h),Kept.of_below ce.out (fun x hx=>hx.1),cC,cf,dd⟩;have cB:Hid (Fa rec ls (nb-0) (AR rec ls (AR 20000 ls 0 0) (AU 20000 ls 0 0)) (AU rec ls (AR 20000 ls 0 0) (AU 20000 ls 0 0)) [] []=Gu ls):=by show _=_;rw[ab.out,c8.out];rfl
 generalize AR rec ls (AR 20000 ls 0 0) (AU 20000 ls 0 0)=a0 at *;generalize AU rec ls (AR 20000 ls 0 0) (AU 20000 ls 0 0)=e0 at *;clear cp Y cS b7 ce cq cu bO;go_wp2_with fail;go_loopw [10] (fun iv wr=>∃ (k at_:Nat) (er:Int) (C S:List Nat) (vc vs:Value),k<=nb/\iv= .int .i64 k/\Hid (C.length=k)/\Hid (S.length=k)/\Hid (DrI w wr gb t (x2 :: x3 :: rest) g ls B d at_ er C S vc vs)/\Hid (Fa rec ls (nb-k) at_ er C S=Gu ls)) (fun iv _=>nb-(intOf iv).toNat)
 case atStart=>exact⟨0,a0,e0,[],[],_,_,nB,rfl,rfl,rfl,cH.out,cB.out⟩
 case round=>
  obtain⟨k,at_,er,C,S,vc,vs,hk,rfl,aq,a6,HI,HG⟩:=hrel;clear cH cB;have zr:=HI.out.kept.size;by_cases bb:k<nb/\er=0
  ·obtain⟨bS,rfl⟩:=bb;have gk:=ja ((k:Int)<nb);have cL:=ja (k<nb);have hG:=HG.out;rw[show nb-k=(nb-(k+1))+1 by omega,Fa,Ae (show ¬((0:Int)≠0) from fun h=>h rfl)]at hG;have bc:=hid (a3.out _ _ _ _ _ _ HI.out.cur);have dh:=al.out rec at_ 0;have D1:=hid (fun wx hx=>DI.out wx g B d at_ 0 rec nB hx);have D2:=hid (fun wx hx=>DI.out wx g B d (AR rec ls at_ 0) (AU rec ls at_ 0) 8388608 nB hx);have dk:=al.out 8388608 (AR rec ls at_ 0) (AU rec ls at_ 0);generalize Bh 8388608 ls (AR rec ls at_ 0) (AU rec ls at_ 0)=s at *;generalize AR 8388608 ls (AR rec ls at_ 0) (AU rec ls at_ 0)=a2 at *;generalize AU 8388608 ls (AR rec ls at_ 0) (AU rec ls at_ 0)=e2 at *;generalize Bh rec ls at_ 0=r at *;generalize AR rec ls at_ 0=a1 at *;generalize AU rec ls at_ 0=e1 at *;have dc:=hid hG;have c0:=HI.out.cs.1;obtain⟨Ac,cc,rfl⟩:=aZ HI.out.oc;obtain⟨p,hp⟩:=jc C.length;have cJ:p=k:=(by rw[hp,aq.out]);rw[<-hp]at c0;have HP:=hid hp;have i:=HI.out.oc;rw[<-hp]at i;have da:=hid i;clear hG HG hp i cJ;go_wp2_with fail;refine bc.out.mono ?_;rintro e w4 ⟨rfl,rfl⟩;have cJ:p<=k:=(by rw[HP.out,aq.out];exact Am _);go_upto_region 7 with fail;go_region_law(first|(go_simp;go_at_call 112;(with_reducible refine(D1.out _ HI.out.cur.drew).mono ?_);rintro e w5 ⟨rfl,ak,ac⟩;have G:=HI.out.call ak ⟨ac.os,ac.tape,ac.output,ac.size,ac.block⟩;have q0:=G.cs.1;rw[<-HP.out]at q0;have ay:=G.oc;rw[<-HP.out]at ay;have z5:=G.kept.size;have q9:=(G.blk.alloc (.cells #[.int .i64 (r:Nat)] 3)).cell 0;simp only[List.getElem?_toArray,List.getElem?_cons_zero,<-HP.out]at q9)|(refine OE rfl (.tmp 33) (.tmp 37) 37 rfl w 3 j0 _ 1 8 underlying37 c7 cy c4 c5 rfl ji (.slice Ac p cc) p (bZ .i64 C) nC (by first|exact ay.alloc _|exact(ay.alloc _).drew) _ 1 1 [.int .i64 (r:Nat)] nC (Src.of_blk (Blk.made_at _ _ _ pR) 1 1 1 rfl) mY qn nB p5 ?_;intro A6 c6 w6 bd b5 bU;have b6:=(G.blk.alloc (.cells #[.int .i64 (r:Nat)] 3)).grown b5 (by rw[HP.out];exact By (iZ G.oc G.blk cf));have r0:=b6.cell 0;have s0:=b6.frozen 0;simp only[List.getElem?_toArray,List.getElem?_cons_zero,<-HP.out]at r0))
   all_goals
    have M:=G.count (x:=r) (cZ (o:= .cells #[.int .i64 (r:Nat)] 3) (Ak w5 w5)) (by rw[<-HP.out];exact b5) (by rw[<-HP.out];exact bd) (by rw[<-HP.out];exact bU);have af:=hid M;obtain⟨As,cs,rfl⟩:=aZ M.os;obtain⟨p2,bC⟩:=jc S.length;have df:p2<=k:=(by rw[bC,a6.out];exact Am _);have bN:=M.os;rw[<-bC]at bN;have cw:=hid bN;have d1:=M.cs.2;rw[<-bC]at d1;have aj:=hid bC;have z6:=M.kept.size;clear G M ak ac bd b5 bU b6 r0 s0 q0 q9 ay bN bC HI c0 D1 da;generalize w6.setCell ⟨gb,0,none⟩ (.slice A6 (p+1) c6)=w7 at *;go_upto_region 8 with fail;go_region_law(first|(go_simp;go_at_call 112;refine(D2.out _ af.out.cur.drew).mono ?_;rintro e w8 ⟨rfl,cx,ba⟩;have ai:=af.out.call cx ⟨ba.os,ba.tape,ba.output,ba.size,ba.block⟩;have q0:=ai.cs.2;rw[<-aj.out]at q0;have a4:=ai.os;rw[<-aj.out]at a4;have z8:=ai.kept.size;have q9:=(ai.blk.alloc (.cells #[.int .i64 (s:Nat)] 3)).cell 1;simp only[List.getElem?_toArray,List.getElem?_cons_zero,List.getElem?_cons_succ,<-aj.out]at q9)|(refine OE rfl (.tmp 45) (.tmp 48) 37 rfl w 3 j0 _ 1 8 underlying37 c7 cy c4 c5 rfl ji (.slice As p2 cs) p2 (bZ .i64 S) nC (by first|exact a4.alloc _|exact(a4.alloc _).drew) _ 1 1 [.int .i64 (s:Nat)] nC (Src.of_blk (Blk.made_at _ _ _ pR) 1 1 1 rfl) mY qn nB p5 ?_;intro A9 c9 w9 bf b4 bX;have b9:=(ai.blk.alloc (.cells #[.int .i64 (s:Nat)] 3)).grown b4 (by rw[aj.out];exact By (iZ ai.os ai.blk cf));have r0:=b9.cell 1;have s0:=b9.frozen 1;simp only[List.getElem?_toArray,List.getElem?_cons_zero,List.getElem?_cons_succ,<-aj.out]at r0))
    all_goals
     have cF:=ai.size (x:=s) (cZ (o:= .cells #[.int .i64 (s:Nat)] 3) (Ak w8 w8)) (by rw[<-aj.out];exact b4) (by rw[<-aj.out];exact bf) (by rw[<-aj.out];exact bX);have de:=hid cF;have cP:Hid ((C++ [r]).length=k+1):=(by show _=_;rw[Aj,aq.out];rfl);have cX:Hid ((S++ [s]).length=k+1):=(by show _=_;rw[Aj,a6.out];rfl);clear ai cF cx ba bf b4 bX b9 r0 s0 q0 q9 a4 af cw d1;generalize w9.setCell ⟨gb,1,none⟩ (.slice A9 (p2+1) c9)=dj at *;go_wp2_with fail;go_roundw
     case measure=>exact ld
     case rel=>go_light;exact⟨k+1,a2,e2,C++ [r],S++ [s], .slice A6 (p+1) c6, .slice A9 (p2+1) c9,nB,jk,cP.out,cX.out,de.out,dc.out⟩
  ·have ae:Hid (Gu ls=(C,S,at_,er)):=by
    have h:=HG.out;by_cases bS:k<nb
    ·rw[XE (fun h=>bb ⟨bS,h⟩)]at h;exact h.symm
    ·rw[show nb-k=0 by omega,Fa]at h;exact h.symm
   have bc:=hid (a3.out _ _ _ _ _ _ HI.out.cur);clear HG;by_cases bS:k<nb
   ·have gk:=ja ((k:Int)<nb);have cL:=ja (k<nb);have cz:er≠0:=fun h=>bb ⟨bS,h⟩;have gE:(er==0)=false:=(by simpa using cz);clear bb cz;go_wp2_with fail;refine bc.out.mono ?_;rintro e w4 ⟨rfl,rfl⟩;have hP:dP ls=Bh 8388608 ls at_ er:=(by unfold dP;rw[ae.out]);have bm:dPA ls=AR 8388608 ls at_ er:=(by unfold dPA;rw[ae.out]);have bi:dPE ls=AU 8388608 ls at_ er:=(by unfold dPE;rw[ae.out]);have hC:Ed ls=C:=(by unfold Ed;rw[ae.out]);have hS:Er ls=S:=(by unfold Er;rw[ae.out]);have D3:=hid (fun wx hx=>DI.out wx g B d at_ er 8388608 nB hx);rw[<-hP,<-bm,<-bi]at D3;have D4:=hid (fun wx hx=>DI.out wx g B d (dPA ls) (dPE ls) 8388608 nB hx);rw[show Bh 8388608 ls (dPA ls) (dPE ls)=dQ ls from rfl]at D4;have D5:=hid (fun wx hx=>a5.out wx g B d (AR 8388608 ls (dPA ls) (dPE ls)) (AU 8388608 ls (dPA ls) (dPE ls)) hx);rw[show GV ls (AR 8388608 ls (dPA ls) (dPE ls)) (AU 8388608 ls (dPA ls) (dPE ls))=dE ls from rfl]at D5;have cd:dP ls<=8388608:=(by rw[hP];exact al.out _ _ _);have cm:dQ ls<=8388608:=al.out _ _ _;have hr:=HR.out;unfold Gs at hr;rw[hC,hS]at hr;have ci:=hid hC;have cl:=hid hS;have bF:∀x∈C,x<=rec:=fun x hx=>by have h:=a9.out.1 x (show x∈Ed ls by rw[hC];exact hx);rw[ab.out];exact h
    have bn:∀x∈S,x<=8388608:=fun x hx=>a9.out.2 x (show x∈Er ls by rw[hS];exact hx);have bM:C.length<=20000:=oW;have bh:S.length<=20000:=(by rw[a6.out];omega);have bp:C.sum<=1000000000000000:=Bm (LI C rec bF) (Bm (Hh bM az) ji);have cg:S.sum<=500000000000000:=Bm (LI S 8388608 bn) (Bm (GG _ bh) ji);rw[<-ab.out]at hr;obtain⟨P,au⟩:=jc (dP ls);obtain⟨Q,an⟩:=jc (dQ ls);obtain⟨E,hE2⟩:=jc (dE ls);rw[<-au]at D3 cd hr;rw[<-an]at D4 cm hr;have b1:=hid au.symm;have b8:=hid an.symm;rw[<-hE2]at D5 hr;generalize dPA ls=pa at *;generalize dPE ls=pe at *;generalize AR 8388608 ls pa pe=qa at *;generalize AU 8388608 ls pa pe=qe at *;obtain⟨k2,L⟩:=jc C.length;obtain⟨k3,Y⟩:=jc S.length;have i:=HI.out.oc;have U:=HI.out.os;rw[<-L]at i bM;rw[<-Y]at U bh;obtain⟨Ac,cc,rfl⟩:=aZ i;obtain⟨As,cs,rfl⟩:=aZ U;have bu:=hid L;have bl:=hid Y;have N:=hid hr;have bg:=hid (fun wx (h:wx.ownsRow w 3 1 (.slice Ac k2 cc) k2 (bZ .i64 C))=>RV wx Ac k2 cc C L.symm nB (own_ints h L.symm));have ar:=hid (fun wx (h:wx.ownsRow w 3 1 (.slice Ac k2 cc) k2 (bZ .i64 C))=>Lf wx Ac k2 cc C L.symm nB bp (own_ints h L.symm));have ax:=hid (fun wx (h:wx.ownsRow w 3 1 (.slice As k3 cs) k3 (bZ .i64 S))=>Lf wx As k3 cs S Y.symm nB nB (own_ints h Y.symm));obtain⟨CS,am⟩:=jc C.sum;obtain⟨SS,av⟩:=jc S.sum;rw[<-am]at ar bp;rw[<-av]at ax cg;have bq:=hid am;have bG:=hid av;clear hP bm bi hC hS hr HR ae bF bn au an hE2 L Y am av i U cT a9 ab al DI a5 a3 bc aq a6;go_wp2_with fail;refine(D3.out _ HI.out.cur).mono ?_;rintro e w5 ⟨rfl,ak,ac⟩;have G:=HI.out.call ak ac;have b2:=G.blk.iy 2;have f2:=G.blk.frozen 2;have aw:Hid (DrI w (w5.setCell ⟨gb,2,none⟩ (.int .i64 (P:Nat))) gb t (.int .i64 (P:Nat) :: x3 :: rest) g ls B d pa pe C S (.slice Ac C.length cc) (.slice As S.length cs)):=(by rw[<-bu.out,<-bl.out];exact G.third);clear ak ac G D3 HI;go_wp2_with fail;refine(D4.out _ aw.out.cur).mono ?_;rintro e w6 ⟨rfl,bk,bt⟩;have M:=aw.out.call bk bt;have b3:=M.blk.iy 3;have f3:=M.blk.frozen 3;have af:=hid (M.fourth (u:= .int .i64 (Q:Nat)));clear bk bt M D4 aw b2 f2;go_wp2_with fail;refine(D5.out _ af.out.cur).mono ?_;rintro e w7 ⟨rfl,be,aa⟩;have j:=af.out.call be ⟨aa.os,aa.tape,aa.output,aa.size,fun x hx=>aa.block x hx.2⟩;have J:=hid j;clear be aa D5 af b3 f3;by_cases hE:E=0
    ·subst hE;have hr:=N.out;rw[Ae (show ¬((0:Int)≠0) from fun h=>h rfl)]at hr;have c0:=j.blk.iy 0;have c1:=j.blk.iy 1;have c2:=j.blk.iy 2;have c3:=j.blk.iy 3;have i:=j.oc;have U:=j.os;rw[<-bu.out]at i c0;rw[<-bl.out]at U c1;have E0:Hid (∀q,Calls prog 115 #[.slice Ac k2 cc,jd] (w7.drewN q) fun e w'=>e= .returned (.bool (decide (0∈C)))/\w'=w7.drewN q):=fun q=>bg.out _ (eZ i (fun y _=>rfl));have E1:Hid (∀q,Calls prog 64 #[.slice Ac k2 cc] (w7.drewN q) fun e w'=>e= .returned (.int .i64 (CS:Nat))/\w'=w7.drewN q):=fun q=>ar.out _ (eZ i (fun y _=>rfl));have E2:Hid (∀q,Calls prog 64 #[.slice As k3 cs] (w7.drewN q) fun e w'=>e= .returned (.int .i64 (SS:Nat))/\w'=w7.drewN q):=fun q=>ax.out _ (eZ U (fun y _=>rfl));clear j i U bg ar ax;by_cases hz:0∈C
     ·have HF:Hid (R=2):=(by rw[Ag (.inl hz)]at hr;exact hr);rw[AQ hz]at E0;clear hz hr N;go_wp2_with fail;go_quiet (first|(go_at_call 115;(with_reducible exact Dn (E0.out _)))|(go_at_call 64;first|(with_reducible exact Dn (E1.out _))|(with_reducible exact Dn (E2.out _))));go_wp2_with fail;go_ret;rw[HF.out];exact⟨rfl,J.out.kept.drewN _,fun h=>absurd h ji⟩
     ·rw[AV hz]at E0;by_cases h2:CS=rec
      ·have gn:((CS:Int) != (rec:Int))=false:=(by rw[h2];simp);have s1:IntKind.i64.wrap ((SS:Int)+(P:Int))=((SS+P:Nat):Int):=nX;have s2:IntKind.i64.wrap (((SS+P:Nat):Int)+(Q:Int))=((SS+P+Q:Nat):Int):=nX;have bj:IntKind.i64.wrap ((SS:Int)+(P:Int)+(Q:Int))=((SS+P+Q:Nat):Int):=nX;by_cases h3:SS+P+Q=Z
       ·have g3:(((SS+P+Q:Nat):Int) != (Z:Int))=false:=by rw[h3];simp
        have HF:Hid (R=0):=by
         rw[Ae (fun h=>by
          rcases h with h|h|h
          ·exact hz h
          ·exact h nI
          ·exact h nH)]at hr
         exact hr
        obtain⟨TT,ag⟩:=jc (SS+P+Q);rw[<-ag]at s2 bj g3;clear hz h2 h3 ag hr N;go_wp2_with fail;go_quiet (first|(go_at_call 115;(with_reducible exact Dn (E0.out _)))|(go_at_call 64;first|(with_reducible exact Dn (E1.out _))|(with_reducible exact Dn (E2.out _))));go_wp2_with fail;go_ret;rw[HF.out,b1.out,b8.out,ci.out,cl.out];exact⟨rfl,J.out.kept.drewN _,fun _=>⟨_,_,J.out.blk.drewN _,eZ J.out.oc (fun y _=>rfl),eZ J.out.os (fun y _=>rfl),J.out.ap⟩⟩
       ·have g3:(((SS+P+Q:Nat):Int) != (Z:Int))=true:=oX;have HF:Hid (R=2):=nP;obtain⟨TT,ag⟩:=jc (SS+P+Q);rw[<-ag]at s2 bj g3;clear hz h2 h3 ag hr N;go_wp2_with fail;go_quiet (first|(go_at_call 115;(with_reducible exact Dn (E0.out _)))|(go_at_call 64;first|(with_reducible exact Dn (E1.out _))|(with_reducible exact Dn (E2.out _))));go_wp2_with fail;go_ret;rw[HF.out];exact⟨rfl,J.out.kept.drewN _,fun h=>absurd h ji⟩
      ·have gn:((CS:Int) != (rec:Int))=true:=oX;have HF:Hid (R=2):=nO;clear hz h2 hr N;go_wp2_with fail;go_quiet (first|(go_at_call 115;(with_reducible exact Dn (E0.out _)))|(go_at_call 64;first|(with_reducible exact Dn (E1.out _))|(with_reducible exact Dn (E2.out _))));go_wp2_with fail;go_ret;rw[HF.out];exact⟨rfl,J.out.kept.drewN _,fun h=>absurd h ji⟩
    ·have gE:(E != 0)=true:=(by simpa using hE);have HF:Hid (R=E):=(by have h:=N.out;rw[Ag hE]at h;exact h);have cj:=hid hE;clear hE N j;go_wp2_with fail;go_ret;rw[HF.out];exact⟨rfl,J.out.kept,fun h=>absurd h cj.out⟩
   ·have gk:=jb ((k:Int)<nb);have cL:=jb (k<nb);clear bb;obtain⟨w4,rfl⟩:=jc wr;have hP:dP ls=Bh 8388608 ls at_ er:=(by unfold dP;rw[ae.out]);have bm:dPA ls=AR 8388608 ls at_ er:=(by unfold dPA;rw[ae.out]);have bi:dPE ls=AU 8388608 ls at_ er:=(by unfold dPE;rw[ae.out]);have hC:Ed ls=C:=(by unfold Ed;rw[ae.out]);have hS:Er ls=S:=(by unfold Er;rw[ae.out]);have D3:=hid (fun wx hx=>DI.out wx g B d at_ er 8388608 nB hx);rw[<-hP,<-bm,<-bi]at D3;have D4:=hid (fun wx hx=>DI.out wx g B d (dPA ls) (dPE ls) 8388608 nB hx);rw[show Bh 8388608 ls (dPA ls) (dPE ls)=dQ ls from rfl]at D4;have D5:=hid (fun wx hx=>a5.out wx g B d (AR 8388608 ls (dPA ls) (dPE ls)) (AU 8388608 ls (dPA ls) (dPE ls)) hx);rw[show GV ls (AR 8388608 ls (dPA ls) (dPE ls)) (AU 8388608 ls (dPA ls) (dPE ls))=dE ls from rfl]at D5;have cd:dP ls<=8388608:=(by rw[hP];exact al.out _ _ _);have cm:dQ ls<=8388608:=al.out _ _ _;have hr:=HR.out;unfold Gs at hr;rw[hC,hS]at hr;have ci:=hid hC;have cl:=hid hS;have bF:∀x∈C,x<=rec:=fun x hx=>by have h:=a9.out.1 x (show x∈Ed ls by rw[hC];exact hx);rw[ab.out];exact h
    have bn:∀x∈S,x<=8388608:=fun x hx=>a9.out.2 x (show x∈Er ls by rw[hS];exact hx);have bM:C.length<=20000:=oW;have bh:S.length<=20000:=(by rw[a6.out];omega);have bp:C.sum<=1000000000000000:=Bm (LI C rec bF) (Bm (Hh bM az) ji);have cg:S.sum<=500000000000000:=Bm (LI S 8388608 bn) (Bm (GG _ bh) ji);rw[<-ab.out]at hr;obtain⟨P,au⟩:=jc (dP ls);obtain⟨Q,an⟩:=jc (dQ ls);obtain⟨E,hE2⟩:=jc (dE ls);rw[<-au]at D3 cd hr;rw[<-an]at D4 cm hr;have b1:=hid au.symm;have b8:=hid an.symm;rw[<-hE2]at D5 hr;generalize dPA ls=pa at *;generalize dPE ls=pe at *;generalize AR 8388608 ls pa pe=qa at *;generalize AU 8388608 ls pa pe=qe at *;obtain⟨k2,L⟩:=jc C.length;obtain⟨k3,Y⟩:=jc S.length;have i:=HI.out.oc;have U:=HI.out.os;rw[<-L]at i bM;rw[<-Y]at U bh;obtain⟨Ac,cc,rfl⟩:=aZ i;obtain⟨As,cs,rfl⟩:=aZ U;have bu:=hid L;have bl:=hid Y;have N:=hid hr;have bg:=hid (fun wx (h:wx.ownsRow w 3 1 (.slice Ac k2 cc) k2 (bZ .i64 C))=>RV wx Ac k2 cc C L.symm nB (own_ints h L.symm));have ar:=hid (fun wx (h:wx.ownsRow w 3 1 (.slice Ac k2 cc) k2 (bZ .i64 C))=>Lf wx Ac k2 cc C L.symm nB bp (own_ints h L.symm));have ax:=hid (fun wx (h:wx.ownsRow w 3 1 (.slice As k3 cs) k3 (bZ .i64 S))=>Lf wx As k3 cs S Y.symm nB nB (own_ints h Y.symm));obtain⟨CS,am⟩:=jc C.sum;obtain⟨SS,av⟩:=jc S.sum;rw[<-am]at ar bp;rw[<-av]at ax cg;have bq:=hid am;have bG:=hid av;clear hP bm bi hC hS hr HR ae bF bn au an hE2 L Y am av i U cT a9 ab al DI a5 a3 bc aq a6;go_wp2_with fail;refine(D3.out _ HI.out.cur).mono ?_;rintro e w5 ⟨rfl,ak,ac⟩;have G:=HI.out.call ak ac;have b2:=G.blk.iy 2;have f2:=G.blk.frozen 2;have aw:Hid (DrI w (w5.setCell ⟨gb,2,none⟩ (.int .i64 (P:Nat))) gb t (.int .i64 (P:Nat) :: x3 :: rest) g ls B d pa pe C S (.slice Ac C.length cc) (.slice As S.length cs)):=(by rw[<-bu.out,<-bl.out];exact G.third);clear ak ac G D3 HI;go_wp2_with fail;refine(D4.out _ aw.out.cur).mono ?_;rintro e w6 ⟨rfl,bk,bt⟩;have M:=aw.out.call bk bt;have b3:=M.blk.iy 3;have f3:=M.blk.frozen 3;have af:=hid (M.fourth (u:= .int .i64 (Q:Nat)));clear bk bt M D4 aw b2 f2;go_wp2_with fail;refine(D5.out _ af.out.cur).mono ?_;rintro e w7 ⟨rfl,be,aa⟩;have j:=af.out.call be ⟨aa.os,aa.tape,aa.output,aa.size,fun x hx=>aa.block x hx.2⟩;have J:=hid j;clear be aa D5 af b3 f3;by_cases hE:E=0
    ·subst hE;have hr:=N.out;rw[Ae (show ¬((0:Int)≠0) from fun h=>h rfl)]at hr;have c0:=j.blk.iy 0;have c1:=j.blk.iy 1;have c2:=j.blk.iy 2;have c3:=j.blk.iy 3;have i:=j.oc;have U:=j.os;rw[<-bu.out]at i c0;rw[<-bl.out]at U c1;have E0:Hid (∀q,Calls prog 115 #[.slice Ac k2 cc,jd] (w7.drewN q) fun e w'=>e= .returned (.bool (decide (0∈C)))/\w'=w7.drewN q):=fun q=>bg.out _ (eZ i (fun y _=>rfl));have E1:Hid (∀q,Calls prog 64 #[.slice Ac k2 cc] (w7.drewN q) fun e w'=>e= .returned (.int .i64 (CS:Nat))/\w'=w7.drewN q):=fun q=>ar.out _ (eZ i (fun y _=>rfl));have E2:Hid (∀q,Calls prog 64 #[.slice As k3 cs] (w7.drewN q) fun e w'=>e= .returned (.int .i64 (SS:Nat))/\w'=w7.drewN q):=fun q=>ax.out _ (eZ U (fun y _=>rfl));clear j i U bg ar ax;by_cases hz:0∈C
     ·have HF:Hid (R=2):=(by rw[Ag (.inl hz)]at hr;exact hr);rw[AQ hz]at E0;clear hz hr N;go_wp2_with fail;go_quiet (first|(go_at_call 115;(with_reducible exact Dn (E0.out _)))|(go_at_call 64;first|(with_reducible exact Dn (E1.out _))|(with_reducible exact Dn (E2.out _))));go_wp2_with fail;go_ret;rw[HF.out];exact⟨rfl,J.out.kept.drewN _,fun h=>absurd h ji⟩
     ·rw[AV hz]at E0;by_cases h2:CS=rec
      ·have gn:((CS:Int) != (rec:Int))=false:=(by rw[h2];simp);have s1:IntKind.i64.wrap ((SS:Int)+(P:Int))=((SS+P:Nat):Int):=nX;have s2:IntKind.i64.wrap (((SS+P:Nat):Int)+(Q:Int))=((SS+P+Q:Nat):Int):=nX;have bj:IntKind.i64.wrap ((SS:Int)+(P:Int)+(Q:Int))=((SS+P+Q:Nat):Int):=nX;by_cases h3:SS+P+Q=Z
       ·have g3:(((SS+P+Q:Nat):Int) != (Z:Int))=false:=by rw[h3];simp
        have HF:Hid (R=0):=by
         rw[Ae (fun h=>by
          rcases h with h|h|h
          ·exact hz h
          ·exact h nI
          ·exact h nH)]at hr
         exact hr
        obtain⟨TT,ag⟩:=jc (SS+P+Q);rw[<-ag]at s2 bj g3;clear hz h2 h3 ag hr N;go_wp2_with fail;go_quiet (first|(go_at_call 115;(with_reducible exact Dn (E0.out _)))|(go_at_call 64;first|(with_reducible exact Dn (E1.out _))|(with_reducible exact Dn (E2.out _))));go_wp2_with fail;go_ret;rw[HF.out,b1.out,b8.out,ci.out,cl.out];exact⟨rfl,J.out.kept.drewN _,fun _=>⟨_,_,J.out.blk.drewN _,eZ J.out.oc (fun y _=>rfl),eZ J.out.os (fun y _=>rfl),J.out.ap⟩⟩
       ·have g3:(((SS+P+Q:Nat):Int) != (Z:Int))=true:=oX;have HF:Hid (R=2):=nP;obtain⟨TT,ag⟩:=jc (SS+P+Q);rw[<-ag]at s2 bj g3;clear hz h2 h3 ag hr N;go_wp2_with fail;go_quiet (first|(go_at_call 115;(with_reducible exact Dn (E0.out _)))|(go_at_call 64;first|(with_reducible exact Dn (E1.out _))|(with_reducible exact Dn (E2.out _))));go_wp2_with fail;go_ret;rw[HF.out];exact⟨rfl,J.out.kept.drewN _,fun h=>absurd h ji⟩
      ·have gn:((CS:Int) != (rec:Int))=true:=oX;have HF:Hid (R=2):=nO;clear hz h2 hr N;go_wp2_with fail;go_quiet (first|(go_at_call 115;(with_reducible exact Dn (E0.out _)))|(go_at_call 64;first|(with_reducible exact Dn (E1.out _))|(with_reducible exact Dn (E2.out _))));go_wp2_with fail;go_ret;rw[HF.out];exact⟨rfl,J.out.kept.drewN _,fun h=>absurd h ji⟩
    ·have gE:(E != 0)=true:=(by simpa using hE);have HF:Hid (R=E):=(by have h:=N.out;rw[Ag hE]at h;exact h);have cj:=hid hE;clear hE N j;go_wp2_with fail;go_ret;rw[HF.out];exact⟨rfl,J.out.kept,fun h=>absurd h cj.out⟩
end Body
namespace Body
open Go.RowKit Mem Own Canon Recs Idx
open Go.Proofs.YtfgdoknipbpfhaaGreatDoor.One (FrsAt FrsAt.step FrsAt.grown FrsAt.snoc Gv)
open NumPut
open Ef (Cd P0)
structure MSt (base db:Nat) (vG pv vS:Value) (ps:List Part) (W:World):Prop where
 dir:Blk W db 87 #[vG,vS,jd,jd]
 pr:W.ownsRow base 28 1 pv ps.length (ps.map Part.v)
 fr:FrsAt W base ps
 sr:W.ownsRow base 3 1 vS ps.length (bZ .i64 (ps.map fun p=>p.ls.length))
 gb:base<=db
section
variable {base db:Nat} {vG pv vS pv' vS':Value} {ps:List Part} {W w' w8 w9:World} {p:Part} {o1 o2:Obj}
theorem MSt.step(h:MSt base db vG pv vS ps W)(b:Below W W w'):MSt base db vG pv vS ps w':=
 ⟨h.dir.step b,eZ h.pr fun y hy=>b.block y (Ai h.pr y hy).2,h.fr.step b,eZ h.sr fun y hy=>b.block y (Ai h.sr y hy).2,h.gb⟩
theorem MSt.stores(h:MSt base db vG pv vS ps W)(x y:Value):
 Blk ((W.setCell ⟨db,2,none⟩ x).setCell ⟨db,3,none⟩ y) db 87 #[vG,vS,x,y]/\Below base W ((W.setCell ⟨db,2,none⟩ x).setCell ⟨db,3,none⟩ y)/\
  ∀ {b s n:Nat} {e:TypeId} {v:Value} {xs:List Value},W.ownsRow b e s v n xs->e≠87->((W.setCell ⟨db,2,none⟩ x).setCell ⟨db,3,none⟩ y).ownsRow b e s v n xs:=by
 refine⟨by simpa using (h.dir.set 2 x).set 3 y,((Ak base W).setCell (p:=⟨db,2,none⟩) h.gb _).setCell (p:=⟨db,3,none⟩) h.gb _,fun ho hne=> ?_⟩;refine eZ ho fun z hz=> ?_;have hd:z≠db:=fun e=>iZ ho h.dir hne (by rw[hz,e]);exact(Be _ _ _ z hd).trans (Be _ _ _ z hd)
end
theorem Ue:∀ (l:List Str) (i:Str),(∀s∈l,i<s)->(∀s∈l,1<=s.length/\s.length<=25)->Fj l->Cv i l=true
 | [],_,_,_,_=>rfl
 |s :: t,i,h,hs,hr=>by obtain⟨h1,h2⟩:=FN.1 hr;rw[Cv,Ch];refine⟨?_,Ue t s h1 (fun x hx=>hs x (Cm _ hx)) h2⟩;unfold Dh;rw[Ch,Ch,decide_eq_true_iff,decide_eq_true_iff,decide_eq_true_iff];exact⟨(hs s CP).1,(hs s CP).2,h s CP⟩
theorem T4{l:List Rec}{s:Str}(h:s∈AW (l.map jZ)):1<=s.length/\s.length<=25:=by obtain⟨t,ht,hs⟩:=(SX s _).1 h;obtain⟨r,_,rfl⟩:=Cl.1 ht;exact TP hs
theorem Ld{l:List Rec}(h:(AW (l.map jZ)).length<=1048576):EC (AW (l.map jZ))=true:=by
 unfold EC;rw[Ch];refine⟨Ue _ _ (fun s hs=> ?_) (fun s hs=>T4 hs) (QH _),AQ h⟩;have:=(T4 hs).1;cases s with
 |nil=>simp at this
 |cons x t=>exact List.nil_lt_cons x t
theorem Za(ts:List (List Str))(u:Str):Cd ts.length none (BP ts u)=true:=by
 refine P0 _ _ none (fun x hx=> ?_) ?_ (fun y hy=>by cases hy)
 ·unfold BP at hx;exact FA.1 (List.mem_filter.1 hx).1
 ·unfold BP;exact List.Pairwise.filter _ List.pairwise_lt_range
theorem Kx(l:List Rec):CV l.length ((AW (l.map jZ)).map (BP (l.map jZ)))=true/\∀x∈(AW (l.map jZ)).map (BP (l.map jZ)),x≠ []/\x.length<=l.length:=by
 refine⟨EL.2 fun x hx=> ?_,fun x hx=> ?_⟩
 ·obtain⟨u,_,rfl⟩:=Cl.1 hx;have:=Za (l.map jZ) u;rw[Bk]at this;exact this
 ·obtain⟨u,hu,rfl⟩:=Cl.1 hx;have h2:=LZ (l.map jZ) u;rw[Bk]at h2;exact⟨(NM _ u).1 hu,h2⟩
theorem RJ(s:Str):∀x∈Dt s,x<=255:=fun x h=>by
 unfold Dt H3 at h;rcases Bx.1 h with h|h
 ·exact Ev _ x h
 ·obtain⟨c,_,rfl⟩:=Cl.1 h;have:=c.toNat_lt;omega
theorem Rs:∀ (t:List Str) (i:Str),∀x∈EF i t,x<=255
 | [],_,x,h=>by simp[EF]at h
 |s :: t,i,x,h=>by
  rw[EF]at h;simp only[List.mem_append]at h;rcases h with (h|h)|h
  ·exact Ev _ x h
  ·exact RJ _ x h
  ·exact Rs t s x h
theorem dV(l:List Str):∀x∈vZ l,x<=255:=fun x h=>by
 cases l with
 |nil=>simp[vZ]at h
 |cons s t=>
  rw[vZ]at h;rcases Bx.1 h with h|h
  ·exact RJ _ x h
  ·exact Rs t s x h
theorem Rb(size:Nat)(l:List Str):∀x∈CO size l,x<=255:=fun x h=>by
 unfold CO at h;simp only[List.mem_append,List.mem_flatMap]at h;rcases h with (h|⟨c,_,h⟩)|⟨c,_,h⟩
 ·exact Ev _ x h
 ·exact Ev _ x h
 ·exact dV _ x h
theorem RC(bound:Nat)(l:List Nat):∀x∈Ef.efO bound l,x<=255:=fun x h=>by
 unfold Ef.efO at h;split at h
 ·exact Ev _ x h
 ·rcases Bx.1 h with h|h
  ·exact Ev _ x h
  ·obtain⟨k,_,rfl⟩:=Cl.1 h;exact Huff.Of _ k
theorem gD(o:Opts.Opt)(l:List Rec):∀x∈ixR o l,x<=255:=fun x h=>by
 unfold ixR ixO BI at h;rcases Bx.1 h with h|h
 ·exact Rb _ _ x h
 ·obtain⟨c,_,h⟩:=List.mem_flatMap.1 h;exact RC _ _ x h
theorem JD{o:Opts.Opt}(h:Opts.De o=0):16<=o.block/\o.block<=32768/\1<=o.bucket/\o.bucket<=64:=by
 unfold Opts.De Opts.GP at h;split at h
 ·rename_i hc;exact⟨hc.1.1,hc.1.2,hc.2.1.1,hc.2.1.2⟩
 ·cases h
end Body
namespace Body
open Recs Idx Opts
open NumPut (gZ sZ)
open Ef (efO Cd FU Ht Ho efW)
open Huff (bytesOf_length)
theorem QX{bound:Nat}(hb:bound<=20000)(hm:Cd bound none l=true)(h0:l≠ [])(hn:l.length<=bound):(efO bound l).length<=10+(3*bound+7) / 8:=by
 have h1:1<=l.length:=FW.2 h0;have hq:1<=bound / l.length:=(Nat.one_le_div_iff nB).2 hn;have hW:l.length*efW bound l.length<=bound:=lq
 have i:=Ht (efW bound l.length) l;have E:=Ho bound l none hm;have hp:=(Nk bound l none hm).1;have j:=Nn (l.map (·/ 2 ^ efW bound l.length)) 0 bound (Da _) (fun x hx=>by obtain⟨y,hy,rfl⟩:=Cl.1 hx;exact⟨Da _,Bm (ID _ _) (by have:=E y hy;omega)⟩) (List.Pairwise.map _ (fun a b h=>Nat.div_le_div_right h) hp);rw[Bk]at j;have G:=sZ (x:=l.length) nB;unfold efO;rw[Ae h0,Aj,bytesOf_length];unfold FU;rw[Aj,i];omega
theorem MD{bound C:Nat}:∀ {ls:List (List Nat)},(∀x∈ls,(efO bound x).length<=C)->(BI bound ls).length<=C*ls.length
 | [],_=>by simp[BI]
 |x :: t,h=>by have ih:=MD (ls:=t) (fun y hy=>h y (Cm _ hy));have hx:=h x CP;unfold BI at ih ⊢;rw[Dm,Aj,AI,Nat.mul_add];omega
theorem Lm(ts:List (List Str)):(AW ts).length<=(ts.map List.length).sum:=by
 have h:∀ (ts:List (List Str)) (i:List Str),(ts.foldl Bg i).length<=i.length+(ts.map List.length).sum:=fun ts=>by
  induction ts with
  |nil=>intro i;simp
  |cons t ts ih=>intro i;have h1:=ih (Bg i t);have h2:=Mc t i;rw[List.foldl_cons,CE,GH];omega
 have:=h ts [];simpa[AW]using this
theorem Ke:∀l:List Rec,((((l.map jZ).map List.length).sum:Nat):Int)<=Bq l
 | []=>by simp[KU]
 |r :: l=>by
  have ih:=Ke l;have e:Bq (r :: l)=weigh r+Bq l:=pV
  have h:=Oa r.text.data.toList r.source.data.toList;have h1:r.text.data.toList.length=r.text.size:=Array.length_toList;have h2:r.source.data.toList.length=r.source.size:=Array.length_toList;rw[h1,h2]at h;rw[CE,CE,GH,e];have h3:(jZ r).length<=r.text.size+r.source.size:=h;unfold weigh;omega
theorem YR{o:Opt}{l:List Rec}{n:Nat}(hn:l.length=n)(h1:(n:Int)<=30)(h2:Bq l<=1500):(AW (l.map jZ)).length<=20000/\(De o=0->(ixR o l).length<=99000):=by
 have hT:(AW (l.map jZ)).length<=1500:=by have a:=Lm (l.map jZ);have b:=Ke l;omega
 refine⟨nB,fun ho=> ?_⟩;obtain⟨_,_,E,j⟩:=JD ho;have h:=Kx l;have i:=Ld (l:=l) nB;have hs:∀s∈AW (l.map jZ),s.length<=25:=fun s hs=>(IN i s hs).2;have a:=Lp hs (size:=o.bucket.toNat) nB nB (nCh o.bucket.toNat (AW (l.map jZ)).length);have b:=Mk hs (size:=o.bucket.toNat) nB (nCh o.bucket.toNat (AW (l.map jZ)).length);have c:=Nm (size:=o.bucket.toNat) (n:=(AW (l.map jZ)).length) nB;have d:=MD (bound:=l.length) (C:=22) (ls:=(AW (l.map jZ)).map (BP (l.map jZ))) (fun x hx=>by have h3:=h.2 x hx;have h4:=QX (bound:=l.length) (l:=x) nB (EL.1 h.1 x hx) h3.1 h3.2;omega);rw[Bk]at d;have e:CO o.bucket.toNat (AW (l.map jZ))=hdB o.bucket.toNat (AW (l.map jZ)) (nCh o.bucket.toNat (AW (l.map jZ)).length)++bdB o.bucket.toNat (AW (l.map jZ)) (nCh o.bucket.toNat (AW (l.map jZ)).length):=Mq nB _;unfold ixR ixO;rw[Aj,e,Aj];omega
end Body
namespace Body
open Go.RowKit Mem Own Canon NumPut Crc
open Recs Opts
open Block (Cs Im wZ)
open Go.Proofs.YtfgdoknipbpfhaaGreatDoor.One (FrsAt FrsAt.step FrsAt.grown FrsAt.snoc Gv Hn Na NE IW)
def Nl(pl:Bool)(G:List Nat)(l:List Rec)(w:World)(e:Ending)(w':World):Prop:=
 ∃v vG ps,e= .returned (.tuple #[v,vG])/\w'.ownsRow w 28 1 v (BV false pl G l).length (ps.map Part.v)/\FrsAt w' w ps/\ps.map Part.ls=BV false pl G l/\w'.ownsRow w 3 1 vG G.length (bZ .i64 G)/\Below w w w'
theorem aN(w:World)(o:Opt)(A:Option Addr)(n c:Nat)(l:List Rec)(ho:De o=0)(hn:l.length=n)(hN:n<=1000)(hc:n<=c)(a1:∀r∈l,CA r)(hk:DQ l=0)(hb:(Bi false l).length<=16000)(ht:TabAt w)(ha:Row w w A n 4 (Cp l)):
 Calls prog 26 #[o.val, .slice A n c] w (Nl o.plain (tZ o l) l w):=by
 obtain⟨j0,cm,b5,cj,cl⟩:=info_parts IW;have M:=Hn hk;obtain⟨b9,b3,_,_⟩:=JD ho;have bh:=Jc o l;have bG:=Je o l;have ba:∀x∈tZ o l,1<=x:=One.Lu _ _;rw[hn]at bh;obtain⟨blk,pl,bu,da,pa,ch⟩:=o;simp only at b9 b3;obtain⟨S,rfl⟩:=If (show 0<=blk by omega);have D3:=hid (fun wx (hx:Below w w wx)=>WQ wx S false A n c l nB nB hn nB a1 M ((ha.below hx).mono hx.size));unfold JL at D3;have be:Fo S (Eb false l)=tZ ⟨(S:Nat),pl,bu,da,pa,ch⟩ l:=rfl;rw[be]at D3;unfold Nl Opt.val;simp only;generalize tZ ⟨(S:Nat),pl,bu,da,pa,ch⟩ l=G at *;rw[JM];obtain⟨g,hg⟩:=jc G.length;rw[<-hg]at bh D3 ⊢;have bt:=hid hg;have b1:=hid bG;have co:=hid ba;have HT:=hid ht;have bm:=hid a1;have b8:=hid M;have HN:=hid hn;obtain⟨FR,ax⟩:=jc (BV false pl G l);have b7:=hid ax;rw[<-ax];clear ho hk be hg bG ba ht a1 M ax;go_enter func26,ntmps26;go_wp2_with fail;have bp:Blk (w.alloc (.cells #[S,pl,bu,da,pa,ch] 23)) w 23 #[S,pl,bu,da,pa,ch]:=Blk.made _ _ _;have ag:Below w w (w.alloc (.cells #[S,pl,bu,da,pa,ch] 23)):=cZ (Ak _ _);have bU:(w.alloc (.cells #[S,pl,bu,da,pa,ch] 23)).heap.size=w.heap.size+1:=pR
 generalize w.alloc (.cells #[S,pl,bu,da,pa,ch] 23)=wa at *;have cp:w.heap.size<wa.heap.size:=nB
 have a4:Hid (w.heap.size<=wa.heap.size):=pE
 have HS:Hid (∀wx,Below wa wa wx->wx.cell? ⟨w,1,none⟩=some (.bool pl)):=fun wx h=>(bp.step h).cell 1;have bS:Hid (∀wx,Below wa wa wx->Below w w wx):=fun wx h=>ag.trans (h.mono ag.size);have E3:=hid (D3.out wa ag);clear bp ag bU D3;refine E3.out.mono ?_;rintro e w4 ⟨vG,rfl,au,ab⟩;obtain⟨AG,cG,rfl⟩:=aZ au;have B4:Hid (Below wa wa w4):=ab;have N:=hid au;have a3:Hid (∀wx,Below w4 w4 wx->wx.cell? ⟨w,1,none⟩=some (.bool pl)):=fun wx h=>HS.out wx (dZ h B4.out);have E:Hid (Below w w w4):=bS.out _ B4.out;clear ab au E3;go_wp2_with fail;go_loopw [7,8,9] (fun ov av iv wx=>∃ (k at_:Nat) (ps:List Part),k<=g/\at_<=n/\iv= .int .i64 k/\av= .int .i64 at_/\Hid (ps.map Part.ls++BV false pl (G.drop k) (l.drop at_)=FR)/\Hid (ps.length=k)/\Hid (at_+(G.drop k).sum=n)/\Hid (wx.ownsRow w4 28 1 ov k (ps.map Part.v))/\Hid (FrsAt wx w4 ps)/\Hid (Below w4 w4 wx)) (fun _ _ iv _=>g-(intOf iv).toNat)
 case atStart=>exact⟨0,0,[],nB,nB,rfl,rfl,b7.out.symm,rfl,by show _=_;rw[Ie,b1.out,HN.out];omega,AE _ _ _ _,(fun p hp=>by cases hp),Ak _ _⟩
 case round=>
  obtain⟨k,at_,ps,cv,cq,rfl,rfl,HF,cf,bb,HO,bq,HB⟩:=hrel;have hz:=HB.out.size;by_cases Y:k<g
  ·have aj:k<G.length:=(by rw[<-bt.out];exact Y);obtain⟨m,hm⟩:=jc (G[k]);have bn:G.drop k=m :: G.drop (k+1):=(by rw[hm];exact Dx aj);have aq:=bb.out;have hf:=HF.out;rw[bn]at aq hf;rw[GH]at aq;rw[BV,List.drop_drop]at hf;have J:Hid (wr.ownsRow wa 3 1 (.slice AG g cG) g (bZ .i64 G)):=eZ N.out (fun y hy=>HB.out.block y (Ai N.out y hy).2);obtain⟨gb,gc,ci,ct,_⟩:=J.out.form nB;injection ci with e1 e2 e3;subst e1 e3;have cg:wr.cell? ⟨gb,k,none⟩=some (.int .i64 (m:Nat)):=(by rw[(Lz.own_cells J.out Y).1];simp[bZ,List.getElem?_eq_getElem aj,hm]);have az:Hid (∀wx,Below wr wr wx->wx.cell? ⟨gb,k,none⟩=some (.int .i64 (m:Nat))):=fun wx h=>by have h2:wx.ownsRow wa 3 1 (.slice (some ⟨gb,0,none⟩) g cG) g (bZ .i64 G):=eZ J.out (fun y hy=>h.block y (Ai J.out y hy).2);rw[(Lz.own_cells h2 Y).1];simp[bZ,List.getElem?_eq_getElem aj,hm]
   have ay:at_+m<=n:=nB;have ks:=fun wx=>NR (P:=prog) (t:=24) (s:=4) underlying24 (fun _=>by kernel_rfl) A n c .i64 .i64 (at_:Int) ((at_+m:Nat):Int) at_ (at_+m) rfl rfl nB nB wx;rw[IE]at ks;have s1:IntKind.i64.wrap ((at_:Int)+(m:Int))=((at_+m:Nat):Int):=nX;have L:((l.drop at_).take m).Sublist l:=(List.take_sublist _ _).trans (List.drop_sublist _ _);have ab:(Bi false ((l.drop at_).take m)).length<=16000:=Bm (One.NS false L) hb;have bC:=Pv false (l:=(l.drop at_).take m) (fun r hr=>bm.out r (L.subset hr));have ak:Row w w (Ba A at_ c 4) m 4 (Cp ((l.drop at_).take m)):=ha.cut at_ m ay hc (fun i j hi _=>by rw[NE,Na hi]);have E1:=hid (fun wx (hx:Below w w wx)=>Recs.rbytes_any wx false (Ba A at_ c 4) m (c-at_) ((l.drop at_).take m) (by rw[Bc,AZ,HN.out];omega) nB (fun r hr=>bm.out r (L.subset hr)) (fun r hr=>b8.out r (L.subset hr)) nB ((ak.below hx).mono hx.size));have E2:=hid (fun wx A2 c2 (hx:Below w w wx) (h:wx.ownsRow w4 5 1 (.slice A2 (Bi false ((l.drop at_).take m)).length c2) (Bi false ((l.drop at_).take m)).length (bZ .u8 (Bi false ((l.drop at_).take m))))=>Block.SN wx A2 _ c2 _ pl rfl ab (fun e=>(Ew h).1 e) bC (HT.out.step hx) (Part.Ok.row (wZ h rfl)));unfold BytesPost at E1;unfold Im at E2;have ah:=hid hf;have al:Hid (at_+m+(G.drop (k+1)).sum=n):=pH;have bd:Below w w wr:=E.out.trans (HB.out.mono E.out.size);have ai:=hid bd;have x0:(0:Int)<=(k:Int):=nB;have x1:(k:Int)<(g:Int):=nB;have kp:=a3.out wr HB.out;generalize Bi false ((l.drop at_).take m)=BB at *;generalize Cs BB pl=FF at *;obtain⟨bl,bg⟩:=jc BB.length;rw[<-bg]at E1 E2;generalize Ba A at_ c 4=AC at *;generalize c-at_=cc at *;obtain⟨am,a5⟩:=jc (at_+m);rw[<-a5]at ks s1 ay al ah;have cr:=hid a5;clear aj hm bn aq hf bb HF bC bd bg ab ak L a5;go_upto_region 7 with fail;go_region_held3 (fun wx=>wx.cell? ⟨w,1,none⟩=some (.bool pl)/\wx.cell? ⟨gb,k,none⟩=some (.int .i64 (m:Nat))) (first|exact⟨kp,cg⟩|exact bF|exact a0) (first|(go_at_call 76;(with_reducible refine(E1.out _ (Aw ai.out)).mono ?_);rintro e wA ⟨vA,rfl,aw,ae⟩;obtain⟨AA,cA,rfl⟩:=aZ aw;have BA:Below w4 w4 wA:=dZ ae (Aw HB.out);have bi:wA.ownsRow w4 5 1 (.slice AA bl cA) bl (bZ .u8 BB):=lZ aw (by simpa using hz);have bM:Below w w wA:=dZ ae (Aw ai.out);have a9:Below wr wr wA:=dZ ae (Aw (Ak _ _));have bF:wA.cell? ⟨w,1,none⟩=some (.bool pl)/\wA.cell? ⟨gb,k,none⟩=some (.int .i64 (m:Nat)):=⟨a3.out wA BA,az.out wA a9⟩)|(go_at_call 75;(with_reducible refine(E2.out _ _ _ bM bi).mono ?_);rintro e wB ⟨vB,rfl,a6,an⟩;obtain⟨AB,cB,rfl⟩:=aZ a6;have af:Below w4 w4 wB:=dZ an BA;have ac:Below wr wr wB:=dZ an a9;have a0:wB.cell? ⟨w,1,none⟩=some (.bool pl)/\wB.cell? ⟨gb,k,none⟩=some (.int .i64 (m:Nat)):=⟨a3.out wB af,az.out wB ac⟩))
   all_goals
    have bO:=a0.2;have U:Hid (wB.ownsRow w4 28 1 u7 k (ps.map Part.v)):=eZ HO.out (fun y hy=>ac.block y (Ai HO.out y hy).2);have cd:Hid (FrsAt wB w4 ps):=bq.out.step ac;have bf:Hid (wB.ownsRow w4 5 1 (.slice AB FF.length cB) FF.length (bZ .u8 FF)):=lZ a6 (by have:=BA.size;omega);have b4:=hid af;have bW:=af.size;have bc:Hid (wB.ownsRow wa 3 1 (.slice (some ⟨gb,0,none⟩) g cG) g (bZ .i64 G)):=eZ J.out (fun y hy=>ac.block y (Ai J.out y hy).2);obtain⟨Q,ar⟩:=jc FF.length;rw[<-ar]at bf ⊢;have bN:=hid ar;have b6:Hid ((bZ .i64 G)[k]? =some (.int .i64 (m:Nat))):=(by have h:=(Lz.own_cells bc.out Y).1;rw[bO]at h;exact h.symm);clear ae aw BA bi bM a9 bF an a6 af ac a0 kp cg bO E1 E2 az ar;go_wp2_with(at_builtin;refine fZ rfl (.tmp 38) (.tmp 40) 59 rfl w4 28 j0 _ 1 24 underlying59 cm b5 cj cl rfl ji _ _ _ nC (U.out.alloc _) _ 1 1 [.slice AB Q cB] nC (Src.of_blk (g:=wB.heap.size) (Blk.made _ _ _) 1 1 1 rfl) mY qn nB p5 ?_;intro v8 w8 Z aa bk;have ca:Hid (Below w4 w4 w8):=Below.grown (b4.out.alloc bW _) aa p5 (fun y hy=>(Ai U.out y hy).1);have b0:Hid (w8.ownsRow w4 28 1 v8 (k+1) (ps.map Part.v++ [.slice AB Q cB])):=Z;have bj:w8.ownsRow wa 3 1 (.slice (some ⟨gb,0,none⟩) g cG) g (bZ .i64 G):=Gv (bc.out.alloc _) (U.out.alloc _) ji aa;have cu:w8.cell? ⟨gb,k,none⟩=some (.int .i64 (m:Nat)):=(Lz.own_cells bj Y).1.trans b6.out;have bX:Hid (w8.ownsRow w4 5 1 (.slice AB Q cB) Q (bZ .u8 FF)):=Gv (bf.out.alloc _) (U.out.alloc _) ji aa;have ce:Hid (FrsAt w8 w4 ps):=FrsAt.grown (cd.out.step (cZ (Ak _ _))) (U.out.alloc _) aa;clear Z aa bk bj);go_roundw
    case measure=>exact ld
    case rel=>go_light;exact⟨k+1,am,ps++ [⟨AB,cB,FF⟩],nB,ay,jk,jk,by show _=_;rw[DY,AK];exact ah.out,by show _=_;rw[Aj,cf.out];rfl,al.out,by show World.ownsRow _ _ _ _ _ _ _;rw[DY];show World.ownsRow _ _ _ _ _ _ (ps.map Part.v++ [.slice AB FF.length cB]);rw[<-bN.out];exact b0.out,ce.out.snoc (by show World.ownsRow _ _ _ _ (.slice AB FF.length cB) FF.length (bZ .u8 FF);rw[<-bN.out];exact bX.out),ca.out⟩
  ·obtain rfl:k=g:=by omega
   have hf:=HF.out;rw[CF (by rw[<-bt.out];exact Am _),BV,Cx]at hf;have ah:=hid hf;have ai:Hid (Below w w wr):=E.out.trans (HB.out.mono E.out.size);clear hf HF;go_wp2_with fail;go_ret2;exact⟨_,_,ps,rfl,lZ HO.out E.out.size,(fun p hp=>lZ (bq.out p hp) E.out.size),ah.out,eZ (lZ N.out a4.out) (fun y hy=>HB.out.block y (Ai N.out y hy).2),ai.out⟩
end Body
namespace Body
open Go.RowKit Mem Own Canon NumPut Crc
open Recs Idx
open Block (wZ)
open Go.Proofs.YtfgdoknipbpfhaaGreatDoor.One (FrsAt FrsAt.step)
structure JS (base:Nat) (O D:List Nat) (vo vd:Value) (W:World):Prop where
 oo:W.ownsRow base 5 1 vo O.length (bZ .u8 O)
 od:W.ownsRow base 5 1 vd D.length (bZ .u8 D)
 ap:Apt vo vd
section
variable {base:Nat} {O D X:List Nat} {vo vd v':Value} {W w':World}
theorem JS.step(h:JS base O D vo vd W)(b:Below W W w'):JS base O D vo vd w':=
 ⟨eZ h.oo fun y hy=>b.block y (Ai h.oo y hy).2,eZ h.od fun y hy=>b.block y (Ai h.od y hy).2,h.ap⟩
theorem JS.dirA(h:JS base O D vo vd W)(hB:base<=W.heap.size)(g:W.grownBy w' vd.ownBlock)(o:w'.ownsRow base 5 1 v' (D.length+X.length) (bZ .u8 D++bZ .u8 X))(t:v'.ownBlock=vd.ownBlock∨v'.ownBlock=some W.heap.size):
 JS base O (D++X) vo v' w'/\Below base W w':=by
 obtain⟨a,b⟩:=Hs h.oo h.ap.symm g t;refine⟨⟨a,?_,b.symm⟩,(Ak base W).grown g hB fun y hy=>(Ai h.od y hy).1⟩;rw[Aj,show bZ .u8 (D++X)=bZ .u8 D++bZ .u8 X by simp[bZ]];exact o
theorem JS.outA(h:JS base O D vo vd W)(hB:base<=W.heap.size)(g:W.grownBy w' vo.ownBlock)(o:w'.ownsRow base 5 1 v' (O.length+X.length) (bZ .u8 O++bZ .u8 X))(t:v'.ownBlock=vo.ownBlock∨v'.ownBlock=some W.heap.size):
 JS base (O++X) D v' vd w'/\Below base W w':=by
 obtain⟨a,b⟩:=Hs h.od h.ap g t;refine⟨⟨?_,a,b⟩,(Ak base W).grown g hB fun y hy=>(Ai h.oo y hy).1⟩;rw[Aj,show bZ .u8 (O++X)=bZ .u8 O++bZ .u8 X by simp[bZ]];exact o
end
structure JE (base:Nat) (vo vd u:Value) (m:Nat) (ys:List Value) (W:World):Prop where
 own:W.ownsRow base 5 1 u m ys
 ao:Apt vo u
 ad:Apt vd u
section
variable {base m:Nat} {O D X:List Nat} {vo vd v' u:Value} {ys:List Value} {W w':World}
theorem JE.new(h:JS base O D vo vd W)(hB:base<=W.heap.size)(o:w'.ownsRow W 5 1 u m ys):JE base vo vd u m ys w':=
 ⟨lZ o hB,(L4 o (Am _) fun x hx=>(Ai h.oo x hx).2).symm,(L4 o (Am _) fun x hx=>(Ai h.od x hx).2).symm⟩
theorem JE.step(h:JE base vo vd u m ys W)(b:Below W W w'):JE base vo vd u m ys w':=⟨eZ h.own fun y hy=>b.block y (Ai h.own y hy).2,h.ao,h.ad⟩
theorem JE.dirA(h:JE base vo vd u m ys W)(g:W.grownBy w' vd.ownBlock)(t:v'.ownBlock=vd.ownBlock∨v'.ownBlock=some W.heap.size):JE base vo v' u m ys w':=by obtain⟨a,b⟩:=Hs h.own h.ad g t;exact⟨a,h.ao,b⟩
theorem JE.outA(h:JE base vo vd u m ys W)(g:W.grownBy w' vo.ownBlock)(t:v'.ownBlock=vo.ownBlock∨v'.ownBlock=some W.heap.size):JE base v' vd u m ys w':=by obtain⟨a,b⟩:=Hs h.own h.ao g t;exact⟨a,b,h.ad⟩
end
theorem src_part{p:Part}(h:p.Ok w):Src w p.A p.ls.length p.c 1 (bZ .u8 p.ls):=by
 refine⟨p7,?_⟩;by_cases h0:0<p.ls.length
 ·obtain⟨b,G,hA,_,hc⟩:=h.row h0;refine .inr ⟨_,hA,fun j u hu=> ?_⟩;have hj:j<p.ls.length:=by refine Kv fun hn=> ?_;have E:(bZ .u8 p.ls).length<=j:=(by simp[bZ];omega);rw[FO E]at hu;cases hu
  have i:=hc j 0 hj nB;rw[EK,Cw]at i;rw[add_none,i,<-hu];have hg:=Huff.numL_get (k:= .u8) hj;rw[EK,Cw]at hg;rw[hg]
 ·cases hA:p.A with
  |none=>exact .inl ⟨rfl,(h.nil hA).1,(h.nil hA).2⟩
  |some a=>refine .inr ⟨a,rfl,fun j u hu=> ?_⟩;have h1:(bZ .u8 p.ls).length=0:=(by rw[show(bZ .u8 p.ls).length=p.ls.length by simp[bZ]];omega);rw[FO (by rw[h1];exact Da _)]at hu;cases hu
theorem WP(w:World)(n g base cF cG cc cx:Nat)(AF AG AC AX:Option Addr)(ps:List Part)(G CB IX:List Nat)(hn:n<=1000000)(hg:g<=20000)(eh:ps.length=g)(dw:G.length=g)(eL:∀z∈G,z<=1000000)(eu:(ps.map Part.ls).flatten.length<=500000)(hh:CB.length<=900000)(g1:IX.length<=900000)(eW:∀x∈CB,x<=255)(et:∀x∈IX,x<=255)
 (ho:w.ownsRow base 28 1 (.slice AF g cF) g (ps.map Part.v))(fj:FrsAt w base ps)(hG:Row w w AG g 1 (kZ .i64 G))(hC:Part.Ok (⟨AC,cc,CB⟩:Part) w)(hX:Part.Ok (⟨AX,cx,IX⟩:Part) w):
 Calls prog 27 #[.int .i64 (n:Nat), .slice AF g cF, .slice AG g cG, .slice AC CB.length cc, .slice AX IX.length cx] w fun e w'=>∃v,e= .returned v/\w'.ownsRow w 5 1 v (CH n G (ps.map Part.ls) CB IX).length (bZ .u8 (CH n G (ps.map Part.ls) CB IX))/\Below w w w':=by
 obtain⟨j0,Q,M,L,N⟩:=info_parts CW;have D1:=hid (fun wx=>Fx wx n nB);have D2:=hid (fun wx=>Fx wx g nB);have l1:=sZ (x:=n) nB;have l2:=sZ (x:=g) nB;have u1:IntKind.u64.wrap (n:Int)=(n:Int):=n4
 have u2:IntKind.u64.wrap (g:Int)=(g:Int):=n4
 obtain⟨SZ,ce⟩:=jc ((ps.map Part.ls).map List.length);have fw:SZ.length=g:=by rw[ce,Bk,Bk];exact eh
 have dF:Hid (CH n G (ps.map Part.ls) CB IX=(ps.map Part.ls).flatten++(yZ CB++(yZ IX++(yZ (Dv n G SZ (yZ CB).length (yZ IX).length)++Cn (yZ (Dv n G SZ (yZ CB).length (yZ IX).length)).length)))):=by show _=_;unfold CH;rw[ce]
 have eV:Hid (∀x y,Dv n G SZ x y=gZ n++gZ g++Bf G SZ++(gZ x++gZ y)):=fun x y=>by unfold Dv;rw[dw];simp only[List.append_assoc]
 have ez:=hid eh;have fq:=hid dw;have gt:=hid fw;have gm:=hid eL;have eg:=hid eu;have f2:=hid eW;have gy:=hid et;have HO:=hid ho;have gw:=hid fj;have gv:Hid (Row w w AG g 1 (kZ .i64 G)):=hG;have HC:=hid hC;have HX:=hid hX;have fc:=hid ce;clear eh dw fw eL eu eW et ho fj hG hC hX ce;go_enter func27,ntmps27;go_wp2_with fail;refine(D1.out _).mono ?_;rintro e w1 ⟨v1,rfl,el,ew⟩;have e4:Hid (JS w [] (gZ n) (.slice none 0 0) v1 w1):=⟨AE _ _ _ _,el,fun _ h=>jh⟩;obtain⟨A1,c1,rfl⟩:=aZ el;have HB:=hid ew;clear el ew D1;obtain⟨NA,ay⟩:=jc (gZ g);rw[<-ay]at D2 l2;have a3:=hid D2.out;have HJ:=hid e4.out;have fB:=hid ay;clear D2 e4 ay;go_wp2_with fail;refine(a3.out _).mono ?_;rintro e wA ⟨vA,rfl,af,aj⟩;obtain⟨AA,cA,rfl⟩:=aZ af;have a5:Hid (Src wA AA NA.length cA 1 (bZ .u8 NA)):=Ck af;have ag:=hid (HJ.out.step aj);have ae:Hid (Below w w wA):=zZ aj HB.out.size HB.out;have a0:=ae.out.size;clear af aj a3 HJ HB;go_wp2_with(at_builtin;refine fZ rfl (.tmp 21) (.tmp 25) 28 rfl w 5 j0 _ 1 1 underlying28 Q M L N rfl ji _ _ _ nC ag.out.od _ _ _ _ nC a5.out (qZ _ _) qn nB a0 ?_;intro v2 w2 i bk ab;have q:=ag.out.dirA a0 bk i ab;obtain⟨A2,c2,rfl⟩:=aZ i;have a1:=hid q.1;have ac:Hid (Below w w w2):=ae.out.trans q.2;clear q i bk ab ag a5 ae);have ak:Hid (gZ n++NA=gZ n++gZ g++Bf (G.take 0) (SZ.take 0)):=by show _=_;rw[fB.out];simp[Bf]
 rw[ak.out]at a1;have b1:Hid (JS w ((ps.take 0).map Part.ls).flatten (gZ n++gZ g++Bf (G.take 0) (SZ.take 0)) (.slice none 0 0) (.slice A2 ((gZ n).length+NA.length) c2) w2):=a1.out;have cE:Hid ((gZ n++gZ g++Bf (G.take 0) (SZ.take 0)).length<=20+20*0):=by show _<=_;rw[<-ak.out,Aj];omega
 clear a1;go_wp2_with fail;go_loopw [11,12,13] (fun ov dv iv wr=>∃k:Nat,k<=g/\iv= .int .i64 k/\Hid (JS w ((ps.take k).map Part.ls).flatten (gZ n++gZ g++Bf (G.take k) (SZ.take k)) ov dv wr)/\Hid ((gZ n++gZ g++Bf (G.take k) (SZ.take k)).length<=20+20*k)/\Hid (Below w w wr)) (fun _ _ iv _=>g-(intOf iv).toNat)
 case atStart=>exact⟨0,nB,rfl,b1.out,cE.out,ac.out⟩
 case round=>
  obtain⟨k,hk,rfl,HJ,bp,HB⟩:=hrel;clear b1 cE ac ak;obtain⟨wi,rfl⟩:=jc wr;have hz:=HB.out.size;by_cases eb:k<g
  ·have gk:=ja ((k:Int)<g);have gi:=ja (k<g);have x0:(0:Int)<=(k:Int):=nB;have x1:(k:Int)<(g:Int):=nB;obtain⟨bg,og,m,rfl,g3,hm,cm⟩:=Dg (gv.out.below HB.out) fq.out eb;have b9:k<ps.length:=(by rw[ez.out];exact eb);obtain⟨P,hP⟩:=jc (ps[k]);have ca:ps[k]? =some P:=(by rw[hP];exact AD b9);have fz:wi.ownsRow base 28 1 (.slice AF g cF) g (ps.map Part.v):=eZ HO.out fun y hy=>HB.out.block y (Ai HO.out y hy).2;obtain⟨gf,gc,gx,_,_⟩:=fz.form nB;injection gx with e1 e2 e3;subst e1 e3;have gh:gf<w.heap.size:=(Ai HO.out gf rfl).2;have cf:w.cell? ⟨gf,k,none⟩=some P.v:=(Lz.own_cells HO.out eb).1.trans (by rw[BR,ca];rfl);have b6:Hid (∀wx,Below w w wx->wx.cell? ⟨gf,k,none⟩=some P.v):=fun wx h=>(h.cell (p:=⟨gf,k,none⟩) gh).trans cf;have eB:Hid (∀wx,Below w w wx->Part.Ok P wx):=fun wx h=>(wZ (gw.out P (by rw[hP];exact GI b9)) rfl).step h;have f9:=gm.out m (AY hm);have dp:SZ[k]? =some P.ls.length:=(by rw[fc.out,BR,BR,ca];rfl);have fk:P.ls.length<=500000:=Bm (One.QJ (Cl.2 ⟨P,by rw[hP];exact GI b9,rfl⟩)) eg.out;have ef:=Xv hm dp;have dt:((ps.take (k+1)).map Part.ls).flatten=((ps.take k).map Part.ls).flatten++P.ls:=by rw[Ca,ca];simp
   have ga:((ps.take k).map Part.ls).flatten.length<=500000:=by
    refine Bm ?_ eg.out
    conv=>rhs;rw[<-EX k ps]
    rw[DY,List.flatten_append,Aj];omega
   have a3:=hid (fun wx=>Fx wx m nB);have cg:=hid (fun wx=>Fx wx P.ls.length nB);have la:=sZ (x:=m) nB;have lb:=sZ (x:=P.ls.length) nB;have u3:IntKind.u64.wrap (m:Int)=(m:Int):=n4;obtain⟨pA,pc,an⟩:=P;simp only[Part.v]at b6 dt ef fk dp lb cg eB;have u4:IntKind.u64.wrap (an.length:Int)=(an.length:Int):=n4;have ct:Hid (gZ n++gZ g++Bf (G.take (k+1)) (SZ.take (k+1))=gZ n++gZ g++Bf (G.take k) (SZ.take k)++gZ m++gZ an.length):=(by show _=_;rw[ef];simp only[List.append_assoc]);obtain⟨NB,e6⟩:=jc (gZ an.length);rw[<-e6]at ct cg lb;obtain⟨NA,ay⟩:=jc (gZ m);rw[<-ay]at ct a3 la;have gs:Hid (((ps.take (k+1)).map Part.ls).flatten=((ps.take k).map Part.ls).flatten++an):=dt;have gj:=bp.out;generalize gZ n++gZ g++Bf (G.take k) (SZ.take k)=DI at *;generalize ((ps.take k).map Part.ls).flatten=OU at *;obtain⟨Ao,co,rfl⟩:=aZ HJ.out.oo;obtain⟨Ad,cd,rfl⟩:=aZ HJ.out.od;clear hm b9 hP ca fz cf f9 dp ef dt ay e6 bp;go_wp2_with fail;refine(a3.out _).mono ?_;rintro e wA ⟨vA,rfl,af,aj⟩;obtain⟨AA,cA,rfl⟩:=aZ af;have a5:Hid (Src wA AA NA.length cA 1 (bZ .u8 NA)):=Ck af;have ag:=hid (HJ.out.step aj);have ae:Hid (Below w w wA):=zZ aj HB.out.size HB.out;have a0:=ae.out.size;clear af aj a3 HJ HB;go_wp2_with(at_builtin;refine fZ rfl (.tmp 33) (.tmp 39) 28 rfl w 5 j0 _ 1 1 underlying28 Q M L N rfl ji _ _ _ nC ag.out.od _ _ _ _ nC a5.out (qZ _ _) qn nB a0 ?_;intro v2 w2 i bk ab;have q2:=ag.out.dirA a0 bk i ab;obtain⟨A2,c2,rfl⟩:=aZ i;have a1:=hid q2.1;have ac:Hid (Below w w w2):=ae.out.trans q2.2;have g9:=ac.out.size;clear q2 i bk ab;have hj:=b6.out w2 ac.out);clear ag a5 ae a0;have g4:(DI++NA).length<=30+20*k:=nU;refine(cg.out _).mono ?_;rintro e wB ⟨vB,rfl,ep,dj⟩;obtain⟨AB,cB,rfl⟩:=aZ ep;have gq:Hid (Src wB AB NB.length cB 1 (bZ .u8 NB)):=Ck ep;have e9:=hid (a1.out.step dj);have dq:Hid (Below w w wB):=zZ dj ac.out.size ac.out;have fu:=dq.out.size;clear ep dj cg a1 ac;have ha:=b6.out wB dq.out;go_wp2_with(first|(at_builtin;refine fZ rfl (.tmp 41) (.tmp 48) 28 rfl w 5 j0 _ 1 1 underlying28 Q M L N rfl ji _ _ _ nC e9.out.od _ _ _ _ nC gq.out (qZ _ _) qn nB fu ?_;intro v3 w3 am es cu;have q3:=e9.out.dirA fu es am cu;obtain⟨A3,c3,rfl⟩:=aZ am;have b1:=hid q3.1;have b8:Hid (Below w w w3):=dq.out.trans q3.2;have eA:=b8.out.size;clear q3 am es cu;have g2:=b6.out w3 b8.out;have gn:Src w3 pA an.length pc 1 (bZ .u8 an):=src_part (eB.out w3 b8.out))|(at_builtin;refine fZ rfl (.tmp 50) (.tmp 54) 28 rfl w 5 j0 _ 1 1 underlying28 Q M L N rfl ji _ _ _ nC b1.out.oo _ _ _ _ nC gn (qZ _ _) qn nB eA ?_;intro v4 w4 ai ev dh;have q4:=b1.out.outA eA ev ai dh;obtain⟨A4,c4,rfl⟩:=aZ ai;have gl:=hid q4.1;have fh:Hid (Below w w w4):=b8.out.trans q4.2;have hf:=fh.out.size;clear q4 ai ev dh;skip));have ek:=gl.out;simp only[List.length_append]at ek;have bm:=hid ek;clear ek;have e5:Hid ((DI++NA++NB).length<=20+20*(k+1)):=(by show _<=_;rw[Aj];omega);go_roundw
   case measure=>exact ld
   case rel=>go_light;exact⟨k+1,nB,jk,by rw[ct.out,gs.out];exact bm.out,by rw[ct.out];exact e5.out,fh.out⟩
  ·obtain rfl:k=g:=by omega
   have gk:=jb ((k:Int)<k);have gi:=jb (k<k);have eG:G.take k=G:=Bp (by rw[fq.out];exact Am _);have eS:SZ.take k=SZ:=Bp (by rw[gt.out];exact Am _);have eP:ps.take k=ps:=Bp (by rw[ez.out];exact Am _);rw[eG,eS]at HJ bp;rw[eP]at HJ;have gj:=bp.out;have ga:=eg.out;have bU:=hid (eV.out (yZ CB).length (yZ IX).length);have fd:=LP n G SZ (yZ CB).length (yZ IX).length;rw[Ce CB,Ce IX]at bU fd dF;generalize Dv n G SZ (CB.length+4) (IX.length+4)=DD at *;generalize gZ n++gZ k++Bf G SZ=DI at *;generalize (ps.map Part.ls).flatten=OU at *;obtain⟨Ao,co,rfl⟩:=aZ HJ.out.oo;obtain⟨Ad,cd,rfl⟩:=aZ HJ.out.od;have gp:=hid (HC.out);have E1:=hid (Ij wi AC CB.length cc CB rfl nB HC.out.nil f2.out ((HC.out.row.below HB.out).mono hz));have E2:=hid (fun wx (h:Below w w wx)=>Ij wx AX IX.length cx IX rfl nB HX.out.nil gy.out ((HX.out.row.below h).mono h.size));unfold Hb at E1 E2;obtain⟨cl,bj⟩:=jc (CB.length+4);obtain⟨il,bt⟩:=jc (IX.length+4);rw[<-bj]at E1 bU;rw[<-bt]at E2 bU;have gC:cl<=900004:=nB;have gB:il<=900004:=nB;have c0:=hid bj;have cz:=hid bt;clear eG eS eP bp bj bt eV fc gp;go_wp2_with fail;refine E1.out.mono ?_;rintro e w5 ⟨v5,rfl,cp,d0⟩;obtain⟨A5,c5,rfl⟩:=aZ cp;have cq:Hid (Below w w w5):=zZ d0 hz HB.out;have bm:=hid (HJ.out.step d0);have f3:Hid (w5.ownsRow w 5 1 (.slice A5 cl c5) cl (bZ .u8 (yZ CB))):=lZ cp hz;have ff:Hid (JE w (.slice Ao OU.length co) (.slice Ad DI.length cd) (.slice A5 cl c5) cl (bZ .u8 (yZ CB)) w5):=JE.new HJ.out hz cp;have ey:=hid (E2.out w5 cq.out);have dm:=cq.out.size;clear cp d0 E1 E2 HJ HB f3 hz;go_wp2_with fail;refine ey.out.mono ?_;rintro e w6 ⟨v6,rfl,ed,b5⟩;obtain⟨A6,c6,rfl⟩:=aZ ed;have dx:Hid (Below w w w6):=zZ b5 dm cq.out;have fg:Hid (JE w (.slice Ao OU.length co) (.slice Ad DI.length cd) (.slice A6 il c6) il (bZ .u8 (yZ IX)) w6):=JE.new bm.out dm ed;have cC:=hid (ff.out.step b5);have fl:=hid (bm.out.step b5);have fp:=dx.out.size;have fo:=hid (fun wx=>Fx wx cl nB);have ex:=hid (fun wx=>Fx wx il nB);have la:=sZ (x:=cl) nB;have lb:=sZ (x:=il) nB;have u3:IntKind.u64.wrap (cl:Int)=(cl:Int):=n4;have u4:IntKind.u64.wrap (il:Int)=(il:Int):=n4;generalize gZ cl=N1 at *;generalize gZ il=N2 at *;clear ed b5 ey bm cq ff dm;go_wp2_with fail;refine(fo.out _).mono ?_;rintro e w7 ⟨v7,rfl,ea,be⟩;obtain⟨A7,c7,rfl⟩:=aZ ea;have bX:Hid (Src w7 A7 N1.length c7 1 (bZ .u8 N1)):=Ck ea;have dC:=hid (fl.out.step be);have dg:=hid (cC.out.step be);have cL:=hid (fg.out.step be);have en:Hid (Below w w w7):=zZ be fp dx.out;have d4:=en.out.size;clear ea be fo fl cC fg dx fp;go_wp2_with(at_builtin;refine fZ rfl (.tmp 60) (.tmp 64) 28 rfl w 5 j0 _ 1 1 underlying28 Q M L N rfl ji _ _ _ nC dC.out.od _ _ _ _ nC bX.out (qZ _ _) qn nB d4 ?_;intro v8 w8 al cj ar;have da:=hid (dg.out.dirA cj ar);have dc:=hid (cL.out.dirA cj ar);have q8:=dC.out.dirA d4 cj al ar;obtain⟨A8,c8,rfl⟩:=aZ al;have eH:=hid q8.1;have dr:Hid (Below w w w8):=en.out.trans q8.2;have fn:=dr.out.size;clear q8 al cj ar;skip);have gz:(DI++N1).length<=400030:=nU;clear bX dC dg cL en d4;refine(ex.out _).mono ?_;rintro e w9 ⟨v9,rfl,ds,ba⟩;obtain⟨A9,c9,rfl⟩:=aZ ds;have fe:Hid (Src w9 A9 N2.length c9 1 (bZ .u8 N2)):=Ck ds;have dz:=hid (eH.out.step ba);have cT:=hid (da.out.step ba);have cX:=hid (dc.out.step ba);have ej:Hid (Below w w w9):=zZ ba fn dr.out;have eo:=ej.out.size;clear ds ba ex eH da dc dr fn;go_wp2_with(at_builtin;refine fZ rfl (.tmp 66) (.tmp 70) 28 rfl w 5 j0 _ 1 1 underlying28 Q M L N rfl ji _ _ _ nC dz.out.od _ _ _ _ nC fe.out (qZ _ _) qn nB eo ?_;intro g6 ec Y au Z;have bd:=hid (cT.out.dirA au Z);have bG:=hid (cX.out.dirA au Z);have ei:=dz.out.dirA eo au Y Z;obtain⟨ci,ch,rfl⟩:=aZ Y;have aq:=hid ei.1;have bc:Hid (Below w w ec):=ej.out.trans ei.2;have bi:=bc.out.size;clear ei Y au Z;skip);clear fe dz cT cX ej eo;have d3:DD=DI++N1++N2:=(by rw[bU.out,AK]);have az:DD.length=DI.length+N1.length+N2.length:=(by rw[d3,Aj,Aj]);have od:=aq.out.od;rw[<-d3]at od;have cr:=od;rw[az]at cr;simp only[List.length_append]at cr;have ee:Part.Ok (⟨ci,ch,DD⟩:Part) ec:=(by have h:=wZ (A:=ci) (c:=ch) (ls:=DD) (n:=DI.length+N1.length+N2.length) cr az;exact h);have b4:=hid (Ij ec ci (DI.length+N1.length+N2.length) ch DD az nB (fun e=>by have h:=ee.nil e;exact⟨by rw[<-az];exact h.1,h.2⟩) fd (by have h:=ee.row;simp only[az]at h;exact h));unfold Hb at b4;obtain⟨dl,bf⟩:=jc (DD.length+4);rw[<-bf]at b4;have gE:dl<=400060:=nB;have cP:=hid bf;clear d3 az od cr ee bf bU;refine b4.out.mono ?_;rintro e dn ⟨he,rfl,bF,aa⟩;obtain⟨e7,eC,rfl⟩:=aZ bF;have dd:Hid (JE w (.slice Ao OU.length co) (.slice ci ((DI++N1).length+N2.length) ch) (.slice e7 dl eC) dl (bZ .u8 (yZ DD)) dn):=JE.new aq.out bi bF;have a6:=hid (bd.out.step aa);have a4:=hid (bG.out.step aa);have bu:=hid (aq.out.step aa);have bq:Hid (Below w w dn):=zZ aa bi bc.out;have cv:=bq.out.size;have e0:Hid (Src dn A5 cl c5 1 (bZ .u8 (yZ CB))):=Ck a6.out.own;have g5:(OU++yZ CB).length<=1500000:=(by rw[Aj,Ce,<-c0.out];omega);have hr:(OU++yZ CB++yZ IX).length<=2500000:=(by rw[Aj,Ce,<-cz.out];omega);have hc:(OU++yZ CB++yZ IX++yZ DD).length<=3000000:=(by rw[Aj,Ce,<-cP.out];omega);have f5:(yZ CB).length=cl:=(by rw[Ce,c0.out]);have f6:(yZ IX).length=il:=(by rw[Ce,cz.out]);have f7:(yZ DD).length=dl:=(by rw[Ce,cP.out]);have f4:=hid f5;have f0:=hid f6;have ft:=hid f7;generalize yZ CB=KC at *;generalize yZ IX=KX at *;generalize yZ DD=KD at *;clear bF aa b4 aq bd bG bc bi f5 f6 f7;go_wp2_with(first|(at_builtin;refine fZ rfl (.tmp 73) (.tmp 74) 28 rfl w 5 j0 _ 1 1 underlying28 Q M L N rfl ji _ _ _ nC bu.out.oo _ _ _ _ nC e0.out (qZ _ _) qn nB cv ?_;intro hl fi E av U;rw[<-f4.out]at E;have b0:=hid (a4.out.outA av U);have ax:=hid (dd.out.outA av U);have fs:Src fi A6 il c6 1 (bZ .u8 KX):=Ck b0.out.own;have em:=bu.out.outA cv av E U;obtain⟨hd,g0,rfl⟩:=aZ E;have bO:=em.1;(try simp only[List.length_append]at bO);have bM:=hid bO;clear bO;have bh:Hid (Below w w fi):=bq.out.trans em.2;have cy:=bh.out.size;clear em E av U;skip)|(at_builtin;refine fZ rfl (.tmp 76) (.tmp 77) 28 rfl w 5 j0 _ 1 1 underlying28 Q M L N rfl ji _ _ _ nC bM.out.oo _ _ _ _ nC fs (qZ _ _) qn nB cy ?_;intro hi eE j b3 ah;rw[<-f0.out]at j;have aw:=hid (ax.out.outA b3 ah);have bX:Src eE e7 dl eC 1 (bZ .u8 KD):=Ck aw.out.own;have dk:=bM.out.outA cy b3 j ah;obtain⟨hq,g7,rfl⟩:=aZ j;have bl:=dk.1;(try simp only[List.length_append]at bl);have bn:=hid bl;clear bl;have bW:Hid (Below w w eE):=bh.out.trans dk.2;have cw:=bW.out.size;clear dk j b3 ah;skip)|(at_builtin;refine fZ rfl (.tmp 79) (.tmp 80) 28 rfl w 5 j0 _ 1 1 underlying28 Q M L N rfl ji _ _ _ nC bn.out.oo _ _ _ _ nC bX (qZ _ _) qn nB cw ?_;intro hp e8 J de bS;rw[<-ft.out]at J;have du:=bn.out.outA cw de J bS;obtain⟨f1,f8,rfl⟩:=aZ J;have bb:=du.1;(try simp only[List.length_append]at bb);have cH:=hid bb;clear bb;have bC:Hid (Below w w e8):=bW.out.trans du.2;have fa:=bC.out.size;clear du J de bS;skip));have fH:Hid (CH n G (ps.map Part.ls) CB IX=OU++KC++KX++KD++Cn dl):=(by show _=_;rw[dF.out,ft.out];simp only[List.append_assoc]);have fx:=hid (Vx e8 dl nB);have u5:IntKind.u64.wrap (dl:Int)=(dl:Int):=n4;clear bu bM bn bq bh bW dd a6 a4 b0 ax aw e0 fs bX dF;refine fx.out.mono ?_;rintro e dy ⟨gF,rfl,bN,a9⟩;obtain⟨fA,gu,rfl⟩:=aZ bN;have eO:Hid (Src dy fA 4 gu 1 (bZ .u8 (Cn dl))):=Ck bN;have df:=hid (cH.out.step a9);have di:Hid (Below w w dy):=zZ a9 fa bC.out;have cJ:=di.out.size;clear bN a9 fx cH bC;have cS:Hid (dy.ownsRow w 5 1 (.slice f1 (OU.length+(KC.length+KX.length)+KD.length) f8) (OU++KC++KX++KD).length (bZ .u8 (OU++KC++KX++KD))):=(by have h:=df.out.oo;show World.ownsRow _ _ _ _ _ _ _;rw[show OU.length+(KC.length+KX.length)+KD.length=OU.length+KC.length+KX.length+KD.length by omega];exact h);clear df;go_wp2_with(at_builtin;refine fZ rfl (.tmp 89) (.tmp 90) 28 rfl w 5 j0 _ 1 1 underlying28 Q M L N rfl ji _ _ _ nC cS.out _ _ _ _ nC eO.out (qZ _ _) qn nB cJ ?_;intro gg gr b7 fy go);have fm:Hid (Below w w gr):=di.out.grown fy cJ (fun y hy=>(Ai cS.out y hy).1);go_ret;refine⟨gg,rfl,?_,fm.out⟩;rw[fH.out];have e1:(OU++KC++KX++KD++Cn dl).length=(OU++KC++KX++KD).length+4:=(by rw[Aj];rfl);have e2:bZ .u8 (OU++KC++KX++KD++Cn dl)=bZ .u8 (OU++KC++KX++KD)++bZ .u8 (Cn dl):=p7;rw[e1,e2];exact b7
end Body
namespace Body
open Go.RowKit Mem Own Canon
theorem QM(w:World)(gb n c:Nat)(A:Option Addr)(ls:List Nat)(hc:w.cell? ⟨gb,0,none⟩=some (.slice A n c))(hn:ls.length=n)(hN:n<=1000000)(hs:ls.sum<=1000000000)(ha:Row w w A n 1 (kZ .i64 ls)):
 Calls prog 18 #[.pointer (some ⟨gb,0,none⟩)] w fun e w'=>e= .returned (.int .i64 (ls.sum:Nat))/\w'=w:=by
 have D:=hid (sum_any w A n c ls hn hN hs ha);generalize ls.sum=S at *;clear hn ha;go_enter func18,ntmps18;go_wp2_with fail;refine D.out.mono ?_;rintro e w1 ⟨rfl,rfl⟩;go_wp2_with fail;go_ret;exact⟨rfl,rfl⟩
end Body
end Go.Proofs.YtfgdoknipbpfhaaGreatDoor
