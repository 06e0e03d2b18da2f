/- Options: the walks o -/
import Derived.Test.YtfgdoknipbpfhaaGreatDoorZTwoBack10
import Derived.Test.YtfgdoknipbpfhaaGreatDoorZTwoBack21
import Derived.Lib.AppendStr
namespace Go.Proofs.YtfgdoknipbpfhaaGreatDoor
open Go.Proofs.Tryz
open Go.Lib (hid)
set_option maxHeartbeats 2000000
set_option maxRecDepth 100000
variable{base c cg f g i k most n q x z:Nat}{w w':World}{A:Option Addr}{xs:List Value}{wh:Bool}{ls:List Nat}
open Go.RowKit
structure Opt where
 block:Int
 plain:Bool
 bucket:Int
 data:Int
 parity:Int
 chunk:Int
def Opt.val(o:Opt):Value:= .agg #[o.block,o.plain,o.bucket,o.data,o.parity,o.chunk]
def optE(o:Opt):Int:=if(16<=o.block/\o.block<=32768)/\(o.bucket=0/\o.data=0/\o.parity=0/\o.chunk=0)then 0 else 9
theorem Qm(a b:Bool)(a0 b0 a2 b2 a3 b3 a4 b4 a5 b5:Int)(w:World):(binOp .eql 23 (.agg #[a0,a,a2,a3,a4,a5]) (.agg #[b0,b,b2,b3,b4,b5])).run prog w= .ok (.bool (decide (a0=b0/\a=b/\a2=b2/\a3=b3/\a4=b4/\a5=b5))) w:=by
 go_simp
 by_cases h0:a0=b0<;>by_cases h1:a=b<;>by_cases h2:a2=b2<;>by_cases h3:a3=b3<;>by_cases h4:a4=b4<;>by_cases h5:a5=b5<;>simp[h0,h1,h2,h3,h4,h5]
theorem Lm(w:World)(x lo hi:Int):
 Calls prog 161 #[x,lo,hi] w fun e w'=>e= .returned (.bool (decide (lo<=x/\x<=hi)))/\w'=w:=by
 by_cases h:lo<=x
 ·have g1:decide (lo<=x)=true:=by simpa using h
  have HD:Hid (decide (lo<=x/\x<=hi)=decide (x<=hi)):=by show _=_;simp[h]
  rw[HD.out];clear h;go_enter func161,ntmps161;go_wp2_with fail;go_ret;exact⟨rfl,rfl⟩
 ·have g1:decide (lo<=x)=false:=by simpa using h
  have HD:Hid (decide (lo<=x/\x<=hi)=false):=by show _=_;simp[h]
  rw[HD.out];clear h;go_enter func161,ntmps161;go_wp2_with fail;go_ret;exact⟨rfl,rfl⟩
theorem a1f{p:Prop}(h:p:=by go_enter func92,ntmps92;go_wp2_with fail;refine(D.out _).mono ?_;rintro e w1 ⟨rfl,rfl⟩;go_wp2_with fail;go_ret;exact⟨rfl,sT⟩):p:=h
theorem ZH(w:World)(o:Opt):
 Calls prog 92 #[.int .i64 1,o.val] w fun e w'=>e= .returned (.int .i64 (optE o))/\Below w w w':=by
 obtain⟨bl,pl,bu,da,pa,ch⟩:=o;unfold Opt.val optE;simp only;have D:=hid (fun wx=>Lm wx bl 16 32768);have HE:=Qm pl pl bl bl bu 0 da 0 pa 0 ch 0;by_cases hb:16<=bl/\bl<=32768
 ·rw[Bd hb]at D;by_cases hz:bu=0/\da=0/\pa=0/\ch=0
  ·rw[Ab ⟨hb,hz⟩];have hd:decide (bl=bl/\pl=pl/\bu=0/\da=0/\pa=0/\ch=0)=true:=Bd ⟨rfl,rfl,hz⟩;rw[hd]at HE;clear hb hz hd;exact a1f
  ·rw[Aa (fun h=>hz h.2)];have hd:decide (bl=bl/\pl=pl/\bu=0/\da=0/\pa=0/\ch=0)=false:=Be (fun h=>hz h.2.2);rw[hd]at HE;clear hb hz hd;exact a1f
 ·rw[Be hb]at D;rw[Aa (fun h=>hb h.1)];clear hb HE;exact a1f
def Rec.val(r:Rec):Value:= .agg #[.int .u64 r.time, .int .u8 r.level, .string r.source, .string r.text]
def Cq(r:Rec):Bool:=decide (4000<r.source.size) || decide (4000<r.text.size)
def CI(l:List Rec):Int:=if 20000<l.length then 6 else if l.any Cq=true then 6 else if 1048576<BC l then 6 else 0
theorem eX{l:List Rec}{p:Rec->Bool}{r:Rec}(hr:l[k]? =some r):(l.drop k).any p=(p r || (l.drop (k+1)).any p):=by obtain⟨hk,e⟩:=CQ.1 hr;rw[Dl hk,List.any_cons,e]
theorem IN{r:Rec}(h:Cq r=false):r.source.size<=4000/\r.text.size<=4000:=by unfold Cq at h;simp at h;exact h
theorem ZK{l:List Rec}{r:Rec}(hr:l[k]? =some r):BC (l.take (k+1))=BC (l.take k)+Aa7 r:=by rw[Cw,hr];simp[TF]
theorem Yf{l:List Rec}(h:∀r∈l,Cq r=false):0<=BC l/\BC l<=8016*(l.length:Int):=by
 induction l with
 |nil=>simp[Kq]
 |cons r l ih=>
  have h1:=IN (h r rX);have h2:=ih (fun x hx=>h x sD);have e:BC (r :: l)=Aa7 r+BC l:=sd
  rw[e];unfold Aa7;simp only[List.length_cons]
  push_cast
  omega
theorem a2y{p:Prop}(h:p:=by go_enter func95,ntmps95;go_wp2_with fail;go_ret;exact⟨rfl,sT⟩):p:=h
theorem Ad1(w:World)(r:Rec):
 Calls prog 95 #[r.val] w fun e w'=>e= .returned (.bool (Cq r))/\Below w w w':=by
 unfold Rec.val;by_cases h1:4000<r.source.size
 ·have hl:Cq r=true:=by unfold Cq;simp[h1]
  rw[hl];have g1:=ic ((4000:Int)<r.source.size)
  have i:=ic (4000<r.source.size)
  clear hl h1;exact a2y
 ·have g1:=ig ((4000:Int)<r.source.size)
  have i:=ig (4000<r.source.size)
  by_cases h2:4000<r.text.size
  ·have hl:Cq r=true:=(by unfold Cq;simp[h2]);rw[hl];have g2:=ic ((4000:Int)<r.text.size);have h:=ic (4000<r.text.size);clear hl h1 h2;exact a2y
  ·have hl:Cq r=false:=(by unfold Cq;simp;omega);rw[hl];have g2:=ig ((4000:Int)<r.text.size);have h:=ig (4000<r.text.size);clear hl h1 h2;exact a2y
theorem Zk(w:World)(A:Option Addr)(n c:Nat)(l:List Rec)(hl:l.length=n)(hn:n<=9223372036854775807)(hr:Row w w A n 4 (BW l))(K:Nat)(p:Rec->Bool)(hK:∀args wx,(callFunc K args).run prog wx= .ok (.enter K args) wx)
 (hp:∀wx r,Calls prog K #[Rec.val r] wx fun e w'=>e= .returned (.bool (p r))/\Below wx wx w'):
 Calls prog 164 #[.slice A n c, .func (.func K) #[] #[]] w fun e w'=>∃z:Int,e= .returned (.int .i64 z)/\decide (0<=z)=l.any p/\Below w w w':=by
 have HP:=hid hp;have HL:=hid hl;clear hp hl;go_enter func164,ntmps164;go_wp2_with fail;go_loopw [8] (fun i wx=>∃k:Nat,k<=n/\i= .int .i64 k/\Hid ((l.drop k).any p=l.any p)/\Hid (Below w w wx)) (fun i _=>n-(intOf i).toNat)
 case atStart=>exact⟨0,nj,rfl,rfl,Ae _ _⟩
 case round=>
  obtain⟨k,hk,rfl,hA,HB⟩:=hrel;by_cases y:k<n
  ·obtain⟨b,G,r,rfl,E,hg,c0,c1,c2,c3⟩:=Row.rec (hr.below HB.out) HL.out y;have ha:=hA.out;rw[eX hg]at ha;have D:=HP.out wr r;unfold Rec.val at D;have x0:(0:Int)<=(k:Int):=nj;have x1:(k:Int)<(n:Int):=nj;cases hb:p r
   ·rw[hb]at D ha;rw[Bool.false_or]at ha;have D:=hid D;have HA:=hid ha;clear hA ha hb hg;go_wp2_with fail;refine D.out.mono ?_;rintro e w1 ⟨rfl,h⟩;have j:Hid (Below w w w1):=cZ h HB.out;clear h D c0 c1 c2 c3;go_wp2_with fail;go_roundw
    case measure=>exact jq
    case rel=>go_light;exact⟨k+1,nj,jr,HA.out,j.out⟩
   ·rw[hb]at D ha;rw[Bool.true_or]at ha;have D:=hid D;have HA:=hid ha;clear hA ha hb hg;go_wp2_with fail;refine D.out.mono ?_;rintro e w1 ⟨rfl,h⟩;have j:Hid (Below w w w1):=cZ h HB.out;clear h D c0 c1 c2 c3;go_wp2_with fail;go_ret;exact⟨k,rfl,by rw[<-HA.out];simp,j.out⟩
  ·obtain rfl:k=n:=by omega
   have ha:=hA.out;rw[El (by rw[HL.out];exact Ak _)]at ha;have HA:=hid ha;clear ha hA;go_wp2_with fail;go_ret;exact⟨-1,rfl,by rw[<-HA.out];rfl,HB.out⟩
theorem X7(w:World)(A:Option Addr)(n c:Nat)(l:List Rec)(hl:l.length=n)(hn:n<=9223372036854775807)(hr:Row w w A n 4 (BW l)):
 Calls prog 94 #[.slice A n c, .func (.func 95) #[] #[]] w fun e w'=>e= .returned (.bool (l.any Cq))/\Below w w w':=by
 have D:=hid (Zk w A n c l hl hn hr 95 Cq (by intro h wx;simp[callFunc,go_sem,func95];rfl) Ad1);clear hl hr;go_enter func94,ntmps94;go_wp2_with fail;refine D.out.mono ?_;rintro e w1 ⟨z,rfl,hz,hb⟩;have HZ:=hid hz;clear hz D;go_wp2_with fail;go_ret;exact⟨GV HZ.out,hb⟩
theorem Zn(w:World)(A:Option Addr)(n c:Nat)(l:List Rec)(hl:l.length=n)(hn:n<=20000)(hs:∀r∈l,Cq r=false)(hr:Row w w A n 4 (BW l)):
 Calls prog 96 #[.slice A n c] w fun e w'=>e= .returned (.int .i64 (BC l))/\Below w w w':=by
 have HL:=hid hl;have HS:=hid hs
 have HT:Hid (∀k,k<=n->0<=BC (l.take k)/\BC (l.take k)<=160320000):=fun k hk=>by
  have h:=Yf (l:=l.take k) (fun r hr=>hs r (BX hr));have J:(l.take k).length<=n:=oj
  omega
 clear hl hs;go_enter func96,ntmps96;go_wp2_with fail;go_loopw [3,8] (fun s i wx=>∃ (k:Nat) (x:Int),k<=n/\i= .int .i64 k/\s= .int .i64 x/\Hid (BC (l.take k)=x)/\Hid (Below w w wx)) (fun _ i _=>n-(intOf i).toNat)
 case atStart=>exact⟨0,0,nj,rfl,rfl,rfl,Ae _ _⟩
 case round=>
  obtain⟨k,x,hk,rfl,rfl,hx,HB⟩:=hrel;by_cases z:k<n
  ·obtain⟨b,M,r,rfl,G,hg,c0,c1,c2,c3⟩:=Row.rec (hr.below HB.out) HL.out z;have y:=HT.out k hk;rw[hx.out]at y;have L:=IN (HS.out r (Bp hg));have HW:Hid (BC (l.take (k+1))=x+Aa7 r):=(by show _=_;rw[ZK hg,hx.out]);unfold Aa7 at HW;have x0:(0:Int)<=(k:Int):=nj;have x1:(k:Int)<(n:Int):=nj;have s1:IntKind.i64.wrap (16+(r.source.size:Int))=16+(r.source.size:Int):=Ar _ nj;have s2:IntKind.i64.wrap (16+(r.source.size:Int)+(r.text.size:Int))=16+(r.source.size:Int)+(r.text.size:Int):=Ar _ nj;have s3:IntKind.i64.wrap (x+(16+(r.source.size:Int)+(r.text.size:Int)))=x+(16+(r.source.size:Int)+(r.text.size:Int)):=Ar _ nj;have E:=HB.out.size;clear hg hx;go_wp2_with fail;go_roundw
   case measure=>exact jq
   case rel=>go_light;exact⟨k+1,x+(16+(r.source.size:Int)+(r.text.size:Int)),nj,iw,iw,HW.out,by have h:=HB.out;show Below w w _;(repeat (with_reducible first|exact Ae _ _|assumption|refine Am ?_ |refine below_drewN ?_ _|refine mZ ?_ |refine aZ ?_ |refine cZ im ?_ |refine belA ?_ |refine nZ im ?_))⟩
  ·obtain rfl:k=n:=by omega
   have j:=hx.out;rw[Cf (by rw[HL.out];exact Ak _)]at j;have HX:=hid j;clear j hx;go_wp2_with fail;go_ret;exact⟨by rw[HX.out];rfl,HB.out⟩
theorem a1p{p:Prop}(h:p:=by clear h1 hl hr hlo hs h2;go_enter func45,ntmps45;go_wp2_with fail;refine D1.out.mono ?_;rintro e w1 ⟨rfl,hb⟩;have E2:=hid (D2.out w1 hb);clear D1 D2;go_wp2_with fail;refine E2.out.mono ?_;rintro e w2 ⟨rfl,i⟩;go_wp2_with fail;go_ret;exact⟨rfl,cZ i hb⟩):p:=h
theorem QL(w:World)(A:Option Addr)(n c:Nat)(l:List Rec)(hl:l.length=n)(hn:n<=9223372036854775807)(hr:Row w w A n 4 (BW l)):
 Calls prog 45 #[.slice A n c] w fun e w'=>e= .returned (.int .i64 (CI l))/\Below w w w':=by
 have D1:=hid (X7 w A n c l hl hn hr);unfold CI;rw[hl];by_cases h1:20000<n
 ·rw[Ab h1];have g1:=ic ((20000:Int)<n)
  have j:=ic (20000<n)
  clear h1 hl hr D1;go_enter func45,ntmps45;go_wp2_with fail;go_ret;exact⟨rfl,Ae _ _⟩
 ·rw[Aa h1];have g1:=ig ((20000:Int)<n)
  have j:=ig (20000<n)
  cases hlo:l.any Cq with
  |true=>rw[Ab rfl];rw[hlo]at D1;clear h1 hl hr hlo;go_enter func45,ntmps45;go_wp2_with fail;refine D1.out.mono ?_;rintro e w1 ⟨rfl,hb⟩;go_wp2_with fail;go_ret;exact⟨rfl,hb⟩
  |false=>
   rw[Aa rX];rw[hlo]at D1;have hs:∀r∈l,Cq r=false:=fun r h=>by have:=List.any_eq_false.1 hlo r h;simpa using this
   have D2:=hid (fun wx (hb:Below w w wx)=>Zn wx A n c l hl nj hs ((hr.below hb).mono hb.size));generalize BC l=x at *;by_cases h2:1048576<x
   ·rw[Ab h2];have g2:decide (1048576<x)=true:=sI;exact a1p
   ·rw[Aa h2];have g2:decide (1048576<x)=false:=sI;exact a1p
theorem NY{X:Nat}(h:X*2 ^ (7*k)<18446744073709551616)(i:128<=X):k+1<=9/\X / 128*2 ^ (7*(k+1))<18446744073709551616:=by
 have e:2 ^ (7*(k+1))=128*2 ^ (7*k):=by rw[show 7*(k+1)=7*k+7 by omega,Nat.pow_add];omega
 constructor
 ·by_cases hk:k+1<=9
  ·exact hk
  ·exfalso;have h1:2 ^ 63<=2 ^ (7*k):=Cm nj nj;have h2:128*2 ^ 63<=X*2 ^ (7*k):=Iw i h1;omega
 ·rw[e,<-Nat.mul_assoc];have:X / 128*128*2 ^ (7*k)<=X*2 ^ (7*k):=GB _ (Nat.div_mul_le_self _ _);omega
theorem YY:∀ (x k:Nat),x*2 ^ (7*k)<18446744073709551616->k<=9->(fZ x).length+k<=10:=by
 intro x
 induction x using Nat.strongRecOn with
 |_ x ih=>
  intro k h hk;by_cases h1:x<128
  ·rw[Fp h1];simp;omega
  ·obtain⟨s1,s2⟩:=NY h nj;have:=ih (x / 128) nj (k+1) s2 s1;rw[GW h1,AD];omega
theorem qZ(h:x<18446744073709551616):(fZ x).length<=10:=by have:=YY x 0 sH nj;omega
theorem a1q{p:Prop}(h:p:=by have ac:Hid (w4.ownsRow w 5 1 v4 (k+1) (dZ .u8 (done++ [b]))):=(by rw[JO];exact i);have J:Hid (Below w w w4):=(aZ HB.out).grown E sj (fun y hy=>(Aj HO.out y hy).1);exact⟨⟨X / 128,k+1,done++ [b],Aw _ nj,nj,nj,ab.out,rO,j.out,ac.out,J.out⟩,sG⟩):p:=h
theorem Gi(w:World)(x:Nat)(hx:x<18446744073709551616):
 Calls prog 99 #[.int .u64 x] w fun e w'=>∃v,e= .returned v/\w'.ownsRow w 5 1 v (fZ x).length (dZ .u8 (fZ x))/\Below w w w':=by
 obtain⟨j0,U,M,L,aa⟩:=info_parts Dh;obtain⟨R,hR⟩:=ii (fZ x);have Y:Hid ([]++fZ x=R):=hR.symm;have Q:Hid (x*2 ^ (7*0)<18446744073709551616):=by show _<_;simpa using hx
 rw[<-hR];clear hR;go_enter func99,ntmps99;go_wp2_with fail;go_loopw [0,3] (fun u v wr=>∃ (X k:Nat) (done:List Nat),u= .int .u64 X/\k<=9/\X<18446744073709551616/\Hid (X*2 ^ (7*k)<18446744073709551616)/\Hid (done.length=k)/\Hid (done++fZ X=R)/\Hid (wr.ownsRow w 5 1 v k (dZ .u8 done))/\Hid (Below w w wr)) (fun u _ _=>(intOf u).toNat)
 case atStart=>exact⟨x,0,[],rfl,nj,hx,Q.out,rfl,Y.out,AI _ _ _ _,Ae _ _⟩
 case round=>
  obtain⟨X,k,done,rfl,hk,hX,HX,HL,HR,HO,HB⟩:=hrel;clear Y Q;have zb:=HB.out.size;by_cases z:X<128
  ·have g1:=ig ((128:Int)<=X);have ae:=ig (128<=X);have c1:IntKind.u8.wrap (X:Int)=(X:Int):=ql;have j:Hid (done++ [X]=R):=ke;go_wp2_with(at_builtin;refine iZ rfl (.tmp 14) (.tmp 17) 28 rfl w 5 j0 _ 1 1 underlying28 U M L aa rfl ip _ _ _ nm (HO.out.alloc _) _ 1 1 [.int .u8 (X:Nat)] nm (Src.of_blk (g:=wr.heap.size) (Blk.made _ _ _) 1 1 1 rfl) mp sS nj sj ?_;intro v4 w4 i E N);exact a1h
  ·have g1:=ic ((128:Int)<=X);have ae:=ic (128<=X);have c1:IntKind.u8.wrap (X:Int)=((X % 256:Nat):Int):=ql;have o1:bits .or .u8 ((X % 256:Nat):Int) 128=((X % 128+128:Nat):Int):=rr;have j:Hid ((done++ [X % 128+128])++fZ (X / 128)=R):=ki;obtain⟨af,Z⟩:=NY HX.out nj;have ab:=hid Z;obtain⟨b,hb⟩:=ii (X % 128+128);obtain⟨a,ha⟩:=ii (X % 256);rw[<-hb]at o1 j;rw[<-ha]at o1 c1;clear hb ha Z;go_wp2_with(at_builtin;refine iZ rfl (.tmp 6) (.tmp 10) 28 rfl w 5 j0 _ 1 1 underlying28 U M L aa rfl ip _ _ _ nm (HO.out.alloc _) _ 1 1 [.int .u8 (b:Nat)] nm (Src.of_blk (g:=wr.heap.size) (Blk.made _ _ _) 1 1 1 rfl) mp sS nj sj ?_;intro v4 w4 i E N);exact a1q
theorem Jk(w:World)(x:Nat)(hx:x<18446744073709551616):
 Calls prog 77 #[.int .u64 x] w fun e w'=>∃v,e= .returned v/\w'.ownsRow w 5 1 v (fZ x).length (dZ .u8 (fZ x))/\Below w w w':=by
 obtain⟨j0,U,M,L,aa⟩:=info_parts Dh;obtain⟨R,hR⟩:=ii (fZ x);have Y:Hid ([]++fZ x=R):=hR.symm;have Q:Hid (x*2 ^ (7*0)<18446744073709551616):=by show _<_;simpa using hx
 rw[<-hR];clear hR;go_enter func77,ntmps77;go_wp2_with fail;go_loopw [0,3] (fun u v wr=>∃ (X k:Nat) (done:List Nat),u= .int .u64 X/\k<=9/\X<18446744073709551616/\Hid (X*2 ^ (7*k)<18446744073709551616)/\Hid (done.length=k)/\Hid (done++fZ X=R)/\Hid (wr.ownsRow w 5 1 v k (dZ .u8 done))/\Hid (Below w w wr)) (fun u _ _=>(intOf u).toNat)
 case atStart=>exact⟨x,0,[],rfl,nj,hx,Q.out,rfl,Y.out,AI _ _ _ _,Ae _ _⟩
 case round=>
  obtain⟨X,k,done,rfl,hk,hX,HX,HL,HR,HO,HB⟩:=hrel;clear Y Q;have zb:=HB.out.size;by_cases z:X<128
  ·have g1:=ig ((128:Int)<=X);have ae:=ig (128<=X);have c1:IntKind.u8.wrap (X:Int)=(X:Int):=ql;have j:Hid (done++ [X]=R):=ke;go_wp2_with(at_builtin;refine iZ rfl (.tmp 15) (.tmp 18) 28 rfl w 5 j0 _ 1 1 underlying28 U M L aa rfl ip _ _ _ nm (HO.out.alloc _) _ 1 1 [.int .u8 (X:Nat)] nm (Src.of_blk (g:=wr.heap.size) (Blk.made _ _ _) 1 1 1 rfl) mp sS nj sj ?_;intro v4 w4 i E N);exact a1h
  ·have g1:=ic ((128:Int)<=X);have ae:=ic (128<=X);have c1:IntKind.u64.wrap (128+(X:Int) % 128)=((X % 128+128:Nat):Int):=(by rw[show IntKind.u64.wrap (128+(X:Int) % 128)=(128+(X:Int) % 128) % 18446744073709551616 from by simp[IntKind.wrap,IntKind.bits,IntKind.signed]];omega);have c2:IntKind.u8.wrap ((X % 128+128:Nat):Int)=((X % 128+128:Nat):Int):=ql;have j:Hid ((done++ [X % 128+128])++fZ (X / 128)=R):=ki;obtain⟨af,Z⟩:=NY HX.out nj;have ab:=hid Z;obtain⟨b,hb⟩:=ii (X % 128+128);rw[<-hb]at c1 c2 j;clear hb Z;go_wp2_with(at_builtin;refine iZ rfl (.tmp 6) (.tmp 11) 28 rfl w 5 j0 _ 1 1 underlying28 U M L aa rfl ip _ _ _ nm (HO.out.alloc _) _ 1 1 [.int .u8 (b:Nat)] nm (Src.of_blk (g:=wr.heap.size) (Blk.made _ _ _) 1 1 1 rfl) mp sS nj sj ?_;intro v4 w4 i E N);exact a1q
def sB(s:ByteArray):List Nat:=s.data.toList.map UInt8.toNat
theorem Lo(s:ByteArray):(sB s).length=s.size:=by unfold sB;rw[Bu,Array.length_toList];rfl
theorem j8(s:ByteArray):∀x∈sB s,x<=255:=fun x hx=>by obtain⟨c,_,rfl⟩:=CH.1 hx;have:=c.toNat_lt;omega
theorem dS(s:ByteArray):dZ .u8 (sB s)=Lib.strCells s:=by unfold dZ sB Lib.strCells;rw[List.map_map];rfl
def Bc(s:ByteArray):List Nat:=fZ s.size++sB s
theorem Rp(s:ByteArray):∀x∈Bc s,x<=255:=fun x hx=>by
 rcases BJ.1 hx with hx|hx
 ·exact Dc _ x hx
 ·exact j8 s x hx
theorem Ll{s:ByteArray}(h:s.size<=100000):(Bc s).length<=3+s.size/\s.size<(Bc s).length:=by
 have h1:(fZ s.size).length<=3:=by
  by_cases h1:s.size<128
  ·rw[Fp h1];simp
  ·rw[GW h1,AD];by_cases h2:s.size / 128<128
   ·rw[Fp h2];simp
   ·rw[GW h2,Fp nj];simp
 have h2:1<=(fZ s.size).length:=by
  by_cases h1:s.size<128
  ·rw[Fp h1];simp
  ·rw[GW h1,AD];omega
 unfold Bc;rw[Ag,Lo];omega
theorem cN:(prog.info? 5).map (fun i=>(i.zero,i.size,i.bytes))=some (some (.int .u8 0),1,1):=my
theorem NQ(w:World)(s:ByteArray)(hs:s.size<=100000):
 Calls prog 165 #[.string s] w fun e w'=>∃v,e= .returned v/\w'.ownsRow w 5 1 v (Bc s).length (dZ .u8 (Bc s))/\Below w w w':=by
 obtain⟨j0,E,L,J,M⟩:=info_parts cN;have D:=hid (Gi w s.size nj);have hl:=qZ (x:=s.size) nj;have u1:IntKind.u64.wrap (s.size:Int)=(s.size:Int):=pm
 have HT:Hid (dZ .u8 (Bc s)=dZ .u8 (fZ s.size)++Lib.strCells s/\(Bc s).length=(fZ s.size).length+s.size):=⟨by rw[<-dS];simp[Bc,dZ],by unfold Bc;rw[Ag,Lo]⟩;generalize Bc s=T at *;generalize fZ s.size=X at *;obtain⟨k,hk⟩:=ii X.length;rw[<-hk]at D hl HT;clear hk;go_enter func165,ntmps165;go_wp2_with fail;refine D.out.mono ?_;rintro e w1 ⟨v,rfl,ho,hb⟩;have HO:=hid ho;have HB:=hid hb;have hz:=hb.size;clear ho hb D;go_wp2_with(at_builtin;refine Lib.wpList_append_own_string w1 rfl (.tmp 6) (.tmp 7) 28 9 rfl w 5 j0 underlying28 underlying9 E L J M _ k _ nm HO.out s nm sS nj hz ?_;intro v4 w4 h j i;have z:Hid (Below w w w4):=HB.out.grown j hz (fun y hy=>(Aj HO.out y hy).1);have G:Hid (w4.ownsRow w 5 1 v4 T.length (dZ .u8 T)):=(by rw[HT.out.1,HT.out.2];exact h);clear h j i);go_ret;exact⟨_,rfl,G.out,z.out⟩
def BR(r:Rec):Prop:=0<=r.time/\r.time<18446744073709551616/\0<=r.level/\r.level<=255
def Hg(wh:Bool)(r:Rec):List Nat:=if wh=true then fZ r.time.toNat++ [r.level.toNat]else []
def CF(wh:Bool)(r:Rec):List Nat:=Hg wh r++(Bc r.source++Bc r.text)
theorem Wn(wh:Bool){r:Rec}(h:BR r):(Hg wh r).length<=11:=by
 unfold Hg;split
 ·have:=qZ (x:=r.time.toNat) (by have:=h.1;have:=h.2.1;omega);rw[Ag];simp;omega
 ·simp
theorem bE(wh:Bool){r:Rec}(h:BR r):∀x∈Hg wh r,x<=255:=by
 unfold Hg;split
 ·intro x hx;rcases BJ.1 hx with hx|hx
  ·exact Dc _ x hx
  ·simp at hx;have:=h.2.2;omega
 ·intro x hx;cases hx
theorem nJ(wh:Bool){r:Rec}(h:BR r):∀x∈CF wh r,x<=255:=fun x hx=>by
 unfold CF at hx;simp only[List.mem_append]at hx;rcases hx with hx|hx|hx
 ·exact bE wh h x hx
 ·exact Rp _ x hx
 ·exact Rp _ x hx
theorem NK(wh:Bool){r:Rec}(h:BR r)(hl:Cq r=false):(CF wh r).length<=17+r.source.size+r.text.size/\2<=(CF wh r).length:=by obtain⟨h1,h2⟩:=IN hl;have a:=Wn wh h;have b:=Ll (s:=r.source) nj;have c:=Ll (s:=r.text) nj;unfold CF;rw[Ag,Ag];omega
def Mb(wh:Bool)(r:Rec)(w:World)(e:Ending)(w':World):Prop:=
 ∃v,e= .returned v/\w'.ownsRow w 5 1 v (CF wh r).length (dZ .u8 (CF wh r))/\Below w w w'
theorem VF(w:World)(wh:Bool)(r:Rec)(hr:BR r)(hl:Cq r=false):
 Calls prog 97 #[wh,r.val] w (Mb wh r w):=by
 obtain⟨j0,a0,az,ay,ax⟩:=info_parts Dh;obtain⟨h1,h2⟩:=IN hl;obtain⟨t1,t2,l1,l2⟩:=hr;have aw:=Wn wh (r:=r) ⟨t1,t2,l1,l2⟩;have b1:=Ll (s:=r.source) nj;have b2:=Ll (s:=r.text) nj;unfold Mb CF;obtain⟨tm,lv,i,j⟩:=r;obtain⟨t,rfl⟩:=I8 t1;obtain⟨l,rfl⟩:=I8 l1;unfold Rec.val;simp only at *;clear hl;have D1:=hid (fun wx=>Gi wx t nj);have D2:=hid (fun wx=>NQ wx i nj);have D3:=hid (fun wx=>NQ wx j nj);cases wh with
 |true=>
  have HH:Hid (Hg true ⟨(t:Nat),(l:Nat),i,j⟩=fZ t++ [l]):=rfl;have a7:=qZ (x:=t) nj;generalize Hg true ⟨(t:Nat),(l:Nat),i,j⟩=H at *;generalize fZ t=N1 at *;generalize Bc i=T1 at *;generalize Bc j=T2 at *;go_enter func97,ntmps97;go_upto_region 3 with fail;have E:Blk (w.alloc (.cells #[.int .u64 t, .int .u8 l, .string i, .string j] 43)) w 43 #[.int .u64 t, .int .u8 l, .string i, .string j]:=Blk.made _ _ _;have Q:Below w w (w.alloc (.cells #[.int .u64 t, .int .u8 l, .string i, .string j] 43)):=aZ (Ae _ _);have ai:(w.alloc (.cells #[.int .u64 t, .int .u8 l, .string i, .string j] 43)).heap.size=w.heap.size+1:=rX
  generalize w.alloc (.cells #[.int .u64 t, .int .u8 l, .string i, .string j] 43)=wa at *;have ag:=hid E;have J:=hid Q;have au:w.heap.size<wa.heap.size:=nj
  have HS:Hid (∀wx,Below wa wa wx->wx.cell? ⟨w,0,none⟩=some (.int .u64 t)/\wx.cell? ⟨w,1,none⟩=some (.int .u8 l)):=fun wx h=>⟨(E.step h).cell 0,(E.step h).cell 1⟩;clear E Q ai
  go_region_held3 (fun wx=>wx.cell? ⟨w,0,none⟩=some (.int .u64 t)/\wx.cell? ⟨w,1,none⟩=some (.int .u8 l)) (first|exact HS.out _ ((Ae _ _).drew)|exact HS.out _ L|exact HS.out _ G|exact HS.out _ (Am (aZ (Ae _ _)))|exact HS.out _ (pZ (Below.size G) G)|(refine HS.out _ ?_;(repeat (with_reducible first|exact Ae _ _|assumption|refine Am ?_ |refine below_drewN ?_ _|refine mZ ?_ |refine aZ ?_ |refine cZ im ?_ |refine belA ?_ |refine nZ im ?_))))
   (first|(go_at_call 99;(with_reducible refine(D1.out _).mono ?_);rintro e w1 ⟨v,rfl,aj,ae⟩;obtain⟨A1,c1,rfl⟩:=bZ aj;have G:Below wa wa w1:=xZ ae rX sT;have am:=G.size;have ac:w1.ownsRow wa 5 1 (.slice A1 N1.length c1) N1.length (dZ .u8 N1):=kZ aj rX)|(refine Nv rfl (.tmp 9) (.tmp 12) 28 rfl wa 5 j0 _ 1 1 underlying28 a0 az ay ax rfl ip (.slice A1 N1.length c1) N1.length (dZ .u8 N1) nm (by first|exact ac|exact ac.alloc _) _ 1 1 [.int .u8 l] nm (by first|exact Src.of_blk (g:=w1.heap.size) (Blk.made _ _ _) 1 1 1 rfl|exact Src.of_blk (g:=wa.heap.size) ((Blk.drew (Blk.made _ _ _)).step ae) 1 1 1 rfl|exact Src.of_blk (g:=wa.heap.size) (Blk.step (Blk.made _ _ _) ae) 1 1 1 rfl) mp sS nj iu ?_;intro A4 c4 w4 M ar;have L:Below wa wa w4:=Below.grown (by first|exact G|exact G.alloc am _) ar iu (fun y hy=>(Aj ac y hy).1)))
  all_goals
   have P4:Hid (Part.Ok (⟨A4,c4,H⟩:Part) w4):=(by rw[HH.out];have e1:(N1++ [l]).length=N1.length+1:=(by rw[Ag];rfl);refine lZ (base:=wa.heap.size) (ls:=N1++ [l]) (n:=(N1++ [l]).length) ?_ rfl;rw[e1,JO];exact M);have Y:Hid (Below w w w4):=J.out.trans (L.mono nj);have z:Hid (∀wx,Below w4 w4 wx->wx.cell? ⟨w,2,none⟩=some (.string i)/\wx.cell? ⟨w,3,none⟩=some (.string j)):=fun wx h=>⟨((ag.out.step L).step h).cell 2,((ag.out.step L).step h).cell 3⟩;have ak:∀a1 a2 a3 a4 a5 a6,BN [(⟨a1,a2,H⟩:Part),⟨a3,a4,T1⟩,⟨a5,a6,T2⟩]<=1000000:=fun _ _ _ _ _ _=>sl
   have an:Hid (H.length=N1.length+1):=(by show _=_;rw[HH.out,Ag];rfl);have av:H.length=N1.length+1:=an.out;rw[<-av];clear HS ag L M ar ac ae aj G am J D1 av an HH;go_upto_region 4 with fail;go_region_held3 (fun wx=>wx.cell? ⟨w,2,none⟩=some (.string i)/\wx.cell? ⟨w,3,none⟩=some (.string j)) (first|exact z.out _ ((Ae _ _).drew)|exact z.out _ BA|exact z.out _ BB|(refine z.out _ ?_;(repeat (with_reducible first|exact Ae _ _|assumption|refine Am ?_ |refine below_drewN ?_ _|refine mZ ?_ |refine aZ ?_ |refine cZ im ?_ |refine belA ?_ |refine nZ im ?_)))) (first|(go_at_call 165;first|((with_reducible refine(D2.out _).mono ?_);rintro e wA ⟨vA,rfl,aa,Z⟩;obtain⟨AA,cA,rfl⟩:=bZ aa;have BA:Below w4 w4 wA:=xZ Z iu sT;have zA:=BA.size;have PA:Part.Ok (⟨AA,cA,T1⟩:Part) wA:=lZ aa rfl;have kA:=Z)|((with_reducible refine(D3.out _).mono ?_);rintro e wB ⟨vB,rfl,N,U⟩;obtain⟨AB,cB,rfl⟩:=bZ N;have BB:Below w4 w4 wB:=xZ U iu sT;have zB:=BB.size;have PB:Part.Ok (⟨AB,cB,T2⟩:Part) wB:=lZ N rfl;have kB:=U))|(go_at_call 55;(refine(FK _ _ 3 [(⟨A4,c4,H⟩:Part),(⟨AA,cA,T1⟩:Part),(⟨AB,cB,T2⟩:Part)] rfl nj (ak _ _ _ _ _ _) (fun p hp=>by{rcases AO.1 hp with rfl|hp;exact P4.out.step sT;rcases AO.1 hp with rfl|hp;exact PA.step sT;rcases AO.1 hp with rfl|hp;exact PB.step sT;cases hp}) iq).mono ?_);rintro e w7 ⟨v7,rfl,ab,ah⟩;obtain⟨A7,c7,rfl⟩:=bZ ab;have B7:Below w4 w4 w7:=xZ ah iu sT));have al:Hid (Below w w w7):=Y.out.trans (B7.mono Y.out.size);have af:=hid (kZ ab (show w.heap.size<=_ by have:=Y.out.size;have:=zA;have:=zB;first|omega|(simp;omega)));go_wp2_with fail;go_ret;refine⟨_,rfl,?_,al.out⟩;have h:=af.out;simp only[List.flatMap_cons,List.flatMap_nil,List.append_nil]at h;rw[Ag,Ag]at h ⊢;exact h
 |false=>
  have aq:Hg false ⟨(t:Nat),(l:Nat),i,j⟩= []:=rfl;rw[aq,FY];clear aw aq D1;generalize Bc i=T1 at *;generalize Bc j=T2 at *;go_enter func97,ntmps97;go_upto_region 4 with fail;have E:Blk (w.alloc (.cells #[.int .u64 t, .int .u8 l, .string i, .string j] 43)) w 43 #[.int .u64 t, .int .u8 l, .string i, .string j]:=Blk.made _ _ _;have Q:Below w w (w.alloc (.cells #[.int .u64 t, .int .u8 l, .string i, .string j] 43)):=aZ (Ae _ _);have ai:(w.alloc (.cells #[.int .u64 t, .int .u8 l, .string i, .string j] 43)).heap.size=w.heap.size+1:=rX
  generalize w.alloc (.cells #[.int .u64 t, .int .u8 l, .string i, .string j] 43)=wa at *;have au:w.heap.size<wa.heap.size:=nj
  have J:=hid Q;have z:Hid (∀wx,Below wa wa wx->wx.cell? ⟨w,2,none⟩=some (.string i)/\wx.cell? ⟨w,3,none⟩=some (.string j)):=fun wx h=>⟨(E.step h).cell 2,(E.step h).cell 3⟩;have P4:Hid (Part.Ok (⟨none,0,([]:List Nat)⟩:Part) wa):=⟨Row.zero,fun _=>⟨rfl,rfl⟩⟩;have ak:∀ (a1:Option Addr) (a2:Nat) a3 a4 a5 a6,BN [(⟨a1,a2,([]:List Nat)⟩:Part),⟨a3,a4,T1⟩,⟨a5,a6,T2⟩]<=1000000:=fun _ _ _ _ _ _=>sl
  clear E Q ai;go_region_held3 (fun wx=>wx.cell? ⟨w,2,none⟩=some (.string i)/\wx.cell? ⟨w,3,none⟩=some (.string j)) (first|exact z.out _ ((Ae _ _).drew)|exact z.out _ BA|exact z.out _ BB|(refine z.out _ ?_;(repeat (with_reducible first|exact Ae _ _|assumption|refine Am ?_ |refine below_drewN ?_ _|refine mZ ?_ |refine aZ ?_ |refine cZ im ?_ |refine belA ?_ |refine nZ im ?_)))) (first|(go_at_call 165;first|((with_reducible refine(D2.out _).mono ?_);rintro e wA ⟨vA,rfl,aa,Z⟩;obtain⟨AA,cA,rfl⟩:=bZ aa;have BA:Below wa wa wA:=xZ Z iu sT;have zA:=BA.size;have PA:Part.Ok (⟨AA,cA,T1⟩:Part) wA:=lZ aa rfl;have kA:=Z)|((with_reducible refine(D3.out _).mono ?_);rintro e wB ⟨vB,rfl,N,U⟩;obtain⟨AB,cB,rfl⟩:=bZ N;have BB:Below wa wa wB:=xZ U iu sT;have zB:=BB.size;have PB:Part.Ok (⟨AB,cB,T2⟩:Part) wB:=lZ N rfl;have kB:=U))|(go_at_call 55;(refine(FK _ _ 3 [(⟨none,0,([]:List Nat)⟩:Part),(⟨AA,cA,T1⟩:Part),(⟨AB,cB,T2⟩:Part)] rfl nj (ak _ _ _ _ _ _) (fun p hp=>by{rcases AO.1 hp with rfl|hp;exact P4.out.step sT;rcases AO.1 hp with rfl|hp;exact PA.step sT;rcases AO.1 hp with rfl|hp;exact PB.step sT;cases hp}) iq).mono ?_);rintro e w7 ⟨v7,rfl,ab,ah⟩;obtain⟨A7,c7,rfl⟩:=bZ ab;have B7:Below wa wa w7:=xZ ah iu sT));have al:Hid (Below w w w7):=J.out.trans (B7.mono J.out.size);have af:=hid (kZ ab (show w.heap.size<=_ by have:=J.out.size;have:=zA;have:=zB;first|omega|(simp;omega)));go_wp2_with fail;go_ret;refine⟨_,rfl,?_,al.out⟩;have h:=af.out;simp only[List.flatMap_cons,List.flatMap_nil,List.append_nil,List.nil_append]at h;rw[Ag]at h ⊢;exact h
theorem a2m{p:Prop}(h:p:=by
  injection hv with e1 e2 e3;refine .inr ⟨⟨g,0,none⟩,e1,fun j u hu=> ?_⟩;rw[Af6,Ca,Blk.cell hh];rw[<-i,GD]at hu;split at hu
  ·simpa using hu
  ·cases hu):p:=h
theorem Du(h:w.ownsRow base 5 1 (.slice A n c) n xs):Src w A n c 1 xs:=by
 obtain⟨h0,h1⟩:=h;refine⟨h0,?_⟩;rcases h1 with ⟨hv,_⟩|⟨g,y,cur,hv,_,hh,_,_,_,i⟩
 ·injection hv with e1 e2 e3;exact .inl ⟨e1,e2,e3⟩
 ·exact a2m
def sZ(wh:Bool)(l:List Rec):List Nat:=l.flatMap (CF wh)
theorem Y1{l:List Rec}{r:Rec}(hr:l[k]? =some r):sZ wh (l.take (k+1))=sZ wh (l.take k)++CF wh r:=by unfold sZ;rw[Cw,hr,I6];simp
theorem Nd(wh:Bool){l:List Rec}(h:∀r∈l,BR r):∀x∈sZ wh l,x<=255:=fun x hx=>by obtain⟨r,hr,hx⟩:=List.mem_flatMap.1 hx;exact nJ wh (h r hr) x hx
theorem VB(wh:Bool):∀ {l:List Rec},(∀r∈l,BR r)->(∀r∈l,Cq r=false)->((sZ wh l).length:Int)<=BC l+l.length
 | [],_,_=>by simp[sZ,Kq]
 |r :: l,h,hl=>by
  have h1:=(NK wh (h r rX) (hl r rX)).1;have ih:=VB wh (l:=l) (fun x hx=>h x sD) (fun x hx=>hl x sD);have e:BC (r :: l)=Aa7 r+BC l:=sd
  have e2:(sZ wh (r :: l)).length=(CF wh r).length+(sZ wh l).length:=by unfold sZ;rw[CD,Ag]
  rw[e,e2];unfold Aa7;simp only[List.length_cons]
  push_cast
  omega
theorem YF(wh:Bool)(l:List Rec)(k:Nat):(sZ wh (l.take k)).length<=(sZ wh l).length:=by
 conv=>rhs;rw[<-ER k l]
 unfold sZ;rw[I6,Ag];omega
def Ag3(wh:Bool)(l:List Rec)(w:World)(e:Ending)(w':World):Prop:=
 ∃v,e= .returned v/\w'.ownsRow w 5 1 v (sZ wh l).length (dZ .u8 (sZ wh l))/\Below w w w'
theorem Ag5(w:World)(wh:Bool)(A:Option Addr)(n c:Nat)(l:List Rec)(hn:l.length=n)(hN:n<=9223372036854775807)(N:∀r∈l,BR r)(hl:∀r∈l,Cq r=false)(hb:(sZ wh l).length<=1000000000)(ha:Row w w A n 4 (BW l)):
 Calls prog 48 #[wh, .slice A n c] w (Ag3 wh l w):=by
 obtain⟨j0,Z,ac,ab,af⟩:=info_parts Dh;have HN:=hid hn;have HM:=hid (fun k=>AN (YF wh l k) hb);have HD:=hid (fun wx r (h:r∈l)=>VF wx wh r (N r h) (hl r h));unfold Mb at HD;unfold Ag3;clear hn N hl hb;go_enter func48,ntmps48;go_wp2_with fail;go_loopw [5,10] (fun u i wr=>∃ (k q:Nat),k<=n/\q<=1000000000/\i= .int .i64 k/\Hid ((sZ wh (l.take k)).length=q)/\Hid (wr.ownsRow w 5 1 u q (dZ .u8 (sZ wh (l.take k))))/\Hid (Below w w wr)) (fun _ i _=>n-(intOf i).toNat)
 case atStart=>exact⟨0,0,nj,nj,rfl,rfl,AI _ _ _ _,Ae _ _⟩
 case round=>
  obtain⟨k,q,hk,hq,rfl,HQ,HO,HB⟩:=hrel;have hz:=HB.out.size;by_cases ah:k<n
  ·obtain⟨b,ak,r,rfl,aj,hg,c0,c1,c2,c3⟩:=Row.rec (ha.below HB.out) HN.out ah;have D:=hid (fun wx=>HD.out wx r (Bp hg));have HT:=hid (Y1 (wh:=wh) hg);have U:q+(CF wh r).length<=1000000000:=(by have h:=HM.out (k+1);rw[HT.out,Ag,HQ.out]at h;exact h);have ae:(CF wh r).length<=1000000000:=nj;unfold Rec.val at D;have x0:(0:Int)<=(k:Int):=nj;have x1:(k:Int)<(n:Int):=nj;generalize CF wh r=O at *;obtain⟨m,hm⟩:=ii O.length;rw[<-hm]at D U ae;have ag:=hid hm;clear hg hm;go_wp2_with fail;refine(D.out _).mono ?_;rintro e w1 ⟨v1,rfl,E,z⟩;obtain⟨A1,d1,rfl⟩:=bZ E;have ai:Hid (Src w1 A1 m d1 1 (dZ .u8 O)):=Du E;have Q:Hid (Below w w w1):=cZ z (aZ HB.out);have J:Hid (w1.ownsRow w 5 1 u5 q (dZ .u8 (sZ wh (l.take k)))):=eZ (HO.out.alloc (.cells #[.int .u64 r.time, .int .u8 r.level, .string r.source, .string r.text] 43)) (fun y hy=>z.block y lc);have L:=Q.out.size;clear E z D c0 c1 c2 c3 HO HB;go_wp2_with(at_builtin;refine iZ rfl (.tmp 14) (.tmp 17) 28 rfl w 5 j0 _ 1 1 underlying28 Z ac ab af rfl ip _ _ _ nm J.out _ _ _ _ nm ai.out (Ce _ _) sS nj L ?_;intro v4 w4 j M G);have Y:Hid (Below w w w4):=Q.out.grown M L (fun y hy=>(Aj J.out y hy).1);have aa:Hid (w4.ownsRow w 5 1 v4 (q+m) (dZ .u8 (sZ wh (l.take (k+1))))):=(by rw[HT.out,show dZ .u8 (sZ wh (l.take k)++O)=dZ .u8 (sZ wh (l.take k))++dZ .u8 O by simp[dZ]];exact j);clear j M G;go_roundw
   case measure=>exact jq
   case rel=>go_light;exact⟨k+1,q+m,nj,U,iw,by show _=_;rw[HT.out,Ag,HQ.out,ag.out],aa.out,Y.out⟩
  ·obtain rfl:k=n:=by omega
   have h1:l.take k=l:=Cf py;rw[h1]at HQ HO;clear h1;go_wp2_with fail;go_ret;exact⟨_,rfl,by rw[HQ.out];exact HO.out,HB.out⟩
def goG(S:Nat):Nat->Nat->List Nat->List Nat
 |_,c,[]=> [c]
 |h,c,x :: t=>if S<h+x then c :: goG S x 1 t else goG S (h+x) (c+1) t
def Ij(S:Nat):List Nat->List Nat
 | []=> []
 |x :: t=>goG S x 1 t
def Fh(wh:Bool)(l:List Rec):List Nat:=l.map fun r=>(CF wh r).length
theorem YC{l:List Rec}{r:Rec}(hr:l[k]? =some r):(Fh wh l).drop k=(CF wh r).length :: (Fh wh l).drop (k+1):=by
 obtain⟨hk,e⟩:=CQ.1 hr;have h:k<(Fh wh l).length:=by unfold Fh;rw[Bu];exact hk
 rw[Dl h];congr 1;simp[Fh,e]
theorem XV{l:List Rec}(hn:l.length=n):(Fh wh l).drop n= []:=El (by unfold Fh;rw[Bu];omega)
theorem Ql{done:List Nat}(h:w.ownsRow base 3 1 (.slice (some ⟨g,0,none⟩) (q+1) cg) (q+1) (dZ .i64 (done++ [z])))(hq:done.length=q):w.cell? ⟨g,q,none⟩=some (.int .i64 (z:Nat)):=by rw[(Ac7 h (show q<q+1 by omega)).1];simp only[dZ,List.getElem?_map];rw[JC nj,hq];simp
theorem Py{done:List Nat}(h:w.ownsRow base 3 1 (.slice (some ⟨g,0,none⟩) (q+1) cg) (q+1) (dZ .i64 (done++ [z])))(hq:done.length=q):(w.setCell ⟨g,q,none⟩ (.int .i64 (z+1:Nat))).ownsRow base 3 1 (.slice (some ⟨g,0,none⟩) (q+1) cg) (q+1) (dZ .i64 (done++ [z+1])):=by
 have h1:=TK h (.int .i64 (z+1:Nat)) (show q<q+1 by omega)
 have e:(dZ .i64 (done++ [z])).set q (.int .i64 (z+1:Nat))=dZ .i64 (done++ [z+1]):=by
  have hl:q=(dZ .i64 done).length:=by unfold dZ;rw[Bu,hq]
  have e1:dZ .i64 (done++ [z])=dZ .i64 done++ [.int .i64 (z:Nat)]:=su
  rw[e1,hl,List.set_append_right _ _ (Ak _),G0];simp[dZ]
 rw[e]at h1;exact h1
theorem Xy:(prog.info? 3).map (fun i=>(i.zero,i.size,i.bytes))=some (some (.int .i64 0),1,8):=my
def Qi(S:Nat)(wh:Bool)(l:List Rec)(w:World)(e:Ending)(w':World):Prop:=
 ∃v,e= .returned v/\w'.ownsRow w 3 1 v (Ij S (Fh wh l)).length (dZ .i64 (Ij S (Fh wh l)))/\Below w w w'
theorem V9(k:IntKind)(l:List Nat)(x:Nat):dZ k (l++ [x])=dZ k l++ [.int k (x:Nat)]:=su
theorem a0k{p:Prop}(h:p:=by
  go_wp2_with fail;refine(D.out _).mono ?_;rintro e w1 ⟨v1,rfl,Y,Q⟩;obtain⟨A1,d1,rfl⟩:=bZ Y;have ab:Hid (Below w w w1):=cZ Q (aZ HB.out);have Z:Hid (w1.ownsRow w 3 1 (.slice uA q uc) q (dZ .i64 out)):=eZ (HO.out.alloc (.cells #[.int .u64 r.time, .int .u8 r.level, .string r.source, .string r.text] 43)) (fun y hy=>Q.block y lc);have ay:=ab.out.size;obtain⟨z,ae⟩:∃z:Nat,z=0:=⟨_,rfl⟩;have HZ:=hid ae;have a6:z<=0:=nj;obtain⟨j,aa⟩:=ii out;obtain⟨q2,N⟩:=ii q;have L:Hid (j.length=q2):=(by rw[aa,N];exact HQ.out);have al:=hid aa;have aq:=hid N;have a9:q2<=k:=nj;clear Y Q D c0 c1 c2 c3 HO HB hz ae aa N;go_wp2_with(at_builtin;refine iZ rfl (.tmp 33) (.tmp 34) 37 rfl w 3 j0 _ 1 8 underlying37 bc a8 a7 a5 rfl ip _ _ _ nm (Z.out.alloc _) _ 1 1 [.int .i64 0] nm (Src.of_blk (g:=w1.heap.size) (Blk.made _ _ _) 1 1 1 rfl) mp sS nj sj ?_;intro v4 w4 M aj ai;have U:Hid (Below w w w4):=(aZ ab.out).grown aj sj (fun y hy=>(Aj Z.out y hy).1);have G:Hid (w4.ownsRow w 3 1 v4 (q2+1) (dZ .i64 (j++ [z]))):=(by rw[al.out,aq.out,V9,HZ.out];exact M);have aw:=aq.out;subst aw;clear M aj ai Z ab ay;have a3:=U.out.size;obtain⟨g,cg,rfl,an,_⟩:=G.out.form nj;have ag:w4.cell? ⟨g,q2,none⟩=some (.int .i64 (z:Nat)):=Ql G.out L.out;have a4:=(Ac7 G.out (show q2<q2+1 by omega)).2.1;have am:Hid ((w4.setCell ⟨g,q2,none⟩ (.int .i64 (z+1:Nat))).ownsRow w 3 1 (.slice (some ⟨g,0,none⟩) (q2+1) cg) (q2+1) (dZ .i64 (j++ [z+1]))):=Py G.out L.out;have af:Hid (Below w w (w4.setCell ⟨g,q2,none⟩ (.int .i64 (z+1:Nat)))):=BS an U.out;have u1:IntKind.i64.wrap (((q2+1:Nat):Int)-1)=(q2:Int):=pj;have ba:IntKind.i64.wrap ((q2:Int)+1-1)=(q2:Int):=pj;have u2:IntKind.i64.wrap ((z:Int)+1)=((z+1:Nat):Int):=pj;have y0:(0:Int)<=(q2:Int):=nj;have y1:(q2:Int)<((q2+1:Nat):Int):=nj);go_roundw
  case measure=>exact jq
  case rel=>exact ji):p:=h
theorem Yh(w:World)(S:Nat)(wh:Bool)(A:Option Addr)(n c:Nat)(l:List Rec)(hS:1<=S)(bp:S<=1000000)(hn:l.length=n)(hN:n<=1000000)(ax:∀r∈l,BR r)(hl:∀r∈l,Cq r=false)(ha:Row w w A n 4 (BW l)):
 Calls prog 46 #[S,wh, .slice A n c] w (Qi S wh l w):=by
 obtain⟨j0,bc,a8,a7,a5⟩:=info_parts Xy;have HN:=hid hn;have HX:=hid (fun r (h:r∈l)=>(NK wh (ax r h) (hl r h)).1);have bn:=hid (fun r (h:r∈l)=>IN (hl r h));have HD:=hid (fun wx r (h:r∈l)=>VF wx wh r (ax r h) (hl r h));have HE:=hid (XV (wh:=wh) hn);unfold Mb at HD;unfold Qi;obtain⟨R,hR⟩:=ii (Ij S (Fh wh l));have HR:=hid hR;rw[<-hR];have bu:max (1:Int) (S:Int)=(S:Int):=nj
 clear hn ax hl hR;go_enter func46,ntmps46;go_wp2_with fail;go_loopw [7,8,14] (fun u hv i wr=>∃ (k q h:Nat) (out:List Nat),k<=n/\q<=k/\h<=1010000/\i= .int .i64 k/\hv= .int .i64 h/\Hid (out.length=q)/\Hid ((k=0/\out= []/\h=0)∨(0<k/\∃done z,out=done++ [z]/\z<=k/\done++goG S h z ((Fh wh l).drop k)=R))/\Hid (wr.ownsRow w 3 1 u q (dZ .i64 out))/\Hid (Below w w wr)) (fun _ _ i _=>n-(intOf i).toNat)
 case atStart=>exact⟨0,0,0,[],nj,nj,nj,rfl,rfl,rfl, .inl ⟨rfl,rfl,rfl⟩,AI _ _ _ _,Ae _ _⟩
 case round=>
  obtain⟨k,q,h,out,hk,bN,hh,rfl,rfl,HQ,HC,HO,HB⟩:=hrel;obtain⟨uA,uc,rfl⟩:=bZ HO.out;have hz:=HB.out.size;by_cases bl:k<n
  ·obtain⟨b,bx,r,rfl,bt,hg,c0,c1,c2,c3⟩:=Row.rec (ha.below HB.out) HN.out bl;have D:=hid (fun wx=>HD.out wx r (Bp hg));unfold Rec.val at D;have hx:=HX.out r (Bp hg);have bf:=bn.out r (Bp hg);have x0:(0:Int)<=(k:Int):=nj;have x1:(k:Int)<(n:Int):=nj;have bj:(CF wh r).length<=8017:=nj;have ak:=hid (YC (wh:=wh) hg);generalize CF wh r=O at *;obtain⟨x,bd⟩:=ii O.length;rw[<-bd]at D bj ak;have s1:IntKind.i64.wrap ((h:Int)+(x:Int))=((h+x:Nat):Int):=pj;have s2:IntKind.i64.wrap ((0:Int)+(x:Int))=(x:Int):=pj;clear hg hx bf bd;by_cases E:k=0∨S<h+x
   ·
    have az:Hid (∃j,out=j/\j++goG S x 1 ((Fh wh l).drop (k+1))=R):=by
     rcases HC.out with ⟨h1,h2,h3⟩|⟨h1,done,z,h2,h3,h4⟩
     ·refine⟨[],h2,?_⟩;have e:=HR.out;have e2:=ak.out;rw[h1,I7]at e2;rw[e2,Ij]at e;rw[h1];exact e.symm
     ·refine⟨out,rfl,?_⟩;have hf:S<h+x:=(by rcases E with E|E;omega;exact E);rw[ak.out,goG,Ab hf]at h4;rw[h2,AE];exact h4
    have au:Hid (out++goG S x 1 ((Fh wh l).drop (k+1))=R):=(by obtain⟨d2,h1,h2⟩:=az.out;rw[h1];exact h2);obtain⟨J,ac⟩:=ii (h+x);rw[<-ac]at s1 E;by_cases a1:q=0
    ·have gq:((q:Int)==0)=true:=(by simp[a1]);clear E ac az HC a1;exact a0k
    ·have gq:((q:Int)==0)=false:=pp;have bb:¬k=0:=nj;have hf:S<J:=(by rcases E with E|E;exact absurd E bb;exact E);have gs:=ic ((S:Int)<J);have bk:=ic (S<J);clear E ac az HC hf bb a1;exact a0k
   ·
    have be:¬k=0:=nj;have hf:¬S<h+x:=nj
    obtain⟨j,z,ah,bC,ar⟩:∃done z,out=done++ [z]/\z<=k/\done++goG S h z ((Fh wh l).drop k)=R:=by
     rcases HC.out with ⟨h1,_,_⟩|⟨_,h2⟩
     ·exact absurd h1 be
     ·exact h2
    rw[ak.out,goG,Aa hf]at ar;have a0:=HQ.out;rw[ah,Ag]at a0;obtain⟨q2,N⟩:=ii j.length;have bg:q=q2+1:=(by rw[N,<-a0];rfl);subst bg;have gq:(((q2+1:Nat):Int)==0)=false:=pp;have bq:((q2:Int)+1==0)=false:=pp;obtain⟨J,ac⟩:=ii (h+x);rw[<-ac]at s1 hf ar;have gs:=ig ((S:Int)<J);have bk:=ig (S<J);have bi:J<=1010000:=nj;have bm:=hid ar;have av:=hid ah;have L:Hid (j.length=q2):=N.symm;clear ar ah a0 N hf E be ac HC ak;go_wp2_with fail;refine(D.out _).mono ?_;rintro e w4 ⟨v1,rfl,Y,Q⟩;obtain⟨A1,d1,rfl⟩:=bZ Y;have U:Hid (Below w w w4):=cZ Q (aZ HB.out);have G:Hid (w4.ownsRow w 3 1 (.slice uA (q2+1) uc) (q2+1) (dZ .i64 (j++ [z]))):=(by rw[<-av.out];exact eZ (HO.out.alloc (.cells #[.int .u64 r.time, .int .u8 r.level, .string r.source, .string r.text] 43)) (fun y hy=>Q.block y lc));clear Y Q D c0 c1 c2 c3 HO HB hz av HQ;have a3:=U.out.size;obtain⟨g,cg,bh,an,_⟩:=G.out.form nj;injection bh with hg91 hg92 hg93;subst hg91 hg93;have ag:w4.cell? ⟨g,q2,none⟩=some (.int .i64 (z:Nat)):=Ql G.out L.out;have a4:=(Ac7 G.out (show q2<q2+1 by omega)).2.1;have am:Hid ((w4.setCell ⟨g,q2,none⟩ (.int .i64 (z+1:Nat))).ownsRow w 3 1 (.slice (some ⟨g,0,none⟩) (q2+1) uc) (q2+1) (dZ .i64 (j++ [z+1]))):=Py G.out L.out;have af:Hid (Below w w (w4.setCell ⟨g,q2,none⟩ (.int .i64 (z+1:Nat)))):=BS an U.out;have u1:IntKind.i64.wrap (((q2+1:Nat):Int)-1)=(q2:Int):=pj;have ba:IntKind.i64.wrap ((q2:Int)+1-1)=(q2:Int):=pj;have u2:IntKind.i64.wrap ((z:Int)+1)=((z+1:Nat):Int):=pj;have y0:(0:Int)<=(q2:Int):=nj;have y1:(q2:Int)<((q2+1:Nat):Int):=nj;go_wp2_with fail;go_roundw
    case measure=>exact jq
    case rel=>go_light;exact⟨k+1,q2+1,J,j++ [z+1],nj,nj,bi,iw,iw,rQ, .inr ⟨nj,j,z+1,rfl,nj,bm.out⟩,am.out,af.out⟩
  ·obtain rfl:k=n:=by omega
   have HF:Hid (out=R):=by
    rcases HC.out with ⟨h1,h2,_⟩|⟨_,done,z,h2,_,h4⟩
    ·have e:=HR.out;have e2:=HE.out;rw[h1,I7]at e2;rw[e2,Ij]at e;rw[h2];exact e.symm
    ·rw[HE.out,goG]at h4;rw[h2];exact h4
   clear HC;go_wp2_with fail;go_ret;exact⟨_,rfl,by rw[<-HF.out,HQ.out];exact HO.out,HB.out⟩
def EN(ls:List Nat):ByteArray:=⟨(ls.map UInt8.ofNat).toArray⟩
theorem mQ(h:∀x∈ls,x<=255):sB (EN ls)=ls:=by
 unfold sB EN;simp only[List.map_map]
 conv=>rhs;rw[<-List.map_id ls]
 refine J1 fun x hx=> ?_;have:=h x hx;simp[UInt8.toNat_ofNat'];omega
theorem Vt(s:ByteArray):EN (sB s)=s:=by
 unfold sB EN;simp only[List.map_map];have:(UInt8.ofNat ∘ UInt8.toNat)=id:=by funext x;simp
 rw[this];simp
theorem Vh{B:Nat}(hr:Row w B A n 1 (jZ .u8 ls))(hn:ls.length=n):
 (convert 28 9 (.slice A n c)).run prog w= .ok (.string (EN ls)) w:=by
 have e:EN ls=strOfNums (ls.map Int.ofNat):=by unfold EN strOfNums;rw[List.map_map];rfl
 rcases Nat.eq_zero_or_pos n with h0|h0
 ·subst h0;obtain rfl:=W5.1 hn;cases A with
  |none=>exact run_convert_bytes_nil w _ _ underlying28 underlying5 _ _ _ underlying9
  |some a=>rw[run_convert_bytes_string w _ _ _ _ _ _ underlying28 underlying5 underlying9];rw[run_bytesToString w a 0 c [] (run_loadCells_list (P:=prog) w a [] (fun j v hj=>by cases hj))];rfl
 ·obtain⟨b,h,rfl,_,hc⟩:=hr h0;rw[e];refine run_convert_bytes_arg w _ _ underlying28 underlying5 b h n c (ls.map Int.ofNat) (by simpa using hn) (fun i hi=> ?_) _ underlying9;have:=hc i 0 hi nj;rw[CZ,Bt]at this;rw[this];unfold jZ;congr 2;simp[List.getD_eq_getElem?_getD,List.getElem?_map,List.getElem?_eq_getElem (show i<ls.length by omega)]
theorem Ad9(w:World)(g base:Nat)(bs:List Nat)(A:Option Addr)(c at_:Nat)(er:Int)(h:Cur w g base bs A c at_ er):
 Calls prog 191 #[.pointer (some ⟨g,0,none⟩)] w fun e w'=>e= .returned (.int .i64 (bs.length-at_:Nat))/\∃q,w'=w.drewN q:=by
 have D:=hid (Ab9 w g base bs A c at_ er h);clear h;generalize bs.length-at_=m at *;go_enter func191,ntmps191;go_wp2_with fail;refine D.out.mono ?_;rintro e w2 ⟨rfl,q,rfl⟩;go_wp2_with fail;go_ret;exact⟨rfl,q,rfl⟩
theorem Yk(w:World)(g base ob:Nat)(bs:List Nat)(A:Option Addr)(c at_:Nat)(J:bs.length<=100000)(h8:∀x∈bs,x<=255)(h:Cur w g base bs A c at_ 0)(i:Blk w ob 41 #[.int .u64 0]):
 Calls prog 292 #[.slice (AR A at_ c 1) (bs.length-at_) (c-at_), .pointer (some ⟨ob,0,none⟩)] w fun e w'=>∃ (k:Nat) (e2:Int),e= .returned (.tuple #[.int .i64 k,e2])/\k<=100000/\Cur w' g base bs A c at_ 0/\
  (Kept (fun x=>x≠ob) w w'/\k=(A0 (bs.drop at_) 0 0).2.1/\e2=(A0 (bs.drop at_) 0 0).2.2/\Blk w' ob 41 #[.int .u64 (A0 (bs.drop at_) 0 0).1]):=by
 have f1:=i.frozen 0;have d1:=i.ia 0;have E:=Et h.own;have j:=ET (Ab5 h.own) h.le E.2;have y:∀x∈bs.drop at_,x<=255:=fun x hx=>h8 x (Bz hx);have D:=Rq w (AR A at_ c 1) (bs.length-at_) (c-at_) (bs.drop at_) (by rw[AQ]) nj y j;have z:=Jt (bs.drop at_) 0 0 y nj rX;have hk:(A0 (bs.drop at_) 0 0).2.1<=100000:=by have:=z.2.1;rw[AQ]at this;omega
 generalize A0 (bs.drop at_) 0 0=R at *;have G:=Blk.apart i h.blk ip;have D:=hid D;have H:=hid h;have HO:=hid i;generalize AR A at_ c 1=A1 at *;clear j y z h i E;go_enter func292,ntmps292;go_wp2_with fail;refine D.out.mono ?_;rintro e w1 ⟨rfl,rfl⟩;go_wp2_with fail;go_ret2;refine⟨R.2.1,R.2.2,rfl,hk,?_,(Kept.refl _ _).set (fun h=>h rfl) _,rfl,rfl,HO.out.set 0 _⟩;exact⟨H.out.blk.far (fun e=>G e.symm) _,BK H.out.own (gZ H.out.own HO.out ip) _,H.out.le,H.out.lo⟩
theorem Ac1(w:World)(g base:Nat)(bs:List Nat)(A:Option Addr)(c at_:Nat)(er:Int)(Z:bs.length<=100000)(h8:∀x∈bs,x<=255)(h:Cur w g base bs A c at_ er):
 Calls prog 243 #[.pointer (some ⟨g,0,none⟩)] w fun e w'=>e= .returned (.int .u64 (Dw bs at_ er:Nat))/\Cur w' g base bs A c (Ep bs at_ er) (Ex bs at_ er)/\Kept (Bh g w) w w':=by
 have ah:=h.blk.lt;have h2:Cur (w.alloc (.cells #[.int .u64 0] 41)) g base bs A c at_ er:=(h.step (aZ (Ae _ _)));have L:Blk (w.alloc (.cells #[.int .u64 0] 41)) w 41 #[.int .u64 0]:=Blk.made _ _ _;have N:Kept (fun x=>x<w.heap.size/\x≠g) w (w.alloc (.cells #[.int .u64 0] 41)):=Kept.of_below (by(repeat (with_reducible first|exact Ae _ _|assumption|refine Am ?_ |refine below_drewN ?_ _|refine mZ ?_ |refine aZ ?_ |refine cZ im ?_ |refine belA ?_ |refine nZ im ?_)):Below w w _) (fun x hx=>hx.1);have ag:=h.le;unfold Bh;by_cases he:er=0
 ·subst he;have aa:∀M wx,(callFunc 292 M).run prog wx= .ok (.enter 292 M) wx:=by intro M wx;simp[callFunc,go_sem,func292];rfl
  have D:=fun w2 (hc2:Cur w2 g base bs A c at_ 0) (L:Blk w2 w 41 #[.int .u64 0])=>MY w2 g base bs A c at_ hc2 Z 292 #[.pointer (some ⟨w,0,none⟩)]
   (fun k e2 w'=>Kept (fun x=>x≠w.heap.size) w2 w'/\k=(A0 (bs.drop at_) 0 0).2.1/\e2=(A0 (bs.drop at_) 0 0).2.2/\Blk w' w 41 #[.int .u64 (A0 (bs.drop at_) 0 0).1]) aa
   (fun q=>(Yk (w2.drewN q) g base w bs A c at_ Z h8 (hc2.drewN q) (L.drewN q)).mono fun e w' ⟨k,e2,h1,h2,h3,h4⟩=>⟨k,e2,h1,h2,h3,⟨⟨h4.1.os,h4.1.tape,h4.1.output,h4.1.size,h4.1.block⟩,h4.2⟩⟩)
  have D:=hid (D _ h2 L);have ac:∀x∈bs.drop at_,x<=255:=fun x hx=>h8 x (Bz hx);have Q:=Jt (bs.drop at_) 0 0 ac nj rX;rw[AQ]at Q;have eV:Dw bs at_ 0=(A0 (bs.drop at_) 0 0).1:=Aa rX;have eA:Ep bs at_ 0=at_+(A0 (bs.drop at_) 0 0).2.1:=Aa rX;have eE:Ex bs at_ 0=(A0 (bs.drop at_) 0 0).2.2:=Aa rX;rw[eV,eA,eE];generalize A0 (bs.drop at_) 0 0=R at *;have HK:=hid N;have ae:w.heap.size≠g:=nj
  have ab:=hid Q;clear aa h2 L N ac Q eV eA eE;by_cases hR:R.2.2=0
  ·have af:at_+R.2.1<=bs.length:=(by have:=ab.out.2.1;omega);go_enter func243,ntmps243;go_wp2_with fail;refine D.out.mono ?_;rintro e w4 ⟨k,e2,w3,⟨i,z,E,y⟩,G,j⟩;rcases j with ⟨h0,_,_⟩|⟨_,rfl,rfl⟩
   ·exact absurd (E.trans hR) h0
   ·have J:Hid (Kept (fun x=>x<w.heap.size/\x≠g) w w3):=HK.out.trans ⟨i.os,i.tape,i.output,i.size,fun x hx=>i.block x nj⟩;have hB:=y.far (fun e=>ae e) (p:=⟨g,1,none⟩) (.int .i64 (at_+k:Nat));have d0:=hB.ia 0;have HC:=hid (G.setAt (at_+k) nj);rw[z]at HC;have Y:Hid (Kept (fun x=>x<w.heap.size/\x≠g) w (w3.setCell ⟨g,1,none⟩ (.int .i64 (at_+k:Nat)))):=J.out.set (fun h=>h.2 rfl) _;rw[<-z]at HC;have U:Hid (Cur (w3.setCell ⟨g,1,none⟩ (.int .i64 (at_+k:Nat))) g base bs A c (at_+R.2.1) R.2.2):=qu;generalize w3.setCell ⟨g,1,none⟩ (.int .i64 (at_+k:Nat))=w5 at *;clear hB y G i D J HK z E HC hR;go_wp2_with fail;go_ret;exact⟨rfl,U.out,Y.out⟩
  ·have hz:=ab.out.2.2.2.1 hR;go_enter func243,ntmps243;go_wp2_with fail;refine D.out.mono ?_;rintro e w4 ⟨k,e2,w3,⟨i,z,E,y⟩,G,j⟩;rcases j with ⟨_,rfl,rfl⟩|⟨h0,_,_⟩
   ·have J:Hid (Kept (fun x=>x<w.heap.size/\x≠g) w w3):=HK.out.trans ⟨i.os,i.tape,i.output,i.size,fun x hx=>i.block x nj⟩;have U:Hid (Cur (w3.setCell ⟨g,2,none⟩ (.int .i64 e2)) g base bs A c (at_+R.2.1) R.2.2):=(by rw[hz.2,<-E];exact G.setErr e2);have Y:Hid (Kept (fun x=>x<w.heap.size/\x≠g) w (w3.setCell ⟨g,2,none⟩ (.int .i64 e2))):=J.out.set (fun h=>h.2 rfl) _;generalize w3.setCell ⟨g,2,none⟩ (.int .i64 e2)=w5 at *;have HZ:=hid hz.1;clear y G i D J HK z E hR hz;go_wp2_with fail;go_ret;exact⟨by rw[HZ.out];rfl,U.out,Y.out⟩
   ·exact absurd (E.symm.trans h0) hR
 ·have D:=hid (NL _ g base bs A c at_ er h2 he (.func (.func 292) #[] #[.pointer (some ⟨w,0,none⟩)]));have eV:Dw bs at_ er=0:=Ab he;have eA:Ep bs at_ er=at_:=Ab he;have eE:Ex bs at_ er=er:=Ab he;rw[eV,eA,eE];have HK:=hid N;have HC:=hid h2;clear h2 L N he eV eA eE;go_enter func243,ntmps243;exact a1t
def Cv(most:Nat)(ls:List Nat):List Nat×Nat×Int:=
 if(BE most ls).2.2≠0 then([],0,(BE most ls).2.2)else if ls.length-(BE most ls).2.1<(BE most ls).1 then([],0,1)else((ls.drop (BE most ls).2.1).take (BE most ls).1,(BE most ls).2.1+(BE most ls).1,0)
theorem M9(most:Nat)(ls:List Nat)(h8:∀c∈ls,c<=255):(Cv most ls).1.length<=most/\(Cv most ls).2.1<=ls.length/\((Cv most ls).2.2=0->1<=(Cv most ls).2.1)/\((Cv most ls).2.2≠0->(Cv most ls).1= []/\(Cv most ls).2.1=0)/\(∀x∈(Cv most ls).1,x<=255)/\0<=(Cv most ls).2.2/\(Cv most ls).2.2<=6:=by
 have h:=Hu most ls h8;unfold Cv;split
 ·rename_i he;exact⟨rX,rX,fun h0=>absurd h0 he,fun _=>⟨rfl,rfl⟩,fun x hx=>r9,h.2.2.2.2.1,h.2.2.2.2.2⟩
 ·split
  ·exact⟨rX,rX,fun h0=>absurd h0 ip,fun _=>⟨rfl,rfl⟩,fun x hx=>r9,rX,rX⟩
  ·rename_i he hl;have h1:=h.2.2.1 nj;exact⟨by rw[AY];have:=h.1;omega,by have:=h.2.1;simp only;omega,fun _=>sa,fun h0=>absurd rfl h0,fun x hx=>h8 x (Bz (BX hx)),rX,rX⟩
def DV(most:Nat)(bs:List Nat)(at_:Nat)(er:Int):List Nat:=if er≠0 then []else(Cv most (bs.drop at_)).1
def Df(most:Nat)(bs:List Nat)(at_:Nat)(er:Int):Nat:=if er≠0 then at_ else at_+(Cv most (bs.drop at_)).2.1
def De(most:Nat)(bs:List Nat)(at_:Nat)(er:Int):Int:=if er≠0 then er else(Cv most (bs.drop at_)).2.2
theorem Xj(w:World)(g base mb ob:Nat)(bs:List Nat)(A:Option Addr)(c at_ most:Nat)(aa:bs.length<=100000)(h8:∀x∈bs,x<=255)(M:most<=1000000000)(h:Cur w g base bs A c at_ 0)(Z:Blk w mb 3 #[most])(z:Blk w ob 9 #[.string ⟨#[]⟩]):
 Calls prog 301 #[.slice (AR A at_ c 1) (bs.length-at_) (c-at_), .pointer (some ⟨mb,0,none⟩), .pointer (some ⟨ob,0,none⟩)] w fun e w'=>∃ (k:Nat) (e2:Int),e= .returned (.tuple #[.int .i64 k,e2])/\k<=100000/\Cur w' g base bs A c at_ 0/\
  (Kept (fun x=>x<w.heap.size/\x≠ob) w w'/\k=(Cv most (bs.drop at_)).2.1/\e2=(Cv most (bs.drop at_)).2.2/\Blk w' ob 9 #[.string (EN (Cv most (bs.drop at_)).1)]):=by
 have d0:=Z.ia 0;have f1:=z.frozen 0;have d1:=z.ia 0;have J:=Et h.own;have ab:=h.le;have E:=ET (Ab5 h.own) h.le J.2;have N:∀x∈bs.drop at_,x<=255:=fun x hx=>h8 x (Bz hx);have D:=Ts w (AR A at_ c 1) (bs.length-at_) (c-at_) (bs.drop at_) most M (by rw[AQ]) nj N E;have y:=Hu most (bs.drop at_) N;rw[AQ]at y;have aj:bs.length-at_<=100000:=nj
 have ag:bs.length-at_<=c-at_:=by have:=J.2;omega
 unfold Cv;rw[show(bs.drop at_).length=bs.length-at_ from AQ];have Y:(bs.drop at_).length=bs.length-at_:=AQ;have U:=Blk.apart z h.blk ip;have ai:mb≠ob:=by intro e;subst e;rw[d0]at d1;cases d1
 have H:=hid h;have HO:=hid z;generalize bs.drop at_=L at *;generalize bs.length-at_=m at *;generalize AR A at_ c 1=A1 at *;generalize c-at_=cc at *;generalize ac:BE most L=R at *;have HR:=hid E;have HL:=hid Y;have D:=hid D;have an:=y.1;have am:=y.2.1;have aq:=y.2.2.2.2.1;have al:=y.2.2.2.2.2;clear E N h z Z J Y ac y ab aa h8;obtain⟨x,n,er⟩:=R;simp only at *;by_cases he:er=0
 ·subst he;rw[Aa rX];have ah:IntKind.i64.wrap ((m:Int)-(n:Int))=((m-n:Nat):Int):=by rw[Ar _ nj];omega
  by_cases G:m-n<x
  ·rw[Ab G];have g1:=ic (((m-n:Nat):Int)<(x:Int));have g2:=ic (m-n<x);clear G;go_enter func301,ntmps301;go_wp2_with fail;refine D.out.mono ?_;rintro e w1 ⟨rfl,rfl⟩;go_wp2_with fail;go_ret2;exact⟨0,1,rfl,nj,H.out,Kept.refl _ _,rfl,rfl,HO.out⟩
  ·rw[Aa G];have g1:=ig (((m-n:Nat):Int)<(x:Int));have g2:=ig (m-n<x);have s2:IntKind.i64.wrap ((n:Int)+(x:Int))=((n:Int)+(x:Int)):=pi;have ks:=fun wx=>Oo (P:=prog) (t:=28) (s:=1) underlying28 (fun _=>by kernel_rfl) A1 m cc .i64 .i64 (n:Int) ((n:Int)+(x:Int)) n (n+x) rfl nj nj nj wx;rw[I5]at ks;have ae:((L.drop n).take x).length=x:=by rw[AY,AQ,HL.out];omega
   have Q:Hid (∀wx,Below w w wx->(convert 28 9 (.slice (AR A1 n cc 1) x (cc-n))).run prog wx= .ok (.string (EN ((L.drop n).take x))) wx):=fun wx hb=>
    Vh ((HR.out.below hb).cut n x nj ag (fun i j hi hj=>by
     obtain rfl:j=0:=nj
     simp only[jZ,List.getD_eq_getElem?_getD,List.getElem?_take,List.getElem?_drop];rw[Ab hi])) ae
   have af:n+x<=100000:=nj;generalize (L.drop n).take x=T at *;have cv:=Q.out w (Ae _ _);have ak:=Q.out w.drew sT;clear G HR HL;go_enter func301,ntmps301;go_wp2_with fail;refine D.out.mono ?_;rintro e w1 ⟨rfl,rfl⟩;go_wp2_with fail;go_ret2;refine⟨n+x,0,rfl,af,?_,(Kept.refl _ _).set (fun h=>h.2 rfl) _,rfl,rfl,HO.out.set 0 _⟩;exact⟨H.out.blk.far (fun e=>U e.symm) _,BK H.out.own (gZ H.out.own HO.out ip) _,H.out.le,H.out.lo⟩
 ·rw[Ab he];have g1:(er != 0)=true:=by simpa using he
  clear he HR HL;go_enter func301,ntmps301;go_wp2_with fail;refine D.out.mono ?_;rintro e w1 ⟨rfl,rfl⟩;go_wp2_with fail;go_ret2;exact⟨0,er,rfl,nj,H.out,Kept.refl _ _,rfl,rfl,HO.out⟩
theorem Pu(w:World)(g base:Nat)(bs:List Nat)(A:Option Addr)(c at_:Nat)(er:Int)(most:Nat)(ac:bs.length<=100000)(h8:∀x∈bs,x<=255)(Z:most<=1000000000)(h:Cur w g base bs A c at_ er):
 Calls prog 251 #[.pointer (some ⟨g,0,none⟩),most] w fun e w'=>e= .returned (.string (EN (DV most bs at_ er)))/\Cur w' g base bs A c (Df most bs at_ er) (De most bs at_ er)/\Kept (Bh g w) w w':=by
 have ak:=h.blk.lt;have h2:Cur ((w.alloc (.cells #[most] 3)).alloc (.cells #[.string ⟨#[]⟩] 9)) g base bs A c at_ er:=(h.step (aZ (Ae _ _))).step (aZ (Ae _ _));have G:Blk ((w.alloc (.cells #[most] 3)).alloc (.cells #[.string ⟨#[]⟩] 9)) w 3 #[most]:=(Blk.made _ _ _).alloc _;have M:Blk ((w.alloc (.cells #[most] 3)).alloc (.cells #[.string ⟨#[]⟩] 9)) (w.heap.size+1) 9 #[.string ⟨#[]⟩]:=Blk.made_at _ _ _ rX;have Q:Kept (fun x=>x<w.heap.size/\x≠g) w ((w.alloc (.cells #[most] 3)).alloc (.cells #[.string ⟨#[]⟩] 9)):=Kept.of_below (by(repeat (with_reducible first|exact Ae _ _|assumption|refine Am ?_ |refine below_drewN ?_ _|refine mZ ?_ |refine aZ ?_ |refine cZ im ?_ |refine belA ?_ |refine nZ im ?_)):Below w w _) (fun x hx=>hx.1);have aj:=h.le;have ab:((w.alloc (.cells #[most] 3)).alloc (.cells #[.string ⟨#[]⟩] 9)).heap.size=w.heap.size+2:=rX
 unfold Bh;by_cases he:er=0
 ·subst he;have ae:∀N wx,(callFunc 301 N).run prog wx= .ok (.enter 301 N) wx:=by intro N wx;simp[callFunc,go_sem,func301];rfl
  have D:=fun w2 (hc2:Cur w2 g base bs A c at_ 0) (G:Blk w2 w 3 #[most]) (M:Blk w2 (w.heap.size+1) 9 #[.string ⟨#[]⟩])=>MY w2 g base bs A c at_ hc2 ac 301 #[.pointer (some ⟨w,0,none⟩), .pointer (some ⟨w.heap.size+1,0,none⟩)]
   (fun k e2 w'=>Kept (fun x=>x<w2.heap.size/\x≠w.heap.size+1) w2 w'/\k=(Cv most (bs.drop at_)).2.1/\e2=(Cv most (bs.drop at_)).2.2/\Blk w' (w.heap.size+1) 9 #[.string (EN (Cv most (bs.drop at_)).1)]) ae
   (fun q=>(Xj (w2.drewN q) g base w (w.heap.size+1) bs A c at_ most ac h8 Z (hc2.drewN q) (G.drewN q) (M.drewN q)).mono fun e w' ⟨k,e2,h1,h2,h3,h4⟩=>⟨k,e2,h1,h2,h3,⟨⟨h4.1.os,h4.1.tape,h4.1.output,h4.1.size,h4.1.block⟩,h4.2⟩⟩)
  have D:=hid (D _ h2 G M);have ah:∀x∈bs.drop at_,x<=255:=fun x hx=>h8 x (Bz hx);have U:=M9 most (bs.drop at_) ah;rw[AQ]at U;have eV:DV most bs at_ 0=(Cv most (bs.drop at_)).1:=Aa rX;have eA:Df most bs at_ 0=at_+(Cv most (bs.drop at_)).2.1:=Aa rX;have eE:De most bs at_ 0=(Cv most (bs.drop at_)).2.2:=Aa rX;rw[eV,eA,eE];generalize Cv most (bs.drop at_)=R at *;have HK:=hid Q;have ag:w.heap.size+1≠g:=nj
  have af:=hid U;clear ae h2 G M Q ah U eV eA eE;by_cases hR:R.2.2=0
  ·have ai:at_+R.2.1<=bs.length:=(by have:=af.out.2.1;omega);go_enter func251,ntmps251;go_wp2_with fail;refine D.out.mono ?_;rintro e w4 ⟨k,e2,w3,⟨i,z,E,j⟩,J,y⟩;rcases y with ⟨h0,_,_⟩|⟨_,rfl,rfl⟩
   ·exact absurd (E.trans hR) h0
   ·have L:Hid (Kept (fun x=>x<w.heap.size/\x≠g) w w3):=HK.out.trans ⟨i.os,i.tape,i.output,i.size,fun x hx=>i.block x ⟨by have:=hx.1;rw[ab];omega,mm⟩⟩;have hB:=j.far (fun e=>ag e) (p:=⟨g,1,none⟩) (.int .i64 (at_+k:Nat));have d0:=hB.ia 0;have HC:=hid (J.setAt (at_+k) nj);rw[z]at HC;have aa:Hid (Kept (fun x=>x<w.heap.size/\x≠g) w (w3.setCell ⟨g,1,none⟩ (.int .i64 (at_+k:Nat)))):=L.out.set (fun h=>h.2 rfl) _;rw[<-z]at HC;have Y:Hid (Cur (w3.setCell ⟨g,1,none⟩ (.int .i64 (at_+k:Nat))) g base bs A c (at_+R.2.1) R.2.2):=qu;generalize w3.setCell ⟨g,1,none⟩ (.int .i64 (at_+k:Nat))=w5 at *;clear hB j J i D L HK z E HC hR;go_wp2_with fail;go_ret;exact⟨rfl,Y.out,aa.out⟩
  ·have hz:=af.out.2.2.2.1 hR;go_enter func251,ntmps251;go_wp2_with fail;refine D.out.mono ?_;rintro e w4 ⟨k,e2,w3,⟨i,z,E,j⟩,J,y⟩;rcases y with ⟨_,rfl,rfl⟩|⟨h0,_,_⟩
   ·have L:Hid (Kept (fun x=>x<w.heap.size/\x≠g) w w3):=HK.out.trans ⟨i.os,i.tape,i.output,i.size,fun x hx=>i.block x ⟨by have:=hx.1;rw[ab];omega,mm⟩⟩;have Y:Hid (Cur (w3.setCell ⟨g,2,none⟩ (.int .i64 e2)) g base bs A c (at_+R.2.1) R.2.2):=(by rw[hz.2,<-E];exact J.setErr e2);have aa:Hid (Kept (fun x=>x<w.heap.size/\x≠g) w (w3.setCell ⟨g,2,none⟩ (.int .i64 e2))):=L.out.set (fun h=>h.2 rfl) _;have hB:=j.far (fun e=>ag e) (p:=⟨g,2,none⟩) (.int .i64 e2);have d0:=hB.ia 0;generalize w3.setCell ⟨g,2,none⟩ (.int .i64 e2)=w5 at *;clear hB j J i D L HK z E hR hz;go_wp2_with fail;go_ret;exact⟨rfl,Y.out,aa.out⟩
   ·exact absurd (E.symm.trans h0) hR
 ·have D:=hid (NL _ g base bs A c at_ er h2 he (.func (.func 301) #[] #[.pointer (some ⟨w,0,none⟩), .pointer (some ⟨w.heap.size+1,0,none⟩)]));have eV:DV most bs at_ er= []:=Ab he;have eA:Df most bs at_ er=at_:=Ab he;have eE:De most bs at_ er=er:=Ab he;rw[eV,eA,eE];have HK:=hid Q;have HC:=hid h2;clear h2 G M Q he eV eA eE;go_enter func251,ntmps251;exact a1t
theorem Ag7{bs:List Nat}(h8:∀x∈bs,x<=255){at_:Nat}(er:Int)(h:at_<=bs.length):uZ most bs at_ er<=bs.length:=by
 exact a3d
theorem zY{bs:List Nat}(h8:∀x∈bs,x<=255)(at_:Nat)(er:Int):AV most bs at_ er<=most:=by
 unfold AV;split
 ·omega
 ·exact(Hu most (bs.drop at_) (fun x hx=>h8 x (Bz hx))).1
def Hh(bs:List Nat)(at_:Nat)(er:Int):Int:=if at_<bs.length then ES er 2 else er
theorem U4(w:World)(g base:Nat)(bs:List Nat)(A:Option Addr)(c at_:Nat)(er:Int)(h:Cur w g base bs A c at_ er):
 Calls prog 114 #[.pointer (some ⟨g,0,none⟩)] w fun e w'=>e= .returned (.int .i64 (Hh bs at_ er))/\Cur w' g base bs A c at_ (Hh bs at_ er)/\Kept (fun x=>x≠g) w w':=by
 have DL:=hid (Ad9 w g base bs A c at_ er h);have H:=hid h;obtain⟨R,hR⟩:=ii (Hh bs at_ er);rw[<-hR];unfold Hh at hR;by_cases j:at_<bs.length
 ·rw[Ab j]at hR;have gl:=ic ((0:Int)<((bs.length-at_:Nat):Int))
  have M:=ic (0<bs.length-at_)
  have N:=ic (at_<bs.length)
  have HR:=hid hR;obtain⟨m,hm⟩:=ii (bs.length-at_);rw[<-hm]at DL gl M;clear h hR j hm;go_enter func114,ntmps114;go_wp2_with fail;refine DL.out.mono ?_;rintro e w1 ⟨rfl,q,hq⟩;have y:Hid (Cur w1 g base bs A c at_ er):=by rw[hq];exact H.out.drewN q
  have z:Hid (Kept (fun x=>x≠g) w w1):=rg
  clear hq;go_wp2_with fail;refine(GS w1 g base bs A c at_ er 2 y.out).mono ?_;rintro e w2 ⟨rfl,i,G⟩;rw[<-HR.out]at i;have L:=hid i;have J:Hid (Kept (fun x=>x≠g) w w2):=z.out.trans G;have DE:=hid (Dn w2 g base bs A c at_ R i);clear i G HR;go_wp2_with fail;refine DE.out.mono ?_;rintro e w3 ⟨rfl,rfl⟩;go_wp2_with fail;go_ret;exact⟨rfl,L.out,J.out⟩
 ·rw[Aa j]at hR;subst hR;have E:bs.length-at_=0:=by omega
  rw[E]at DL;have gl:=ig ((0:Int)<((0:Nat):Int))
  clear h j E;go_enter func114,ntmps114;go_wp2_with fail;refine DL.out.mono ?_;rintro e w1 ⟨rfl,q,hq⟩;have y:Hid (Cur w1 g base bs A c at_ R):=by rw[hq];exact H.out.drewN q
  have z:Hid (Kept (fun x=>x≠g) w w1):=rg
  have DE:=hid (Dn w1 g base bs A c at_ R y.out);clear hq;go_wp2_with fail;refine DE.out.mono ?_;rintro e w3 ⟨rfl,rfl⟩;go_wp2_with fail;go_ret;exact⟨rfl,y.out,z.out⟩
def GT(d:Nat):Nat:=if d<9223372036854775808 then 2*d else 36893488147419103231-2*d
def Je(a b:Nat):Nat:=(a+18446744073709551616-b) % 18446744073709551616
theorem L6{d:Nat}(h:d<18446744073709551616):GT d<18446744073709551616:=by unfold GT;split<;>omega
theorem Om(a b:Nat):Je a b<18446744073709551616:=Nat.mod_lt _ nj
def Cx(g:Nat->Nat->List Nat):Nat->List Nat->List Nat
 |_,[]=> []
 |was,t :: l=>g was t++Cx g t l
theorem Rx(g:Nat->Nat->List Nat):∀ (l:List Nat) (h t:Nat),Cx g h (l++ [t])=Cx g h l++g (l.getLast?.getD h) t
 | [],h,t=>by simp[Cx]
 |x :: l,h,t=>by
  rw[Ez,Cx,Rx g l x t,Cx,AE]
  have e:(x :: l).getLast?.getD h=l.getLast?.getD x:=by
   cases l with
   |nil=>rfl
   |cons z s=>simp[List.getLast?_cons]
  rw[e]
theorem Vp{g:Nat->Nat->List Nat}(h:∀a b,(g a b).length<=10):∀ (l:List Nat) (i:Nat),(Cx g i l).length<=10*l.length
 | [],_=>by simp[Cx]
 |t :: l,i=>by have:=Vp h l t;have:=h i t;rw[Cx,Ag,AD];omega
theorem VW{g:Nat->Nat->List Nat}(h:∀a b,∀y∈g a b,y<=255):∀ (l:List Nat) (i:Nat),∀y∈Cx g i l,y<=255
 | [],_,y,hy=>by simp[Cx]at hy
 |t :: l,i,y,hy=>by
  rw[Cx]at hy;rcases BJ.1 hy with hy|hy
  ·exact h i t y hy
  ·exact VW h l t y hy
def stepT(was t:Nat):List Nat:=fZ (GT (Je t was))
theorem Xa(a b:Nat):(stepT a b).length<=10:=qZ (L6 (Om b a))
theorem aF(a b:Nat):∀y∈stepT a b,y<=255:=fun y hy=>Dc _ y hy
def lead(x:Nat):List Nat->Nat
 | []=>0
 |y :: t=>if y=x then lead x t+1 else 0
theorem Qj(x:Nat):∀l,lead x l<=l.length
 | []=>by simp[lead]
 |y :: t=>by have:=Qj x t;rw[lead];split<;>simp<;>omega
theorem QC(x:Nat):∀ (l:List Nat) (j:Nat),(∀i,i<j->l[i]? =some x)->l[j]? ≠some x->lead x l=j
 | [],0,_,_=>rfl
 | [],j+1,h,_=>by have:=h 0 nj;simp at this
 |y :: t,0,_,h=>by rw[lead,Aa];intro e;exact h (by rw[e];rfl)
 |y :: t,j+1,h,h2=>by have:=h 0 nj;rw[lead,Ab (by simpa using this),QC x t j (fun i hi=>by have:=h (i+1) nj;simpa using this) sI]
def lvB:List Nat->List Nat
 | []=> []
 |x :: t=>x :: (fZ (lead x t+1)++lvB (t.drop (lead x t)))
termination_by l=>l.length
decreasing_by simp only[List.length_drop,List.length_cons];omega
theorem UP:∀ (n:Nat) (l:List Nat),l.length<=n->(∀x∈l,x<=255)->l.length<18446744073709551616->(lvB l).length<=11*l.length
 |_,[],_,_,_=>by rw[lvB];simp
 |n+1,x :: t,h,h8,h64=>by have hl:=Qj x t;simp only[List.length_cons]at h h64;have:=qZ (x:=lead x t+1) nj;have ih:=UP n (t.drop (lead x t)) nz (fun y hy=>h8 y (Cn _ (Bz hy))) nz;rw[AQ]at ih;rw[lvB];simp only[List.length_cons,List.length_append];omega
theorem WO:∀ (n:Nat) (l:List Nat),l.length<=n->(∀x∈l,x<=255)->∀y∈lvB l,y<=255
 |_,[],_,_,y,hy=>by rw[lvB]at hy;cases hy
 |n+1,x :: t,h,h8,y,hy=>by
  rw[lvB]at hy;simp only[List.length_cons]at h;rcases AO.1 hy with rfl|hy
  ·exact h8 _ rX
  ·rcases BJ.1 hy with hy|hy
   ·exact Dc _ y hy
   ·exact WO n (t.drop (lead x t)) nz (fun y hy=>h8 y (Cn _ (Bz hy))) y hy
def BQ(l:List Rec):List Nat:=l.map fun r=>r.time.toNat
def Cj(l:List Rec):List Nat:=l.map fun r=>r.level.toNat
def DJ(l:List Rec):List Nat:=Cx stepT 0 (BQ l)++lvB (Cj l)
theorem Vc{l:List Rec}(h:∀r∈l,BR r):∀x∈Cj l,x<=255:=fun x hx=>by obtain⟨r,hr,rfl⟩:=CH.1 hx;have:=h r hr;obtain⟨_,_,h1,h2⟩:=this;omega
theorem WU{l:List Rec}(h:∀r∈l,BR r):∀x∈DJ l,x<=255:=fun x hx=>by
 rcases BJ.1 hx with hx|hx
 ·exact VW aF _ _ x hx
 ·exact WO _ _ (Ak _) (Vc h) x hx
theorem Lj{l:List Rec}(h:∀r∈l,BR r)(hn:l.length<=1000000):(DJ l).length<=21*l.length:=by have h1:=Vp Xa (BQ l) 0;have h2:=UP _ (Cj l) (Ak _) (Vc h) (by unfold Cj;rw[Bu];omega);unfold BQ at h1;unfold Cj at h2;rw[Bu]at h1 h2;unfold DJ;rw[Ag];unfold BQ Cj;omega
def Dz(v:Nat):List Nat:= [70,73,82,75,v]
def Dq(b:Bool):Nat:=if b=true then 1 else 0
def Og(pl:Bool):List Nat->List Rec->List (List Nat)
 | [],_=> []
 |c :: t,l=>Bm (sZ true (l.take c)) pl :: Og pl t (l.drop c)
theorem Qe(S:Nat):∀ (t:List Nat) (h c:Nat),(goG S h c t).sum=c+t.length
 | [],_,c=>by simp[goG]
 |x :: t,h,c=>by
  rw[goG];split
  ·rw[GC,Qe S t];simp;omega
  ·rw[Qe S t];simp;omega
theorem Qa(S:Nat):∀ (t:List Nat) (h c:Nat),1<=c->∀x∈goG S h c t,1<=x
 | [],_,c,hc,x,hx=>by rw[goG,Eo]at hx;omega
 |y :: t,h,c,hc,x,hx=>by
  rw[goG]at hx;split at hx
  ·rcases AO.1 hx with rfl|hx
   ·exact hc
   ·exact Qa S t _ 1 nj x hx
  ·exact Qa S t _ (c+1) nj x hx
theorem Qb(S:Nat)(l:List Nat):(Ij S l).sum=l.length:=by
 cases l with
 |nil=>rfl
 |cons x t=>rw[Ij,Qe];simp;omega
theorem Na(S:Nat)(l:List Nat):∀x∈Ij S l,1<=x:=by
 cases l with
 |nil=>intro x hx;cases hx
 |cons y t=>exact Qa S t y 1 nj
theorem PW:∀ {l:List Nat},(∀x∈l,1<=x)->l.length<=l.sum
 | [],_=>rX
 |x :: l,h=>by have h1:=h x rX;have h2:=PW (l:=l) (fun y hy=>h y (by simp[hy]));rw[AD,GC];omega
theorem PI(wh:Bool)(l:List Rec):(Fh wh l).length=l.length:=by unfold Fh;rw[Bu]
theorem p7{P:Program}(w:World)(t ty e:TypeId)(i:TypeInfo)(ht:P.underlying t=some (.slice e))(hi:P.info? e=some i)(hz:i.zero=some (.int .u8 0))(z:i.size=1)(N:i.bytes=1)
 (b:Addr)(n c:Nat)(h:List Value)(Y:h.length=n)(E:∀j v,h[j]? =some v->w.cell? (b.add j)=some v)
 (a:Addr)(m c2:Nat)(y:List Value)(hl:y.length=m)(G:∀j v,y[j]? =some v->w.cell? (a.add j)=some v)(hg:c<n+m)(U:n+m<=1000000):
 ∃v' w',(Builtin.append_ #[t,t] ty #[.slice (some b) n c, .slice (some a) m c2]).run P w= .ok v' w'/\w'.ownsRow w e 1 v' (n+m) (h++y)/\Below w w w':=by
 have hr:=run_append_grow (P:=P) w t ty e i (.int .u8 0) ht hi hz b n c h (by rw[z];omega) E a m c2 y (by rw[z];omega) G hg nj (by rw[N];exact growslice_fits nj nj);have Q:=grownCap_ge w (n+m) c e;have L:grownCap w (n+m) c e<=maxLen:=grownCap_le_maxLen w (n+m) c e sS;refine⟨_,_,hr,⟨pf, .inr ⟨w.heap.size,_,_,rfl,Ak _,heap_alloc_new w.drew _,Q,L,?_,?_⟩⟩,((Ae _ _).drew).alloc (Ak _) _⟩
 ·have M:(Value.int IntKind.u8 0).cells.size=1:=rfl;simp only[Array.size_append,List.size_toArray,size_zeroCells,M];omega
 ·simp only[Array.toList_append,List.append_assoc];rw[<-AE];have J:(h++y).length=(n+m)*1:=by rw[Ag];omega
  rw[<-J];exact List.take_left
theorem iY{P:Program}{y:Array Oper}{rest:List Oper}{o:Oper}{a:Act}{Q:Exit->Act->World->Prop}(z:o.guard=none)(s x:Operand)(t:TypeId)
 (ho:o.op= .call {callee:= .builtin .append,args:=#[s,x],argTypes:=#[t,t] })(e:TypeId)(i:TypeInfo)(ht:P.underlying t=some (.slice e))(hi:P.info? e=some i)(hz:i.zero=some (.int .u8 0))(hsize:i.size=1)(hby:i.bytes=1)
 (b:Addr)(n c:Nat)(olds:List Value)(hs:a.eval s= .slice (some b) n c)(hlo:olds.length=n)(holds:∀j v,olds[j]? =some v->w.cell? (b.add j)=some v)
 (ad:Addr)(m c2:Nat)(news:List Value)(hx:a.eval x= .slice (some ad) m c2)(hl:news.length=m)(hnews:∀j v,news[j]? =some v->w.cell? (ad.add j)=some v)(hg:c<n+m)(h63:n+m<=1000000)
 (h:∀v' w',w'.ownsRow w e 1 v' (n+m) (olds++news)->Below w w w'->wpList P y Q rest (a.put o.dst v') w'):wpList P y Q (o :: rest) a w:=by
 refine wpList_plain z fun K hK=> ?_;obtain⟨v',w',hr,h2,h3⟩:=p7 (P:=P) w t o.type e i ht hi hz hsize hby b n c olds hlo holds ad m c2 news hl hnews hg h63;unfold Oper.wp execOp;simp only[ho,resolve,invoke,builtin,Sem.run_bind,Sem.run_pure,Result.andThen_ok,List.map_toArray,List.map_cons,List.map_nil,hs,hx,hr];exact hK _ _ (h v' w' h2 h3)
theorem KJ{l:List Rec}(h:CI l=0):∀r∈l,Cq r=false:=by
 unfold CI at h;split at h
 ·cases h
 ·split at h
  ·cases h
  ·rename_i h1;intro r hr;cases hb:Cq r
   ·rfl
   ·exact absurd (List.any_eq_true.2 ⟨r,hr,hb⟩) h1
theorem VL{l:List Rec}{m:Nat}(h:i<m)(j:Nat):BW (l.take m) i j=BW l i j:=by
 have e:(l.take m).getD i GX=l.getD i GX:=by rw[Aq,Aq,GD,Ab h]
 unfold BW;rw[e]
theorem UK(l:List Rec)(k i j:Nat):BW l (k+i) j=BW (l.drop k) i j:=by
 have e:(l.drop k).getD i GX=l.getD (k+i) GX:=by rw[Aq,Aq,Iy]
 unfold BW;rw[e]
theorem Vy(wh:Bool){l l':List Rec}(h:l.Sublist l'):(sZ wh l).length<=(sZ wh l').length:=by
 induction h with
 |slnil=>exact Ak _
 |cons a _ ih=>unfold sZ at *;rw[CD,Ag];omega
 |cons_cons a _ ih=>unfold sZ at *;rw[CD,CD,Ag,Ag];omega
theorem Vm{bs:List Nat}(plain:Bool)(h:bs.length<=16000):(Bm bs plain).length<=bs.length+25:=by
 have hb:(Ew bs plain).length<=bs.length:=by
  unfold Ew;split
  ·rename_i hc;rw[Cp]at hc;have h2:=hc.2;unfold sqz at h2;simp at h2;omega
  ·omega
 have h1:=qZ (x:=bs.length) nj;have h2:=qZ (x:=(Ew bs plain).length) nj;unfold Bm Em Jf;simp only[List.length_append,List.length_singleton];have:(Bv (Bg (([Hj bs plain]++fZ bs.length++fZ (Ew bs plain).length)++Ew bs plain))).length=4:=rfl;omega
theorem zX(wh:Bool)(l:List Rec)(m:Nat):(sZ wh (l.take m)).length+(sZ wh (l.drop m)).length=(sZ wh l).length:=by
 conv=>rhs;rw[<-ER m l]
 unfold sZ;rw[I6,Ag]
def FrsAt(w:World)(base:Nat)(ps:List Part):Prop:=∀p∈ps,w.ownsRow base 5 1 p.v p.ls.length (dZ .u8 p.ls)
theorem FrsAt.step{ps:List Part}(h:FrsAt w base ps)(hb:Below w w w'):FrsAt w' base ps:=fun p hp=>eZ (h p hp) (fun y hy=>hb.block y (Aj (h p hp) y hy).2)
theorem Gv{s s' n':Nat}{e e':TypeId}{v v':Value}{j:List Value}(h:w.ownsRow base e s v n xs)(ho:w.ownsRow i e' s' v' n' j)(z:e≠e')(hg:w.grownBy w' v'.ownBlock):w'.ownsRow base e s v n xs:=
 eZ h (fun y hy=>hg.block y (Aj h y hy).2 (fun e=>by
  rcases FE h ho z with h0|h0
  ·rw[h0]at hy;cases hy
  ·exact h0 (hy.trans e)))
theorem FrsAt.grown{v:Value}{ps:List Part}(h:FrsAt w base ps)(ho:w.ownsRow i 28 1 v n xs)(hg:w.grownBy w' v.ownBlock):FrsAt w' base ps:=fun p hp=>Gv (h p hp) ho ip hg
theorem FrsAt.snoc{ps:List Part}{p:Part}(h:FrsAt w base ps)(hp:w.ownsRow base 5 1 p.v p.ls.length (dZ .u8 p.ls)):FrsAt w base (ps++ [p]):=fun q hq=>by
 rcases BJ.1 hq with hq|hq
 ·exact h q hq
 ·rw[Eo.1 hq];exact hp
theorem Oc:(prog.info? 28).map (fun i=>(i.zero,i.size,i.bytes))=some (some (.slice none 0 0),1,24):=my
theorem lW{cs:Array Value}(hb:base<=w.heap.size)(hn:cs.size=n)(hm:n<=maxLen):(w.alloc (.cells cs 5)).ownsRow base 5 1 (.slice (some ⟨w,0,none⟩) n n) n cs.toList:=
 ⟨by simpa using hn, .inr ⟨w.heap.size,n,cs,rfl,hb,heap_alloc_new w _,Ak _,hm,nj,by rw[CZ,<-hn,<-Array.length_toList,List.take_length]⟩⟩
theorem Uz{fs:List (List Nat)}{x:List Nat}(h:x∈fs):x.length<=fs.flatten.length:=by
 induction fs with
 |nil=>cases h
 |cons y t ih=>
  rw[List.flatten_cons,Ag];rcases AO.1 h with rfl|h
  ·omega
  ·have:=ih h;omega
theorem Nk{l:List Rec}(h:CI l≠0):CI l=6:=by
 unfold CI at h ⊢;split
 ·rfl
 ·split
  ·rfl
  ·split
   ·rfl
   ·rename_i h1 h2 h3;rw[Aa h1,Aa h2,Aa h3]at h;exact absurd rfl h
def CT(o:Opt):Int:=if(16<=o.block/\o.block<=32768)/\(1<=o.bucket/\o.bucket<=64)/\(o.data=0/\o.parity=0/\o.chunk=0)then 0 else 9
theorem MX{o:Opt}(h:CT o≠0):CT o=9:=by
 unfold CT at h ⊢;split
 ·rename_i hc;rw[Ab hc]at h;exact absurd rfl h
 ·rfl
def Opt.body(o:Opt):Opt:=⟨o.block,o.plain,o.bucket,0,0,0⟩
def Dj(o:Opt):Int:=CT o.body
theorem a1d{p:Prop}(h:p:=by go_enter func92,ntmps92;go_wp2_with fail;refine(D.out _).mono ?_;rintro e w1 ⟨rfl,rfl⟩;go_wp2_with fail;refine(DB.out _).mono ?_;rintro e w1 ⟨rfl,rfl⟩;go_wp2_with fail;go_ret;exact⟨rfl,sT⟩):p:=h
theorem KV(w:World)(o:Opt):
 Calls prog 92 #[.int .i64 2,o.val] w fun e w'=>e= .returned (.int .i64 (CT o))/\Below w w w':=by
 obtain⟨bl,pl,bu,da,pa,ch⟩:=o;unfold Opt.val CT;simp only;have D:=hid (fun wx=>Lm wx bl 16 32768);have DB:=hid (fun wx=>Lm wx bu 1 64);have HE:=Qm pl pl bl bl 0 0 da 0 pa 0 ch 0;by_cases hb:16<=bl/\bl<=32768
 ·rw[Bd hb]at D;by_cases hu:1<=bu/\bu<=64
  ·rw[Bd hu]at DB;by_cases hz:da=0/\pa=0/\ch=0
   ·rw[Ab ⟨hb,hu,hz⟩];have hd:decide (bl=bl/\pl=pl/\(0:Int)=0/\da=0/\pa=0/\ch=0)=true:=Bd ⟨rfl,rfl,rfl,hz⟩;rw[hd]at HE;clear hb hz hd hu;exact a1d
   ·rw[Aa (fun h=>hz h.2.2)];have hd:decide (bl=bl/\pl=pl/\(0:Int)=0/\da=0/\pa=0/\ch=0)=false:=Be (fun h=>hz h.2.2.2);rw[hd]at HE;clear hb hz hd hu;exact a1d
  ·rw[Be hu]at DB;rw[Aa (fun h=>hu h.2.1)];clear hb hu HE;exact a1d
 ·rw[Be hb]at D;rw[Aa (fun h=>hb h.1)];clear hb HE DB;exact a1f
theorem a1c{p:Prop}(h:p:=by go_enter func41,ntmps41;go_wp2_with fail;go_ret;exact⟨rfl,sT⟩):p:=h
theorem o7(w:World)(o:Opt):
 Calls prog 41 #[.int .i64 2,o.val] w fun e w'=>e= .returned (.int .i64 (CT o))/\Below w w w':=by
 obtain⟨bl,pl,bu,da,pa,ch⟩:=o;unfold Opt.val CT;simp only;by_cases h1:bl<16
 ·rw[Aa nj];have g1:decide (bl<16)=true:=by simpa using h1
  exact a1c
 have g1:decide (bl<16)=false:=by simpa using h1
 by_cases h2:32768<bl
 ·rw[Aa nj];have g2:decide (32768<bl)=true:=by simpa using h2
  clear h1;exact a1c
 have g2:decide (32768<bl)=false:=sI
 by_cases h3:bu<1
 ·rw[Aa nj];have g3:decide (bu<1)=true:=by simpa using h3
  clear h1 h2;exact a1c
 have g3:decide (bu<1)=false:=by simpa using h3
 by_cases h4:64<bu
 ·rw[Aa nj];have g4:decide (64<bu)=true:=by simpa using h4
  clear h1 h2 h3;exact a1c
 have g4:decide (64<bu)=false:=by simpa using h4
 by_cases h5:da=0
 ·by_cases h6:pa=0
  ·by_cases h7:ch=0
   ·rw[Ab ⟨nj,nj,h5,h6,h7⟩];subst h5 h6 h7;clear h1 h2 h3 h4;exact a1c
   ·rw[Aa nj];have g7:(ch != 0)=true:=(by simpa using h7);subst h5 h6;clear h1 h2 h3 h4 h7;exact a1c
  ·rw[Aa nj];have g6:(pa != 0)=true:=(by simpa using h6);subst h5;clear h1 h2 h3 h4 h6;exact a1c
 ·rw[Aa nj];have g5:(da != 0)=true:=by simpa using h5
  clear h1 h2 h3 h4 h5;exact a1c
theorem MR(w:World)(o:Opt):
 Calls prog 44 #[o.val] w fun e w'=>e= .returned (.int .i64 (Dj o))/\Below w w w':=by
 have D:=hid (fun wx=>KV wx o.body);unfold Dj;obtain⟨bl,pl,bu,da,pa,ch⟩:=o;unfold Opt.body Opt.val at D;unfold Opt.val Opt.body;simp only at D ⊢;generalize CT ⟨bl,pl,bu,0,0,0⟩=E at *;go_enter func44,ntmps44;go_wp2_with fail;refine(D.out _).mono ?_;rintro e w1 ⟨rfl,hb⟩;have HB:=hid hb;clear hb D;go_wp2_with fail;go_ret;exact⟨rfl,cZ HB.out (aZ (Ae _ _))⟩
def Gd(bs:List Nat):Nat:=bs.getD 0 0+256*bs.getD 1 0+65536*bs.getD 2 0+16777216*bs.getD 3 0
theorem Ng{y:Nat}(hx:x<2 ^ i)(h:x+y*2 ^ i<18446744073709551616):bits .or .u64 (x:Int) ((y*2 ^ i:Nat):Int)=((x+y*2 ^ i:Nat):Int):=RM hx h
theorem XY(w:World)(g base:Nat)(bs:List Nat)(A:Option Addr)(c:Nat)(h4:bs.length=4)(h8:∀x∈bs,x<=255)(h:Cur w g base bs A c 0 0):
 Calls prog 111 #[.pointer (some ⟨g,0,none⟩), .int .i64 4] w fun e w'=>e= .returned (.int .u64 (Gd bs:Nat))/\Cur w' g base bs A c 4 0/\Kept (Bh g w) w w':=by
 have D:=JA w g base bs A c 0 0 4 nj nj h;unfold JR at D;rw[Ie,IU,IQ,Aa nj,Aa nj,Aa nj,I7,Cf nj,h4]at D
 obtain⟨b0,b1,b2,b3,rfl⟩:∃b0 b1 b2 b3,bs= [b0,b1,b2,b3]:=by
  match bs,h4 with
  | [b0,b1,b2,b3],_=>exact⟨b0,b1,b2,b3,rfl⟩
 have l0:=h8 b0 rX;have l1:=h8 b1 rX;have l2:=h8 b2 rX;have l3:=h8 b3 rX;have hV:Gd [b0,b1,b2,b3]=b0+256*b1+65536*b2+16777216*b3:=rfl;rw[hV];have D:=hid D;have E:=h.blk.lt;clear h h8 h4 hV;go_enter func111,ntmps111;go_wp2_with fail;refine D.out.mono ?_;rintro e w1 ⟨v,rfl,j,hc,hk⟩;obtain⟨gv,cv,hv,_⟩:=j.form nj;subst hv;have c0:=j.cellAt 0 nj;have c1:=j.cellAt 1 nj;have c2:=j.cellAt 2 nj;have c3:=j.cellAt 3 nj;simp only[dZ,List.map_cons,List.map_nil,List.getElem?_cons_zero,List.getElem?_cons_succ]at c0 c1 c2 c3;have HC:=hid hc;have HK:=hid hk;clear j hc hk D;have E0:Hid (bits .or .u64 (0:Int) (b0:Int)=((b0:Nat):Int)):=by have h:=Ng (x:=0) (y:=b0) (i:=0) nj nj;show _=_;simpa using h
 have E1:Hid (bits .or .u64 (b0:Int) ((b1:Int)*256)=((b0+256*b1:Nat):Int)):=by have h:=Ng (x:=b0) (y:=b1) (i:=8) nj nj;rw[show((b1*2 ^ 8:Nat):Int)=(b1:Int)*256 by omega]at h;show _=_;rw[h];omega
 have E2:Hid (bits .or .u64 ((b0+256*b1:Nat):Int) ((b2:Int)*65536)=((b0+256*b1+65536*b2:Nat):Int)):=by have h:=Ng (x:=b0+256*b1) (y:=b2) (i:=16) nj nj;rw[show((b2*2 ^ 16:Nat):Int)=(b2:Int)*65536 by omega]at h;show _=_;rw[h];omega
 have E3:Hid (bits .or .u64 ((b0+256*b1+65536*b2:Nat):Int) ((b3:Int)*16777216)=((b0+256*b1+65536*b2+16777216*b3:Nat):Int)):=by have h:=Ng (x:=b0+256*b1+65536*b2) (y:=b3) (i:=24) nj nj;rw[show((b3*2 ^ 24:Nat):Int)=(b3:Int)*16777216 by omega]at h;show _=_;rw[h];omega
 go_wp2_with fail;go_loopw [5,20] (fun xv iv wr=>Hid (wr=w1)/\((xv= .int .u64 0/\iv= .int .i64 0)∨(xv= .int .u64 (b0:Nat)/\iv= .int .i64 1)∨(xv= .int .u64 (b0+256*b1:Nat)/\iv= .int .i64 2)∨(xv= .int .u64 (b0+256*b1+65536*b2:Nat)/\iv= .int .i64 3)∨(xv= .int .u64 (b0+256*b1+65536*b2+16777216*b3:Nat)/\iv= .int .i64 4))) (fun _ iv _=>4-(intOf iv).toNat)
 case atStart=>exact⟨ja, .inl ⟨rfl,rfl⟩⟩
 case round=>
  obtain⟨hw,z⟩:=hrel;have hw:=hw.out;subst hw;rcases z with ⟨rfl,rfl⟩|⟨rfl,rfl⟩|⟨rfl,rfl⟩|⟨rfl,rfl⟩|⟨rfl,rfl⟩
  ·have e0:=E0.out;go_wp2_with fail;exact⟨⟨trivial, .inr (.inl ⟨rfl,rfl⟩)⟩,sF⟩
  ·have e1:=E1.out;have s1:IntKind.u64.wrap ((b1:Int)*256)=(b1:Int)*256:=pm;go_wp2_with fail;exact⟨⟨trivial, .inr (.inr (.inl ⟨rfl,rfl⟩))⟩,sF⟩
  ·have s2:IntKind.u64.wrap ((b2:Int)*65536)=(b2:Int)*65536:=pm;go_wp2_with fail;exact⟨⟨trivial, .inr (.inr (.inr (.inl ⟨by rw[show((b0:Int)+256*(b1:Int))=((b0+256*b1:Nat):Int) by omega,E2.out],rfl⟩)))⟩,sF⟩
  ·have s3:IntKind.u64.wrap ((b3:Int)*16777216)=(b3:Int)*16777216:=pm;go_wp2_with fail;exact⟨⟨trivial, .inr (.inr (.inr (.inr ⟨by rw[show((b0:Int)+256*(b1:Int)+65536*(b2:Int))=((b0+256*b1+65536*b2:Nat):Int) by omega,E3.out],rfl⟩)))⟩,sF⟩
  ·go_wp2_with fail;go_ret;exact⟨rfl,HC.out,HK.out⟩
def FV(ls:List Nat):List Nat:=(ls.drop (ls.length-4-Gd (ls.drop (ls.length-4)))).take (Gd (ls.drop (ls.length-4)))
def Hn(ls:List Nat):Prop:=ls.length<4∨ls.length-4<Gd (ls.drop (ls.length-4))
def Wj(ls:List Nat)(A:Option Addr)(c:Nat)(w:World)(e:Ending)(w':World):Prop:=
 Below w w w'/\(Hn ls->e= .returned (.tuple #[(),(), .int .i64 1]))/\
  (¬Hn ls->∃v,e= .returned (.tuple #[.slice A (ls.length-4-Gd (ls.drop (ls.length-4))) c,v, .int .i64 (BI (FV ls))])/\w'.ownsRow w 5 1 v (AJ (FV ls)).length (dZ .u8 (AJ (FV ls))))
theorem lC{bs:List Nat}(h8:∀x∈bs,x<=255)(h4:bs.length=4):Gd bs<4294967296:=by
 match bs,h4 with
 | [b0,b1,b2,b3],_=>have l0:=h8 b0 rX;have l1:=h8 b1 rX;have l2:=h8 b2 rX;have l3:=h8 b3 rX;have hV:Gd [b0,b1,b2,b3]=b0+256*b1+65536*b2+16777216*b3:=rfl;omega
theorem ZV(w:World)(A:Option Addr)(n c:Nat)(ls:List Nat)(hn:ls.length=n)(ab:n<=100000)(hc:n<=c)(h8:∀x∈ls,x<=255)(ht:TabAt w)(hh:∀a,A=some a->a.add 0=a)(ha:Row w w A n 1 (jZ .u8 ls)):
 Calls prog 56 #[.slice A n c] w (Wj ls A c w):=by
 unfold Wj;by_cases h4:n<4
 ·have i:Hn ls:= .inl nj;have HB:=hid i;have s1:decide (IntKind.i64.wrap ((n:Int)-4)<0)=true:=by rw[Ar _ nj];simp;omega
  have s2:=ic ((n:Int)-4<0)
  have s3:IntKind.i64.wrap ((n:Int)-4)=(n:Int)-4:=Ar _ nj;clear hn ab hc h8 ht hh ha i;go_enter func56,ntmps56;go_wp2_with fail
  go_ret3
  exact⟨Ae _ _,fun _=>rfl,fun h=>absurd HB.out h⟩
 ·obtain⟨m,rfl⟩:∃m,n=m+4:=⟨n-4,nj⟩;have z:ls.length-4=m:=by omega
  have J:(ls.drop m).length=4:=nz
  have M:∀x∈ls.drop m,x<=255:=fun x hx=>h8 x (Bz hx);have am:=lC M J;have U:A=none->m+4=0/\c=0:=fun e=>by obtain⟨b,ar,e2,_⟩:=ha nj;rw[e]at e2;cases e2
  have hd:=ET ha (show m<=m+4 by omega) hc;rw[show m+4-m=4 by omega]at hd;have Y:AR A m c 1=none->4=0/\c-m=0:=fun h=>by obtain⟨b,ar,e2,_⟩:=hd nj;rw[h]at e2;cases e2
  have D0:=hid (Ab7 w (AR A m c 1) 4 (c-m) (ls.drop m) J nj Y hd);have af:=fun wx=>Gr (P:=prog) (t:=28) (s:=1) underlying28 (fun _=>by kernel_rfl) A (m+4) c .i64 (m:Int) m rfl nj wx;have Q:=af;rw[show m+4-m=4 by omega]at af;have D1:=hid (fun wx g B d h=>XY wx g w (ls.drop m) B d J M h);have s1:IntKind.i64.wrap (((m+4:Nat):Int)-4)=(m:Int):=pj
  have wm:IntKind.i64.wrap (m:Int)=(m:Int):=Ar _ nj;have g1:=ig ((m:Int)<0)
  obtain⟨k,hk⟩:=ii (Gd (ls.drop m));rw[<-hk]at D1 am;have wk:IntKind.i64.wrap (k:Int)=(k:Int):=Ar _ nj;by_cases al:m<k
  ·have i:Hn ls:= .inr (by rw[z,<-hk];exact al);have ae:=hid i;have g2:=ic ((m:Int)<k);have ak:=ic (m<k);generalize AR A m c 1=A1 at *;generalize c-m=c1 at *;clear hd ha h8 M ht hh U Y hn ab hc i hk J z h4 Q;go_enter func56,ntmps56;go_wp2_with fail;refine D0.out.mono ?_;rintro e w1 ⟨g,B,d,rfl,j,L⟩;have E:=hid L;have D2:=hid (D1.out w1 g B d j);have ag:=j.lo;clear j L D0 D1;go_wp2_with fail;refine D2.out.mono ?_;rintro e w2 ⟨rfl,Z,G⟩;have y:Hid (Below w w w2):=E.out.trans (G.below fun b h=>⟨by have:=E.out.size;omega,nj⟩);clear Z G;go_wp2_with fail
   go_ret3
   exact⟨y.out,fun _=>rfl,fun h=>absurd ae.out h⟩
  ·have ac:¬Hn ls:=fun h=>h.elim (fun h=>by omega) (fun h=>by rw[z,<-hk]at h;omega);have aw:=hid ac;have g2:=ig ((m:Int)<k);have ak:=ig (m<k);obtain⟨r,hr⟩:=ii (m-k);have s2:IntKind.i64.wrap ((m:Int)-(k:Int))=(r:Int):=pj;have ai:FV ls=(ls.drop r).take k:=(by unfold FV;rw[z,<-hk,<-hr]);have ah:=Fj (ET ha (show r<=m+4 by omega) hc) (show k<=m+4-r by omega);have DC:=hid (fun wx (hb:Below w w wx)=>KF wx (AR A r c 1) k (c-r) ((ls.drop r).take k) oi nj nj (fun x hx=>h8 x (Bz (BX hx))) (ht.step hb) ((ah.below hb).mono hb.size));rw[<-ai]at DC;have an:=fun wx=>Oo (P:=prog) (t:=28) (s:=1) underlying28 (fun _=>by kernel_rfl) A (m+4) c .i64 .i64 (r:Int) (m:Int) r m rfl rfl nj nj wx;rw[show m-r=k by omega]at an;have ax:=fun wx=>EG (P:=prog) (t:=28) (s:=1) underlying28 (fun _=>by kernel_rfl) A (m+4) c .i64 (r:Int) r rfl nj hh wx;have av:Hid (ls.length-4-Gd (ls.drop (ls.length-4))=r):=(by show _=_;rw[z,<-hk,hr]);generalize AR A m c 1=A1 at *;generalize c-m=c1 at *;generalize AR A r c 1=A2 at *;generalize c-r=c2 at *;clear hd ha h8 M ht hh U Y hn ab hc ac hk J z h4 Q ah ai hr;go_enter func56,ntmps56;go_wp2_with fail;refine D0.out.mono ?_;rintro e w1 ⟨g,B,d,rfl,j,L⟩;have E:=hid L;have D2:=hid (D1.out w1 g B d j);have ag:=j.lo;clear j L D0 D1;go_wp2_with fail;refine D2.out.mono ?_;rintro e w2 ⟨rfl,Z,G⟩;have y:Hid (Below w w w2):=E.out.trans (G.below fun b h=>⟨by have:=E.out.size;omega,nj⟩);have aa:=hid (DC.out w2 y.out);unfold GK at aa;clear Z G DC E;go_wp2_with fail;refine aa.out.mono ?_;rintro e w3 ⟨v,rfl,N,aj⟩;have au:Hid (Below w w w3):=y.out.trans (aj.mono y.out.size);have aq:Hid (w3.ownsRow w 5 1 v (AJ (FV ls)).length (dZ .u8 (AJ (FV ls)))):=kZ N y.out.size;clear N aj aa;go_wp2_with fail
   go_ret3
   rw[av.out];exact⟨au.out,fun h=>absurd h aw.out,fun _=>⟨v,rfl,aq.out⟩⟩
def recR(bs:List Nat)(at_:Nat)(er:Int):Rec×Nat×Int:=
 let a1:=Ep bs at_ er;let e1:=Ex bs at_ er
 let a2:=takeA bs a1 e1 1;let e2:=Bq bs a1 e1 1
 let a3:=Df 4000 bs a2 e2;let e3:=De 4000 bs a2 e2
 (⟨(Dw bs at_ er:Nat),(Er bs a1 e1:Nat),EN (DV 4000 bs a2 e2),EN (DV 4000 bs a3 e3)⟩,Df 4000 bs a3 e3,De 4000 bs a3 e3)
theorem FD{ob:Nat}{bs:List Nat}{at_:Nat}{er:Int}{t:TypeId}{cs:Array Value}(h:Cur w g base bs A c at_ er)(i:Blk w ob t cs)(ht:t≠5)(hg:t≠243)(k:Nat)(u:Value):Cur (w.setCell ⟨ob,k,none⟩ u) g base bs A c at_ er:=
 ⟨h.blk.far (fun e=>Blk.apart i h.blk hg e.symm) _,BK h.own (gZ h.own i ht.symm) _,h.le,h.lo⟩
theorem V5{bs:List Nat}(h8:∀x∈bs,x<=255){at_:Nat}(er:Int)(h:at_<=bs.length):Df most bs at_ er<=bs.length:=by
 unfold Df;split
 ·exact h
 ·have:=(M9 most (bs.drop at_) (fun x hx=>h8 x (Bz hx))).2.1;rw[AQ]at this;omega
theorem Zv(most:Nat)(bs:List Nat)(at_:Nat)(er:Int):at_<=Df most bs at_ er:=by unfold Df;split<;>omega
def LA:Nat->List Nat->Nat->List Rec->List Rec×Int
 |0,_,_,acc=>(acc,0)
 |f+1,bs,at_,acc=>if bs.length<=at_ then(acc,0)else if(recR bs at_ 0).2.2≠0 then([],(recR bs at_ 0).2.2)else LA f bs (recR bs at_ 0).2.1 (acc++ [(recR bs at_ 0).1])
theorem pO{bs:List Nat}{at_:Nat}{i:List Rec}(h:bs.length<=at_):LA f bs at_ i=(i,0):=by
 cases f with
 |zero=>rfl
 |succ f=>exact Ab h
def Kv(bs:List Nat):List Rec×Int:=LA bs.length bs 0 []
def Cs(l:List Rec):List Value:=l.flatMap fun r=> [.int .u64 r.time, .int .u8 r.level, .string r.source, .string r.text]
theorem oQ(l:List Rec)(r:Rec):Cs (l++ [r])=Cs l++ [.int .u64 r.time, .int .u8 r.level, .string r.source, .string r.text]:=by simp[Cs]
theorem Nb(l m:List Rec):Cs (l++m)=Cs l++Cs m:=by simp[Cs]
theorem VT:(prog.info? 43).map (fun i=>(i.zero,i.size,i.bytes))=some (some (.agg #[.int .u64 0, .int .u8 0, .string ⟨#[]⟩, .string ⟨#[]⟩]),4,48):=my
theorem M0:∀ (l:List Rec) (i j:Nat),i<l.length->j<4->(Cs l)[i*4+j]? =some (BW l i j)
 | [],i,j,h,_=>rY
 |t :: ts,0,j,_,hj=>by
  obtain rfl|rfl|rfl|rfl:j=0∨j=1∨j=2∨j=3:=nj
  all_goals rfl
 |t :: ts,i+1,j,h,hj=>by have:=M0 ts i j sH hj;show(_ :: _ :: _ :: _ :: Cs ts)[(i+1)*4+j]? =_;rw[show(i+1)*4+j=(i*4+j)+1+1+1+1 by omega,List.getElem?_cons_succ,List.getElem?_cons_succ,List.getElem?_cons_succ,List.getElem?_cons_succ,this];rfl
theorem Qu{l:List Rec}(h:w.ownsRow base 43 4 (.slice A l.length c) l.length (Cs l)):Row w w A l.length 4 (BW l):=
 Row.of_own h rfl fun i j hi hj=>M0 l i j hi hj
def VJ(w:World)(R:List Rec×Int)(e:Ending)(w':World):Prop:=
 ∃v,e= .returned (.tuple #[v,R.2])/\w'.ownsRow w 43 4 v R.1.length (Cs R.1)/\Below w w w'
def atOf(w:World)(g:Nat):Nat:=(intOf ((w.cell? ⟨g,1,none⟩).getD (.int .i64 0))).toNat
def Fl(bs:List Nat)(at_:Nat)(er:Int):Rec×Nat×Int:=
 let a3:=Df 4000 bs at_ er;let e3:=De 4000 bs at_ er
 (⟨0,0,EN (DV 4000 bs at_ er),EN (DV 4000 bs a3 e3)⟩,Df 4000 bs a3 e3,De 4000 bs a3 e3)
theorem XD{bs:List Nat}(h8:∀x∈bs,x<=255){at_:Nat}(h:at_<=bs.length)(er:Int):(Fl bs at_ er).2.1<=bs.length/\((Fl bs at_ er).2.2=0->at_<(Fl bs at_ er).2.1)/\BR (Fl bs at_ er).1:=by
 have hA3:=V5 (most:=4000) h8 er h;refine⟨V5 h8 _ hA3,fun he=> ?_,?_⟩
 ·have e0:er=0:=by refine KK fun hn=> ?_;have e3:∀a,De 4000 bs a er=er:=fun a=>Ab hn;unfold Fl at he;simp only[e3]at he;exact hn he
  have e1:De 4000 bs at_ er=0:=by refine KK fun hn=> ?_;have e3:∀a,De 4000 bs a (De 4000 bs at_ er)=De 4000 bs at_ er:=fun a=>Ab hn;unfold Fl at he;simp only[e3]at he;exact hn he
  have hs:=(M9 4000 (bs.drop at_) (fun x hx=>h8 x (Bz hx))).2.2.1;have h1:Df 4000 bs at_ er=at_+(Cv 4000 (bs.drop at_)).2.1:=Aa (by simp[e0]);have h2:De 4000 bs at_ er=(Cv 4000 (bs.drop at_)).2.2:=Aa (by simp[e0]);have h3:=hs (h2.symm.trans e1);have h4:=Zv 4000 bs (Df 4000 bs at_ er) (De 4000 bs at_ er);show at_<Df 4000 bs _ _;omega
 ·unfold BR Fl;simp only;omega
theorem X3(w:World)(g base:Nat)(bs:List Nat)(A:Option Addr)(c at_:Nat)(er:Int)(J:bs.length<=100000)(h8:∀x∈bs,x<=255)(h:Cur w g base bs A c at_ er):
 Calls prog 201 #[.agg #[.pointer (some ⟨g,0,none⟩)],false] w fun e w'=>e= .returned (Fl bs at_ er).1.val/\Cur w' g base bs A c (Fl bs at_ er).2.1 (Fl bs at_ er).2.2/\Kept (Bh g w) w w':=by
 have ah:=h.blk.lt;unfold Fl Rec.val;simp only;have D3:=hid (fun wx hx=>Pu wx g base bs A c at_ er 4000 J h8 nj hx);generalize EN (DV 4000 bs at_ er)=v3 at *;generalize Df 4000 bs at_ er=a3 at *;generalize De 4000 bs at_ er=e3 at *;have D4:=hid (fun wx hx=>Pu wx g base bs A c a3 e3 4000 J h8 nj hx);generalize EN (DV 4000 bs a3 e3)=v4 at *;generalize Df 4000 bs a3 e3=a4 at *;generalize De 4000 bs a3 e3=e4 at *;have H:=hid h;clear h h8 J;go_enter func201,ntmps201;go_wp2_with fail;refine(D3.out _ (H.out.step sT)).mono ?_;rintro e w3 ⟨rfl,U,y⟩;have N:Blk w3 w 249 #[.pointer (some ⟨g,0,none⟩)]:=(y.block _ ⟨sj,nj⟩).trans ((Blk.made _ _ _).alloc _);have E:Blk w3 (w.heap.size+1) 43 #[.int .u64 0, .int .u8 0, .string ⟨#[]⟩, .string ⟨#[]⟩]:=(y.block _ ⟨rX,nj⟩).trans (Blk.made_at _ _ _ rX);have Z:Hid (Kept (Bh g w) w w3):=(Kept.of_below (B:=w.heap.size) sT (fun x hx=>hx.1)).trans ⟨y.os,y.tape,y.output,y.size,fun x hx=>y.block x ⟨by have:=hx.1;simp;omega,hx.2⟩⟩;have aa:=hid U;have x3:=N.ia 0;have y3:=E.ia 2;have f3:=E.frozen 2;have ab:=y.size;have Q:=hid N;have L:=hid E;clear U y N E D3;go_wp2_with fail;refine(D4.out _ (FD aa.out L.out ip ip 2 (.string v3))).mono ?_;rintro e w4 ⟨rfl,Y,j⟩;have M:Blk w4 w 249 #[.pointer (some ⟨g,0,none⟩)]:=(j.block _ ⟨(Q.out.far (p:=⟨w.heap.size+1,2,none⟩) rX (.string v3)).lt,nj⟩).trans (Q.out.far (p:=⟨w.heap.size+1,2,none⟩) rX (.string v3));have G:Blk w4 (w.heap.size+1) 43 #[.int .u64 0, .int .u8 0, .string v3, .string ⟨#[]⟩]:=(j.block _ ⟨(L.out.set 2 (.string v3)).lt,nj⟩).trans (L.out.set 2 (.string v3));have ae:Hid (Kept (Bh g w) w w4):=(Z.out.set (p:=⟨w.heap.size+1,2,none⟩) (fun h=>absurd h.1 rX) (.string v3)).trans ⟨j.os,j.tape,j.output,j.size,fun x hx=>j.block x ⟨ml,hx.2⟩⟩;have ac:=hid Y;have x4:=M.ia 0;have y4:=G.ia 3;have f4:=G.frozen 3;have ag:=j.size;have af:=hid M;have i:=hid G;clear Y j M G D4;have p0:=i.out.ia 0;have p1:=i.out.ia 1;have p2:=i.out.ia 2;have q0:=i.out.frozen 0;have q1:=i.out.frozen 1;have q2:=i.out.frozen 2;clear ab x3 y3 f3;go_wp2_with fail;have B5:=((((i.out.set 3 (.string v4)).set 0 (.int .u64 0)).set 1 (.int .u8 0)).set 2 (.string v3)).set 3 (.string v4);have C5:=FD (FD (FD (FD (FD ac.out i.out ip ip 3 (.string v4)) (i.out.set 3 (.string v4)) ip ip 0 (.int .u64 0)) ((i.out.set 3 (.string v4)).set 0 (.int .u64 0)) ip ip 1 (.int .u8 0)) (((i.out.set 3 (.string v4)).set 0 (.int .u64 0)).set 1 (.int .u8 0)) ip ip 2 (.string v3)) ((((i.out.set 3 (.string v4)).set 0 (.int .u64 0)).set 1 (.int .u8 0)).set 2 (.string v3)) ip ip 3 (.string v4);have z:∀k,¬Bh g w (⟨w.heap.size+1,k,none⟩:Addr).block:=fun k h=>absurd h.1 rX;have K5:=((((ae.out.set (z 3) (.string v4)).set (z 0) (.int .u64 0)).set (z 1) (.int .u8 0)).set (z 2) (.string v3)).set (z 3) (.string v4);generalize ((((w4.setCell ⟨w.heap.size+1,3,none⟩ (.string v4)).setCell ⟨w.heap.size+1,0,none⟩ (.int .u64 0)).setCell ⟨w.heap.size+1,1,none⟩ (.int .u8 0)).setCell ⟨w.heap.size+1,2,none⟩ (.string v3)).setCell ⟨w.heap.size+1,3,none⟩ (.string v4)=w5 at *;have z0:=B5.cell 0;have z1:=B5.cell 1;have z2:=B5.cell 2;have z3:=B5.cell 3;simp at z0 z1 z2 z3;refine Bx (v:= .agg #[.int .u64 0, .int .u8 0, .string v3, .string v4]) ?_ rfl ⟨rfl,C5,K5⟩;simp[results,results201,go_sem,z0,z1,z2,z3]
def Jd:Nat->List Nat->Nat->List Rec->List Rec×Int
 |0,_,_,acc=>(acc,0)
 |f+1,bs,at_,acc=>if bs.length<=at_ then(acc,0)else if(Fl bs at_ 0).2.2≠0 then([],(Fl bs at_ 0).2.2)else Jd f bs (Fl bs at_ 0).2.1 (acc++ [(Fl bs at_ 0).1])
theorem Ua{bs:List Nat}{at_:Nat}{i:List Rec}(h:bs.length<=at_):Jd f bs at_ i=(i,0):=by
 cases f with
 |zero=>rfl
 |succ f=>exact Ab h
def GU(bs:List Nat):List Rec×Int:=Jd bs.length bs 0 []
theorem XL(w:World)(A:Option Addr)(n c:Nat)(bs:List Nat)(hn:bs.length=n)(aq:n<=100000)(h8:∀x∈bs,x<=255)(Q:A=none->n=0/\c=0)(ha:Row w w A n 1 (jZ .u8 bs)):
 Calls prog 123 #[false, .slice A n c] w (VJ w (GU bs)):=by
 obtain⟨j0,a6,a4,a3,a0⟩:=info_parts VT;have D0:=hid (Ab7 w A n c bs hn aq Q ha);have am:bs.length<=100000:=nj
 obtain⟨R,hR⟩:=ii (GU bs);have ar:Hid (Jd bs.length bs 0 []=R):=hR.symm;rw[<-hR];have H8:=hid h8;clear hn Q ha hR h8 aq;go_enter func123,ntmps123;go_wp2_with fail;refine D0.out.mono ?_;rintro e w1 ⟨g,B,d,rfl,M,aa⟩;have z1:=aa.size;have bg:=M.blk.lt;have bc:=M.lo;have ah:=hid M;have au:=hid aa;clear M aa D0;go_wp2_with fail;have aj:=ah.out.step (w':=w1.alloc (.cells #[.pointer (some ⟨g,0,none⟩)] 249)) sT;have Z:Blk (w1.alloc (.cells #[.pointer (some ⟨g,0,none⟩)] 249)) w1 249 #[.pointer (some ⟨g,0,none⟩)]:=Blk.made _ _ _;have U:Below w w (w1.alloc (.cells #[.pointer (some ⟨g,0,none⟩)] 249)):=pZ z1 au.out;generalize w1.alloc (.cells #[.pointer (some ⟨g,0,none⟩)] 249)=w2 at *;have z2:=U.size;have a5:=Z.lt;have an:=hid aj;have a8:=hid Z;have ag:=hid U;clear aj Z U ah au;go_loopw [7] (fun v wr=>∃ (f at_:Nat) (j:List Rec),at_<=bs.length/\j.length<=at_/\Hid (bs.length<=f+at_)/\Hid (Jd f bs at_ j=R)/\Hid (wr.ownsRow w2 43 4 v j.length (Cs j))/\Hid (Cur wr g w bs B d at_ 0)/\Hid (Kept (fun x=>x<w2.heap.size/\x≠g) w2 wr)) (fun _ wr=>bs.length-atOf wr g)
 case atStart=>exact⟨bs.length,0,[],nj,rX,Ak _,ar.out,AI _ _ _ _,an.out,Kept.refl _ _⟩
 case round=>
  obtain⟨f,at_,j,aw,ba,HF,HG,HO,HC,HK⟩:=hrel;have Y:w1.heap.size≠g:=nj
  have zk:=HK.out.size;have xb:Blk wr w1 249 #[.pointer (some ⟨g,0,none⟩)]:=(HK.out.block _ ⟨a5,Y⟩).trans a8.out;have x0:=xb.ia 0;have XB:=hid xb;have DL:=hid (Ad9 wr g w bs B d at_ 0 HC.out);have N:=HO.out;obtain⟨va,vc,rfl⟩:=bZ N;have ai:atOf wr g=at_:=by have h1:=HC.out.cells.2.1;unfold atOf;rw[h1];exact BD _
  have a7:=hid ai;have a9:Hid (Below w w wr):=ag.out.trans (HK.out.below (fun b h=>⟨nj,by have:=HC.out.lo;omega⟩));clear xb N ai ar;by_cases J:bs.length<=at_
  ·have al:bs.length-at_=0:=nj;have ay:Hid (R=(j,0)):=HG.out.symm.trans (Ua J);rw[al]at DL;clear J al HG;go_wp2_with fail;refine DL.out.mono ?_;rintro e w3 ⟨rfl,q,rfl⟩;go_wp2_with fail;go_ret2;rw[ay.out];exact⟨_,rfl,kZ (eZ HO.out (fun x hx=>rfl)) z2,below_drewN a9.out q⟩
  ·obtain⟨f,rfl⟩:∃f',f=f'+1:=⟨f-1,lq⟩;have bb:0<bs.length-at_:=nj;have gl:=ic ((0:Int)<((bs.length-at_:Nat):Int));have bf:=ic (0<bs.length-at_);have bi:=ic (at_<bs.length);have hG:=HG.out;unfold Jd at hG;rw[Aa J]at hG;have L:=XD H8.out aw 0;have DR:=hid (fun wx hx=>X3 wx g w bs B d at_ 0 am H8.out hx);generalize Fl bs at_ 0=T at *;obtain⟨⟨rt,rl,rs,rx⟩,a2,e2⟩:=T;simp only at hG L DR;unfold Rec.val at DR;simp only at DR;have a1:=L.1;have az:=hid L.2.1;generalize af:bs.length-at_=m at *;have be:=hid af;clear af HG L;by_cases he:e2=0
   ·subst he;rw[Aa rX]at hG;have HG:=hid hG;clear hG;go_wp2_with fail;refine DL.out.mono ?_;rintro e w3 ⟨rfl,q,rfl⟩;go_wp2_with fail;refine(DR.out _ (HC.out.drewN q)).mono ?_;rintro e w4 ⟨rfl,z,i⟩;have z4:=i.size;simp at z4;have ax:w1.heap.size<w4.heap.size:=nj;have G:Blk w4 w1 249 #[.pointer (some ⟨g,0,none⟩)]:=(i.block _ ⟨(XB.out.drewN q).lt,Y⟩).trans (XB.out.drewN q);have x4:=G.ia 0;have y:Hid (w4.ownsRow w2 43 4 (.slice va j.length vc) j.length (Cs j)):=eZ HO.out (fun x hx=>i.block x ⟨(Aj HO.out x hx).2,by have:=(Aj HO.out x hx).1;omega⟩);have ae:Hid (Kept (fun x=>x<w2.heap.size/\x≠g) w2 w4):=HK.out.trans ⟨i.os,i.tape,i.output,i.size,fun x hx=>i.block x ⟨by have:=hx.1;simp;omega,hx.2⟩⟩;have E:=hid z;clear z i G x0 DL DR HO HK HC XB;go_wp2_with fail;refine(Dn _ g w bs B d a2 0 (E.out.step sT)).mono ?_;rintro e w5 ⟨rfl,rfl⟩;have bh:=az.out trivial;have av:j.length<=100000:=nj;go_wp2_with(at_builtin;refine iZ rfl (.tmp 26) (.tmp 28) 24 rfl w2 43 j0 _ 4 48 underlying24 a6 a4 a3 a0 rfl ip _ _ _ nm ((y.out.alloc _).alloc _) _ 1 1 [.int .u64 rt, .int .u8 rl, .string rs, .string rx] nm (Src.of_blk (g:=w4.heap.size+1) (Blk.made_at _ _ _ rX) 1 1 4 rfl) mt sS nj sj ?_;intro v5 w5 ab ac bd);have ak:Cur w5 g w bs B d a2 0:=(by have h1:=(E.out.step (w':=(w4.alloc (.cells #[.int .u64 rt, .int .u8 rl, .string rs, .string rx] 43)).alloc (.cells #[.int .u64 rt, .int .u8 rl, .string rs, .string rx] 43)) sT);exact⟨h1.blk.grown ac (fun e=>by have:=(Aj y.out g e.symm).1;omega),eZ h1.own (fun x hx=>ac.block x (Aj h1.own x hx).2 (fun e=>by have:=(Aj an.out.own x hx).2;have:=(Aj y.out x e.symm).1;omega)),h1.le,h1.lo⟩);go_roundw
    case measure=>go_light;have h1:=ak.cells.2.1;have h2:atOf w5 g=a2:=(by unfold atOf;rw[h1];exact BD _);rw[h2,a7.out];omega
    case rel=>
     go_light;refine⟨f,a2,j++ [⟨rt,rl,rs,rx⟩],a1,by rw[Ag];simp;omega,?_,HG,?_,ak,?_⟩
     ·show _<=_;have:=HF.out;omega
     ·rw[oQ,Ag];exact ab
     ·exact((ae.out.alloc (fun b h=>by have:=h.1;omega) _).alloc (fun b h=>by have:=h.1;simp;omega) _).grown ac (fun b h=>by have:=h.1;simp;omega) (fun b hb hh=>by have:=(Aj y.out b hb).1;have:=hh.1;omega)
   ·rw[Ab he]at hG;have HG:=hid hG;have g1:(e2 != 0)=true:=sJ;clear hG he;go_wp2_with fail;refine DL.out.mono ?_;rintro e w3 ⟨rfl,q,rfl⟩;go_wp2_with fail;refine(DR.out _ (HC.out.drewN q)).mono ?_;rintro e w4 ⟨rfl,z,i⟩;have z4:=i.size;simp at z4;have ax:w1.heap.size<w4.heap.size:=nj;have G:Blk w4 w1 249 #[.pointer (some ⟨g,0,none⟩)]:=(i.block _ ⟨(XB.out.drewN q).lt,Y⟩).trans (XB.out.drewN q);have x4:=G.ia 0;have y:Hid (w4.ownsRow w2 43 4 (.slice va j.length vc) j.length (Cs j)):=eZ HO.out (fun x hx=>i.block x ⟨(Aj HO.out x hx).2,by have:=(Aj HO.out x hx).1;omega⟩);have ae:Hid (Kept (fun x=>x<w2.heap.size/\x≠g) w2 w4):=HK.out.trans ⟨i.os,i.tape,i.output,i.size,fun x hx=>i.block x ⟨by have:=hx.1;simp;omega,hx.2⟩⟩;have E:=hid z;clear z i G x0 DL DR HO HK HC XB;go_wp2_with fail;refine(Dn _ g w bs B d a2 e2 (E.out.step sT)).mono ?_;rintro e w5 ⟨rfl,rfl⟩;go_wp2_with fail;go_ret2;rw[<-HG.out];exact⟨_,rfl,AI _ _ _ _,pZ nj (ag.out.trans (ae.out.below (fun b h=>⟨nj,by have:=E.out.lo;omega⟩)))⟩
end Go.Proofs.YtfgdoknipbpfhaaGreatDoor
