/- Options: the walks o -/
import Derived.Test.YtfgdoknipbpfhaaGreatDoorZBodyBack10
import Derived.Test.YtfgdoknipbpfhaaGreatDoorZBodyBack21
import Derived.Lib.AppendStr
namespace Go.Proofs.YtfgdoknipbpfhaaGreatDoor
open Go.Proofs.Tryz
open Go.Lib (hid)
set_option maxHeartbeats 2000000
set_option maxRecDepth 100000
variable{base c cg g i k most n q x z:Nat}{w w':World}{A:Option Addr}{xs:List Value}{wh:Bool}
namespace Opts
open Go.RowKit Mem
structure Opt where
 block:Int
 plain:Bool
 bucket:Int
 data:Int
 parity:Int
 chunk:Int
def Opt.val(o:Opt):Value:= .agg #[o.block,o.plain,o.bucket,o.data,o.parity,o.chunk]
theorem YP(a b:Bool)(a0 b0 a2 b2 a3 b3 a4 b4 a5 b5:Int)(w:World):(binOp .eql 23 (.agg #[a0,a,a2,a3,a4,a5]) (.agg #[b0,b,b2,b3,b4,b5])).run prog w= .ok (.bool (decide (a0=b0/\a=b/\a2=b2/\a3=b3/\a4=b4/\a5=b5))) w:=by
 go_simp
 by_cases h0:a0=b0<;>by_cases h1:a=b<;>by_cases h2:a2=b2<;>by_cases h3:a3=b3<;>by_cases h4:a4=b4<;>by_cases h5:a5=b5<;>simp[h0,h1,h2,h3,h4,h5]
theorem SP(w:World)(x lo hi:Int):
 Calls prog 161 #[x,lo,hi] w fun e w'=>e= .returned (.bool (decide (lo<=x/\x<=hi)))/\w'=w:=by
 by_cases h:lo<=x
 ·have g1:decide (lo<=x)=true:=by simpa using h
  have HD:Hid (decide (lo<=x/\x<=hi)=decide (x<=hi)):=by show _=_;simp[h]
  rw[HD.out];clear h;go_enter func161,ntmps161;go_wp2_with fail;go_ret;exact⟨rfl,rfl⟩
 ·have g1:decide (lo<=x)=false:=by simpa using h
  have HD:Hid (decide (lo<=x/\x<=hi)=false):=by show _=_;simp[h]
  rw[HD.out];clear h;go_enter func161,ntmps161;go_wp2_with fail;go_ret;exact⟨rfl,rfl⟩
end Opts
namespace Recs
open Go.RowKit Mem
def Rec.val(r:Rec):Value:= .agg #[.int .u64 r.time, .int .u8 r.level, .string r.source, .string r.text]
def CE(r:Rec):Bool:=decide (4000<r.source.size) || decide (4000<r.text.size)
def CJ(l:List Rec):Int:=if 20000<l.length then 6 else if l.any CE=true then 6 else if 1048576<Bm l then 6 else 0
theorem fF{l:List Rec}{p:Rec->Bool}{r:Rec}(hr:l[k]? =some r):(l.drop k).any p=(p r || (l.drop (k+1)).any p):=by obtain⟨hk,e⟩:=BW.1 hr;rw[Dg hk,List.any_cons,e]
theorem Ia{r:Rec}(h:CE r=false):r.source.size<=4000/\r.text.size<=4000:=by unfold CE at h;simp at h;exact h
theorem Yr{l:List Rec}{r:Rec}(hr:l[k]? =some r):Bm (l.take (k+1))=Bm (l.take k)+weigh r:=by rw[BN,hr];simp[Wd]
theorem pB{l:List Rec}(h:∀r∈l,CE r=false):0<=Bm l/\Bm l<=8016*(l.length:Int):=by
 induction l with
 |nil=>simp[J3]
 |cons r l ih=>
  have h1:=Ia (h r qT);have h2:=ih (fun x hx=>h x rp);have e:Bm (r :: l)=weigh r+Bm l:=qX
  rw[e];unfold weigh;simp only[List.length_cons]
  push_cast
  omega
theorem long_any(w:World)(r:Rec):
 Calls prog 95 #[r.val] w fun e w'=>e= .returned (.bool (CE r))/\Below w w w':=by
 unfold Rec.val;by_cases h1:4000<r.source.size
 ·have hl:CE r=true:=by unfold CE;simp[h1]
  rw[hl];have g1:=ic ((4000:Int)<r.source.size)
  have i:=ic (4000<r.source.size)
  clear hl h1;go_enter func95,ntmps95;go_wp2_with fail;go_ret;exact⟨rfl,rF⟩
 ·have g1:=ig ((4000:Int)<r.source.size)
  have i:=ig (4000<r.source.size)
  by_cases h2:4000<r.text.size
  ·have hl:CE r=true:=(by unfold CE;simp[h2]);rw[hl];have g2:=ic ((4000:Int)<r.text.size);have h:=ic (4000<r.text.size);clear hl h1 h2;go_enter func95,ntmps95;go_wp2_with fail;go_ret;exact⟨rfl,rF⟩
  ·have hl:CE r=false:=(by unfold CE;simp;omega);rw[hl];have g2:=ig ((4000:Int)<r.text.size);have h:=ig (4000<r.text.size);clear hl h1 h2;go_enter func95,ntmps95;go_wp2_with fail;go_ret;exact⟨rfl,rF⟩
theorem X3(w:World)(A:Option Addr)(n c:Nat)(l:List Rec)(hl:l.length=n)(hn:n<=9223372036854775807)(hr:Row w w A n 4 (By l))(K:Nat)(p:Rec->Bool)(hK:∀args wx,(callFunc K args).run prog wx= .ok (.enter K args) wx)
 (hp:∀wx r,Calls prog K #[Rec.val r] wx fun e w'=>e= .returned (.bool (p r))/\Below wx wx w'):
 Calls prog 164 #[.slice A n c, .func (.func K) #[] #[]] w fun e w'=>∃z:Int,e= .returned (.int .i64 z)/\decide (0<=z)=l.any p/\Below w w w':=by
 have HP:=hid hp;have HL:=hid hl;clear hp hl;go_enter func164,ntmps164;go_wp2_with fail;go_loopw [8] (fun i wx=>∃k:Nat,k<=n/\i= .int .i64 k/\Hid ((l.drop k).any p=l.any p)/\Hid (Below w w wx)) (fun i _=>n-(intOf i).toNat)
 case atStart=>exact⟨0,nj,rfl,rfl,Ae _ _⟩
 case round=>
  obtain⟨k,hk,rfl,hA,HB⟩:=hrel;by_cases y:k<n
  ·obtain⟨b,G,r,rfl,E,hg,c0,c1,c2,c3⟩:=Row.rec (hr.below HB.out) HL.out y;have ha:=hA.out;rw[fF hg]at ha;have D:=HP.out wr r;unfold Rec.val at D;have x0:(0:Int)<=(k:Int):=nj;have x1:(k:Int)<(n:Int):=nj;cases hb:p r
   ·rw[hb]at D ha;rw[Bool.false_or]at ha;have D:=hid D;have HA:=hid ha;clear hA ha hb hg;go_wp2_with fail;refine D.out.mono ?_;rintro e w1 ⟨rfl,h⟩;have j:Hid (Below w w w1):=dZ h HB.out;clear h D c0 c1 c2 c3;go_wp2_with fail;go_roundw
    case measure=>exact jq
    case rel=>go_light;exact⟨k+1,nj,jr,HA.out,j.out⟩
   ·rw[hb]at D ha;rw[Bool.true_or]at ha;have D:=hid D;have HA:=hid ha;clear hA ha hb hg;go_wp2_with fail;refine D.out.mono ?_;rintro e w1 ⟨rfl,h⟩;have j:Hid (Below w w w1):=dZ h HB.out;clear h D c0 c1 c2 c3;go_wp2_with fail;go_ret;exact⟨k,rfl,by rw[<-HA.out];simp,j.out⟩
  ·obtain rfl:k=n:=by omega
   have ha:=hA.out;rw[DV (by rw[HL.out];exact Ak _)]at ha;have HA:=hid ha;clear ha hA;go_wp2_with fail;go_ret;exact⟨-1,rfl,by rw[<-HA.out];rfl,HB.out⟩
theorem mT(w:World)(A:Option Addr)(n c:Nat)(l:List Rec)(hl:l.length=n)(hn:n<=9223372036854775807)(hr:Row w w A n 4 (By l)):
 Calls prog 94 #[.slice A n c, .func (.func 95) #[] #[]] w fun e w'=>e= .returned (.bool (l.any CE))/\Below w w w':=by
 have D:=hid (X3 w A n c l hl hn hr 95 CE (by intro h wx;simp[callFunc,go_sem,func95];rfl) long_any);clear hl hr;go_enter func94,ntmps94;go_wp2_with fail;refine D.out.mono ?_;rintro e w1 ⟨z,rfl,hz,hb⟩;have HZ:=hid hz;clear hz D;go_wp2_with fail;go_ret;exact⟨Gr HZ.out,hb⟩
theorem X6(w:World)(A:Option Addr)(n c:Nat)(l:List Rec)(hl:l.length=n)(hn:n<=20000)(hs:∀r∈l,CE r=false)(hr:Row w w A n 4 (By l)):
 Calls prog 96 #[.slice A n c] w fun e w'=>e= .returned (.int .i64 (Bm l))/\Below w w w':=by
 have HL:=hid hl;have HS:=hid hs
 have HT:Hid (∀k,k<=n->0<=Bm (l.take k)/\Bm (l.take k)<=160320000):=fun k hk=>by
  have h:=pB (l:=l.take k) (fun r hr=>hs r (Dc hr));have M:(l.take k).length<=n:=pj
  omega
 clear hl hs;go_enter func96,ntmps96;go_wp2_with fail;go_loopw [3,8] (fun s i wx=>∃ (k:Nat) (x:Int),k<=n/\i= .int .i64 k/\s= .int .i64 x/\Hid (Bm (l.take k)=x)/\Hid (Below w w wx)) (fun _ i _=>n-(intOf i).toNat)
 case atStart=>exact⟨0,0,nj,rfl,rfl,rfl,Ae _ _⟩
 case round=>
  obtain⟨k,x,hk,rfl,rfl,hx,HB⟩:=hrel;by_cases z:k<n
  ·obtain⟨b,L,r,rfl,E,hg,c0,c1,c2,c3⟩:=Row.rec (hr.below HB.out) HL.out z;have y:=HT.out k hk;rw[hx.out]at y;have G:=Ia (HS.out r (Be hg));have HW:Hid (Bm (l.take (k+1))=x+weigh r):=(by show _=_;rw[Yr hg,hx.out]);unfold weigh at HW;have x0:(0:Int)<=(k:Int):=nj;have x1:(k:Int)<(n:Int):=nj;have s1:IntKind.i64.wrap (16+(r.source.size:Int))=16+(r.source.size:Int):=Ar _ nj;have s2:IntKind.i64.wrap (16+(r.source.size:Int)+(r.text.size:Int))=16+(r.source.size:Int)+(r.text.size:Int):=Ar _ nj;have s3:IntKind.i64.wrap (x+(16+(r.source.size:Int)+(r.text.size:Int)))=x+(16+(r.source.size:Int)+(r.text.size:Int)):=Ar _ nj;have J:=HB.out.size;clear hg hx;go_wp2_with fail;go_roundw
   case measure=>exact jq
   case rel=>go_light;exact⟨k+1,x+(16+(r.source.size:Int)+(r.text.size:Int)),nj,iw,iw,HW.out,by have h:=HB.out;show Below w w _;(repeat (with_reducible first|exact Ae _ _|assumption|refine Aq ?_ |refine below_drewN ?_ _|refine oZ ?_ |refine aZ ?_ |refine dZ im ?_ |refine belA ?_ |refine pZ im ?_))⟩
  ·obtain rfl:k=n:=by omega
   have j:=hx.out;rw[Bw (by rw[HL.out];exact Ak _)]at j;have HX:=hid j;clear j hx;go_wp2_with fail;go_ret;exact⟨by rw[HX.out];rfl,HB.out⟩
theorem Py(w:World)(A:Option Addr)(n c:Nat)(l:List Rec)(hl:l.length=n)(hn:n<=9223372036854775807)(hr:Row w w A n 4 (By l)):
 Calls prog 45 #[.slice A n c] w fun e w'=>e= .returned (.int .i64 (CJ l))/\Below w w w':=by
 have D1:=hid (mT w A n c l hl hn hr);unfold CJ;rw[hl];by_cases h1:20000<n
 ·rw[Ab h1];have g1:=ic ((20000:Int)<n)
  have j:=ic (20000<n)
  clear h1 hl hr D1;go_enter func45,ntmps45;go_wp2_with fail;go_ret;exact⟨rfl,Ae _ _⟩
 ·rw[Aa h1];have g1:=ig ((20000:Int)<n)
  have j:=ig (20000<n)
  cases hlo:l.any CE with
  |true=>rw[Ab rfl];rw[hlo]at D1;clear h1 hl hr hlo;go_enter func45,ntmps45;go_wp2_with fail;refine D1.out.mono ?_;rintro e w1 ⟨rfl,hb⟩;go_wp2_with fail;go_ret;exact⟨rfl,hb⟩
  |false=>
   rw[Aa qT];rw[hlo]at D1;have hs:∀r∈l,CE r=false:=fun r h=>by have:=List.any_eq_false.1 hlo r h;simpa using this
   have D2:=hid (fun wx (hb:Below w w wx)=>X6 wx A n c l hl nj hs ((hr.below hb).mono hb.size));generalize Bm l=x at *;by_cases h2:1048576<x
   ·rw[Ab h2];have g2:decide (1048576<x)=true:=ry;clear h1 hl hr hlo hs h2;go_enter func45,ntmps45;go_wp2_with fail;refine D1.out.mono ?_;rintro e w1 ⟨rfl,hb⟩;have E2:=hid (D2.out w1 hb);clear D1 D2;go_wp2_with fail;refine E2.out.mono ?_;rintro e w2 ⟨rfl,i⟩;go_wp2_with fail;go_ret;exact⟨rfl,dZ i hb⟩
   ·rw[Aa h2];have g2:decide (1048576<x)=false:=ry;clear h1 hl hr hlo hs h2;go_enter func45,ntmps45;go_wp2_with fail;refine D1.out.mono ?_;rintro e w1 ⟨rfl,hb⟩;have E2:=hid (D2.out w1 hb);clear D1 D2;go_wp2_with fail;refine E2.out.mono ?_;rintro e w2 ⟨rfl,i⟩;go_wp2_with fail;go_ret;exact⟨rfl,dZ i hb⟩
end Recs
namespace NumPut
open Go.RowKit Mem Own Canon
theorem MX{X:Nat}(h:X*2 ^ (7*k)<18446744073709551616)(i:128<=X):k+1<=9/\X / 128*2 ^ (7*(k+1))<18446744073709551616:=by
 have e:2 ^ (7*(k+1))=128*2 ^ (7*k):=by rw[show 7*(k+1)=7*k+7 by omega,Nat.pow_add];omega
 constructor
 ·by_cases hk:k+1<=9
  ·exact hk
  ·exfalso;have h1:2 ^ 63<=2 ^ (7*k):=Cn nj nj;have h2:128*2 ^ 63<=X*2 ^ (7*k):=Hv i h1;omega
 ·rw[e,<-Nat.mul_assoc];have:X / 128*128*2 ^ (7*k)<=X*2 ^ (7*k):=GA _ (Nat.div_mul_le_self _ _);omega
theorem XD:∀ (x k:Nat),x*2 ^ (7*k)<18446744073709551616->k<=9->(gZ x).length+k<=10:=by
 intro x
 induction x using Nat.strongRecOn with
 |_ x ih=>
  intro k h hk;by_cases h1:x<128
  ·rw[EZ h1];simp;omega
  ·obtain⟨s1,s2⟩:=MX h nj;have:=ih (x / 128) nj (k+1) s2 s1;rw[Gw h1,AD];omega
theorem sZ(h:x<18446744073709551616):(gZ x).length<=10:=by have:=XD x 0 ru nj;omega
theorem Gu(w:World)(x:Nat)(hx:x<18446744073709551616):
 Calls prog 99 #[.int .u64 x] w fun e w'=>∃v,e= .returned v/\w'.ownsRow w 5 1 v (gZ x).length (cZ .u8 (gZ x))/\Below w w w':=by
 obtain⟨j0,Y,U,Q,Z⟩:=info_parts Eg;obtain⟨R,hR⟩:=ii (gZ x);have N:Hid ([]++gZ x=R):=hR.symm;have L:Hid (x*2 ^ (7*0)<18446744073709551616):=by show _<_;simpa using hx
 rw[<-hR];clear hR;go_enter func99,ntmps99;go_wp2_with fail;go_loopw [0,3] (fun u v wr=>∃ (X k:Nat) (done:List Nat),u= .int .u64 X/\k<=9/\X<18446744073709551616/\Hid (X*2 ^ (7*k)<18446744073709551616)/\Hid (done.length=k)/\Hid (done++gZ X=R)/\Hid (wr.ownsRow w 5 1 v k (cZ .u8 done))/\Hid (Below w w wr)) (fun u _ _=>(intOf u).toNat)
 case atStart=>exact⟨x,0,[],rfl,nj,hx,L.out,rfl,N.out,AE _ _ _ _,Ae _ _⟩
 case round=>
  obtain⟨X,k,done,rfl,hk,hX,HX,HL,HR,HO,HB⟩:=hrel;clear N L;have zb:=HB.out.size;by_cases z:X<128
  ·have g1:=ig ((128:Int)<=X);have ab:=ig (128<=X);have c1:IntKind.u8.wrap (X:Int)=(X:Int):=pX;have j:Hid (done++ [X]=R):=kj;go_wp2_with(at_builtin;refine iZ rfl (.tmp 14) (.tmp 17) 28 rfl w 5 j0 _ 1 1 underlying28 Y U Q Z rfl ip _ _ _ nm (HO.out.alloc _) _ 1 1 [.int .u8 (X:Nat)] nm (Src.of_blk (g:=wr.heap.size) (Blk.made _ _ _) 1 1 1 rfl) mq rE nj rg ?_;intro v4 w4 i G M);have E:Hid (w4.ownsRow w 5 1 v4 R.length (cZ .u8 R)):=nz;have J:Hid (Below w w w4):=(aZ HB.out).grown G rg (fun y hy=>(Aj HO.out y hy).1);go_ret;exact⟨_,rfl,E.out,J.out⟩
  ·have g1:=ic ((128:Int)<=X);have ab:=ic (128<=X);have c1:IntKind.u8.wrap (X:Int)=((X % 256:Nat):Int):=pX;have o1:bits .or .u8 ((X % 256:Nat):Int) 128=((X % 128+128:Nat):Int):=qA;have j:Hid ((done++ [X % 128+128])++gZ (X / 128)=R):=km;obtain⟨af,aa⟩:=MX HX.out nj;have ac:=hid aa;obtain⟨b,hb⟩:=ii (X % 128+128);obtain⟨a,ha⟩:=ii (X % 256);rw[<-hb]at o1 j;rw[<-ha]at o1 c1;clear hb ha aa;go_wp2_with(at_builtin;refine iZ rfl (.tmp 6) (.tmp 10) 28 rfl w 5 j0 _ 1 1 underlying28 Y U Q Z rfl ip _ _ _ nm (HO.out.alloc _) _ 1 1 [.int .u8 (b:Nat)] nm (Src.of_blk (g:=wr.heap.size) (Blk.made _ _ _) 1 1 1 rfl) mq rE nj rg ?_;intro v4 w4 i G M);have ae:Hid (w4.ownsRow w 5 1 v4 (k+1) (cZ .u8 (done++ [b]))):=(by rw[Js];exact i);have J:Hid (Below w w w4):=(aZ HB.out).grown G rg (fun y hy=>(Aj HO.out y hy).1);exact⟨⟨X / 128,k+1,done++ [b],Az _ nj,nj,nj,ac.out,qK,j.out,ae.out,J.out⟩,rr⟩
theorem Kx(w:World)(x:Nat)(hx:x<18446744073709551616):
 Calls prog 77 #[.int .u64 x] w fun e w'=>∃v,e= .returned v/\w'.ownsRow w 5 1 v (gZ x).length (cZ .u8 (gZ x))/\Below w w w':=by
 obtain⟨j0,Y,U,Q,Z⟩:=info_parts Eg;obtain⟨R,hR⟩:=ii (gZ x);have N:Hid ([]++gZ x=R):=hR.symm;have L:Hid (x*2 ^ (7*0)<18446744073709551616):=by show _<_;simpa using hx
 rw[<-hR];clear hR;go_enter func77,ntmps77;go_wp2_with fail;go_loopw [0,3] (fun u v wr=>∃ (X k:Nat) (done:List Nat),u= .int .u64 X/\k<=9/\X<18446744073709551616/\Hid (X*2 ^ (7*k)<18446744073709551616)/\Hid (done.length=k)/\Hid (done++gZ X=R)/\Hid (wr.ownsRow w 5 1 v k (cZ .u8 done))/\Hid (Below w w wr)) (fun u _ _=>(intOf u).toNat)
 case atStart=>exact⟨x,0,[],rfl,nj,hx,L.out,rfl,N.out,AE _ _ _ _,Ae _ _⟩
 case round=>
  obtain⟨X,k,done,rfl,hk,hX,HX,HL,HR,HO,HB⟩:=hrel;clear N L;have zb:=HB.out.size;by_cases z:X<128
  ·have g1:=ig ((128:Int)<=X);have ab:=ig (128<=X);have c1:IntKind.u8.wrap (X:Int)=(X:Int):=pX;have j:Hid (done++ [X]=R):=kj;go_wp2_with(at_builtin;refine iZ rfl (.tmp 15) (.tmp 18) 28 rfl w 5 j0 _ 1 1 underlying28 Y U Q Z rfl ip _ _ _ nm (HO.out.alloc _) _ 1 1 [.int .u8 (X:Nat)] nm (Src.of_blk (g:=wr.heap.size) (Blk.made _ _ _) 1 1 1 rfl) mq rE nj rg ?_;intro v4 w4 i G M);have E:Hid (w4.ownsRow w 5 1 v4 R.length (cZ .u8 R)):=nz;have J:Hid (Below w w w4):=(aZ HB.out).grown G rg (fun y hy=>(Aj HO.out y hy).1);go_ret;exact⟨_,rfl,E.out,J.out⟩
  ·have g1:=ic ((128:Int)<=X);have ab:=ic (128<=X);have c1:IntKind.u64.wrap (128+(X:Int) % 128)=((X % 128+128:Nat):Int):=(by rw[show IntKind.u64.wrap (128+(X:Int) % 128)=(128+(X:Int) % 128) % 18446744073709551616 from by simp[IntKind.wrap,IntKind.bits,IntKind.signed]];omega);have c2:IntKind.u8.wrap ((X % 128+128:Nat):Int)=((X % 128+128:Nat):Int):=pX;have j:Hid ((done++ [X % 128+128])++gZ (X / 128)=R):=km;obtain⟨af,aa⟩:=MX HX.out nj;have ac:=hid aa;obtain⟨b,hb⟩:=ii (X % 128+128);rw[<-hb]at c1 c2 j;clear hb aa;go_wp2_with(at_builtin;refine iZ rfl (.tmp 6) (.tmp 11) 28 rfl w 5 j0 _ 1 1 underlying28 Y U Q Z rfl ip _ _ _ nm (HO.out.alloc _) _ 1 1 [.int .u8 (b:Nat)] nm (Src.of_blk (g:=wr.heap.size) (Blk.made _ _ _) 1 1 1 rfl) mq rE nj rg ?_;intro v4 w4 i G M);have ae:Hid (w4.ownsRow w 5 1 v4 (k+1) (cZ .u8 (done++ [b]))):=(by rw[Js];exact i);have J:Hid (Below w w w4):=(aZ HB.out).grown G rg (fun y hy=>(Aj HO.out y hy).1);exact⟨⟨X / 128,k+1,done++ [b],Az _ nj,nj,nj,ac.out,qK,j.out,ae.out,J.out⟩,rr⟩
def sB(s:ByteArray):List Nat:=s.data.toList.map UInt8.toNat
theorem LO(s:ByteArray):(sB s).length=s.size:=by unfold sB;rw[Bc,Array.length_toList];rfl
theorem X7(s:ByteArray):∀x∈sB s,x<=255:=fun x hx=>by obtain⟨c,_,rfl⟩:=Co.1 hx;have:=c.toNat_lt;omega
theorem d5(s:ByteArray):cZ .u8 (sB s)=Lib.strCells s:=by unfold cZ sB Lib.strCells;rw[List.map_map];rfl
def BH(s:ByteArray):List Nat:=gZ s.size++sB s
theorem VW(s:ByteArray):∀x∈BH s,x<=255:=fun x hx=>by
 rcases BQ.1 hx with hx|hx
 ·exact CZ _ x hx
 ·exact X7 s x hx
theorem LL{s:ByteArray}(h:s.size<=100000):(BH s).length<=3+s.size/\s.size<(BH s).length:=by
 have h1:(gZ s.size).length<=3:=by
  by_cases h1:s.size<128
  ·rw[EZ h1];simp
  ·rw[Gw h1,AD];by_cases h2:s.size / 128<128
   ·rw[EZ h2];simp
   ·rw[Gw h2,EZ nj];simp
 have h2:1<=(gZ s.size).length:=by
  by_cases h1:s.size<128
  ·rw[EZ h1];simp
  ·rw[Gw h1,AD];omega
 unfold BH;rw[Ag,LO];omega
theorem cY:(prog.info? 5).map (fun i=>(i.zero,i.size,i.bytes))=some (some (.int .u8 0),1,1):=my
theorem MQ(w:World)(s:ByteArray)(hs:s.size<=100000):
 Calls prog 165 #[.string s] w fun e w'=>∃v,e= .returned v/\w'.ownsRow w 5 1 v (BH s).length (cZ .u8 (BH s))/\Below w w w':=by
 obtain⟨j0,G,E,z,J⟩:=info_parts cY;have D:=hid (Gu w s.size nj);have hl:=sZ (x:=s.size) nj;have u1:IntKind.u64.wrap (s.size:Int)=(s.size:Int):=pk
 have HT:Hid (cZ .u8 (BH s)=cZ .u8 (gZ s.size)++Lib.strCells s/\(BH s).length=(gZ s.size).length+s.size):=⟨by rw[<-d5];simp[BH,cZ],by unfold BH;rw[Ag,LO]⟩;generalize BH s=T at *;generalize gZ s.size=X at *;obtain⟨k,hk⟩:=ii X.length;rw[<-hk]at D hl HT;clear hk;go_enter func165,ntmps165;go_wp2_with fail;refine D.out.mono ?_;rintro e w1 ⟨v,rfl,ho,hb⟩;have HO:=hid ho;have HB:=hid hb;have hz:=hb.size;clear ho hb D;go_wp2_with(at_builtin;refine Lib.wpList_append_own_string w1 rfl (.tmp 6) (.tmp 7) 28 9 rfl w 5 j0 underlying28 underlying9 G E z J _ k _ nm HO.out s nm rE nj hz ?_;intro v4 w4 h j i;have M:Hid (Below w w w4):=HB.out.grown j hz (fun y hy=>(Aj HO.out y hy).1);have L:Hid (w4.ownsRow w 5 1 v4 T.length (cZ .u8 T)):=(by rw[HT.out.1,HT.out.2];exact h);clear h j i);go_ret;exact⟨_,rfl,L.out,M.out⟩
end NumPut
namespace Recs
open Go.RowKit Mem Own Canon NumPut
open Nums (Qj)
open Block (nZ)
def Ci(r:Rec):Prop:=0<=r.time/\r.time<18446744073709551616/\0<=r.level/\r.level<=255
def Hp(wh:Bool)(r:Rec):List Nat:=if wh=true then gZ r.time.toNat++ [r.level.toNat]else []
def Da(wh:Bool)(r:Rec):List Nat:=Hp wh r++(BH r.source++BH r.text)
theorem VP(wh:Bool){r:Rec}(h:Ci r):(Hp wh r).length<=11:=by
 unfold Hp;split
 ·have:=sZ (x:=r.time.toNat) (by have:=h.1;have:=h.2.1;omega);rw[Ag];simp;omega
 ·simp
theorem bR(wh:Bool){r:Rec}(h:Ci r):∀x∈Hp wh r,x<=255:=by
 unfold Hp;split
 ·intro x hx;rcases BQ.1 hx with hx|hx
  ·exact CZ _ x hx
  ·simp at hx;have:=h.2.2;omega
 ·intro x hx;cases hx
theorem Yw(wh:Bool){r:Rec}(h:Ci r):∀x∈Da wh r,x<=255:=fun x hx=>by
 unfold Da at hx;simp only[List.mem_append]at hx;rcases hx with hx|hx|hx
 ·exact bR wh h x hx
 ·exact VW _ x hx
 ·exact VW _ x hx
theorem OR(wh:Bool){r:Rec}(h:Ci r)(hl:CE r=false):(Da wh r).length<=17+r.source.size+r.text.size/\2<=(Da wh r).length:=by obtain⟨h1,h2⟩:=Ia hl;have a:=VP wh h;have b:=LL (s:=r.source) nj;have c:=LL (s:=r.text) nj;unfold Da;rw[Ag,Ag];omega
def Na(wh:Bool)(r:Rec)(w:World)(e:Ending)(w':World):Prop:=
 ∃v,e= .returned v/\w'.ownsRow w 5 1 v (Da wh r).length (cZ .u8 (Da wh r))/\Below w w w'
theorem TY(w:World)(wh:Bool)(r:Rec)(hr:Ci r)(hl:CE r=false):
 Calls prog 97 #[wh,r.val] w (Na wh r w):=by
 obtain⟨j0,az,ay,aw,a0⟩:=info_parts Eg;obtain⟨h1,h2⟩:=Ia hl;obtain⟨t1,t2,l1,l2⟩:=hr;have ax:=VP wh (r:=r) ⟨t1,t2,l1,l2⟩;have b1:=LL (s:=r.source) nj;have b2:=LL (s:=r.text) nj;unfold Na Da;obtain⟨tm,lv,i,j⟩:=r;obtain⟨t,rfl⟩:=JN t1;obtain⟨l,rfl⟩:=JN l1;unfold Rec.val;simp only at *;clear hl;have D1:=hid (fun wx=>Gu wx t nj);have D2:=hid (fun wx=>MQ wx i nj);have D3:=hid (fun wx=>MQ wx j nj);cases wh with
 |true=>
  have HH:Hid (Hp true ⟨(t:Nat),(l:Nat),i,j⟩=gZ t++ [l]):=rfl;have a9:=sZ (x:=t) nj;generalize Hp true ⟨(t:Nat),(l:Nat),i,j⟩=H at *;generalize gZ t=N1 at *;generalize BH i=T1 at *;generalize BH j=T2 at *;go_enter func97,ntmps97;go_upto_region 3 with fail;have E:Blk (w.alloc (.cells #[.int .u64 t, .int .u8 l, .string i, .string j] 43)) w 43 #[.int .u64 t, .int .u8 l, .string i, .string j]:=Blk.made _ _ _;have N:Below w w (w.alloc (.cells #[.int .u64 t, .int .u8 l, .string i, .string j] 43)):=aZ (Ae _ _);have al:(w.alloc (.cells #[.int .u64 t, .int .u8 l, .string i, .string j] 43)).heap.size=w.heap.size+1:=qT
  generalize w.alloc (.cells #[.int .u64 t, .int .u8 l, .string i, .string j] 43)=wa at *;have ai:=hid E;have J:=hid N;have av:w.heap.size<wa.heap.size:=nj
  have HS:Hid (∀wx,Below wa wa wx->wx.cell? ⟨w,0,none⟩=some (.int .u64 t)/\wx.cell? ⟨w,1,none⟩=some (.int .u8 l)):=fun wx h=>⟨(E.step h).cell 0,(E.step h).cell 1⟩;clear E N al
  go_region_held3 (fun wx=>wx.cell? ⟨w,0,none⟩=some (.int .u64 t)/\wx.cell? ⟨w,1,none⟩=some (.int .u8 l)) (first|exact HS.out _ ((Ae _ _).drew)|exact HS.out _ Q|exact HS.out _ G|exact HS.out _ (Aq (aZ (Ae _ _)))|exact HS.out _ (mZ (Below.size G) G)|(refine HS.out _ ?_;(repeat (with_reducible first|exact Ae _ _|assumption|refine Aq ?_ |refine below_drewN ?_ _|refine oZ ?_ |refine aZ ?_ |refine dZ im ?_ |refine belA ?_ |refine pZ im ?_))))
   (first|(go_at_call 99;(with_reducible refine(D1.out _).mono ?_);rintro e w1 ⟨v,rfl,ah,ae⟩;obtain⟨A1,c1,rfl⟩:=bZ ah;have G:Below wa wa w1:=uZ ae qT rF;have an:=G.size;have ac:w1.ownsRow wa 5 1 (.slice A1 N1.length c1) N1.length (cZ .u8 N1):=lZ ah qT)|(refine Qj rfl (.tmp 9) (.tmp 12) 28 rfl wa 5 j0 _ 1 1 underlying28 az ay aw a0 rfl ip (.slice A1 N1.length c1) N1.length (cZ .u8 N1) nm (by first|exact ac|exact ac.alloc _) _ 1 1 [.int .u8 l] nm (by first|exact Src.of_blk (g:=w1.heap.size) (Blk.made _ _ _) 1 1 1 rfl|exact Src.of_blk (g:=wa.heap.size) ((Blk.drew (Blk.made _ _ _)).step ae) 1 1 1 rfl|exact Src.of_blk (g:=wa.heap.size) (Blk.step (Blk.made _ _ _) ae) 1 1 1 rfl) mq rE nj iu ?_;intro A4 c4 w4 U au;have Q:Below wa wa w4:=Below.grown (by first|exact G|exact G.alloc an _) au iu (fun y hy=>(Aj ac y hy).1)))
  all_goals
   have P4:Hid (Part.Ok (⟨A4,c4,H⟩:Part) w4):=(by rw[HH.out];have e1:(N1++ [l]).length=N1.length+1:=(by rw[Ag];rfl);refine nZ (base:=wa.heap.size) (ls:=N1++ [l]) (n:=(N1++ [l]).length) ?_ rfl;rw[e1,Js];exact U);have L:Hid (Below w w w4):=J.out.trans (Q.mono nj);have z:Hid (∀wx,Below w4 w4 wx->wx.cell? ⟨w,2,none⟩=some (.string i)/\wx.cell? ⟨w,3,none⟩=some (.string j)):=fun wx h=>⟨((ai.out.step Q).step h).cell 2,((ai.out.step Q).step h).cell 3⟩;have af:∀a1 a2 a3 a4 a5 a6,BV [(⟨a1,a2,H⟩:Part),⟨a3,a4,T1⟩,⟨a5,a6,T2⟩]<=1000000:=fun _ _ _ _ _ _=>rh
   have am:Hid (H.length=N1.length+1):=(by show _=_;rw[HH.out,Ag];rfl);have ar:H.length=N1.length+1:=am.out;rw[<-ar];clear HS ai Q U au ac ae ah G an J D1 ar am HH;go_upto_region 4 with fail;go_region_held3 (fun wx=>wx.cell? ⟨w,2,none⟩=some (.string i)/\wx.cell? ⟨w,3,none⟩=some (.string j)) (first|exact z.out _ ((Ae _ _).drew)|exact z.out _ BA|exact z.out _ BB|(refine z.out _ ?_;(repeat (with_reducible first|exact Ae _ _|assumption|refine Aq ?_ |refine below_drewN ?_ _|refine oZ ?_ |refine aZ ?_ |refine dZ im ?_ |refine belA ?_ |refine pZ im ?_)))) (first|(go_at_call 165;first|((with_reducible refine(D2.out _).mono ?_);rintro e wA ⟨vA,rfl,M,Z⟩;obtain⟨AA,cA,rfl⟩:=bZ M;have BA:Below w4 w4 wA:=uZ Z iu rF;have zA:=BA.size;have PA:Part.Ok (⟨AA,cA,T1⟩:Part) wA:=nZ M rfl;have kA:=Z)|((with_reducible refine(D3.out _).mono ?_);rintro e wB ⟨vB,rfl,ab,Y⟩;obtain⟨AB,cB,rfl⟩:=bZ ab;have BB:Below w4 w4 wB:=uZ Y iu rF;have zB:=BB.size;have PB:Part.Ok (⟨AB,cB,T2⟩:Part) wB:=nZ ab rfl;have kB:=Y))|(go_at_call 55;(refine(FZ _ _ 3 [(⟨A4,c4,H⟩:Part),(⟨AA,cA,T1⟩:Part),(⟨AB,cB,T2⟩:Part)] rfl nj (af _ _ _ _ _ _) (fun p hp=>by{rcases AV.1 hp with rfl|hp;exact P4.out.step rF;rcases AV.1 hp with rfl|hp;exact PA.step rF;rcases AV.1 hp with rfl|hp;exact PB.step rF;cases hp}) iq).mono ?_);rintro e w7 ⟨v7,rfl,aa,ag⟩;obtain⟨A7,c7,rfl⟩:=bZ aa;have B7:Below w4 w4 w7:=uZ ag iu rF));have aj:Hid (Below w w w7):=L.out.trans (B7.mono L.out.size);have ak:=hid (lZ aa (show w.heap.size<=_ by have:=L.out.size;have:=zA;have:=zB;first|omega|(simp;omega)));go_wp2_with fail;go_ret;refine⟨_,rfl,?_,aj.out⟩;have h:=ak.out;simp only[List.flatMap_cons,List.flatMap_nil,List.append_nil]at h;rw[Ag,Ag]at h ⊢;exact h
 |false=>
  have aq:Hp false ⟨(t:Nat),(l:Nat),i,j⟩= []:=rfl;rw[aq,EF];clear ax aq D1;generalize BH i=T1 at *;generalize BH j=T2 at *;go_enter func97,ntmps97;go_upto_region 4 with fail;have E:Blk (w.alloc (.cells #[.int .u64 t, .int .u8 l, .string i, .string j] 43)) w 43 #[.int .u64 t, .int .u8 l, .string i, .string j]:=Blk.made _ _ _;have N:Below w w (w.alloc (.cells #[.int .u64 t, .int .u8 l, .string i, .string j] 43)):=aZ (Ae _ _);have al:(w.alloc (.cells #[.int .u64 t, .int .u8 l, .string i, .string j] 43)).heap.size=w.heap.size+1:=qT
  generalize w.alloc (.cells #[.int .u64 t, .int .u8 l, .string i, .string j] 43)=wa at *;have av:w.heap.size<wa.heap.size:=nj
  have J:=hid N;have z:Hid (∀wx,Below wa wa wx->wx.cell? ⟨w,2,none⟩=some (.string i)/\wx.cell? ⟨w,3,none⟩=some (.string j)):=fun wx h=>⟨(E.step h).cell 2,(E.step h).cell 3⟩;have P4:Hid (Part.Ok (⟨none,0,([]:List Nat)⟩:Part) wa):=⟨Row.zero,fun _=>⟨rfl,rfl⟩⟩;have af:∀ (a1:Option Addr) (a2:Nat) a3 a4 a5 a6,BV [(⟨a1,a2,([]:List Nat)⟩:Part),⟨a3,a4,T1⟩,⟨a5,a6,T2⟩]<=1000000:=fun _ _ _ _ _ _=>rh
  clear E N al;go_region_held3 (fun wx=>wx.cell? ⟨w,2,none⟩=some (.string i)/\wx.cell? ⟨w,3,none⟩=some (.string j)) (first|exact z.out _ ((Ae _ _).drew)|exact z.out _ BA|exact z.out _ BB|(refine z.out _ ?_;(repeat (with_reducible first|exact Ae _ _|assumption|refine Aq ?_ |refine below_drewN ?_ _|refine oZ ?_ |refine aZ ?_ |refine dZ im ?_ |refine belA ?_ |refine pZ im ?_)))) (first|(go_at_call 165;first|((with_reducible refine(D2.out _).mono ?_);rintro e wA ⟨vA,rfl,M,Z⟩;obtain⟨AA,cA,rfl⟩:=bZ M;have BA:Below wa wa wA:=uZ Z iu rF;have zA:=BA.size;have PA:Part.Ok (⟨AA,cA,T1⟩:Part) wA:=nZ M rfl;have kA:=Z)|((with_reducible refine(D3.out _).mono ?_);rintro e wB ⟨vB,rfl,ab,Y⟩;obtain⟨AB,cB,rfl⟩:=bZ ab;have BB:Below wa wa wB:=uZ Y iu rF;have zB:=BB.size;have PB:Part.Ok (⟨AB,cB,T2⟩:Part) wB:=nZ ab rfl;have kB:=Y))|(go_at_call 55;(refine(FZ _ _ 3 [(⟨none,0,([]:List Nat)⟩:Part),(⟨AA,cA,T1⟩:Part),(⟨AB,cB,T2⟩:Part)] rfl nj (af _ _ _ _ _ _) (fun p hp=>by{rcases AV.1 hp with rfl|hp;exact P4.out.step rF;rcases AV.1 hp with rfl|hp;exact PA.step rF;rcases AV.1 hp with rfl|hp;exact PB.step rF;cases hp}) iq).mono ?_);rintro e w7 ⟨v7,rfl,aa,ag⟩;obtain⟨A7,c7,rfl⟩:=bZ aa;have B7:Below wa wa w7:=uZ ag iu rF));have aj:Hid (Below w w w7):=J.out.trans (B7.mono J.out.size);have ak:=hid (lZ aa (show w.heap.size<=_ by have:=J.out.size;have:=zA;have:=zB;first|omega|(simp;omega)));go_wp2_with fail;go_ret;refine⟨_,rfl,?_,aj.out⟩;have h:=ak.out;simp only[List.flatMap_cons,List.flatMap_nil,List.append_nil,List.nil_append]at h;rw[Ag]at h ⊢;exact h
theorem Dy(h:w.ownsRow base 5 1 (.slice A n c) n xs):Src w A n c 1 xs:=by
 obtain⟨h0,h1⟩:=h;refine⟨h0,?_⟩;rcases h1 with ⟨hv,_⟩|⟨g,y,cur,hv,_,hh,_,_,_,i⟩
 ·injection hv with e1 e2 e3;exact .inl ⟨e1,e2,e3⟩
 ·injection hv with e1 e2 e3;refine .inr ⟨⟨g,0,none⟩,e1,fun j u hu=> ?_⟩;rw[add_none,BP,Blk.cell hh];rw[<-i,Gg]at hu;split at hu
  ·simpa using hu
  ·cases hu
end Recs
namespace Recs
open Go.RowKit Mem Own Canon NumPut
open Block (nZ)
def wZ(wh:Bool)(l:List Rec):List Nat:=l.flatMap (Da wh)
theorem XG{l:List Rec}{r:Rec}(hr:l[k]? =some r):wZ wh (l.take (k+1))=wZ wh (l.take k)++Da wh r:=by unfold wZ;rw[BN,hr,IJ];simp
theorem Om(wh:Bool){l:List Rec}(h:∀r∈l,Ci r):∀x∈wZ wh l,x<=255:=fun x hx=>by obtain⟨r,hr,hx⟩:=List.mem_flatMap.1 hx;exact Yw wh (h r hr) x hx
theorem SA(wh:Bool):∀ {l:List Rec},(∀r∈l,Ci r)->(∀r∈l,CE r=false)->((wZ wh l).length:Int)<=Bm l+l.length
 | [],_,_=>by simp[wZ,J3]
 |r :: l,h,hl=>by
  have h1:=(OR wh (h r qT) (hl r qT)).1;have ih:=SA wh (l:=l) (fun x hx=>h x rp) (fun x hx=>hl x rp);have e:Bm (r :: l)=weigh r+Bm l:=qX
  have e2:(wZ wh (r :: l)).length=(Da wh r).length+(wZ wh l).length:=by unfold wZ;rw[Cu,Ag]
  rw[e,e2];unfold weigh;simp only[List.length_cons]
  push_cast
  omega
theorem Xi(wh:Bool)(l:List Rec)(k:Nat):(wZ wh (l.take k)).length<=(wZ wh l).length:=by
 conv=>rhs;rw[<-EV k l]
 unfold wZ;rw[IJ,Ag];omega
def BytesPost(wh:Bool)(l:List Rec)(w:World)(e:Ending)(w':World):Prop:=
 ∃v,e= .returned v/\w'.ownsRow w 5 1 v (wZ wh l).length (cZ .u8 (wZ wh l))/\Below w w w'
theorem bytes_any(w:World)(wh:Bool)(A:Option Addr)(n c:Nat)(l:List Rec)(hn:l.length=n)(hN:n<=9223372036854775807)(L:∀r∈l,Ci r)(hl:∀r∈l,CE r=false)(hb:(wZ wh l).length<=1000000000)(ha:Row w w A n 4 (By l)):
 Calls prog 48 #[wh, .slice A n c] w (BytesPost wh l w):=by
 obtain⟨j0,ab,aa,Y,ac⟩:=info_parts Eg;have HN:=hid hn;have HM:=hid (fun k=>AN (Xi wh l k) hb);have HD:=hid (fun wx r (h:r∈l)=>TY wx wh r (L r h) (hl r h));unfold Na at HD;unfold BytesPost;clear hn L hl hb;go_enter func48,ntmps48;go_wp2_with fail;go_loopw [5,10] (fun u i wr=>∃ (k q:Nat),k<=n/\q<=1000000000/\i= .int .i64 k/\Hid ((wZ wh (l.take k)).length=q)/\Hid (wr.ownsRow w 5 1 u q (cZ .u8 (wZ wh (l.take k))))/\Hid (Below w w wr)) (fun _ i _=>n-(intOf i).toNat)
 case atStart=>exact⟨0,0,nj,nj,rfl,rfl,AE _ _ _ _,Ae _ _⟩
 case round=>
  obtain⟨k,q,hk,hq,rfl,HQ,HO,HB⟩:=hrel;have hz:=HB.out.size;by_cases af:k<n
  ·obtain⟨b,ak,r,rfl,aj,hg,c0,c1,c2,c3⟩:=Row.rec (ha.below HB.out) HN.out af;have D:=hid (fun wx=>HD.out wx r (Be hg));have HT:=hid (XG (wh:=wh) hg);have J:q+(Da wh r).length<=1000000000:=(by have h:=HM.out (k+1);rw[HT.out,Ag,HQ.out]at h;exact h);have ai:(Da wh r).length<=1000000000:=nj;unfold Rec.val at D;have x0:(0:Int)<=(k:Int):=nj;have x1:(k:Int)<(n:Int):=nj;generalize Da wh r=O at *;obtain⟨m,hm⟩:=ii O.length;rw[<-hm]at D J ai;have ah:=hid hm;clear hg hm;go_wp2_with fail;refine(D.out _).mono ?_;rintro e w1 ⟨v1,rfl,E,z⟩;obtain⟨A1,d1,rfl⟩:=bZ E;have Z:Hid (Src w1 A1 m d1 1 (cZ .u8 O)):=Dy E;have G:Hid (Below w w w1):=dZ z (aZ HB.out);have U:Hid (w1.ownsRow w 5 1 u5 q (cZ .u8 (wZ wh (l.take k)))):=eZ (HO.out.alloc (.cells #[.int .u64 r.time, .int .u8 r.level, .string r.source, .string r.text] 43)) (fun y hy=>z.block y lk);have N:=G.out.size;clear E z D c0 c1 c2 c3 HO HB;go_wp2_with(at_builtin;refine iZ rfl (.tmp 14) (.tmp 17) 28 rfl w 5 j0 _ 1 1 underlying28 ab aa Y ac rfl ip _ _ _ nm U.out _ _ _ _ nm Z.out (Ct _ _) rE nj N ?_;intro v4 w4 j M Q);have ag:Hid (Below w w w4):=G.out.grown M N (fun y hy=>(Aj U.out y hy).1);have ae:Hid (w4.ownsRow w 5 1 v4 (q+m) (cZ .u8 (wZ wh (l.take (k+1))))):=(by rw[HT.out,show cZ .u8 (wZ wh (l.take k)++O)=cZ .u8 (wZ wh (l.take k))++cZ .u8 O by simp[cZ]];exact j);clear j M Q;go_roundw
   case measure=>exact jq
   case rel=>go_light;exact⟨k+1,q+m,nj,J,iw,by show _=_;rw[HT.out,Ag,HQ.out,ah.out],ae.out,ag.out⟩
  ·obtain rfl:k=n:=by omega
   have h1:l.take k=l:=Bw pu;rw[h1]at HQ HO;clear h1;go_wp2_with fail;go_ret;exact⟨_,rfl,by rw[HQ.out];exact HO.out,HB.out⟩
end Recs
namespace Recs
open Go.RowKit Mem Own Canon NumPut
def goG(S:Nat):Nat->Nat->List Nat->List Nat
 |_,c,[]=> [c]
 |h,c,x :: t=>if S<h+x then c :: goG S x 1 t else goG S (h+x) (c+1) t
def Ht(S:Nat):List Nat->List Nat
 | []=> []
 |x :: t=>goG S x 1 t
def EQ(wh:Bool)(l:List Rec):List Nat:=l.map fun r=>(Da wh r).length
theorem Xf{l:List Rec}{r:Rec}(hr:l[k]? =some r):(EQ wh l).drop k=(Da wh r).length :: (EQ wh l).drop (k+1):=by
 obtain⟨hk,e⟩:=BW.1 hr;have h:k<(EQ wh l).length:=by unfold EQ;rw[Bc];exact hk
 rw[Dg h];congr 1;simp[EQ,e]
theorem oD{l:List Rec}(hn:l.length=n):(EQ wh l).drop n= []:=DV (by unfold EQ;rw[Bc];omega)
theorem Pf{done:List Nat}(h:w.ownsRow base 3 1 (.slice (some ⟨g,0,none⟩) (q+1) cg) (q+1) (cZ .i64 (done++ [z])))(hq:done.length=q):w.cell? ⟨g,q,none⟩=some (.int .i64 (z:Nat)):=by rw[(Lz.own_cells h (show q<q+1 by omega)).1];simp only[cZ,List.getElem?_map];rw[II nj,hq];simp
theorem Oi{done:List Nat}(h:w.ownsRow base 3 1 (.slice (some ⟨g,0,none⟩) (q+1) cg) (q+1) (cZ .i64 (done++ [z])))(hq:done.length=q):(w.setCell ⟨g,q,none⟩ (.int .i64 (z+1:Nat))).ownsRow base 3 1 (.slice (some ⟨g,0,none⟩) (q+1) cg) (q+1) (cZ .i64 (done++ [z+1])):=by
 have h1:=Lz.Rw h (.int .i64 (z+1:Nat)) (show q<q+1 by omega)
 have e:(cZ .i64 (done++ [z])).set q (.int .i64 (z+1:Nat))=cZ .i64 (done++ [z+1]):=by
  have hl:q=(cZ .i64 done).length:=by unfold cZ;rw[Bc,hq]
  have e1:cZ .i64 (done++ [z])=cZ .i64 done++ [.int .i64 (z:Nat)]:=rk
  rw[e1,hl,List.set_append_right _ _ (Ak _),Gf];simp[cZ]
 rw[e]at h1;exact h1
theorem nE:(prog.info? 3).map (fun i=>(i.zero,i.size,i.bytes))=some (some (.int .i64 0),1,8):=my
def O8(S:Nat)(wh:Bool)(l:List Rec)(w:World)(e:Ending)(w':World):Prop:=
 ∃v,e= .returned v/\w'.ownsRow w 3 1 v (Ht S (EQ wh l)).length (cZ .i64 (Ht S (EQ wh l)))/\Below w w w'
theorem VD(k:IntKind)(l:List Nat)(x:Nat):cZ k (l++ [x])=cZ k l++ [.int k (x:Nat)]:=rk
theorem WP(w:World)(S:Nat)(wh:Bool)(A:Option Addr)(n c:Nat)(l:List Rec)(hS:1<=S)(bN:S<=1000000)(hn:l.length=n)(hN:n<=1000000)(a1:∀r∈l,Ci r)(hl:∀r∈l,CE r=false)(ha:Row w w A n 4 (By l)):
 Calls prog 46 #[S,wh, .slice A n c] w (O8 S wh l w):=by
 obtain⟨j0,bf,bd,a5,bg⟩:=info_parts nE;have HN:=hid hn;have HX:=hid (fun r (h:r∈l)=>(OR wh (a1 r h) (hl r h)).1);have bj:=hid (fun r (h:r∈l)=>Ia (hl r h));have HD:=hid (fun wx r (h:r∈l)=>TY wx wh r (a1 r h) (hl r h));have HE:=hid (oD (wh:=wh) hn);unfold Na at HD;unfold O8;obtain⟨R,hR⟩:=ii (Ht S (EQ wh l));have HR:=hid hR;rw[<-hR];have bC:max (1:Int) (S:Int)=(S:Int):=nj
 clear hn a1 hl hR;go_enter func46,ntmps46;go_wp2_with fail;go_loopw [7,8,14] (fun u hv i wr=>∃ (k q h:Nat) (out:List Nat),k<=n/\q<=k/\h<=1010000/\i= .int .i64 k/\hv= .int .i64 h/\Hid (out.length=q)/\Hid ((k=0/\out= []/\h=0)∨(0<k/\∃done z,out=done++ [z]/\z<=k/\done++goG S h z ((EQ wh l).drop k)=R))/\Hid (wr.ownsRow w 3 1 u q (cZ .i64 out))/\Hid (Below w w wr)) (fun _ _ i _=>n-(intOf i).toNat)
 case atStart=>exact⟨0,0,0,[],nj,nj,nj,rfl,rfl,rfl, .inl ⟨rfl,rfl,rfl⟩,AE _ _ _ _,Ae _ _⟩
 case round=>
  obtain⟨k,q,h,out,hk,bu,hh,rfl,rfl,HQ,HC,HO,HB⟩:=hrel;obtain⟨uA,uc,rfl⟩:=bZ HO.out;have hz:=HB.out.size;by_cases bn:k<n
  ·obtain⟨b,b1,r,rfl,b0,hg,c0,c1,c2,c3⟩:=Row.rec (ha.below HB.out) HN.out bn;have D:=hid (fun wx=>HD.out wx r (Be hg));unfold Rec.val at D;have hx:=HX.out r (Be hg);have bh:=bj.out r (Be hg);have x0:(0:Int)<=(k:Int):=nj;have x1:(k:Int)<(n:Int):=nj;have bm:(Da wh r).length<=8017:=nj;have an:=hid (Xf (wh:=wh) hg);generalize Da wh r=O at *;obtain⟨x,a6⟩:=ii O.length;rw[<-a6]at D bm an;have s1:IntKind.i64.wrap ((h:Int)+(x:Int))=((h+x:Nat):Int):=pi;have s2:IntKind.i64.wrap ((0:Int)+(x:Int))=(x:Int):=pi;clear hg hx bh a6;by_cases E:k=0∨S<h+x
   ·
    have ay:Hid (∃j,out=j/\j++goG S x 1 ((EQ wh l).drop (k+1))=R):=by
     rcases HC.out with ⟨h1,h2,h3⟩|⟨h1,done,z,h2,h3,h4⟩
     ·refine⟨[],h2,?_⟩;have e:=HR.out;have e2:=an.out;rw[h1,IK]at e2;rw[e2,Ht]at e;rw[h1];exact e.symm
     ·refine⟨out,rfl,?_⟩;have hf:S<h+x:=(by rcases E with E|E;omega;exact E);rw[an.out,goG,Ab hf]at h4;rw[h2,AI];exact h4
    have av:Hid (out++goG S x 1 ((EQ wh l).drop (k+1))=R):=(by obtain⟨d2,h1,h2⟩:=ay.out;rw[h1];exact h2);obtain⟨J,ac⟩:=ii (h+x);rw[<-ac]at s1 E;by_cases a0:q=0
    ·have gq:((q:Int)==0)=true:=(by simp[a0]);clear E ac ay HC a0;go_wp2_with fail;refine(D.out _).mono ?_;rintro e w1 ⟨v1,rfl,U,N⟩;obtain⟨A1,d1,rfl⟩:=bZ U;have ab:Hid (Below w w w1):=dZ N (aZ HB.out);have aa:Hid (w1.ownsRow w 3 1 (.slice uA q uc) q (cZ .i64 out)):=eZ (HO.out.alloc (.cells #[.int .u64 r.time, .int .u8 r.level, .string r.source, .string r.text] 43)) (fun y hy=>N.block y lk);have az:=ab.out.size;obtain⟨z,ai⟩:∃z:Nat,z=0:=⟨_,rfl⟩;have HZ:=hid ai;have bc:z<=0:=nj;obtain⟨j,Z⟩:=ii out;obtain⟨q2,Q⟩:=ii q;have M:Hid (j.length=q2):=(by rw[Z,Q];exact HQ.out);have ak:=hid Z;have af:=hid Q;have a3:q2<=k:=nj;clear U N D c0 c1 c2 c3 HO HB hz ai Z Q;go_wp2_with(at_builtin;refine iZ rfl (.tmp 33) (.tmp 34) 37 rfl w 3 j0 _ 1 8 underlying37 bf bd a5 bg rfl ip _ _ _ nm (aa.out.alloc _) _ 1 1 [.int .i64 0] nm (Src.of_blk (g:=w1.heap.size) (Blk.made _ _ _) 1 1 1 rfl) mq rE nj rg ?_;intro v4 w4 L am ah;have Y:Hid (Below w w w4):=(aZ ab.out).grown am rg (fun y hy=>(Aj aa.out y hy).1);have G:Hid (w4.ownsRow w 3 1 v4 (q2+1) (cZ .i64 (j++ [z]))):=(by rw[ak.out,af.out,VD,HZ.out];exact L);have aw:=af.out;subst aw;clear L am ah aa ab az;have a4:=Y.out.size;obtain⟨g,cg,rfl,ae,_⟩:=G.out.form nj;have ag:w4.cell? ⟨g,q2,none⟩=some (.int .i64 (z:Nat)):=Pf G.out M.out;have bb:=(Lz.own_cells G.out (show q2<q2+1 by omega)).2.1;have aj:Hid ((w4.setCell ⟨g,q2,none⟩ (.int .i64 (z+1:Nat))).ownsRow w 3 1 (.slice (some ⟨g,0,none⟩) (q2+1) cg) (q2+1) (cZ .i64 (j++ [z+1]))):=Oi G.out M.out;have al:Hid (Below w w (w4.setCell ⟨g,q2,none⟩ (.int .i64 (z+1:Nat)))):=BF ae Y.out;have u1:IntKind.i64.wrap (((q2+1:Nat):Int)-1)=(q2:Int):=pi;have be:IntKind.i64.wrap ((q2:Int)+1-1)=(q2:Int):=pi;have u2:IntKind.i64.wrap ((z:Int)+1)=((z+1:Nat):Int):=pi;have y0:(0:Int)<=(q2:Int):=nj;have y1:(q2:Int)<((q2+1:Nat):Int):=nj);go_roundw
     case measure=>exact jq
     case rel=>exact jj
    ·have gq:((q:Int)==0)=false:=pm;have a9:¬k=0:=nj;have hf:S<J:=(by rcases E with E|E;exact absurd E a9;exact E);have gs:=ic ((S:Int)<J);have bl:=ic (S<J);clear E ac ay HC hf a9 a0;go_wp2_with fail;refine(D.out _).mono ?_;rintro e w1 ⟨v1,rfl,U,N⟩;obtain⟨A1,d1,rfl⟩:=bZ U;have ab:Hid (Below w w w1):=dZ N (aZ HB.out);have aa:Hid (w1.ownsRow w 3 1 (.slice uA q uc) q (cZ .i64 out)):=eZ (HO.out.alloc (.cells #[.int .u64 r.time, .int .u8 r.level, .string r.source, .string r.text] 43)) (fun y hy=>N.block y lk);have az:=ab.out.size;obtain⟨z,ai⟩:∃z:Nat,z=0:=⟨_,rfl⟩;have HZ:=hid ai;have bc:z<=0:=nj;obtain⟨j,Z⟩:=ii out;obtain⟨q2,Q⟩:=ii q;have M:Hid (j.length=q2):=(by rw[Z,Q];exact HQ.out);have ak:=hid Z;have af:=hid Q;have a3:q2<=k:=nj;clear U N D c0 c1 c2 c3 HO HB hz ai Z Q;go_wp2_with(at_builtin;refine iZ rfl (.tmp 33) (.tmp 34) 37 rfl w 3 j0 _ 1 8 underlying37 bf bd a5 bg rfl ip _ _ _ nm (aa.out.alloc _) _ 1 1 [.int .i64 0] nm (Src.of_blk (g:=w1.heap.size) (Blk.made _ _ _) 1 1 1 rfl) mq rE nj rg ?_;intro v4 w4 L am ah;have Y:Hid (Below w w w4):=(aZ ab.out).grown am rg (fun y hy=>(Aj aa.out y hy).1);have G:Hid (w4.ownsRow w 3 1 v4 (q2+1) (cZ .i64 (j++ [z]))):=(by rw[ak.out,af.out,VD,HZ.out];exact L);have aw:=af.out;subst aw;clear L am ah aa ab az;have a4:=Y.out.size;obtain⟨g,cg,rfl,ae,_⟩:=G.out.form nj;have ag:w4.cell? ⟨g,q2,none⟩=some (.int .i64 (z:Nat)):=Pf G.out M.out;have bb:=(Lz.own_cells G.out (show q2<q2+1 by omega)).2.1;have aj:Hid ((w4.setCell ⟨g,q2,none⟩ (.int .i64 (z+1:Nat))).ownsRow w 3 1 (.slice (some ⟨g,0,none⟩) (q2+1) cg) (q2+1) (cZ .i64 (j++ [z+1]))):=Oi G.out M.out;have al:Hid (Below w w (w4.setCell ⟨g,q2,none⟩ (.int .i64 (z+1:Nat)))):=BF ae Y.out;have u1:IntKind.i64.wrap (((q2+1:Nat):Int)-1)=(q2:Int):=pi;have be:IntKind.i64.wrap ((q2:Int)+1-1)=(q2:Int):=pi;have u2:IntKind.i64.wrap ((z:Int)+1)=((z+1:Nat):Int):=pi;have y0:(0:Int)<=(q2:Int):=nj;have y1:(q2:Int)<((q2+1:Nat):Int):=nj);go_roundw
     case measure=>exact jq
     case rel=>exact jj
   ·
    have ba:¬k=0:=nj;have hf:¬S<h+x:=nj
    obtain⟨j,z,aq,bt,ar⟩:∃done z,out=done++ [z]/\z<=k/\done++goG S h z ((EQ wh l).drop k)=R:=by
     rcases HC.out with ⟨h1,_,_⟩|⟨_,h2⟩
     ·exact absurd h1 ba
     ·exact h2
    rw[an.out,goG,Aa hf]at ar;have ax:=HQ.out;rw[aq,Ag]at ax;obtain⟨q2,Q⟩:=ii j.length;have bi:q=q2+1:=(by rw[Q,<-ax];rfl);subst bi;have gq:(((q2+1:Nat):Int)==0)=false:=pm;have bS:((q2:Int)+1==0)=false:=pm;obtain⟨J,ac⟩:=ii (h+x);rw[<-ac]at s1 hf ar;have gs:=ig ((S:Int)<J);have bl:=ig (S<J);have bk:J<=1010000:=nj;have bp:=hid ar;have au:=hid aq;have M:Hid (j.length=q2):=Q.symm;clear ar aq ax Q hf E ba ac HC an;go_wp2_with fail;refine(D.out _).mono ?_;rintro e w4 ⟨v1,rfl,U,N⟩;obtain⟨A1,d1,rfl⟩:=bZ U;have Y:Hid (Below w w w4):=dZ N (aZ HB.out);have G:Hid (w4.ownsRow w 3 1 (.slice uA (q2+1) uc) (q2+1) (cZ .i64 (j++ [z]))):=(by rw[<-au.out];exact eZ (HO.out.alloc (.cells #[.int .u64 r.time, .int .u8 r.level, .string r.source, .string r.text] 43)) (fun y hy=>N.block y lk));clear U N D c0 c1 c2 c3 HO HB hz au HQ;have a4:=Y.out.size;obtain⟨g,cg,bq,ae,_⟩:=G.out.form nj;injection bq with hg91 hg92 hg93;subst hg91 hg93;have ag:w4.cell? ⟨g,q2,none⟩=some (.int .i64 (z:Nat)):=Pf G.out M.out;have bb:=(Lz.own_cells G.out (show q2<q2+1 by omega)).2.1;have aj:Hid ((w4.setCell ⟨g,q2,none⟩ (.int .i64 (z+1:Nat))).ownsRow w 3 1 (.slice (some ⟨g,0,none⟩) (q2+1) uc) (q2+1) (cZ .i64 (j++ [z+1]))):=Oi G.out M.out;have al:Hid (Below w w (w4.setCell ⟨g,q2,none⟩ (.int .i64 (z+1:Nat)))):=BF ae Y.out;have u1:IntKind.i64.wrap (((q2+1:Nat):Int)-1)=(q2:Int):=pi;have be:IntKind.i64.wrap ((q2:Int)+1-1)=(q2:Int):=pi;have u2:IntKind.i64.wrap ((z:Int)+1)=((z+1:Nat):Int):=pi;have y0:(0:Int)<=(q2:Int):=nj;have y1:(q2:Int)<((q2+1:Nat):Int):=nj;go_wp2_with fail;go_roundw
    case measure=>exact jq
    case rel=>go_light;exact⟨k+1,q2+1,J,j++ [z+1],nj,nj,bk,iw,iw,qM, .inr ⟨nj,j,z+1,rfl,nj,bp.out⟩,aj.out,al.out⟩
  ·obtain rfl:k=n:=by omega
   have HF:Hid (out=R):=by
    rcases HC.out with ⟨h1,h2,_⟩|⟨_,done,z,h2,_,h4⟩
    ·have e:=HR.out;have e2:=HE.out;rw[h1,IK]at e2;rw[e2,Ht]at e;rw[h2];exact e.symm
    ·rw[HE.out,goG]at h4;rw[h2];exact h4
   clear HC;go_wp2_with fail;go_ret;exact⟨_,rfl,by rw[<-HF.out,HQ.out];exact HO.out,HB.out⟩
end Recs
namespace Nums
open Go.RowKit Mem Own Canon NumPut
open Crc (Fp GO Fv)
def FT(ls:List Nat):ByteArray:=⟨(ls.map UInt8.ofNat).toArray⟩
theorem Yb(s:ByteArray):FT (sB s)=s:=by
 unfold sB FT;simp only[List.map_map];have:(UInt8.ofNat ∘ UInt8.toNat)=id:=by funext x;simp
 rw[this];simp
theorem XM{B:Nat}{ls:List Nat}(hr:Row w B A n 1 (jZ .u8 ls))(hn:ls.length=n):
 (convert 28 9 (.slice A n c)).run prog w= .ok (.string (FT ls)) w:=by
 have e:FT ls=strOfNums (ls.map Int.ofNat):=by unfold FT strOfNums;rw[List.map_map];rfl
 rcases Nat.eq_zero_or_pos n with h0|h0
 ·subst h0;obtain rfl:=WG.1 hn;cases A with
  |none=>exact run_convert_bytes_nil w _ _ underlying28 underlying5 _ _ _ underlying9
  |some a=>rw[run_convert_bytes_string w _ _ _ _ _ _ underlying28 underlying5 underlying9];rw[run_bytesToString w a 0 c [] (run_loadCells_list (P:=prog) w a [] (fun j v hj=>by cases hj))];rfl
 ·obtain⟨b,h,rfl,_,hc⟩:=hr h0;rw[e];refine run_convert_bytes_arg w _ _ underlying28 underlying5 b h n c (ls.map Int.ofNat) (by simpa using hn) (fun i hi=> ?_) _ underlying9;have:=hc i 0 hi nj;rw[CO,Bi]at this;rw[this];unfold jZ;congr 2;simp[List.getD_eq_getElem?_getD,List.getElem?_map,List.getElem?_eq_getElem (show i<ls.length by omega)]
theorem left_any(w:World)(g base:Nat)(bs:List Nat)(A:Option Addr)(c at_:Nat)(er:Int)(h:Cur w g base bs A c at_ er):
 Calls prog 191 #[.pointer (some ⟨g,0,none⟩)] w fun e w'=>e= .returned (.int .i64 (bs.length-at_:Nat))/\∃q,w'=w.drewN q:=by
 have D:=hid (rest_any w g base bs A c at_ er h);clear h;generalize bs.length-at_=m at *;go_enter func191,ntmps191;go_wp2_with fail;refine D.out.mono ?_;rintro e w2 ⟨rfl,q,rfl⟩;go_wp2_with fail;go_ret;exact⟨rfl,q,rfl⟩
theorem WT(w:World)(g base ob:Nat)(bs:List Nat)(A:Option Addr)(c at_:Nat)(J:bs.length<=100000)(h8:∀x∈bs,x<=255)(h:Cur w g base bs A c at_ 0)(i:Blk w ob 41 #[.int .u64 0]):
 Calls prog 292 #[.slice (AR A at_ c 1) (bs.length-at_) (c-at_), .pointer (some ⟨ob,0,none⟩)] w fun e w'=>∃ (k:Nat) (e2:Int),e= .returned (.tuple #[.int .i64 k,e2])/\k<=100000/\Cur w' g base bs A c at_ 0/\
  (Kept (fun x=>x≠ob) w w'/\k=(Bj (bs.drop at_) 0 0).2.1/\e2=(Bj (bs.drop at_) 0 0).2.2/\Blk w' ob 41 #[.int .u64 (Bj (bs.drop at_) 0 0).1]):=by
 have f1:=i.frozen 0;have d1:=i.ia 0;have E:=EA h.own;have j:=Fp (own_row h.own) h.le E.2;have y:∀x∈bs.drop at_,x<=255:=fun x hx=>h8 x (Ck hx);have D:=VN w (AR A at_ c 1) (bs.length-at_) (c-at_) (bs.drop at_) (by rw[AO]) nj y j;have G:=J0 (bs.drop at_) 0 0 y nj qT;have hk:(Bj (bs.drop at_) 0 0).2.1<=100000:=by have:=G.2.1;rw[AO]at this;omega
 generalize Bj (bs.drop at_) 0 0=R at *;have z:=Blk.apart i h.blk ip;have D:=hid D;have H:=hid h;have HO:=hid i;generalize AR A at_ c 1=A1 at *;clear j y G h i E;go_enter func292,ntmps292;go_wp2_with fail;refine D.out.mono ?_;rintro e w1 ⟨rfl,rfl⟩;go_wp2_with fail;go_ret2;refine⟨R.2.1,R.2.2,rfl,hk,?_,(Kept.refl _ _).set (fun h=>h rfl) _,rfl,rfl,HO.out.set 0 _⟩;exact⟨H.out.blk.far (fun e=>z e.symm) _,BR H.out.own (fZ H.out.own HO.out ip) _,H.out.le,H.out.lo⟩
theorem num_any(w:World)(g base:Nat)(bs:List Nat)(A:Option Addr)(c at_:Nat)(er:Int)(ab:bs.length<=100000)(h8:∀x∈bs,x<=255)(h:Cur w g base bs A c at_ er):
 Calls prog 243 #[.pointer (some ⟨g,0,none⟩)] w fun e w'=>e= .returned (.int .u64 (Hq bs at_ er:Nat))/\Cur w' g base bs A c (Jb bs at_ er) (I9 bs at_ er)/\Kept (BE g w) w w':=by
 have ag:=h.blk.lt;have h2:Cur (w.alloc (.cells #[.int .u64 0] 41)) g base bs A c at_ er:=(h.step (aZ (Ae _ _)));have J:Blk (w.alloc (.cells #[.int .u64 0] 41)) w 41 #[.int .u64 0]:=Blk.made _ _ _;have N:Kept (fun x=>x<w.heap.size/\x≠g) w (w.alloc (.cells #[.int .u64 0] 41)):=Kept.of_below (by(repeat (with_reducible first|exact Ae _ _|assumption|refine Aq ?_ |refine below_drewN ?_ _|refine oZ ?_ |refine aZ ?_ |refine dZ im ?_ |refine belA ?_ |refine pZ im ?_)):Below w w _) (fun x hx=>hx.1);have ah:=h.le;unfold BE;by_cases he:er=0
 ·subst he;have ac:∀L wx,(callFunc 292 L).run prog wx= .ok (.enter 292 L) wx:=by intro L wx;simp[callFunc,go_sem,func292];rfl
  have D:=fun w2 (hc2:Cur w2 g base bs A c at_ 0) (J:Blk w2 w 41 #[.int .u64 0])=>LY w2 g base bs A c at_ hc2 ab 292 #[.pointer (some ⟨w,0,none⟩)]
   (fun k e2 w'=>Kept (fun x=>x≠w.heap.size) w2 w'/\k=(Bj (bs.drop at_) 0 0).2.1/\e2=(Bj (bs.drop at_) 0 0).2.2/\Blk w' w 41 #[.int .u64 (Bj (bs.drop at_) 0 0).1]) ac
   (fun q=>(WT (w2.drewN q) g base w bs A c at_ ab h8 (hc2.drewN q) (J.drewN q)).mono fun e w' ⟨k,e2,h1,h2,h3,h4⟩=>⟨k,e2,h1,h2,h3,⟨⟨h4.1.os,h4.1.tape,h4.1.output,h4.1.size,h4.1.block⟩,h4.2⟩⟩)
  have D:=hid (D _ h2 J);have Z:∀x∈bs.drop at_,x<=255:=fun x hx=>h8 x (Ck hx);have Q:=J0 (bs.drop at_) 0 0 Z nj qT;rw[AO]at Q;have eV:Hq bs at_ 0=(Bj (bs.drop at_) 0 0).1:=Aa qT;have eA:Jb bs at_ 0=at_+(Bj (bs.drop at_) 0 0).2.1:=Aa qT;have eE:I9 bs at_ 0=(Bj (bs.drop at_) 0 0).2.2:=Aa qT;rw[eV,eA,eE];generalize Bj (bs.drop at_) 0 0=R at *;have HK:=hid N;have ae:w.heap.size≠g:=nj
  have aa:=hid Q;clear ac h2 J N Z Q eV eA eE;by_cases hR:R.2.2=0
  ·have af:at_+R.2.1<=bs.length:=(by have:=aa.out.2.1;omega);go_enter func243,ntmps243;go_wp2_with fail;refine D.out.mono ?_;rintro e w4 ⟨k,e2,w3,⟨i,E,z,y⟩,M,j⟩;rcases j with ⟨h0,_,_⟩|⟨_,rfl,rfl⟩
   ·exact absurd (z.trans hR) h0
   ·have G:Hid (Kept (fun x=>x<w.heap.size/\x≠g) w w3):=HK.out.trans ⟨i.os,i.tape,i.output,i.size,fun x hx=>i.block x nj⟩;have hB:=y.far (fun e=>ae e) (p:=⟨g,1,none⟩) (.int .i64 (at_+k:Nat));have d0:=hB.ia 0;have HC:=hid (M.setAt (at_+k) nj);rw[E]at HC;have U:Hid (Kept (fun x=>x<w.heap.size/\x≠g) w (w3.setCell ⟨g,1,none⟩ (.int .i64 (at_+k:Nat)))):=G.out.set (fun h=>h.2 rfl) _;rw[<-E]at HC;have Y:Hid (Cur (w3.setCell ⟨g,1,none⟩ (.int .i64 (at_+k:Nat))) g base bs A c (at_+R.2.1) R.2.2):=qk;generalize w3.setCell ⟨g,1,none⟩ (.int .i64 (at_+k:Nat))=w5 at *;clear hB y M i D G HK E z HC hR;go_wp2_with fail;go_ret;exact⟨rfl,Y.out,U.out⟩
  ·have hz:=aa.out.2.2.2.1 hR;go_enter func243,ntmps243;go_wp2_with fail;refine D.out.mono ?_;rintro e w4 ⟨k,e2,w3,⟨i,E,z,y⟩,M,j⟩;rcases j with ⟨_,rfl,rfl⟩|⟨h0,_,_⟩
   ·have G:Hid (Kept (fun x=>x<w.heap.size/\x≠g) w w3):=HK.out.trans ⟨i.os,i.tape,i.output,i.size,fun x hx=>i.block x nj⟩;have Y:Hid (Cur (w3.setCell ⟨g,2,none⟩ (.int .i64 e2)) g base bs A c (at_+R.2.1) R.2.2):=qt;have U:Hid (Kept (fun x=>x<w.heap.size/\x≠g) w (w3.setCell ⟨g,2,none⟩ (.int .i64 e2))):=G.out.set (fun h=>h.2 rfl) _;generalize w3.setCell ⟨g,2,none⟩ (.int .i64 e2)=w5 at *;have HZ:=hid hz.1;clear y M i D G HK E z hR hz;go_wp2_with fail;go_ret;exact⟨by rw[HZ.out];rfl,Y.out,U.out⟩
   ·exact absurd (z.symm.trans h0) hR
 ·have D:=hid (MA _ g base bs A c at_ er h2 he (.func (.func 292) #[] #[.pointer (some ⟨w,0,none⟩)]));have eV:Hq bs at_ er=0:=Ab he;have eA:Jb bs at_ er=at_:=Ab he;have eE:I9 bs at_ er=er:=Ab he;rw[eV,eA,eE];have HK:=hid N;have HC:=hid h2;clear h2 J N he eV eA eE;go_enter func243,ntmps243;go_wp2_with fail;refine D.out.mono ?_;rintro e w4 ⟨rfl,rfl⟩;go_wp2_with fail;go_ret;exact⟨rfl,HC.out,HK.out⟩
end Nums
namespace Nums
open Go.RowKit Mem Own Canon NumPut
open Crc (Fp GO Fv)
def Cr(most:Nat)(ls:List Nat):List Nat×Nat×Int:=
 if(BD most ls).2.2≠0 then([],0,(BD most ls).2.2)else if ls.length-(BD most ls).2.1<(BD most ls).1 then([],0,1)else((ls.drop (BD most ls).2.1).take (BD most ls).1,(BD most ls).2.1+(BD most ls).1,0)
theorem Mq(most:Nat)(ls:List Nat)(h8:∀c∈ls,c<=255):(Cr most ls).1.length<=most/\(Cr most ls).2.1<=ls.length/\((Cr most ls).2.2=0->1<=(Cr most ls).2.1)/\((Cr most ls).2.2≠0->(Cr most ls).1= []/\(Cr most ls).2.1=0)/\(∀x∈(Cr most ls).1,x<=255)/\0<=(Cr most ls).2.2/\(Cr most ls).2.2<=6:=by
 have h:=Hk most ls h8;unfold Cr;split
 ·rename_i he;exact⟨qT,qT,fun h0=>absurd h0 he,fun _=>⟨rfl,rfl⟩,fun x hx=>qV,h.2.2.2.2.1,h.2.2.2.2.2⟩
 ·split
  ·exact⟨qT,qT,fun h0=>absurd h0 ip,fun _=>⟨rfl,rfl⟩,fun x hx=>qV,qT,qT⟩
  ·rename_i he hl;have h1:=h.2.2.1 nj;exact⟨by rw[Ba];have:=h.1;omega,by have:=h.2.1;simp only;omega,fun _=>qW,fun h0=>absurd rfl h0,fun x hx=>h8 x (Ck (Dc hx)),qT,qT⟩
def EP(most:Nat)(bs:List Nat)(at_:Nat)(er:Int):List Nat:=if er≠0 then []else(Cr most (bs.drop at_)).1
def D9(most:Nat)(bs:List Nat)(at_:Nat)(er:Int):Nat:=if er≠0 then at_ else at_+(Cr most (bs.drop at_)).2.1
def D7(most:Nat)(bs:List Nat)(at_:Nat)(er:Int):Int:=if er≠0 then er else(Cr most (bs.drop at_)).2.2
theorem lW(w:World)(g base mb ob:Nat)(bs:List Nat)(A:Option Addr)(c at_ most:Nat)(ag:bs.length<=100000)(h8:∀x∈bs,x<=255)(N:most<=1000000000)(h:Cur w g base bs A c at_ 0)(Q:Blk w mb 3 #[most])(E:Blk w ob 9 #[.string ⟨#[]⟩]):
 Calls prog 301 #[.slice (AR A at_ c 1) (bs.length-at_) (c-at_), .pointer (some ⟨mb,0,none⟩), .pointer (some ⟨ob,0,none⟩)] w fun e w'=>∃ (k:Nat) (e2:Int),e= .returned (.tuple #[.int .i64 k,e2])/\k<=100000/\Cur w' g base bs A c at_ 0/\
  (Kept (fun x=>x<w.heap.size/\x≠ob) w w'/\k=(Cr most (bs.drop at_)).2.1/\e2=(Cr most (bs.drop at_)).2.2/\Blk w' ob 9 #[.string (FT (Cr most (bs.drop at_)).1)]):=by
 have d0:=Q.ia 0;have f1:=E.frozen 0;have d1:=E.ia 0;have M:=EA h.own;have af:=h.le;have z:=Fp (own_row h.own) h.le M.2;have J:∀x∈bs.drop at_,x<=255:=fun x hx=>h8 x (Ck hx);have D:=V1 w (AR A at_ c 1) (bs.length-at_) (c-at_) (bs.drop at_) most N (by rw[AO]) nj J z;have y:=Hk most (bs.drop at_) J;rw[AO]at y;have aq:bs.length-at_<=100000:=nj
 have ab:bs.length-at_<=c-at_:=by have:=M.2;omega
 unfold Cr;rw[show(bs.drop at_).length=bs.length-at_ from AO];have Z:(bs.drop at_).length=bs.length-at_:=AO;have U:=Blk.apart E h.blk ip;have ai:mb≠ob:=by intro e;subst e;rw[d0]at d1;cases d1
 have H:=hid h;have HO:=hid E;generalize bs.drop at_=L at *;generalize bs.length-at_=m at *;generalize AR A at_ c 1=A1 at *;generalize c-at_=cc at *;generalize ae:BD most L=R at *;have HR:=hid z;have HL:=hid Z;have D:=hid D;have an:=y.1;have aj:=y.2.1;have al:=y.2.2.2.2.1;have ak:=y.2.2.2.2.2;clear z J h E Q M Z ae y af ag h8;obtain⟨x,n,er⟩:=R;simp only at *;by_cases he:er=0
 ·subst he;rw[Aa qT];have ah:IntKind.i64.wrap ((m:Int)-(n:Int))=((m-n:Nat):Int):=by rw[Ar _ nj];omega
  by_cases G:m-n<x
  ·rw[Ab G];have g1:=ic (((m-n:Nat):Int)<(x:Int));have g2:=ic (m-n<x);clear G;go_enter func301,ntmps301;go_wp2_with fail;refine D.out.mono ?_;rintro e w1 ⟨rfl,rfl⟩;go_wp2_with fail;go_ret2;exact⟨0,1,rfl,nj,H.out,Kept.refl _ _,rfl,rfl,HO.out⟩
  ·rw[Aa G];have g1:=ig (((m-n:Nat):Int)<(x:Int));have g2:=ig (m-n<x);have s2:IntKind.i64.wrap ((n:Int)+(x:Int))=((n:Int)+(x:Int)):=ph;have ks:=fun wx=>OZ (P:=prog) (t:=28) (s:=1) underlying28 (fun _=>by kernel_rfl) A1 m cc .i64 .i64 (n:Int) ((n:Int)+(x:Int)) n (n+x) rfl nj nj nj wx;rw[Jg]at ks;have ac:((L.drop n).take x).length=x:=by rw[Ba,AO,HL.out];omega
   have Y:Hid (∀wx,Below w w wx->(convert 28 9 (.slice (AR A1 n cc 1) x (cc-n))).run prog wx= .ok (.string (FT ((L.drop n).take x))) wx):=fun wx hb=>
    XM ((HR.out.below hb).cut n x nj ab (fun i j hi hj=>by
     obtain rfl:j=0:=nj
     simp only[jZ,List.getD_eq_getElem?_getD,List.getElem?_take,List.getElem?_drop];rw[Ab hi])) ac
   have aa:n+x<=100000:=nj;generalize (L.drop n).take x=T at *;have cv:=Y.out w (Ae _ _);have am:=Y.out w.drew rF;clear G HR HL;go_enter func301,ntmps301;go_wp2_with fail;refine D.out.mono ?_;rintro e w1 ⟨rfl,rfl⟩;go_wp2_with fail;go_ret2;refine⟨n+x,0,rfl,aa,?_,(Kept.refl _ _).set (fun h=>h.2 rfl) _,rfl,rfl,HO.out.set 0 _⟩;exact⟨H.out.blk.far (fun e=>U e.symm) _,BR H.out.own (fZ H.out.own HO.out ip) _,H.out.le,H.out.lo⟩
 ·rw[Ab he];have g1:(er != 0)=true:=by simpa using he
  clear he HR HL;go_enter func301,ntmps301;go_wp2_with fail;refine D.out.mono ?_;rintro e w1 ⟨rfl,rfl⟩;go_wp2_with fail;go_ret2;exact⟨0,er,rfl,nj,H.out,Kept.refl _ _,rfl,rfl,HO.out⟩
theorem Of(w:World)(g base:Nat)(bs:List Nat)(A:Option Addr)(c at_:Nat)(er:Int)(most:Nat)(ag:bs.length<=100000)(h8:∀x∈bs,x<=255)(Y:most<=1000000000)(h:Cur w g base bs A c at_ er):
 Calls prog 251 #[.pointer (some ⟨g,0,none⟩),most] w fun e w'=>e= .returned (.string (FT (EP most bs at_ er)))/\Cur w' g base bs A c (D9 most bs at_ er) (D7 most bs at_ er)/\Kept (BE g w) w w':=by
 have aj:=h.blk.lt;have h2:Cur ((w.alloc (.cells #[most] 3)).alloc (.cells #[.string ⟨#[]⟩] 9)) g base bs A c at_ er:=(h.step (aZ (Ae _ _))).step (aZ (Ae _ _));have N:Blk ((w.alloc (.cells #[most] 3)).alloc (.cells #[.string ⟨#[]⟩] 9)) w 3 #[most]:=(Blk.made _ _ _).alloc _;have J:Blk ((w.alloc (.cells #[most] 3)).alloc (.cells #[.string ⟨#[]⟩] 9)) (w.heap.size+1) 9 #[.string ⟨#[]⟩]:=Blk.made_at _ _ _ qT;have Q:Kept (fun x=>x<w.heap.size/\x≠g) w ((w.alloc (.cells #[most] 3)).alloc (.cells #[.string ⟨#[]⟩] 9)):=Kept.of_below (by(repeat (with_reducible first|exact Ae _ _|assumption|refine Aq ?_ |refine below_drewN ?_ _|refine oZ ?_ |refine aZ ?_ |refine dZ im ?_ |refine belA ?_ |refine pZ im ?_)):Below w w _) (fun x hx=>hx.1);have ak:=h.le;have ab:((w.alloc (.cells #[most] 3)).alloc (.cells #[.string ⟨#[]⟩] 9)).heap.size=w.heap.size+2:=qT
 unfold BE;by_cases he:er=0
 ·subst he;have ah:∀L wx,(callFunc 301 L).run prog wx= .ok (.enter 301 L) wx:=by intro L wx;simp[callFunc,go_sem,func301];rfl
  have D:=fun w2 (hc2:Cur w2 g base bs A c at_ 0) (N:Blk w2 w 3 #[most]) (J:Blk w2 (w.heap.size+1) 9 #[.string ⟨#[]⟩])=>LY w2 g base bs A c at_ hc2 ag 301 #[.pointer (some ⟨w,0,none⟩), .pointer (some ⟨w.heap.size+1,0,none⟩)]
   (fun k e2 w'=>Kept (fun x=>x<w2.heap.size/\x≠w.heap.size+1) w2 w'/\k=(Cr most (bs.drop at_)).2.1/\e2=(Cr most (bs.drop at_)).2.2/\Blk w' (w.heap.size+1) 9 #[.string (FT (Cr most (bs.drop at_)).1)]) ah
   (fun q=>(lW (w2.drewN q) g base w (w.heap.size+1) bs A c at_ most ag h8 Y (hc2.drewN q) (N.drewN q) (J.drewN q)).mono fun e w' ⟨k,e2,h1,h2,h3,h4⟩=>⟨k,e2,h1,h2,h3,⟨⟨h4.1.os,h4.1.tape,h4.1.output,h4.1.size,h4.1.block⟩,h4.2⟩⟩)
  have D:=hid (D _ h2 N J);have ac:∀x∈bs.drop at_,x<=255:=fun x hx=>h8 x (Ck hx);have U:=Mq most (bs.drop at_) ac;rw[AO]at U;have eV:EP most bs at_ 0=(Cr most (bs.drop at_)).1:=Aa qT;have eA:D9 most bs at_ 0=at_+(Cr most (bs.drop at_)).2.1:=Aa qT;have eE:D7 most bs at_ 0=(Cr most (bs.drop at_)).2.2:=Aa qT;rw[eV,eA,eE];generalize Cr most (bs.drop at_)=R at *;have HK:=hid Q;have af:w.heap.size+1≠g:=nj
  have ae:=hid U;clear ah h2 N J Q ac U eV eA eE;by_cases hR:R.2.2=0
  ·have ai:at_+R.2.1<=bs.length:=(by have:=ae.out.2.1;omega);go_enter func251,ntmps251;go_wp2_with fail;refine D.out.mono ?_;rintro e w4 ⟨k,e2,w3,⟨i,E,z,j⟩,M,y⟩;rcases y with ⟨h0,_,_⟩|⟨_,rfl,rfl⟩
   ·exact absurd (z.trans hR) h0
   ·have G:Hid (Kept (fun x=>x<w.heap.size/\x≠g) w w3):=HK.out.trans ⟨i.os,i.tape,i.output,i.size,fun x hx=>i.block x ⟨by have:=hx.1;rw[ab];omega,mo⟩⟩;have hB:=j.far (fun e=>af e) (p:=⟨g,1,none⟩) (.int .i64 (at_+k:Nat));have d0:=hB.ia 0;have HC:=hid (M.setAt (at_+k) nj);rw[E]at HC;have Z:Hid (Kept (fun x=>x<w.heap.size/\x≠g) w (w3.setCell ⟨g,1,none⟩ (.int .i64 (at_+k:Nat)))):=G.out.set (fun h=>h.2 rfl) _;rw[<-E]at HC;have aa:Hid (Cur (w3.setCell ⟨g,1,none⟩ (.int .i64 (at_+k:Nat))) g base bs A c (at_+R.2.1) R.2.2):=qk;generalize w3.setCell ⟨g,1,none⟩ (.int .i64 (at_+k:Nat))=w5 at *;clear hB j M i D G HK E z HC hR;go_wp2_with fail;go_ret;exact⟨rfl,aa.out,Z.out⟩
  ·have hz:=ae.out.2.2.2.1 hR;go_enter func251,ntmps251;go_wp2_with fail;refine D.out.mono ?_;rintro e w4 ⟨k,e2,w3,⟨i,E,z,j⟩,M,y⟩;rcases y with ⟨_,rfl,rfl⟩|⟨h0,_,_⟩
   ·have G:Hid (Kept (fun x=>x<w.heap.size/\x≠g) w w3):=HK.out.trans ⟨i.os,i.tape,i.output,i.size,fun x hx=>i.block x ⟨by have:=hx.1;rw[ab];omega,mo⟩⟩;have aa:Hid (Cur (w3.setCell ⟨g,2,none⟩ (.int .i64 e2)) g base bs A c (at_+R.2.1) R.2.2):=qt;have Z:Hid (Kept (fun x=>x<w.heap.size/\x≠g) w (w3.setCell ⟨g,2,none⟩ (.int .i64 e2))):=G.out.set (fun h=>h.2 rfl) _;have hB:=j.far (fun e=>af e) (p:=⟨g,2,none⟩) (.int .i64 e2);have d0:=hB.ia 0;generalize w3.setCell ⟨g,2,none⟩ (.int .i64 e2)=w5 at *;clear hB j M i D G HK E z hR hz;go_wp2_with fail;go_ret;exact⟨rfl,aa.out,Z.out⟩
   ·exact absurd (z.symm.trans h0) hR
 ·have D:=hid (MA _ g base bs A c at_ er h2 he (.func (.func 301) #[] #[.pointer (some ⟨w,0,none⟩), .pointer (some ⟨w.heap.size+1,0,none⟩)]));have eV:EP most bs at_ er= []:=Ab he;have eA:D9 most bs at_ er=at_:=Ab he;have eE:D7 most bs at_ er=er:=Ab he;rw[eV,eA,eE];have HK:=hid Q;have HC:=hid h2;clear h2 N J Q he eV eA eE;go_enter func251,ntmps251;go_wp2_with fail;refine D.out.mono ?_;rintro e w4 ⟨rfl,rfl⟩;go_wp2_with fail;go_ret;exact⟨rfl,HC.out,HK.out⟩
end Nums
namespace Nums
open Go.RowKit Mem Own Canon NumPut
theorem intA_le{bs:List Nat}(h8:∀x∈bs,x<=255){at_:Nat}(er:Int)(h:at_<=bs.length):AJ most bs at_ er<=bs.length:=by
 unfold AJ;split
 ·exact h
 ·have:=(Hk most (bs.drop at_) (fun x hx=>h8 x (Ck hx))).2.1;rw[AO]at this;omega
theorem Gp{bs:List Nat}(h8:∀x∈bs,x<=255)(at_:Nat)(er:Int):Bd most bs at_ er<=most:=by
 unfold Bd;split
 ·omega
 ·exact(Hk most (bs.drop at_) (fun x hx=>h8 x (Ck hx))).1
end Nums
namespace Nums
open Go.RowKit Mem Own Canon
def GL(bs:List Nat)(at_:Nat)(er:Int):Int:=if at_<bs.length then Gk er 2 else er
theorem TJ(w:World)(g base:Nat)(bs:List Nat)(A:Option Addr)(c at_:Nat)(er:Int)(h:Cur w g base bs A c at_ er):
 Calls prog 114 #[.pointer (some ⟨g,0,none⟩)] w fun e w'=>e= .returned (.int .i64 (GL bs at_ er))/\Cur w' g base bs A c at_ (GL bs at_ er)/\Kept (fun x=>x≠g) w w':=by
 have DL:=hid (left_any w g base bs A c at_ er h);have H:=hid h;obtain⟨R,hR⟩:=ii (GL bs at_ er);rw[<-hR];unfold GL at hR;by_cases y:at_<bs.length
 ·rw[Ab y]at hR;have gl:=ic ((0:Int)<((bs.length-at_:Nat):Int))
  have L:=ic (0<bs.length-at_)
  have N:=ic (at_<bs.length)
  have HR:=hid hR;obtain⟨m,hm⟩:=ii (bs.length-at_);rw[<-hm]at DL gl L;clear h hR y hm;go_enter func114,ntmps114;go_wp2_with fail;refine DL.out.mono ?_;rintro e w1 ⟨rfl,q,hq⟩;have i:Hid (Cur w1 g base bs A c at_ er):=by rw[hq];exact H.out.drewN q
  have z:Hid (Kept (fun x=>x≠g) w w1):=qr
  clear hq;go_wp2_with fail;refine(GZ w1 g base bs A c at_ er 2 i.out).mono ?_;rintro e w2 ⟨rfl,j,G⟩;rw[<-HR.out]at j;have M:=hid j;have J:Hid (Kept (fun x=>x≠g) w w2):=z.out.trans G;have DE:=hid (Dt w2 g base bs A c at_ R j);clear j G HR;go_wp2_with fail;refine DE.out.mono ?_;rintro e w3 ⟨rfl,rfl⟩;go_wp2_with fail;go_ret;exact⟨rfl,M.out,J.out⟩
 ·rw[Aa y]at hR;subst hR;have E:bs.length-at_=0:=by omega
  rw[E]at DL;have gl:=ig ((0:Int)<((0:Nat):Int))
  clear h y E;go_enter func114,ntmps114;go_wp2_with fail;refine DL.out.mono ?_;rintro e w1 ⟨rfl,q,hq⟩;have i:Hid (Cur w1 g base bs A c at_ R):=by rw[hq];exact H.out.drewN q
  have z:Hid (Kept (fun x=>x≠g) w w1):=qr
  have DE:=hid (Dt w1 g base bs A c at_ R i.out);clear hq;go_wp2_with fail;refine DE.out.mono ?_;rintro e w3 ⟨rfl,rfl⟩;go_wp2_with fail;go_ret;exact⟨rfl,i.out,z.out⟩
end Nums
namespace Recs
open NumPut
def Gq(d:Nat):Nat:=if d<9223372036854775808 then 2*d else 36893488147419103231-2*d
def IL(a b:Nat):Nat:=(a+18446744073709551616-b) % 18446744073709551616
theorem MW{d:Nat}(h:d<18446744073709551616):Gq d<18446744073709551616:=by unfold Gq;split<;>omega
theorem MP(a b:Nat):IL a b<18446744073709551616:=Nat.mod_lt _ nj
def Cm(g:Nat->Nat->List Nat):Nat->List Nat->List Nat
 |_,[]=> []
 |was,t :: l=>g was t++Cm g t l
theorem UJ(g:Nat->Nat->List Nat):∀ (l:List Nat) (h t:Nat),Cm g h (l++ [t])=Cm g h l++g (l.getLast?.getD h) t
 | [],h,t=>by simp[Cm]
 |x :: l,h,t=>by
  rw[Ei,Cm,UJ g l x t,Cm,AI]
  have e:(x :: l).getLast?.getD h=l.getLast?.getD x:=by
   cases l with
   |nil=>rfl
   |cons z s=>simp[List.getLast?_cons]
  rw[e]
theorem Sl{g:Nat->Nat->List Nat}(h:∀a b,(g a b).length<=10):∀ (l:List Nat) (i:Nat),(Cm g i l).length<=10*l.length
 | [],_=>by simp[Cm]
 |t :: l,i=>by have:=Sl h l t;have:=h i t;rw[Cm,Ag,AD];omega
theorem Vq{g:Nat->Nat->List Nat}(h:∀a b,∀y∈g a b,y<=255):∀ (l:List Nat) (i:Nat),∀y∈Cm g i l,y<=255
 | [],_,y,hy=>by simp[Cm]at hy
 |t :: l,i,y,hy=>by
  rw[Cm]at hy;rcases BQ.1 hy with hy|hy
  ·exact h i t y hy
  ·exact Vq h l t y hy
def stepT(was t:Nat):List Nat:=gZ (Gq (IL t was))
theorem mI(a b:Nat):(stepT a b).length<=10:=sZ (MW (MP b a))
theorem aW(a b:Nat):∀y∈stepT a b,y<=255:=fun y hy=>CZ _ y hy
def lead(x:Nat):List Nat->Nat
 | []=>0
 |y :: t=>if y=x then lead x t+1 else 0
theorem Pa(x:Nat):∀l,lead x l<=l.length
 | []=>by simp[lead]
 |y :: t=>by have:=Pa x t;rw[lead];split<;>simp<;>omega
theorem OJ(x:Nat):∀ (l:List Nat) (j:Nat),(∀i,i<j->l[i]? =some x)->l[j]? ≠some x->lead x l=j
 | [],0,_,_=>rfl
 | [],j+1,h,_=>by have:=h 0 nj;simp at this
 |y :: t,0,_,h=>by rw[lead,Aa];intro e;exact h (by rw[e];rfl)
 |y :: t,j+1,h,h2=>by have:=h 0 nj;rw[lead,Ab (by simpa using this),OJ x t j (fun i hi=>by have:=h (i+1) nj;simpa using this) ry]
def lvB:List Nat->List Nat
 | []=> []
 |x :: t=>x :: (gZ (lead x t+1)++lvB (t.drop (lead x t)))
termination_by l=>l.length
decreasing_by simp only[List.length_drop,List.length_cons];omega
theorem Tx:∀ (n:Nat) (l:List Nat),l.length<=n->(∀x∈l,x<=255)->l.length<18446744073709551616->(lvB l).length<=11*l.length
 |_,[],_,_,_=>by rw[lvB];simp
 |n+1,x :: t,h,h8,h64=>by have hl:=Pa x t;simp only[List.length_cons]at h h64;have:=sZ (x:=lead x t+1) nj;have ih:=Tx n (t.drop (lead x t)) oi (fun y hy=>h8 y (Ce _ (Ck hy))) oi;rw[AO]at ih;rw[lvB];simp only[List.length_cons,List.length_append];omega
theorem VF:∀ (n:Nat) (l:List Nat),l.length<=n->(∀x∈l,x<=255)->∀y∈lvB l,y<=255
 |_,[],_,_,y,hy=>by rw[lvB]at hy;cases hy
 |n+1,x :: t,h,h8,y,hy=>by
  rw[lvB]at hy;simp only[List.length_cons]at h;rcases AV.1 hy with rfl|hy
  ·exact h8 _ qT
  ·rcases BQ.1 hy with hy|hy
   ·exact CZ _ y hy
   ·exact VF n (t.drop (lead x t)) oi (fun y hy=>h8 y (Ce _ (Ck hy))) y hy
def Bh(l:List Rec):List Nat:=l.map fun r=>r.time.toNat
def Bv(l:List Rec):List Nat:=l.map fun r=>r.level.toNat
def Di(l:List Rec):List Nat:=Cm stepT 0 (Bh l)++lvB (Bv l)
theorem R3{l:List Rec}(h:∀r∈l,Ci r):∀x∈Bv l,x<=255:=fun x hx=>by obtain⟨r,hr,rfl⟩:=Co.1 hx;have:=h r hr;obtain⟨_,_,h1,h2⟩:=this;omega
theorem VB{l:List Rec}(h:∀r∈l,Ci r):∀x∈Di l,x<=255:=fun x hx=>by
 rcases BQ.1 hx with hx|hx
 ·exact Vq aW _ _ x hx
 ·exact VF _ _ (Ak _) (R3 h) x hx
theorem Ml{l:List Rec}(h:∀r∈l,Ci r)(hn:l.length<=1000000):(Di l).length<=21*l.length:=by have h1:=Sl mI (Bh l) 0;have h2:=Tx _ (Bv l) (Ak _) (R3 h) (by unfold Bv;rw[Bc];omega);unfold Bh at h1;unfold Bv at h2;rw[Bc]at h1 h2;unfold Di;rw[Ag];unfold Bh Bv;omega
end Recs
namespace One
open Go.RowKit Mem Own Canon NumPut Crc
open Recs Opts
open Block (Br Ka nZ Mu)
theorem O4(S:Nat):∀ (t:List Nat) (h c:Nat),(goG S h c t).sum=c+t.length
 | [],_,c=>by simp[goG]
 |x :: t,h,c=>by
  rw[goG];split
  ·rw[GU,O4 S t];simp;omega
  ·rw[O4 S t];simp;omega
theorem OX(S:Nat):∀ (t:List Nat) (h c:Nat),1<=c->∀x∈goG S h c t,1<=x
 | [],_,c,hc,x,hx=>by rw[goG,Ex]at hx;omega
 |y :: t,h,c,hc,x,hx=>by
  rw[goG]at hx;split at hx
  ·rcases AV.1 hx with rfl|hx
   ·exact hc
   ·exact OX S t _ 1 nj x hx
  ·exact OX S t _ (c+1) nj x hx
theorem O1(S:Nat)(l:List Nat):(Ht S l).sum=l.length:=by
 cases l with
 |nil=>rfl
 |cons x t=>rw[Ht,O4];simp;omega
theorem L8(S:Nat)(l:List Nat):∀x∈Ht S l,1<=x:=by
 cases l with
 |nil=>intro x hx;cases hx
 |cons y t=>exact OX S t y 1 nj
theorem OV:∀ {l:List Nat},(∀x∈l,1<=x)->l.length<=l.sum
 | [],_=>qT
 |x :: l,h=>by have h1:=h x qT;have h2:=OV (l:=l) (fun y hy=>h y (by simp[hy]));rw[AD,GU];omega
theorem Ow(wh:Bool)(l:List Rec):(EQ wh l).length=l.length:=by unfold EQ;rw[Bc]
end One
namespace One
open Go.RowKit Mem Own Canon NumPut Crc
open Recs Opts
open Block (Br Ka nZ J6 Mu)
theorem JA{l:List Rec}(h:CJ l=0):∀r∈l,CE r=false:=by
 unfold CJ at h;split at h
 ·cases h
 ·split at h
  ·cases h
  ·rename_i h1;intro r hr;cases hb:CE r
   ·rfl
   ·exact absurd (List.any_eq_true.2 ⟨r,hr,hb⟩) h1
theorem Ve{l:List Rec}{m:Nat}(h:i<m)(j:Nat):By (l.take m) i j=By l i j:=by
 have e:(l.take m).getD i Gx=l.getD i Gx:=by rw[Am,Am,Gg,Ab h]
 unfold By;rw[e]
theorem RK(l:List Rec)(k i j:Nat):By l (k+i) j=By (l.drop k) i j:=by
 have e:(l.drop k).getD i Gx=l.getD (k+i) Gx:=by rw[Am,Am,GB]
 unfold By;rw[e]
theorem U3(wh:Bool){l l':List Rec}(h:l.Sublist l'):(wZ wh l).length<=(wZ wh l').length:=by
 induction h with
 |slnil=>exact Ak _
 |cons a _ ih=>unfold wZ at *;rw[Cu,Ag];omega
 |cons_cons a _ ih=>unfold wZ at *;rw[Cu,Cu,Ag,Ag];omega
theorem UQ{bs:List Nat}(plain:Bool)(h:bs.length<=16000):(Br bs plain).length<=bs.length+25:=by
 have hb:(Block.Ea bs plain).length<=bs.length:=by
  unfold Block.Ea;split
  ·rename_i hc;rw[Cf]at hc;have h2:=hc.2;unfold Block.sqz at h2;simp at h2;omega
  ·omega
 have h1:=sZ (x:=bs.length) nj;have h2:=sZ (x:=(Block.Ea bs plain).length) nj;unfold Br Block.Ds Block.IP;simp only[List.length_append,List.length_singleton];have:(CW (Cq (([Block.GN bs plain]++gZ bs.length++gZ (Block.Ea bs plain).length)++Block.Ea bs plain))).length=4:=rfl;omega
theorem L9(wh:Bool)(l:List Rec)(m:Nat):(wZ wh (l.take m)).length+(wZ wh (l.drop m)).length=(wZ wh l).length:=by
 conv=>rhs;rw[<-EV m l]
 unfold wZ;rw[IJ,Ag]
end One
namespace One
open Go.RowKit Mem Own Canon NumPut Crc
open Recs Opts
open Block (Br Ka nZ J6 own_one)
def FrsAt(w:World)(base:Nat)(ps:List Part):Prop:=∀p∈ps,w.ownsRow base 5 1 p.v p.ls.length (cZ .u8 p.ls)
theorem FrsAt.step{ps:List Part}(h:FrsAt w base ps)(hb:Below w w w'):FrsAt w' base ps:=fun p hp=>eZ (h p hp) (fun y hy=>hb.block y (Aj (h p hp) y hy).2)
theorem Gb{s s' n':Nat}{e e':TypeId}{v v':Value}{z:List Value}(h:w.ownsRow base e s v n xs)(ho:w.ownsRow i e' s' v' n' z)(j:e≠e')(hg:w.grownBy w' v'.ownBlock):w'.ownsRow base e s v n xs:=
 eZ h (fun y hy=>hg.block y (Aj h y hy).2 (fun e=>by
  rcases EY h ho j with h0|h0
  ·rw[h0]at hy;cases hy
  ·exact h0 (hy.trans e)))
theorem FrsAt.grown{v:Value}{ps:List Part}(h:FrsAt w base ps)(ho:w.ownsRow i 28 1 v n xs)(hg:w.grownBy w' v.ownBlock):FrsAt w' base ps:=fun p hp=>Gb (h p hp) ho ip hg
theorem FrsAt.snoc{ps:List Part}{p:Part}(h:FrsAt w base ps)(hp:w.ownsRow base 5 1 p.v p.ls.length (cZ .u8 p.ls)):FrsAt w base (ps++ [p]):=fun q hq=>by
 rcases BQ.1 hq with hq|hq
 ·exact h q hq
 ·rw[Ex.1 hq];exact hp
theorem MK:(prog.info? 28).map (fun i=>(i.zero,i.size,i.bytes))=some (some (.slice none 0 0),1,24):=my
end One
namespace One
open Go.RowKit Mem Own Canon NumPut Crc
open Recs Opts
open Block (Br nZ)
theorem Ti{fs:List (List Nat)}{x:List Nat}(h:x∈fs):x.length<=fs.flatten.length:=by
 induction fs with
 |nil=>cases h
 |cons y t ih=>
  rw[List.flatten_cons,Ag];rcases AV.1 h with rfl|h
  ·omega
  ·have:=ih h;omega
end One
namespace One
open Go.RowKit Mem Own Canon NumPut Crc
open Recs Opts
open Block (Br nZ)
theorem Vn{l:List Rec}(h:CJ l≠0):CJ l=6:=by
 unfold CJ at h ⊢;split
 ·rfl
 ·split
  ·rfl
  ·split
   ·rfl
   ·rename_i h1 h2 h3;rw[Aa h1,Aa h2,Aa h3]at h;exact absurd rfl h
end One
namespace Opts
open Go.RowKit Mem
def GI(o:Opt):Int:=if(16<=o.block/\o.block<=32768)/\(1<=o.bucket/\o.bucket<=64)/\(o.data=0/\o.parity=0/\o.chunk=0)then 0 else 9
theorem pE{o:Opt}(h:GI o≠0):GI o=9:=by
 unfold GI at h ⊢;split
 ·rename_i hc;rw[Ab hc]at h;exact absurd rfl h
 ·rfl
def Opt.body(o:Opt):Opt:=⟨o.block,o.plain,o.bucket,0,0,0⟩
def CI(o:Opt):Int:=GI o.body
theorem pH(w:World)(o:Opt):
 Calls prog 92 #[.int .i64 2,o.val] w fun e w'=>e= .returned (.int .i64 (GI o))/\Below w w w':=by
 obtain⟨bl,pl,bu,da,pa,ch⟩:=o;unfold Opt.val GI;simp only;have D:=hid (fun wx=>SP wx bl 16 32768);have DB:=hid (fun wx=>SP wx bu 1 64);have HE:=YP pl pl bl bl 0 0 da 0 pa 0 ch 0;by_cases hb:16<=bl/\bl<=32768
 ·rw[AK hb]at D;by_cases hu:1<=bu/\bu<=64
  ·rw[AK hu]at DB;by_cases hz:da=0/\pa=0/\ch=0
   ·rw[Ab ⟨hb,hu,hz⟩];have hd:decide (bl=bl/\pl=pl/\(0:Int)=0/\da=0/\pa=0/\ch=0)=true:=AK ⟨rfl,rfl,rfl,hz⟩;rw[hd]at HE;clear hb hz hd hu;go_enter func92,ntmps92;go_wp2_with fail;refine(D.out _).mono ?_;rintro e w1 ⟨rfl,rfl⟩;go_wp2_with fail;refine(DB.out _).mono ?_;rintro e w1 ⟨rfl,rfl⟩;go_wp2_with fail;go_ret;exact⟨rfl,rF⟩
   ·rw[Aa (fun h=>hz h.2.2)];have hd:decide (bl=bl/\pl=pl/\(0:Int)=0/\da=0/\pa=0/\ch=0)=false:=AU (fun h=>hz h.2.2.2);rw[hd]at HE;clear hb hz hd hu;go_enter func92,ntmps92;go_wp2_with fail;refine(D.out _).mono ?_;rintro e w1 ⟨rfl,rfl⟩;go_wp2_with fail;refine(DB.out _).mono ?_;rintro e w1 ⟨rfl,rfl⟩;go_wp2_with fail;go_ret;exact⟨rfl,rF⟩
  ·rw[AU hu]at DB;rw[Aa (fun h=>hu h.2.1)];clear hb hu HE;go_enter func92,ntmps92;go_wp2_with fail;refine(D.out _).mono ?_;rintro e w1 ⟨rfl,rfl⟩;go_wp2_with fail;refine(DB.out _).mono ?_;rintro e w1 ⟨rfl,rfl⟩;go_wp2_with fail;go_ret;exact⟨rfl,rF⟩
 ·rw[AU hb]at D;rw[Aa (fun h=>hb h.1)];clear hb HE DB;go_enter func92,ntmps92;go_wp2_with fail;refine(D.out _).mono ?_;rintro e w1 ⟨rfl,rfl⟩;go_wp2_with fail;go_ret;exact⟨rfl,rF⟩
theorem jI(w:World)(o:Opt):
 Calls prog 41 #[.int .i64 2,o.val] w fun e w'=>e= .returned (.int .i64 (GI o))/\Below w w w':=by
 obtain⟨bl,pl,bu,da,pa,ch⟩:=o;unfold Opt.val GI;simp only;by_cases h1:bl<16
 ·rw[Aa nj];have g1:decide (bl<16)=true:=by simpa using h1
  go_enter func41,ntmps41;go_wp2_with fail;go_ret;exact⟨rfl,rF⟩
 have g1:decide (bl<16)=false:=by simpa using h1
 by_cases h2:32768<bl
 ·rw[Aa nj];have g2:decide (32768<bl)=true:=by simpa using h2
  clear h1;go_enter func41,ntmps41;go_wp2_with fail;go_ret;exact⟨rfl,rF⟩
 have g2:decide (32768<bl)=false:=ry
 by_cases h3:bu<1
 ·rw[Aa nj];have g3:decide (bu<1)=true:=by simpa using h3
  clear h1 h2;go_enter func41,ntmps41;go_wp2_with fail;go_ret;exact⟨rfl,rF⟩
 have g3:decide (bu<1)=false:=by simpa using h3
 by_cases h4:64<bu
 ·rw[Aa nj];have g4:decide (64<bu)=true:=by simpa using h4
  clear h1 h2 h3;go_enter func41,ntmps41;go_wp2_with fail;go_ret;exact⟨rfl,rF⟩
 have g4:decide (64<bu)=false:=by simpa using h4
 by_cases h5:da=0
 ·by_cases h6:pa=0
  ·by_cases h7:ch=0
   ·rw[Ab ⟨nj,nj,h5,h6,h7⟩];subst h5 h6 h7;clear h1 h2 h3 h4;go_enter func41,ntmps41;go_wp2_with fail;go_ret;exact⟨rfl,rF⟩
   ·rw[Aa nj];have g7:(ch != 0)=true:=(by simpa using h7);subst h5 h6;clear h1 h2 h3 h4 h7;go_enter func41,ntmps41;go_wp2_with fail;go_ret;exact⟨rfl,rF⟩
  ·rw[Aa nj];have g6:(pa != 0)=true:=(by simpa using h6);subst h5;clear h1 h2 h3 h4 h6;go_enter func41,ntmps41;go_wp2_with fail;go_ret;exact⟨rfl,rF⟩
 ·rw[Aa nj];have g5:(da != 0)=true:=by simpa using h5
  clear h1 h2 h3 h4 h5;go_enter func41,ntmps41;go_wp2_with fail;go_ret;exact⟨rfl,rF⟩
theorem L4(w:World)(o:Opt):
 Calls prog 44 #[o.val] w fun e w'=>e= .returned (.int .i64 (CI o))/\Below w w w':=by
 have D:=hid (fun wx=>pH wx o.body);unfold CI;obtain⟨bl,pl,bu,da,pa,ch⟩:=o;unfold Opt.body Opt.val at D;unfold Opt.val Opt.body;simp only at D ⊢;generalize GI ⟨bl,pl,bu,0,0,0⟩=E at *;go_enter func44,ntmps44;go_wp2_with fail;refine(D.out _).mono ?_;rintro e w1 ⟨rfl,hb⟩;have HB:=hid hb;clear hb D;go_wp2_with fail;go_ret;exact⟨rfl,dZ HB.out (aZ (Ae _ _))⟩
theorem oM(w:World)(o:Opt):
 Calls prog 17 #[o.val] w fun e w'=>e= .returned (.int .i64 (CI o))/\Below w w w':=by
 have D:=hid (fun wx=>jI wx o.body);unfold CI;obtain⟨bl,pl,bu,da,pa,ch⟩:=o;unfold Opt.body Opt.val at D;unfold Opt.val Opt.body;simp only at D ⊢;generalize GI ⟨bl,pl,bu,0,0,0⟩=E at *;go_enter func17,ntmps17;go_wp2_with fail;refine(D.out _).mono ?_;rintro e w1 ⟨rfl,hb⟩;have HB:=hid hb;clear hb D;go_wp2_with fail;go_ret;exact⟨rfl,dZ HB.out (aZ (Ae _ _))⟩
end Opts
namespace Nums
open Go.RowKit Mem Own Canon
def FE(bs:List Nat):Nat:=bs.getD 0 0+256*bs.getD 1 0+65536*bs.getD 2 0+16777216*bs.getD 3 0
theorem Ma{y:Nat}(hx:x<2 ^ i)(h:x+y*2 ^ i<18446744073709551616):bits .or .u64 (x:Int) ((y*2 ^ i:Nat):Int)=((x+y*2 ^ i:Nat):Int):=VX hx h
theorem oJ(w:World)(g base:Nat)(bs:List Nat)(A:Option Addr)(c:Nat)(h4:bs.length=4)(h8:∀x∈bs,x<=255)(h:Cur w g base bs A c 0 0):
 Calls prog 111 #[.pointer (some ⟨g,0,none⟩), .int .i64 4] w fun e w'=>e= .returned (.int .u64 (FE bs:Nat))/\Cur w' g base bs A c 4 0/\Kept (BE g w) w w':=by
 have D:=Kd w g base bs A c 0 0 4 nj nj h;unfold Kg at D;rw[Kw,JV,JT,Aa nj,Aa nj,Aa nj,IK,Bw nj,h4]at D
 obtain⟨b0,b1,b2,b3,rfl⟩:∃b0 b1 b2 b3,bs= [b0,b1,b2,b3]:=by
  match bs,h4 with
  | [b0,b1,b2,b3],_=>exact⟨b0,b1,b2,b3,rfl⟩
 have l0:=h8 b0 qT;have l1:=h8 b1 qT;have l2:=h8 b2 qT;have l3:=h8 b3 qT;have hV:FE [b0,b1,b2,b3]=b0+256*b1+65536*b2+16777216*b3:=rfl;rw[hV];have D:=hid D;have E:=h.blk.lt;clear h h8 h4 hV;go_enter func111,ntmps111;go_wp2_with fail;refine D.out.mono ?_;rintro e w1 ⟨v,rfl,j,hc,hk⟩;obtain⟨gv,cv,hv,_⟩:=j.form nj;subst hv;have c0:=j.cellAt 0 nj;have c1:=j.cellAt 1 nj;have c2:=j.cellAt 2 nj;have c3:=j.cellAt 3 nj;simp only[cZ,List.map_cons,List.map_nil,List.getElem?_cons_zero,List.getElem?_cons_succ]at c0 c1 c2 c3;have HC:=hid hc;have HK:=hid hk;clear j hc hk D;have E0:Hid (bits .or .u64 (0:Int) (b0:Int)=((b0:Nat):Int)):=by have h:=Ma (x:=0) (y:=b0) (i:=0) nj nj;show _=_;simpa using h
 have E1:Hid (bits .or .u64 (b0:Int) ((b1:Int)*256)=((b0+256*b1:Nat):Int)):=by have h:=Ma (x:=b0) (y:=b1) (i:=8) nj nj;rw[show((b1*2 ^ 8:Nat):Int)=(b1:Int)*256 by omega]at h;show _=_;rw[h];omega
 have E2:Hid (bits .or .u64 ((b0+256*b1:Nat):Int) ((b2:Int)*65536)=((b0+256*b1+65536*b2:Nat):Int)):=by have h:=Ma (x:=b0+256*b1) (y:=b2) (i:=16) nj nj;rw[show((b2*2 ^ 16:Nat):Int)=(b2:Int)*65536 by omega]at h;show _=_;rw[h];omega
 have E3:Hid (bits .or .u64 ((b0+256*b1+65536*b2:Nat):Int) ((b3:Int)*16777216)=((b0+256*b1+65536*b2+16777216*b3:Nat):Int)):=by have h:=Ma (x:=b0+256*b1+65536*b2) (y:=b3) (i:=24) nj nj;rw[show((b3*2 ^ 24:Nat):Int)=(b3:Int)*16777216 by omega]at h;show _=_;rw[h];omega
 go_wp2_with fail;go_loopw [5,20] (fun xv iv wr=>Hid (wr=w1)/\((xv= .int .u64 0/\iv= .int .i64 0)∨(xv= .int .u64 (b0:Nat)/\iv= .int .i64 1)∨(xv= .int .u64 (b0+256*b1:Nat)/\iv= .int .i64 2)∨(xv= .int .u64 (b0+256*b1+65536*b2:Nat)/\iv= .int .i64 3)∨(xv= .int .u64 (b0+256*b1+65536*b2+16777216*b3:Nat)/\iv= .int .i64 4))) (fun _ iv _=>4-(intOf iv).toNat)
 case atStart=>exact⟨by first|trivial|rfl, .inl ⟨rfl,rfl⟩⟩
 case round=>
  obtain⟨hw,z⟩:=hrel;have hw:=hw.out;subst hw;rcases z with ⟨rfl,rfl⟩|⟨rfl,rfl⟩|⟨rfl,rfl⟩|⟨rfl,rfl⟩|⟨rfl,rfl⟩
  ·have e0:=E0.out;go_wp2_with fail;exact⟨⟨trivial, .inr (.inl ⟨rfl,rfl⟩)⟩,rq⟩
  ·have e1:=E1.out;have s1:IntKind.u64.wrap ((b1:Int)*256)=(b1:Int)*256:=pk;go_wp2_with fail;exact⟨⟨trivial, .inr (.inr (.inl ⟨rfl,rfl⟩))⟩,rq⟩
  ·have s2:IntKind.u64.wrap ((b2:Int)*65536)=(b2:Int)*65536:=pk;go_wp2_with fail;exact⟨⟨trivial, .inr (.inr (.inr (.inl ⟨by rw[show((b0:Int)+256*(b1:Int))=((b0+256*b1:Nat):Int) by omega,E2.out],rfl⟩)))⟩,rq⟩
  ·have s3:IntKind.u64.wrap ((b3:Int)*16777216)=(b3:Int)*16777216:=pk;go_wp2_with fail;exact⟨⟨trivial, .inr (.inr (.inr (.inr ⟨by rw[show((b0:Int)+256*(b1:Int)+65536*(b2:Int))=((b0+256*b1+65536*b2:Nat):Int) by omega,E3.out],rfl⟩)))⟩,rq⟩
  ·go_wp2_with fail;go_ret;exact⟨rfl,HC.out,HK.out⟩
end Nums
namespace Body
open Go.RowKit Mem Own Canon Nums Crc
def FD(ls:List Nat):List Nat:=(ls.drop (ls.length-4-FE (ls.drop (ls.length-4)))).take (FE (ls.drop (ls.length-4)))
def G6(ls:List Nat):Prop:=ls.length<4∨ls.length-4<FE (ls.drop (ls.length-4))
def U1(ls:List Nat)(A:Option Addr)(c:Nat)(w:World)(e:Ending)(w':World):Prop:=
 Below w w w'/\(G6 ls->e= .returned (.tuple #[(),(), .int .i64 1]))/\
  (¬G6 ls->∃v,e= .returned (.tuple #[.slice A (ls.length-4-FE (ls.drop (ls.length-4))) c,v, .int .i64 (CM (FD ls))])/\w'.ownsRow w 5 1 v (Bk (FD ls)).length (cZ .u8 (Bk (FD ls))))
theorem Xo{bs:List Nat}(h8:∀x∈bs,x<=255)(h4:bs.length=4):FE bs<4294967296:=by
 match bs,h4 with
 | [b0,b1,b2,b3],_=>have l0:=h8 b0 qT;have l1:=h8 b1 qT;have l2:=h8 b2 qT;have l3:=h8 b3 qT;have hV:FE [b0,b1,b2,b3]=b0+256*b1+65536*b2+16777216*b3:=rfl;omega
theorem Z8(w:World)(A:Option Addr)(n c:Nat)(ls:List Nat)(hn:ls.length=n)(aa:n<=100000)(hc:n<=c)(h8:∀x∈ls,x<=255)(ht:TabAt w)(hh:∀a,A=some a->a.add 0=a)(ha:Row w w A n 1 (jZ .u8 ls)):
 Calls prog 56 #[.slice A n c] w (U1 ls A c w):=by
 unfold U1;by_cases h4:n<4
 ·have i:G6 ls:= .inl nj;have HB:=hid i;have s1:decide (IntKind.i64.wrap ((n:Int)-4)<0)=true:=by rw[Ar _ nj];simp;omega
  have s2:=ic ((n:Int)-4<0)
  have s3:IntKind.i64.wrap ((n:Int)-4)=(n:Int)-4:=Ar _ nj;clear hn aa hc h8 ht hh ha i;go_enter func56,ntmps56;go_wp2_with fail
  go_ret3
  exact⟨Ae _ _,fun _=>rfl,fun h=>absurd HB.out h⟩
 ·obtain⟨m,rfl⟩:∃m,n=m+4:=⟨n-4,nj⟩;have E:ls.length-4=m:=by omega
  have J:(ls.drop m).length=4:=oi
  have M:∀x∈ls.drop m,x<=255:=fun x hx=>h8 x (Ck hx);have ar:=Xo M J;have Q:A=none->m+4=0/\c=0:=fun e=>by obtain⟨b,aw,e2,_⟩:=ha nj;rw[e]at e2;cases e2
  have hd:=Fp ha (show m<=m+4 by omega) hc;rw[show m+4-m=4 by omega]at hd;have ab:AR A m c 1=none->4=0/\c-m=0:=fun h=>by obtain⟨b,aw,e2,_⟩:=hd nj;rw[h]at e2;cases e2
  have D0:=hid (new_any w (AR A m c 1) 4 (c-m) (ls.drop m) J nj ab hd);have ae:=fun wx=>FK (P:=prog) (t:=28) (s:=1) underlying28 (fun _=>by kernel_rfl) A (m+4) c .i64 (m:Int) m rfl nj wx;have N:=ae;rw[show m+4-m=4 by omega]at ae;have D1:=hid (fun wx g B d h=>oJ wx g w (ls.drop m) B d J M h);have s1:IntKind.i64.wrap (((m+4:Nat):Int)-4)=(m:Int):=pi
  have wm:IntKind.i64.wrap (m:Int)=(m:Int):=Ar _ nj;have g1:=ig ((m:Int)<0)
  obtain⟨k,hk⟩:=ii (FE (ls.drop m));rw[<-hk]at D1 ar;have wk:IntKind.i64.wrap (k:Int)=(k:Int):=Ar _ nj;by_cases al:m<k
  ·have i:G6 ls:= .inr (by rw[E,<-hk];exact al);have ag:=hid i;have g2:=ic ((m:Int)<k);have ak:=ic (m<k);generalize AR A m c 1=A1 at *;generalize c-m=c1 at *;clear hd ha h8 M ht hh Q ab hn aa hc i hk J E h4 N;go_enter func56,ntmps56;go_wp2_with fail;refine D0.out.mono ?_;rintro e w1 ⟨g,B,d,rfl,j,G⟩;have z:=hid G;have D2:=hid (D1.out w1 g B d j);have ac:=j.lo;clear j G D0 D1;go_wp2_with fail;refine D2.out.mono ?_;rintro e w2 ⟨rfl,Y,L⟩;have y:Hid (Below w w w2):=z.out.trans (L.below fun b h=>⟨by have:=z.out.size;omega,nj⟩);clear Y L;go_wp2_with fail
   go_ret3
   exact⟨y.out,fun _=>rfl,fun h=>absurd ag.out h⟩
  ·have af:¬G6 ls:=fun h=>h.elim (fun h=>by omega) (fun h=>by rw[E,<-hk]at h;omega);have am:=hid af;have g2:=ig ((m:Int)<k);have ak:=ig (m<k);obtain⟨r,hr⟩:=ii (m-k);have s2:IntKind.i64.wrap ((m:Int)-(k:Int))=(r:Int):=pi;have ah:FD ls=(ls.drop r).take k:=(by unfold FD;rw[E,<-hk,<-hr]);have aj:=GO (Fp ha (show r<=m+4 by omega) hc) (show k<=m+4-r by omega);have DC:=hid (fun wx (hb:Below w w wx)=>Mz wx (AR A r c 1) k (c-r) ((ls.drop r).take k) (by rw[Ba,AO];omega) nj nj (fun x hx=>h8 x (Ck (Dc hx))) (ht.step hb) ((aj.below hb).mono hb.size));rw[<-ah]at DC;have av:=fun wx=>OZ (P:=prog) (t:=28) (s:=1) underlying28 (fun _=>by kernel_rfl) A (m+4) c .i64 .i64 (r:Int) (m:Int) r m rfl rfl nj nj wx;rw[show m-r=k by omega]at av;have ax:=fun wx=>Fv (P:=prog) (t:=28) (s:=1) underlying28 (fun _=>by kernel_rfl) A (m+4) c .i64 (r:Int) r rfl nj hh wx;have au:Hid (ls.length-4-FE (ls.drop (ls.length-4))=r):=(by show _=_;rw[E,<-hk,hr]);generalize AR A m c 1=A1 at *;generalize c-m=c1 at *;generalize AR A r c 1=A2 at *;generalize c-r=c2 at *;clear hd ha h8 M ht hh Q ab hn aa hc af hk J E h4 N aj ah hr;go_enter func56,ntmps56;go_wp2_with fail;refine D0.out.mono ?_;rintro e w1 ⟨g,B,d,rfl,j,G⟩;have z:=hid G;have D2:=hid (D1.out w1 g B d j);have ac:=j.lo;clear j G D0 D1;go_wp2_with fail;refine D2.out.mono ?_;rintro e w2 ⟨rfl,Y,L⟩;have y:Hid (Below w w w2):=z.out.trans (L.below fun b h=>⟨by have:=z.out.size;omega,nj⟩);have Z:=hid (DC.out w2 y.out);unfold Jn at Z;clear Y L DC z;go_wp2_with fail;refine Z.out.mono ?_;rintro e w3 ⟨v,rfl,U,ai⟩;have aq:Hid (Below w w w3):=y.out.trans (ai.mono y.out.size);have an:Hid (w3.ownsRow w 5 1 v (Bk (FD ls)).length (cZ .u8 (Bk (FD ls)))):=lZ U y.out.size;clear U ai Z;go_wp2_with fail
   go_ret3
   rw[au.out];exact⟨aq.out,fun h=>absurd h am.out,fun _=>⟨v,rfl,an.out⟩⟩
end Body
namespace Recs
open Go.RowKit Mem Own Canon NumPut Nums
theorem JD{ob:Nat}{bs:List Nat}{at_:Nat}{er:Int}{t:TypeId}{cs:Array Value}(h:Cur w g base bs A c at_ er)(i:Blk w ob t cs)(ht:t≠5)(hg:t≠243)(k:Nat)(u:Value):Cur (w.setCell ⟨ob,k,none⟩ u) g base bs A c at_ er:=
 ⟨h.blk.far (fun e=>Blk.apart i h.blk hg e.symm) _,BR h.own (fZ h.own i ht.symm) _,h.le,h.lo⟩
end Recs
namespace Recs
open Go.RowKit Mem Own Canon NumPut Nums
theorem UN{bs:List Nat}(h8:∀x∈bs,x<=255){at_:Nat}(er:Int)(h:at_<=bs.length):D9 most bs at_ er<=bs.length:=by
 unfold D9;split
 ·exact h
 ·have:=(Mq most (bs.drop at_) (fun x hx=>h8 x (Ck hx))).2.1;rw[AO]at this;omega
theorem ZN(most:Nat)(bs:List Nat)(at_:Nat)(er:Int):at_<=D9 most bs at_ er:=by unfold D9;split<;>omega
def BZ(l:List Rec):List Value:=l.flatMap fun r=> [.int .u64 r.time, .int .u8 r.level, .string r.source, .string r.text]
theorem kQ(l:List Rec)(r:Rec):BZ (l++ [r])=BZ l++ [.int .u64 r.time, .int .u8 r.level, .string r.source, .string r.text]:=by simp[BZ]
theorem Mt(l m:List Rec):BZ (l++m)=BZ l++BZ m:=by simp[BZ]
theorem UC:(prog.info? 43).map (fun i=>(i.zero,i.size,i.bytes))=some (some (.agg #[.int .u64 0, .int .u8 0, .string ⟨#[]⟩, .string ⟨#[]⟩]),4,48):=my
theorem Mp:∀ (l:List Rec) (i j:Nat),i<l.length->j<4->(BZ l)[i*4+j]? =some (By l i j)
 | [],i,j,h,_=>qU
 |t :: ts,0,j,_,hj=>by
  obtain rfl|rfl|rfl|rfl:j=0∨j=1∨j=2∨j=3:=nj
  all_goals rfl
 |t :: ts,i+1,j,h,hj=>by have:=Mp ts i j ru hj;show(_ :: _ :: _ :: _ :: BZ ts)[(i+1)*4+j]? =_;rw[show(i+1)*4+j=(i*4+j)+1+1+1+1 by omega,List.getElem?_cons_succ,List.getElem?_cons_succ,List.getElem?_cons_succ,List.getElem?_cons_succ,this];rfl
theorem Oz{l:List Rec}(h:w.ownsRow base 43 4 (.slice A l.length c) l.length (BZ l)):Row w w A l.length 4 (By l):=
 Row.of_own h rfl fun i j hi hj=>Mp l i j hi hj
def Uo(w:World)(R:List Rec×Int)(e:Ending)(w':World):Prop:=
 ∃v,e= .returned (.tuple #[v,R.2])/\w'.ownsRow w 43 4 v R.1.length (BZ R.1)/\Below w w w'
def atOf(w:World)(g:Nat):Nat:=(intOf ((w.cell? ⟨g,1,none⟩).getD (.int .i64 0))).toNat
end Recs
namespace Recs
open Go.RowKit Mem Own Canon NumPut Nums
def Ff(bs:List Nat)(at_:Nat)(er:Int):Rec×Nat×Int:=
 let a3:=D9 4000 bs at_ er;let e3:=D7 4000 bs at_ er
 (⟨0,0,FT (EP 4000 bs at_ er),FT (EP 4000 bs a3 e3)⟩,D9 4000 bs a3 e3,D7 4000 bs a3 e3)
theorem nI{bs:List Nat}(h8:∀x∈bs,x<=255){at_:Nat}(h:at_<=bs.length)(er:Int):(Ff bs at_ er).2.1<=bs.length/\((Ff bs at_ er).2.2=0->at_<(Ff bs at_ er).2.1)/\Ci (Ff bs at_ er).1:=by
 have hA3:=UN (most:=4000) h8 er h;refine⟨UN h8 _ hA3,fun he=> ?_,?_⟩
 ·have e0:er=0:=by refine KA fun hn=> ?_;have e3:∀a,D7 4000 bs a er=er:=fun a=>Ab hn;unfold Ff at he;simp only[e3]at he;exact hn he
  have e1:D7 4000 bs at_ er=0:=by refine KA fun hn=> ?_;have e3:∀a,D7 4000 bs a (D7 4000 bs at_ er)=D7 4000 bs at_ er:=fun a=>Ab hn;unfold Ff at he;simp only[e3]at he;exact hn he
  have hs:=(Mq 4000 (bs.drop at_) (fun x hx=>h8 x (Ck hx))).2.2.1;have h1:D9 4000 bs at_ er=at_+(Cr 4000 (bs.drop at_)).2.1:=Aa (by simp[e0]);have h2:D7 4000 bs at_ er=(Cr 4000 (bs.drop at_)).2.2:=Aa (by simp[e0]);have h3:=hs (h2.symm.trans e1);have h4:=ZN 4000 bs (D9 4000 bs at_ er) (D7 4000 bs at_ er);show at_<D9 4000 bs _ _;omega
 ·unfold Ci Ff;simp only;omega
theorem nM(w:World)(g base:Nat)(bs:List Nat)(A:Option Addr)(c at_:Nat)(er:Int)(N:bs.length<=100000)(h8:∀x∈bs,x<=255)(h:Cur w g base bs A c at_ er):
 Calls prog 201 #[.agg #[.pointer (some ⟨g,0,none⟩)],false] w fun e w'=>e= .returned (Ff bs at_ er).1.val/\Cur w' g base bs A c (Ff bs at_ er).2.1 (Ff bs at_ er).2.2/\Kept (BE g w) w w':=by
 have ag:=h.blk.lt;unfold Ff Rec.val;simp only;have D3:=hid (fun wx hx=>Of wx g base bs A c at_ er 4000 N h8 nj hx);generalize FT (EP 4000 bs at_ er)=v3 at *;generalize D9 4000 bs at_ er=a3 at *;generalize D7 4000 bs at_ er=e3 at *;have D4:=hid (fun wx hx=>Of wx g base bs A c a3 e3 4000 N h8 nj hx);generalize FT (EP 4000 bs a3 e3)=v4 at *;generalize D9 4000 bs a3 e3=a4 at *;generalize D7 4000 bs a3 e3=e4 at *;have H:=hid h;clear h h8 N;go_enter func201,ntmps201;go_wp2_with fail;refine(D3.out _ (H.out.step rF)).mono ?_;rintro e w3 ⟨rfl,U,j⟩;have L:Blk w3 w 249 #[.pointer (some ⟨g,0,none⟩)]:=(j.block _ ⟨rg,nj⟩).trans ((Blk.made _ _ _).alloc _);have E:Blk w3 (w.heap.size+1) 43 #[.int .u64 0, .int .u8 0, .string ⟨#[]⟩, .string ⟨#[]⟩]:=(j.block _ ⟨qT,nj⟩).trans (Blk.made_at _ _ _ qT);have Q:Hid (Kept (BE g w) w w3):=(Kept.of_below (B:=w.heap.size) rF (fun x hx=>hx.1)).trans ⟨j.os,j.tape,j.output,j.size,fun x hx=>j.block x ⟨by have:=hx.1;simp;omega,hx.2⟩⟩;have ab:=hid U;have x3:=L.ia 0;have y3:=E.ia 2;have f3:=E.frozen 2;have ac:=j.size;have Y:=hid L;have J:=hid E;clear U j L E D3;go_wp2_with fail;refine(D4.out _ (JD ab.out J.out ip ip 2 (.string v3))).mono ?_;rintro e w4 ⟨rfl,Z,y⟩;have M:Blk w4 w 249 #[.pointer (some ⟨g,0,none⟩)]:=(y.block _ ⟨(Y.out.far (p:=⟨w.heap.size+1,2,none⟩) qT (.string v3)).lt,nj⟩).trans (Y.out.far (p:=⟨w.heap.size+1,2,none⟩) qT (.string v3));have G:Blk w4 (w.heap.size+1) 43 #[.int .u64 0, .int .u8 0, .string v3, .string ⟨#[]⟩]:=(y.block _ ⟨(J.out.set 2 (.string v3)).lt,nj⟩).trans (J.out.set 2 (.string v3));have ae:Hid (Kept (BE g w) w w4):=(Q.out.set (p:=⟨w.heap.size+1,2,none⟩) (fun h=>absurd h.1 qT) (.string v3)).trans ⟨y.os,y.tape,y.output,y.size,fun x hx=>y.block x ⟨by have:=hx.1;have:=Q.out.size;simp;omega,hx.2⟩⟩;have aa:=hid Z;have x4:=M.ia 0;have y4:=G.ia 3;have f4:=G.frozen 3;have ah:=y.size;have af:=hid M;have i:=hid G;clear Z y M G D4;have p0:=i.out.ia 0;have p1:=i.out.ia 1;have p2:=i.out.ia 2;have q0:=i.out.frozen 0;have q1:=i.out.frozen 1;have q2:=i.out.frozen 2;clear ac x3 y3 f3;go_wp2_with fail;have B5:=((((i.out.set 3 (.string v4)).set 0 (.int .u64 0)).set 1 (.int .u8 0)).set 2 (.string v3)).set 3 (.string v4);have C5:=JD (JD (JD (JD (JD aa.out i.out ip ip 3 (.string v4)) (i.out.set 3 (.string v4)) ip ip 0 (.int .u64 0)) ((i.out.set 3 (.string v4)).set 0 (.int .u64 0)) ip ip 1 (.int .u8 0)) (((i.out.set 3 (.string v4)).set 0 (.int .u64 0)).set 1 (.int .u8 0)) ip ip 2 (.string v3)) ((((i.out.set 3 (.string v4)).set 0 (.int .u64 0)).set 1 (.int .u8 0)).set 2 (.string v3)) ip ip 3 (.string v4);have z:∀k,¬BE g w (⟨w.heap.size+1,k,none⟩:Addr).block:=fun k h=>absurd h.1 qT;have K5:=((((ae.out.set (z 3) (.string v4)).set (z 0) (.int .u64 0)).set (z 1) (.int .u8 0)).set (z 2) (.string v3)).set (z 3) (.string v4);generalize ((((w4.setCell ⟨w.heap.size+1,3,none⟩ (.string v4)).setCell ⟨w.heap.size+1,0,none⟩ (.int .u64 0)).setCell ⟨w.heap.size+1,1,none⟩ (.int .u8 0)).setCell ⟨w.heap.size+1,2,none⟩ (.string v3)).setCell ⟨w.heap.size+1,3,none⟩ (.string v4)=w5 at *;have z0:=B5.cell 0;have z1:=B5.cell 1;have z2:=B5.cell 2;have z3:=B5.cell 3;simp at z0 z1 z2 z3;refine CF (v:= .agg #[.int .u64 0, .int .u8 0, .string v3, .string v4]) ?_ rfl ⟨rfl,C5,K5⟩;simp[results,results201,go_sem,z0,z1,z2,z3]
def Jc:Nat->List Nat->Nat->List Rec->List Rec×Int
 |0,_,_,acc=>(acc,0)
 |f+1,bs,at_,acc=>if bs.length<=at_ then(acc,0)else if(Ff bs at_ 0).2.2≠0 then([],(Ff bs at_ 0).2.2)else Jc f bs (Ff bs at_ 0).2.1 (acc++ [(Ff bs at_ 0).1])
theorem Re{f:Nat}{bs:List Nat}{at_:Nat}{i:List Rec}(h:bs.length<=at_):Jc f bs at_ i=(i,0):=by
 cases f with
 |zero=>rfl
 |succ f=>exact Ab h
def Gs(bs:List Nat):List Rec×Int:=Jc bs.length bs 0 []
theorem l6(w:World)(A:Option Addr)(n c:Nat)(bs:List Nat)(hn:bs.length=n)(ai:n<=100000)(h8:∀x∈bs,x<=255)(N:A=none->n=0/\c=0)(ha:Row w w A n 1 (jZ .u8 bs)):
 Calls prog 123 #[false, .slice A n c] w (Uo w (Gs bs)):=by
 obtain⟨j0,a9,a5,aw,ba⟩:=info_parts UC;have D0:=hid (new_any w A n c bs hn ai N ha);have ar:bs.length<=100000:=nj
 obtain⟨R,hR⟩:=ii (Gs bs);have an:Hid (Jc bs.length bs 0 []=R):=hR.symm;rw[<-hR];have H8:=hid h8;clear hn N ha hR h8 ai;go_enter func123,ntmps123;go_wp2_with fail;refine D0.out.mono ?_;rintro e w1 ⟨g,B,d,rfl,L,ab⟩;have z1:=ab.size;have bi:=L.blk.lt;have bc:=L.lo;have al:=hid L;have aq:=hid ab;clear L ab D0;go_wp2_with fail;have ah:=al.out.step (w':=w1.alloc (.cells #[.pointer (some ⟨g,0,none⟩)] 249)) rF;have U:Blk (w1.alloc (.cells #[.pointer (some ⟨g,0,none⟩)] 249)) w1 249 #[.pointer (some ⟨g,0,none⟩)]:=Blk.made _ _ _;have ac:Below w w (w1.alloc (.cells #[.pointer (some ⟨g,0,none⟩)] 249)):=mZ z1 aq.out;generalize w1.alloc (.cells #[.pointer (some ⟨g,0,none⟩)] 249)=w2 at *;have z2:=ac.size;have ay:=U.lt;have au:=hid ah;have ax:=hid U;have af:=hid ac;clear ah U ac al aq;go_loopw [7] (fun v wr=>∃ (f at_:Nat) (j:List Rec),at_<=bs.length/\j.length<=at_/\Hid (bs.length<=f+at_)/\Hid (Jc f bs at_ j=R)/\Hid (wr.ownsRow w2 43 4 v j.length (BZ j))/\Hid (Cur wr g w bs B d at_ 0)/\Hid (Kept (fun x=>x<w2.heap.size/\x≠g) w2 wr)) (fun _ wr=>bs.length-atOf wr g)
 case atStart=>exact⟨bs.length,0,[],nj,qT,Ak _,an.out,AE _ _ _ _,au.out,Kept.refl _ _⟩
 case round=>
  obtain⟨f,at_,j,a3,bd,HF,HG,HO,HC,HK⟩:=hrel;have Y:w1.heap.size≠g:=nj
  have zk:=HK.out.size;have xb:Blk wr w1 249 #[.pointer (some ⟨g,0,none⟩)]:=(HK.out.block _ ⟨ay,Y⟩).trans ax.out;have x0:=xb.ia 0;have XB:=hid xb;have DL:=hid (left_any wr g w bs B d at_ 0 HC.out);have Q:=HO.out;obtain⟨va,vc,rfl⟩:=bZ Q;have ak:atOf wr g=at_:=by have h1:=HC.out.cells.2.1;unfold atOf;rw[h1];exact Bu _
  have a6:=hid ak;have az:Hid (Below w w wr):=af.out.trans (HK.out.below (fun b h=>⟨nj,by have:=HC.out.lo;omega⟩));clear xb Q ak an;by_cases J:bs.length<=at_
  ·have am:bs.length-at_=0:=nj;have av:Hid (R=(j,0)):=HG.out.symm.trans (Re J);rw[am]at DL;clear J am HG;go_wp2_with fail;refine DL.out.mono ?_;rintro e w3 ⟨rfl,q,rfl⟩;go_wp2_with fail;go_ret2;rw[av.out];exact⟨_,rfl,lZ (eZ HO.out (fun x hx=>rfl)) z2,below_drewN az.out q⟩
  ·obtain⟨f,rfl⟩:∃f',f=f'+1:=⟨f-1,lx⟩;have bf:0<bs.length-at_:=nj;have gl:=ic ((0:Int)<((bs.length-at_:Nat):Int));have bh:=ic (0<bs.length-at_);have bj:=ic (at_<bs.length);have hG:=HG.out;unfold Jc at hG;rw[Aa J]at hG;have M:=nI H8.out a3 0;have DR:=hid (fun wx hx=>nM wx g w bs B d at_ 0 ar H8.out hx);generalize Ff bs at_ 0=T at *;obtain⟨⟨rt,rl,rs,rx⟩,a2,e2⟩:=T;simp only at hG M DR;unfold Rec.val at DR;simp only at DR;have a4:=M.1;have a0:=hid M.2.1;generalize ag:bs.length-at_=m at *;have bg:=hid ag;clear ag HG M;by_cases he:e2=0
   ·subst he;rw[Aa qT]at hG;have HG:=hid hG;clear hG;go_wp2_with fail;refine DL.out.mono ?_;rintro e w3 ⟨rfl,q,rfl⟩;go_wp2_with fail;refine(DR.out _ (HC.out.drewN q)).mono ?_;rintro e w4 ⟨rfl,G,i⟩;have z4:=i.size;simp at z4;have a1:w1.heap.size<w4.heap.size:=nj;have z:Blk w4 w1 249 #[.pointer (some ⟨g,0,none⟩)]:=(i.block _ ⟨(XB.out.drewN q).lt,Y⟩).trans (XB.out.drewN q);have x4:=z.ia 0;have E:Hid (w4.ownsRow w2 43 4 (.slice va j.length vc) j.length (BZ j)):=eZ HO.out (fun x hx=>i.block x ⟨(Aj HO.out x hx).2,by have:=(Aj HO.out x hx).1;omega⟩);have ae:Hid (Kept (fun x=>x<w2.heap.size/\x≠g) w2 w4):=HK.out.trans ⟨i.os,i.tape,i.output,i.size,fun x hx=>i.block x ⟨by have:=hx.1;simp;omega,hx.2⟩⟩;have y:=hid G;clear G i z x0 DL DR HO HK HC XB;go_wp2_with fail;refine(Dt _ g w bs B d a2 0 (y.out.step rF)).mono ?_;rintro e w5 ⟨rfl,rfl⟩;have bk:=a0.out trivial;have bb:j.length<=100000:=nj;go_wp2_with(at_builtin;refine iZ rfl (.tmp 26) (.tmp 28) 24 rfl w2 43 j0 _ 4 48 underlying24 a9 a5 aw ba rfl ip _ _ _ nm ((E.out.alloc _).alloc _) _ 1 1 [.int .u64 rt, .int .u8 rl, .string rs, .string rx] nm (Src.of_blk (g:=w4.heap.size+1) (Blk.made_at _ _ _ qT) 1 1 4 rfl) mu rE nj rg ?_;intro v5 w5 Z aa be);have aj:Cur w5 g w bs B d a2 0:=(by have h1:=(y.out.step (w':=(w4.alloc (.cells #[.int .u64 rt, .int .u8 rl, .string rs, .string rx] 43)).alloc (.cells #[.int .u64 rt, .int .u8 rl, .string rs, .string rx] 43)) rF);exact⟨h1.blk.grown aa (fun e=>by have:=(Aj E.out g e.symm).1;omega),eZ h1.own (fun x hx=>aa.block x (Aj h1.own x hx).2 (fun e=>by have:=(Aj au.out.own x hx).2;have:=(Aj E.out x e.symm).1;omega)),h1.le,h1.lo⟩);go_roundw
    case measure=>go_light;have h1:=aj.cells.2.1;have h2:atOf w5 g=a2:=(by unfold atOf;rw[h1];exact Bu _);rw[h2,a6.out];omega
    case rel=>
     go_light;refine⟨f,a2,j++ [⟨rt,rl,rs,rx⟩],a4,by rw[Ag];simp;omega,?_,HG,?_,aj,?_⟩
     ·show _<=_;have:=HF.out;omega
     ·rw[kQ,Ag];exact Z
     ·exact((ae.out.alloc (fun b h=>by have:=h.1;omega) _).alloc (fun b h=>by have:=h.1;simp;omega) _).grown aa (fun b h=>by have:=h.1;simp;omega) (fun b hb hh=>by have:=(Aj E.out b hb).1;have:=hh.1;omega)
   ·rw[Ab he]at hG;have HG:=hid hG;have g1:(e2 != 0)=true:=rA;clear hG he;go_wp2_with fail;refine DL.out.mono ?_;rintro e w3 ⟨rfl,q,rfl⟩;go_wp2_with fail;refine(DR.out _ (HC.out.drewN q)).mono ?_;rintro e w4 ⟨rfl,G,i⟩;have z4:=i.size;simp at z4;have a1:w1.heap.size<w4.heap.size:=nj;have z:Blk w4 w1 249 #[.pointer (some ⟨g,0,none⟩)]:=(i.block _ ⟨(XB.out.drewN q).lt,Y⟩).trans (XB.out.drewN q);have x4:=z.ia 0;have E:Hid (w4.ownsRow w2 43 4 (.slice va j.length vc) j.length (BZ j)):=eZ HO.out (fun x hx=>i.block x ⟨(Aj HO.out x hx).2,by have:=(Aj HO.out x hx).1;omega⟩);have ae:Hid (Kept (fun x=>x<w2.heap.size/\x≠g) w2 w4):=HK.out.trans ⟨i.os,i.tape,i.output,i.size,fun x hx=>i.block x ⟨by have:=hx.1;simp;omega,hx.2⟩⟩;have y:=hid G;clear G i z x0 DL DR HO HK HC XB;go_wp2_with fail;refine(Dt _ g w bs B d a2 e2 (y.out.step rF)).mono ?_;rintro e w5 ⟨rfl,rfl⟩;go_wp2_with fail;go_ret2;rw[<-HG.out];exact⟨_,rfl,AE _ _ _ _,mZ nj (af.out.trans (ae.out.below (fun b h=>⟨nj,by have:=y.out.lo;omega⟩)))⟩
end Recs
end Go.Proofs.YtfgdoknipbpfhaaGreatDoor
