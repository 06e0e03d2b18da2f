/- Options: the walks o -/
import Derived.Test.YtfgdoknipbpfhaaGreatDoorZBodyBlocks10
import Derived.Test.YtfgdoknipbpfhaaGreatDoorZBodyBlocks21
import Derived.Lib.AppendStr
namespace Go.Proofs.YtfgdoknipbpfhaaGreatDoor
open Go.Proofs.Tryz
open Go.Lib (hid)
set_option maxHeartbeats 2000000
set_option maxRecDepth 100000
variable{base c cg g i k most n q x z:Nat}{w w':World}{A:Option Addr}{xs:List Value}{wh:Bool}
namespace Opts
open Go.RowKit Mem
structure Opt where
 block:Int
 plain:Bool
 bucket:Int
 data:Int
 parity:Int
 chunk:Int
def Opt.val(o:Opt):Value:= .agg #[o.block,o.plain,o.bucket,o.data,o.parity,o.chunk]
theorem jE(a b:Bool)(a0 b0 a2 b2 a3 b3 a4 b4 a5 b5:Int)(w:World):(binOp .eql 23 (.agg #[a0,a,a2,a3,a4,a5]) (.agg #[b0,b,b2,b3,b4,b5])).run prog w= .ok (.bool (decide (a0=b0/\a=b/\a2=b2/\a3=b3/\a4=b4/\a5=b5))) w:=by
 go_simp
 by_cases h0:a0=b0<;>by_cases h1:a=b<;>by_cases h2:a2=b2<;>by_cases h3:a3=b3<;>by_cases h4:a4=b4<;>by_cases h5:a5=b5<;>simp[h0,h1,h2,h3,h4,h5]
theorem Ux(w:World)(x lo hi:Int):
 Calls prog 161 #[x,lo,hi] w fun e w'=>e= .returned (.bool (decide (lo<=x/\x<=hi)))/\w'=w:=by
 by_cases h:lo<=x
 ·have g1:decide (lo<=x)=true:=by simpa using h
  have HD:Hid (decide (lo<=x/\x<=hi)=decide (x<=hi)):=by show _=_;simp[h]
  rw[HD.out];clear h;go_enter func161,ntmps161;go_wp2_with fail;go_ret;exact⟨rfl,rfl⟩
 ·have g1:decide (lo<=x)=false:=by simpa using h
  have HD:Hid (decide (lo<=x/\x<=hi)=false):=by show _=_;simp[h]
  rw[HD.out];clear h;go_enter func161,ntmps161;go_wp2_with fail;go_ret;exact⟨rfl,rfl⟩
end Opts
namespace Recs
open Go.RowKit Mem
def Rec.val(r:Rec):Value:= .agg #[.int .u64 r.time, .int .u8 r.level, .string r.source, .string r.text]
def Cy(r:Rec):Bool:=decide (4000<r.source.size) || decide (4000<r.text.size)
def Dt(l:List Rec):Int:=if 20000<l.length then 6 else if l.any Cy=true then 6 else if 1048576<Bp l then 6 else 0
theorem Xy{l:List Rec}{p:Rec->Bool}{r:Rec}(hr:l[k]? =some r):(l.drop k).any p=(p r || (l.drop (k+1)).any p):=by obtain⟨hk,e⟩:=Cv.1 hr;rw[Dj hk,List.any_cons,e]
theorem IK{r:Rec}(h:Cy r=false):r.source.size<=4000/\r.text.size<=4000:=by unfold Cy at h;simp at h;exact h
theorem XJ{l:List Rec}{r:Rec}(hr:l[k]? =some r):Bp (l.take (k+1))=Bp (l.take k)+weigh r:=by rw[Cj,hr];simp[Se]
theorem aT{l:List Rec}(h:∀r∈l,Cy r=false):0<=Bp l/\Bp l<=8016*(l.length:Int):=by
 induction l with
 |nil=>simp[J3]
 |cons r l ih=>
  have h1:=IK (h r oK);have h2:=ih (fun x hx=>h x (by simp[hx]));have e:Bp (r :: l)=weigh r+Bp l:=oP
  rw[e];unfold weigh;simp only[List.length_cons]
  push_cast
  omega
theorem long_any(w:World)(r:Rec):
 Calls prog 95 #[r.val] w fun e w'=>e= .returned (.bool (Cy r))/\Below w w w':=by
 unfold Rec.val;by_cases h1:4000<r.source.size
 ·have hl:Cy r=true:=by unfold Cy;simp[h1]
  rw[hl];have g1:=ic ((4000:Int)<r.source.size)
  have i:=ic (4000<r.source.size)
  clear hl h1;go_enter func95,ntmps95;go_wp2_with fail;go_ret;exact⟨rfl,pn⟩
 ·have g1:=ig ((4000:Int)<r.source.size)
  have i:=ig (4000<r.source.size)
  by_cases h2:4000<r.text.size
  ·have hl:Cy r=true:=(by unfold Cy;simp[h2]);rw[hl];have g2:=ic ((4000:Int)<r.text.size);have h:=ic (4000<r.text.size);clear hl h1 h2;go_enter func95,ntmps95;go_wp2_with fail;go_ret;exact⟨rfl,pn⟩
  ·have hl:Cy r=false:=(by unfold Cy;simp;omega);rw[hl];have g2:=ig ((4000:Int)<r.text.size);have h:=ig (4000<r.text.size);clear hl h1 h2;go_enter func95,ntmps95;go_wp2_with fail;go_ret;exact⟨rfl,pn⟩
theorem Z9(w:World)(A:Option Addr)(n c:Nat)(l:List Rec)(hl:l.length=n)(hn:n<=9223372036854775807)(hr:Row w w A n 4 (BP l))(K:Nat)(p:Rec->Bool)(hK:∀args wx,(callFunc K args).run prog wx= .ok (.enter K args) wx)
 (hp:∀wx r,Calls prog K #[Rec.val r] wx fun e w'=>e= .returned (.bool (p r))/\Below wx wx w'):
 Calls prog 164 #[.slice A n c, .func (.func K) #[] #[]] w fun e w'=>∃z:Int,e= .returned (.int .i64 z)/\decide (0<=z)=l.any p/\Below w w w':=by
 have HP:=hid hp;have HL:=hid hl;clear hp hl;go_enter func164,ntmps164;go_wp2_with fail;go_loopw [8] (fun i wx=>∃k:Nat,k<=n/\i= .int .i64 k/\Hid ((l.drop k).any p=l.any p)/\Hid (Below w w wx)) (fun i _=>n-(intOf i).toNat)
 case atStart=>exact⟨0,mw,rfl,rfl,Ag _ _⟩
 case round=>
  obtain⟨k,hk,rfl,hA,HB⟩:=hrel;by_cases y:k<n
  ·obtain⟨b,G,r,rfl,E,hg,c0,c1,c2,c3⟩:=Row.rec (hr.below HB.out) HL.out y;have ha:=hA.out;rw[Xy hg]at ha;have D:=HP.out wr r;unfold Rec.val at D;have x0:(0:Int)<=(k:Int):=mw;have x1:(k:Int)<(n:Int):=mw;cases hb:p r
   ·rw[hb]at D ha;rw[Bool.false_or]at ha;have D:=hid D;have HA:=hid ha;clear hA ha hb hg;go_wp2_with fail;refine D.out.mono ?_;rintro e w1 ⟨rfl,h⟩;have j:Hid (Below w w w1):=dZ h HB.out;clear h D c0 c1 c2 c3;go_wp2_with fail;go_roundw
    case measure=>exact jo
    case rel=>go_light;exact⟨k+1,mw,jp,HA.out,j.out⟩
   ·rw[hb]at D ha;rw[Bool.true_or]at ha;have D:=hid D;have HA:=hid ha;clear hA ha hb hg;go_wp2_with fail;refine D.out.mono ?_;rintro e w1 ⟨rfl,h⟩;have j:Hid (Below w w w1):=dZ h HB.out;clear h D c0 c1 c2 c3;go_wp2_with fail;go_ret;exact⟨k,rfl,by rw[<-HA.out];simp,j.out⟩
  ·obtain rfl:k=n:=by omega
   have ha:=hA.out;rw[EB (by rw[HL.out];exact Ak _)]at ha;have HA:=hid ha;clear ha hA;go_wp2_with fail;go_ret;exact⟨-1,rfl,by rw[<-HA.out];rfl,HB.out⟩
theorem Zw(w:World)(A:Option Addr)(n c:Nat)(l:List Rec)(hl:l.length=n)(hn:n<=9223372036854775807)(hr:Row w w A n 4 (BP l)):
 Calls prog 94 #[.slice A n c, .func (.func 95) #[] #[]] w fun e w'=>e= .returned (.bool (l.any Cy))/\Below w w w':=by
 have D:=hid (Z9 w A n c l hl hn hr 95 Cy (by intro h wx;simp[callFunc,go_sem,func95];rfl) long_any);clear hl hr;go_enter func94,ntmps94;go_wp2_with fail;refine D.out.mono ?_;rintro e w1 ⟨z,rfl,hz,hb⟩;have HZ:=hid hz;clear hz D;go_wp2_with fail;go_ret;exact⟨KN HZ.out,hb⟩
theorem Xp(w:World)(A:Option Addr)(n c:Nat)(l:List Rec)(hl:l.length=n)(hn:n<=20000)(hs:∀r∈l,Cy r=false)(hr:Row w w A n 4 (BP l)):
 Calls prog 96 #[.slice A n c] w fun e w'=>e= .returned (.int .i64 (Bp l))/\Below w w w':=by
 have HL:=hid hl;have HS:=hid hs
 have HT:Hid (∀k,k<=n->0<=Bp (l.take k)/\Bp (l.take k)<=160320000):=fun k hk=>by
  have h:=aT (l:=l.take k) (fun r hr=>hs r (CV hr));have E:(l.take k).length<=n:=mQ
  omega
 clear hl hs;go_enter func96,ntmps96;go_wp2_with fail;go_loopw [3,8] (fun s i wx=>∃ (k:Nat) (x:Int),k<=n/\i= .int .i64 k/\s= .int .i64 x/\Hid (Bp (l.take k)=x)/\Hid (Below w w wx)) (fun _ i _=>n-(intOf i).toNat)
 case atStart=>exact⟨0,0,mw,rfl,rfl,rfl,Ag _ _⟩
 case round=>
  obtain⟨k,x,hk,rfl,rfl,hx,HB⟩:=hrel;by_cases z:k<n
  ·obtain⟨b,M,r,rfl,L,hg,c0,c1,c2,c3⟩:=Row.rec (hr.below HB.out) HL.out z;have y:=HT.out k hk;rw[hx.out]at y;have J:=IK (HS.out r (Be hg));have HW:Hid (Bp (l.take (k+1))=x+weigh r):=(by show _=_;rw[XJ hg,hx.out]);unfold weigh at HW;have x0:(0:Int)<=(k:Int):=mw;have x1:(k:Int)<(n:Int):=mw;have s1:IntKind.i64.wrap (16+(r.source.size:Int))=16+(r.source.size:Int):=Aq _ mw;have s2:IntKind.i64.wrap (16+(r.source.size:Int)+(r.text.size:Int))=16+(r.source.size:Int)+(r.text.size:Int):=Aq _ mw;have s3:IntKind.i64.wrap (x+(16+(r.source.size:Int)+(r.text.size:Int)))=x+(16+(r.source.size:Int)+(r.text.size:Int)):=Aq _ mw;have G:=HB.out.size;clear hg hx;go_wp2_with fail;go_roundw
   case measure=>exact jo
   case rel=>go_light;exact⟨k+1,x+(16+(r.source.size:Int)+(r.text.size:Int)),mw,iu,iu,HW.out,by have h:=HB.out;show Below w w _;(repeat (with_reducible first|exact Ag _ _|assumption|refine Ar ?_ |refine below_drewN ?_ _|refine sZ ?_ |refine aZ ?_ |refine dZ im ?_ |refine belA ?_ |refine tZ im ?_))⟩
  ·obtain rfl:k=n:=by omega
   have j:=hx.out;rw[BQ (by rw[HL.out];exact Ak _)]at j;have HX:=hid j;clear j hx;go_wp2_with fail;go_ret;exact⟨by rw[HX.out];rfl,HB.out⟩
theorem Uj(w:World)(A:Option Addr)(n c:Nat)(l:List Rec)(hl:l.length=n)(hn:n<=9223372036854775807)(hr:Row w w A n 4 (BP l)):
 Calls prog 45 #[.slice A n c] w fun e w'=>e= .returned (.int .i64 (Dt l))/\Below w w w':=by
 have D1:=hid (Zw w A n c l hl hn hr);unfold Dt;rw[hl];by_cases h1:20000<n
 ·rw[Ab h1];have g1:=ic ((20000:Int)<n)
  have j:=ic (20000<n)
  clear h1 hl hr D1;go_enter func45,ntmps45;go_wp2_with fail;go_ret;exact⟨rfl,Ag _ _⟩
 ·rw[Aa h1];have g1:=ig ((20000:Int)<n)
  have j:=ig (20000<n)
  cases hlo:l.any Cy with
  |true=>rw[Ab rfl];rw[hlo]at D1;clear h1 hl hr hlo;go_enter func45,ntmps45;go_wp2_with fail;refine D1.out.mono ?_;rintro e w1 ⟨rfl,hb⟩;go_wp2_with fail;go_ret;exact⟨rfl,hb⟩
  |false=>
   rw[Aa oK];rw[hlo]at D1;have hs:∀r∈l,Cy r=false:=fun r h=>by have:=List.any_eq_false.1 hlo r h;simpa using this
   have D2:=hid (fun wx (hb:Below w w wx)=>Xp wx A n c l hl mw hs ((hr.below hb).mono hb.size));generalize Bp l=x at *;by_cases h2:1048576<x
   ·rw[Ab h2];have g2:decide (1048576<x)=true:=pg;clear h1 hl hr hlo hs h2;go_enter func45,ntmps45;go_wp2_with fail;refine D1.out.mono ?_;rintro e w1 ⟨rfl,hb⟩;have E2:=hid (D2.out w1 hb);clear D1 D2;go_wp2_with fail;refine E2.out.mono ?_;rintro e w2 ⟨rfl,i⟩;go_wp2_with fail;go_ret;exact⟨rfl,dZ i hb⟩
   ·rw[Aa h2];have g2:decide (1048576<x)=false:=pg;clear h1 hl hr hlo hs h2;go_enter func45,ntmps45;go_wp2_with fail;refine D1.out.mono ?_;rintro e w1 ⟨rfl,hb⟩;have E2:=hid (D2.out w1 hb);clear D1 D2;go_wp2_with fail;refine E2.out.mono ?_;rintro e w2 ⟨rfl,i⟩;go_wp2_with fail;go_ret;exact⟨rfl,dZ i hb⟩
end Recs
namespace NumPut
open Go.RowKit Mem Own Canon
theorem Mt{X:Nat}(h:X*2 ^ (7*k)<18446744073709551616)(i:128<=X):k+1<=9/\X / 128*2 ^ (7*(k+1))<18446744073709551616:=by
 have e:2 ^ (7*(k+1))=128*2 ^ (7*k):=by rw[show 7*(k+1)=7*k+7 by omega,Nat.pow_add];omega
 constructor
 ·by_cases hk:k+1<=9
  ·exact hk
  ·exfalso;have h1:2 ^ 63<=2 ^ (7*k):=Cc mw mw;have h2:128*2 ^ 63<=X*2 ^ (7*k):=Hb i h1;omega
 ·rw[e,<-Nat.mul_assoc];have:X / 128*128*2 ^ (7*k)<=X*2 ^ (7*k):=Gc _ (Nat.div_mul_le_self _ _);omega
theorem ZM:∀ (x k:Nat),x*2 ^ (7*k)<18446744073709551616->k<=9->(fZ x).length+k<=10:=by
 intro x
 induction x using Nat.strongRecOn with
 |_ x ih=>
  intro k h hk;by_cases h1:x<128
  ·rw[EM h1];simp;omega
  ·obtain⟨s1,s2⟩:=Mt h mw;have:=ih (x / 128) mw (k+1) s2 s1;rw[FZ h1,AD];omega
theorem qZ(h:x<18446744073709551616):(fZ x).length<=10:=by have:=ZM x 0 pf mw;omega
theorem FW(w:World)(x:Nat)(hx:x<18446744073709551616):
 Calls prog 99 #[.int .u64 x] w fun e w'=>∃v,e= .returned v/\w'.ownsRow w 5 1 v (fZ x).length (cZ .u8 (fZ x))/\Below w w w':=by
 obtain⟨j0,L,M,aa,Z⟩:=info_parts Ee;obtain⟨R,hR⟩:=ii (fZ x);have N:Hid ([]++fZ x=R):=hR.symm;have Y:Hid (x*2 ^ (7*0)<18446744073709551616):=by show _<_;simpa using hx
 rw[<-hR];clear hR;go_enter func99,ntmps99;go_wp2_with fail;go_loopw [0,3] (fun u v wr=>∃ (X k:Nat) (done:List Nat),u= .int .u64 X/\k<=9/\X<18446744073709551616/\Hid (X*2 ^ (7*k)<18446744073709551616)/\Hid (done.length=k)/\Hid (done++fZ X=R)/\Hid (wr.ownsRow w 5 1 v k (cZ .u8 done))/\Hid (Below w w wr)) (fun u _ _=>(intOf u).toNat)
 case atStart=>exact⟨x,0,[],rfl,mw,hx,Y.out,rfl,N.out,AI _ _ _ _,Ag _ _⟩
 case round=>
  obtain⟨X,k,done,rfl,hk,hX,HX,HL,HR,HO,HB⟩:=hrel;clear N Y;have zb:=HB.out.size;by_cases z:X<128
  ·have g1:=ig ((128:Int)<=X);have ab:=ig (128<=X);have c1:IntKind.u8.wrap (X:Int)=(X:Int):=nz;have j:Hid (done++ [X]=R):=jz;go_wp2_with(at_builtin;refine iZ rfl (.tmp 14) (.tmp 17) 28 rfl w 5 j0 _ 1 1 underlying28 L M aa Z rfl ip _ _ _ mz (HO.out.alloc _) _ 1 1 [.int .u8 (X:Nat)] mz (Src.of_blk (g:=wr.heap.size) (Blk.made _ _ _) 1 1 1 rfl) mj pm mw oT ?_;intro v4 w4 i E Q);have G:Hid (w4.ownsRow w 5 1 v4 R.length (cZ .u8 R)):=mO;have J:Hid (Below w w w4):=(aZ HB.out).grown E oT (fun y hy=>(Aj HO.out y hy).1);go_ret;exact⟨_,rfl,G.out,J.out⟩
  ·have g1:=ic ((128:Int)<=X);have ab:=ic (128<=X);have c1:IntKind.u8.wrap (X:Int)=((X % 256:Nat):Int):=nz;have o1:bits .or .u8 ((X % 256:Nat):Int) 128=((X % 128+128:Nat):Int):=nY;have j:Hid ((done++ [X % 128+128])++fZ (X / 128)=R):=ka;obtain⟨af,U⟩:=Mt HX.out mw;have ae:=hid U;obtain⟨b,hb⟩:=ii (X % 128+128);obtain⟨a,ha⟩:=ii (X % 256);rw[<-hb]at o1 j;rw[<-ha]at o1 c1;clear hb ha U;go_wp2_with(at_builtin;refine iZ rfl (.tmp 6) (.tmp 10) 28 rfl w 5 j0 _ 1 1 underlying28 L M aa Z rfl ip _ _ _ mz (HO.out.alloc _) _ 1 1 [.int .u8 (b:Nat)] mz (Src.of_blk (g:=wr.heap.size) (Blk.made _ _ _) 1 1 1 rfl) mj pm mw oT ?_;intro v4 w4 i E Q);have ac:Hid (w4.ownsRow w 5 1 v4 (k+1) (cZ .u8 (done++ [b]))):=(by rw[Jf];exact i);have J:Hid (Below w w w4):=(aZ HB.out).grown E oT (fun y hy=>(Aj HO.out y hy).1);exact⟨⟨X / 128,k+1,done++ [b],Aw _ mw,mw,mw,ae.out,ow,j.out,ac.out,J.out⟩,o7⟩
theorem JT(w:World)(x:Nat)(hx:x<18446744073709551616):
 Calls prog 77 #[.int .u64 x] w fun e w'=>∃v,e= .returned v/\w'.ownsRow w 5 1 v (fZ x).length (cZ .u8 (fZ x))/\Below w w w':=by
 obtain⟨j0,L,M,aa,Z⟩:=info_parts Ee;obtain⟨R,hR⟩:=ii (fZ x);have N:Hid ([]++fZ x=R):=hR.symm;have Y:Hid (x*2 ^ (7*0)<18446744073709551616):=by show _<_;simpa using hx
 rw[<-hR];clear hR;go_enter func77,ntmps77;go_wp2_with fail;go_loopw [0,3] (fun u v wr=>∃ (X k:Nat) (done:List Nat),u= .int .u64 X/\k<=9/\X<18446744073709551616/\Hid (X*2 ^ (7*k)<18446744073709551616)/\Hid (done.length=k)/\Hid (done++fZ X=R)/\Hid (wr.ownsRow w 5 1 v k (cZ .u8 done))/\Hid (Below w w wr)) (fun u _ _=>(intOf u).toNat)
 case atStart=>exact⟨x,0,[],rfl,mw,hx,Y.out,rfl,N.out,AI _ _ _ _,Ag _ _⟩
 case round=>
  obtain⟨X,k,done,rfl,hk,hX,HX,HL,HR,HO,HB⟩:=hrel;clear N Y;have zb:=HB.out.size;by_cases z:X<128
  ·have g1:=ig ((128:Int)<=X);have ab:=ig (128<=X);have c1:IntKind.u8.wrap (X:Int)=(X:Int):=nz;have j:Hid (done++ [X]=R):=jz;go_wp2_with(at_builtin;refine iZ rfl (.tmp 15) (.tmp 18) 28 rfl w 5 j0 _ 1 1 underlying28 L M aa Z rfl ip _ _ _ mz (HO.out.alloc _) _ 1 1 [.int .u8 (X:Nat)] mz (Src.of_blk (g:=wr.heap.size) (Blk.made _ _ _) 1 1 1 rfl) mj pm mw oT ?_;intro v4 w4 i E Q);have G:Hid (w4.ownsRow w 5 1 v4 R.length (cZ .u8 R)):=mO;have J:Hid (Below w w w4):=(aZ HB.out).grown E oT (fun y hy=>(Aj HO.out y hy).1);go_ret;exact⟨_,rfl,G.out,J.out⟩
  ·have g1:=ic ((128:Int)<=X);have ab:=ic (128<=X);have c1:IntKind.u64.wrap (128+(X:Int) % 128)=((X % 128+128:Nat):Int):=(by rw[show IntKind.u64.wrap (128+(X:Int) % 128)=(128+(X:Int) % 128) % 18446744073709551616 from by simp[IntKind.wrap,IntKind.bits,IntKind.signed]];omega);have c2:IntKind.u8.wrap ((X % 128+128:Nat):Int)=((X % 128+128:Nat):Int):=nz;have j:Hid ((done++ [X % 128+128])++fZ (X / 128)=R):=ka;obtain⟨af,U⟩:=Mt HX.out mw;have ae:=hid U;obtain⟨b,hb⟩:=ii (X % 128+128);rw[<-hb]at c1 c2 j;clear hb U;go_wp2_with(at_builtin;refine iZ rfl (.tmp 6) (.tmp 11) 28 rfl w 5 j0 _ 1 1 underlying28 L M aa Z rfl ip _ _ _ mz (HO.out.alloc _) _ 1 1 [.int .u8 (b:Nat)] mz (Src.of_blk (g:=wr.heap.size) (Blk.made _ _ _) 1 1 1 rfl) mj pm mw oT ?_;intro v4 w4 i E Q);have ac:Hid (w4.ownsRow w 5 1 v4 (k+1) (cZ .u8 (done++ [b]))):=(by rw[Jf];exact i);have J:Hid (Below w w w4):=(aZ HB.out).grown E oT (fun y hy=>(Aj HO.out y hy).1);exact⟨⟨X / 128,k+1,done++ [b],Aw _ mw,mw,mw,ae.out,ow,j.out,ac.out,J.out⟩,o7⟩
def sB(s:ByteArray):List Nat:=s.data.toList.map UInt8.toNat
theorem La(s:ByteArray):(sB s).length=s.size:=by unfold sB;rw[Bb,Array.length_toList];rfl
theorem dN(s:ByteArray):∀x∈sB s,x<=255:=fun x hx=>by obtain⟨c,_,rfl⟩:=Ck.1 hx;have:=c.toNat_lt;omega
theorem Xe(s:ByteArray):cZ .u8 (sB s)=Lib.strCells s:=by unfold cZ sB Lib.strCells;rw[List.map_map];rfl
def BC(s:ByteArray):List Nat:=fZ s.size++sB s
theorem Te(s:ByteArray):∀x∈BC s,x<=255:=fun x hx=>by
 rcases BF.1 hx with hx|hx
 ·exact CU _ x hx
 ·exact dN s x hx
theorem KZ{s:ByteArray}(h:s.size<=100000):(BC s).length<=3+s.size/\s.size<(BC s).length:=by
 have h1:(fZ s.size).length<=3:=by
  by_cases h1:s.size<128
  ·rw[EM h1];simp
  ·rw[FZ h1,AD];by_cases h2:s.size / 128<128
   ·rw[EM h2];simp
   ·rw[FZ h2,EM mw];simp
 have h2:1<=(fZ s.size).length:=by
  by_cases h1:s.size<128
  ·rw[EM h1];simp
  ·rw[FZ h1,AD];omega
 unfold BC;rw[Ae,La];omega
theorem WR:(prog.info? 5).map (fun i=>(i.zero,i.size,i.bytes))=some (some (.int .u8 0),1,1):=mr
theorem Mo(w:World)(s:ByteArray)(hs:s.size<=100000):
 Calls prog 165 #[.string s] w fun e w'=>∃v,e= .returned v/\w'.ownsRow w 5 1 v (BC s).length (cZ .u8 (BC s))/\Below w w w':=by
 obtain⟨j0,z,E,M,J⟩:=info_parts WR;have D:=hid (FW w s.size mw);have hl:=qZ (x:=s.size) mw;have u1:IntKind.u64.wrap (s.size:Int)=(s.size:Int):=m9
 have HT:Hid (cZ .u8 (BC s)=cZ .u8 (fZ s.size)++Lib.strCells s/\(BC s).length=(fZ s.size).length+s.size):=⟨by rw[<-Xe];simp[BC,cZ],by unfold BC;rw[Ae,La]⟩;generalize BC s=T at *;generalize fZ s.size=X at *;obtain⟨k,hk⟩:=ii X.length;rw[<-hk]at D hl HT;clear hk;go_enter func165,ntmps165;go_wp2_with fail;refine D.out.mono ?_;rintro e w1 ⟨v,rfl,ho,hb⟩;have HO:=hid ho;have HB:=hid hb;have hz:=hb.size;clear ho hb D;go_wp2_with(at_builtin;refine Lib.wpList_append_own_string w1 rfl (.tmp 6) (.tmp 7) 28 9 rfl w 5 j0 underlying28 underlying9 z E M J _ k _ mz HO.out s mz pm mw hz ?_;intro v4 w4 h j i;have L:Hid (Below w w w4):=HB.out.grown j hz (fun y hy=>(Aj HO.out y hy).1);have G:Hid (w4.ownsRow w 5 1 v4 T.length (cZ .u8 T)):=(by rw[HT.out.1,HT.out.2];exact h);clear h j i);go_ret;exact⟨_,rfl,G.out,L.out⟩
end NumPut
namespace Recs
open Go.RowKit Mem Own Canon NumPut
open Nums (N7)
open Block (lZ)
def B8(r:Rec):Prop:=0<=r.time/\r.time<18446744073709551616/\0<=r.level/\r.level<=255
def GZ(wh:Bool)(r:Rec):List Nat:=if wh=true then fZ r.time.toNat++ [r.level.toNat]else []
def CR(wh:Bool)(r:Rec):List Nat:=GZ wh r++(BC r.source++BC r.text)
theorem Qw(wh:Bool){r:Rec}(h:B8 r):(GZ wh r).length<=11:=by
 unfold GZ;split
 ·have:=qZ (x:=r.time.toNat) (by have:=h.1;have:=h.2.1;omega);rw[Ae];simp;omega
 ·simp
theorem Wv(wh:Bool){r:Rec}(h:B8 r):∀x∈GZ wh r,x<=255:=by
 unfold GZ;split
 ·intro x hx;rcases BF.1 hx with hx|hx
  ·exact CU _ x hx
  ·simp at hx;have:=h.2.2;omega
 ·intro x hx;cases hx
theorem iP(wh:Bool){r:Rec}(h:B8 r):∀x∈CR wh r,x<=255:=fun x hx=>by
 unfold CR at hx;simp only[List.mem_append]at hx;rcases hx with hx|hx|hx
 ·exact Wv wh h x hx
 ·exact Te _ x hx
 ·exact Te _ x hx
theorem Pe(wh:Bool){r:Rec}(h:B8 r)(hl:Cy r=false):(CR wh r).length<=17+r.source.size+r.text.size/\2<=(CR wh r).length:=by obtain⟨h1,h2⟩:=IK hl;have a:=Qw wh h;have b:=KZ (s:=r.source) mw;have c:=KZ (s:=r.text) mw;unfold CR;rw[Ae,Ae];omega
def Nd(wh:Bool)(r:Rec)(w:World)(e:Ending)(w':World):Prop:=
 ∃v,e= .returned v/\w'.ownsRow w 5 1 v (CR wh r).length (cZ .u8 (CR wh r))/\Below w w w'
theorem Tm(w:World)(wh:Bool)(r:Rec)(hr:B8 r)(hl:Cy r=false):
 Calls prog 97 #[wh,r.val] w (Nd wh r w):=by
 obtain⟨j0,aw,ay,ax,az⟩:=info_parts Ee;obtain⟨h1,h2⟩:=IK hl;obtain⟨t1,t2,l1,l2⟩:=hr;have a0:=Qw wh (r:=r) ⟨t1,t2,l1,l2⟩;have b1:=KZ (s:=r.source) mw;have b2:=KZ (s:=r.text) mw;unfold Nd CR;obtain⟨tm,lv,j,i⟩:=r;obtain⟨t,rfl⟩:=Hf t1;obtain⟨l,rfl⟩:=Hf l1;unfold Rec.val;simp only at *;clear hl;have D1:=hid (fun wx=>FW wx t mw);have D2:=hid (fun wx=>Mo wx j mw);have D3:=hid (fun wx=>Mo wx i mw);cases wh with
 |true=>
  have HH:Hid (GZ true ⟨(t:Nat),(l:Nat),j,i⟩=fZ t++ [l]):=rfl;have a9:=qZ (x:=t) mw;generalize GZ true ⟨(t:Nat),(l:Nat),j,i⟩=H at *;generalize fZ t=N1 at *;generalize BC j=T1 at *;generalize BC i=T2 at *;go_enter func97,ntmps97;go_upto_region 3 with fail;have E:Blk (w.alloc (.cells #[.int .u64 t, .int .u8 l, .string j, .string i] 43)) w 43 #[.int .u64 t, .int .u8 l, .string j, .string i]:=Blk.made _ _ _;have M:Below w w (w.alloc (.cells #[.int .u64 t, .int .u8 l, .string j, .string i] 43)):=aZ (Ag _ _);have ak:(w.alloc (.cells #[.int .u64 t, .int .u8 l, .string j, .string i] 43)).heap.size=w.heap.size+1:=oK
  generalize w.alloc (.cells #[.int .u64 t, .int .u8 l, .string j, .string i] 43)=wa at *;have af:=hid E;have J:=hid M;have av:w.heap.size<wa.heap.size:=mw
  have HS:Hid (∀wx,Below wa wa wx->wx.cell? ⟨w,0,none⟩=some (.int .u64 t)/\wx.cell? ⟨w,1,none⟩=some (.int .u8 l)):=fun wx h=>⟨(E.step h).cell 0,(E.step h).cell 1⟩;clear E M ak
  go_region_held3 (fun wx=>wx.cell? ⟨w,0,none⟩=some (.int .u64 t)/\wx.cell? ⟨w,1,none⟩=some (.int .u8 l)) (first|exact HS.out _ ((Ag _ _).drew)|exact HS.out _ Z|exact HS.out _ G|exact HS.out _ (Ar (aZ (Ag _ _)))|exact HS.out _ (nZ (Below.size G) G)|(refine HS.out _ ?_;(repeat (with_reducible first|exact Ag _ _|assumption|refine Ar ?_ |refine below_drewN ?_ _|refine sZ ?_ |refine aZ ?_ |refine dZ im ?_ |refine belA ?_ |refine tZ im ?_))))
   (first|(go_at_call 99;(with_reducible refine(D1.out _).mono ?_);rintro e w1 ⟨v,rfl,ag,ae⟩;obtain⟨A1,c1,rfl⟩:=bZ ag;have G:Below wa wa w1:=uZ ae oK pn;have am:=G.size;have ac:w1.ownsRow wa 5 1 (.slice A1 N1.length c1) N1.length (cZ .u8 N1):=kZ ag oK)|(refine N7 rfl (.tmp 9) (.tmp 12) 28 rfl wa 5 j0 _ 1 1 underlying28 aw ay ax az rfl ip (.slice A1 N1.length c1) N1.length (cZ .u8 N1) mz (by first|exact ac|exact ac.alloc _) _ 1 1 [.int .u8 l] mz (by first|exact Src.of_blk (g:=w1.heap.size) (Blk.made _ _ _) 1 1 1 rfl|exact Src.of_blk (g:=wa.heap.size) ((Blk.drew (Blk.made _ _ _)).step ae) 1 1 1 rfl|exact Src.of_blk (g:=wa.heap.size) (Blk.step (Blk.made _ _ _) ae) 1 1 1 rfl) mj pm mw it ?_;intro A4 c4 w4 N aq;have Z:Below wa wa w4:=Below.grown (by first|exact G|exact G.alloc am _) aq it (fun y hy=>(Aj ac y hy).1)))
  all_goals
   have P4:Hid (Part.Ok (⟨A4,c4,H⟩:Part) w4):=(by rw[HH.out];have e1:(N1++ [l]).length=N1.length+1:=(by rw[Ae];rfl);refine lZ (base:=wa.heap.size) (ls:=N1++ [l]) (n:=(N1++ [l]).length) ?_ rfl;rw[e1,Jf];exact N);have aa:Hid (Below w w w4):=J.out.trans (Z.mono mw);have z:Hid (∀wx,Below w4 w4 wx->wx.cell? ⟨w,2,none⟩=some (.string j)/\wx.cell? ⟨w,3,none⟩=some (.string i)):=fun wx h=>⟨((af.out.step Z).step h).cell 2,((af.out.step Z).step h).cell 3⟩;have al:∀a1 a2 a3 a4 a5 a6,BI [(⟨a1,a2,H⟩:Part),⟨a3,a4,T1⟩,⟨a5,a6,T2⟩]<=1000000:=fun _ _ _ _ _ _=>oU
   have ar:Hid (H.length=N1.length+1):=(by show _=_;rw[HH.out,Ae];rfl);have au:H.length=N1.length+1:=ar.out;rw[<-au];clear HS af Z N aq ac ae ag G am J D1 au ar HH;go_upto_region 4 with fail;go_region_held3 (fun wx=>wx.cell? ⟨w,2,none⟩=some (.string j)/\wx.cell? ⟨w,3,none⟩=some (.string i)) (first|exact z.out _ ((Ag _ _).drew)|exact z.out _ BA|exact z.out _ BB|(refine z.out _ ?_;(repeat (with_reducible first|exact Ag _ _|assumption|refine Ar ?_ |refine below_drewN ?_ _|refine sZ ?_ |refine aZ ?_ |refine dZ im ?_ |refine belA ?_ |refine tZ im ?_)))) (first|(go_at_call 165;first|((with_reducible refine(D2.out _).mono ?_);rintro e wA ⟨vA,rfl,U,Q⟩;obtain⟨AA,cA,rfl⟩:=bZ U;have BA:Below w4 w4 wA:=uZ Q it pn;have zA:=BA.size;have PA:Part.Ok (⟨AA,cA,T1⟩:Part) wA:=lZ U rfl;have kA:=Q)|((with_reducible refine(D3.out _).mono ?_);rintro e wB ⟨vB,rfl,Y,ab⟩;obtain⟨AB,cB,rfl⟩:=bZ Y;have BB:Below w4 w4 wB:=uZ ab it pn;have zB:=BB.size;have PB:Part.Ok (⟨AB,cB,T2⟩:Part) wB:=lZ Y rfl;have kB:=ab))|(go_at_call 55;(refine(Fz _ _ 3 [(⟨A4,c4,H⟩:Part),(⟨AA,cA,T1⟩:Part),(⟨AB,cB,T2⟩:Part)] rfl mw (al _ _ _ _ _ _) (fun p hp=>by{rcases AM.1 hp with rfl|hp;exact P4.out.step pn;rcases AM.1 hp with rfl|hp;exact PA.step pn;rcases AM.1 hp with rfl|hp;exact PB.step pn;cases hp}) iq).mono ?_);rintro e w7 ⟨v7,rfl,L,aj⟩;obtain⟨A7,c7,rfl⟩:=bZ L;have B7:Below w4 w4 w7:=uZ aj it pn));have ah:Hid (Below w w w7):=aa.out.trans (B7.mono aa.out.size);have ai:=hid (kZ L (show w.heap.size<=_ by have:=aa.out.size;have:=zA;have:=zB;first|omega|(simp;omega)));go_wp2_with fail;go_ret;refine⟨_,rfl,?_,ah.out⟩;have h:=ai.out;simp only[List.flatMap_cons,List.flatMap_nil,List.append_nil]at h;rw[Ae,Ae]at h ⊢;exact h
 |false=>
  have an:GZ false ⟨(t:Nat),(l:Nat),j,i⟩= []:=rfl;rw[an,Fq];clear a0 an D1;generalize BC j=T1 at *;generalize BC i=T2 at *;go_enter func97,ntmps97;go_upto_region 4 with fail;have E:Blk (w.alloc (.cells #[.int .u64 t, .int .u8 l, .string j, .string i] 43)) w 43 #[.int .u64 t, .int .u8 l, .string j, .string i]:=Blk.made _ _ _;have M:Below w w (w.alloc (.cells #[.int .u64 t, .int .u8 l, .string j, .string i] 43)):=aZ (Ag _ _);have ak:(w.alloc (.cells #[.int .u64 t, .int .u8 l, .string j, .string i] 43)).heap.size=w.heap.size+1:=oK
  generalize w.alloc (.cells #[.int .u64 t, .int .u8 l, .string j, .string i] 43)=wa at *;have av:w.heap.size<wa.heap.size:=mw
  have J:=hid M;have z:Hid (∀wx,Below wa wa wx->wx.cell? ⟨w,2,none⟩=some (.string j)/\wx.cell? ⟨w,3,none⟩=some (.string i)):=fun wx h=>⟨(E.step h).cell 2,(E.step h).cell 3⟩;have P4:Hid (Part.Ok (⟨none,0,([]:List Nat)⟩:Part) wa):=⟨Row.zero,fun _=>⟨rfl,rfl⟩⟩;have al:∀ (a1:Option Addr) (a2:Nat) a3 a4 a5 a6,BI [(⟨a1,a2,([]:List Nat)⟩:Part),⟨a3,a4,T1⟩,⟨a5,a6,T2⟩]<=1000000:=fun _ _ _ _ _ _=>oU
  clear E M ak;go_region_held3 (fun wx=>wx.cell? ⟨w,2,none⟩=some (.string j)/\wx.cell? ⟨w,3,none⟩=some (.string i)) (first|exact z.out _ ((Ag _ _).drew)|exact z.out _ BA|exact z.out _ BB|(refine z.out _ ?_;(repeat (with_reducible first|exact Ag _ _|assumption|refine Ar ?_ |refine below_drewN ?_ _|refine sZ ?_ |refine aZ ?_ |refine dZ im ?_ |refine belA ?_ |refine tZ im ?_)))) (first|(go_at_call 165;first|((with_reducible refine(D2.out _).mono ?_);rintro e wA ⟨vA,rfl,U,Q⟩;obtain⟨AA,cA,rfl⟩:=bZ U;have BA:Below wa wa wA:=uZ Q it pn;have zA:=BA.size;have PA:Part.Ok (⟨AA,cA,T1⟩:Part) wA:=lZ U rfl;have kA:=Q)|((with_reducible refine(D3.out _).mono ?_);rintro e wB ⟨vB,rfl,Y,ab⟩;obtain⟨AB,cB,rfl⟩:=bZ Y;have BB:Below wa wa wB:=uZ ab it pn;have zB:=BB.size;have PB:Part.Ok (⟨AB,cB,T2⟩:Part) wB:=lZ Y rfl;have kB:=ab))|(go_at_call 55;(refine(Fz _ _ 3 [(⟨none,0,([]:List Nat)⟩:Part),(⟨AA,cA,T1⟩:Part),(⟨AB,cB,T2⟩:Part)] rfl mw (al _ _ _ _ _ _) (fun p hp=>by{rcases AM.1 hp with rfl|hp;exact P4.out.step pn;rcases AM.1 hp with rfl|hp;exact PA.step pn;rcases AM.1 hp with rfl|hp;exact PB.step pn;cases hp}) iq).mono ?_);rintro e w7 ⟨v7,rfl,L,aj⟩;obtain⟨A7,c7,rfl⟩:=bZ L;have B7:Below wa wa w7:=uZ aj it pn));have ah:Hid (Below w w w7):=J.out.trans (B7.mono J.out.size);have ai:=hid (kZ L (show w.heap.size<=_ by have:=J.out.size;have:=zA;have:=zB;first|omega|(simp;omega)));go_wp2_with fail;go_ret;refine⟨_,rfl,?_,ah.out⟩;have h:=ai.out;simp only[List.flatMap_cons,List.flatMap_nil,List.append_nil,List.nil_append]at h;rw[Ae]at h ⊢;exact h
theorem Dq(h:w.ownsRow base 5 1 (.slice A n c) n xs):Src w A n c 1 xs:=by
 obtain⟨h0,h1⟩:=h;refine⟨h0,?_⟩;rcases h1 with ⟨hv,_⟩|⟨g,y,cur,hv,_,hh,_,_,_,i⟩
 ·injection hv with e1 e2 e3;exact .inl ⟨e1,e2,e3⟩
 ·injection hv with e1 e2 e3;refine .inr ⟨⟨g,0,none⟩,e1,fun j u hu=> ?_⟩;rw[add_none,Cb,Blk.cell hh];rw[<-i,Gd]at hu;split at hu
  ·simpa using hu
  ·cases hu
end Recs
namespace Recs
open Go.RowKit Mem Own Canon NumPut
open Block (lZ)
def xZ(wh:Bool)(l:List Rec):List Nat:=l.flatMap (CR wh)
theorem W6{l:List Rec}{r:Rec}(hr:l[k]? =some r):xZ wh (l.take (k+1))=xZ wh (l.take k)++CR wh r:=by unfold xZ;rw[Cj,hr,Il];simp
theorem Oo(wh:Bool){l:List Rec}(h:∀r∈l,B8 r):∀x∈xZ wh l,x<=255:=fun x hx=>by obtain⟨r,hr,hx⟩:=List.mem_flatMap.1 hx;exact iP wh (h r hr) x hx
theorem T5(wh:Bool):∀ {l:List Rec},(∀r∈l,B8 r)->(∀r∈l,Cy r=false)->((xZ wh l).length:Int)<=Bp l+l.length
 | [],_,_=>by simp[xZ,J3]
 |r :: l,h,hl=>by
  have h1:=(Pe wh (h r oK) (hl r oK)).1;have ih:=T5 wh (l:=l) (fun x hx=>h x (by simp[hx])) (fun x hx=>hl x (by simp[hx]));have e:Bp (r :: l)=weigh r+Bp l:=oP
  have e2:(xZ wh (r :: l)).length=(CR wh r).length+(xZ wh l).length:=by unfold xZ;rw[Cm,Ae]
  rw[e,e2];unfold weigh;simp only[List.length_cons]
  push_cast
  omega
theorem WF(wh:Bool)(l:List Rec)(k:Nat):(xZ wh (l.take k)).length<=(xZ wh l).length:=by
 conv=>rhs;rw[<-EA k l]
 unfold xZ;rw[Il,Ae];omega
def BytesPost(wh:Bool)(l:List Rec)(w:World)(e:Ending)(w':World):Prop:=
 ∃v,e= .returned v/\w'.ownsRow w 5 1 v (xZ wh l).length (cZ .u8 (xZ wh l))/\Below w w w'
theorem bytes_any(w:World)(wh:Bool)(A:Option Addr)(n c:Nat)(l:List Rec)(hn:l.length=n)(hN:n<=9223372036854775807)(N:∀r∈l,B8 r)(hl:∀r∈l,Cy r=false)(hb:(xZ wh l).length<=1000000000)(ha:Row w w A n 4 (BP l)):
 Calls prog 48 #[wh, .slice A n c] w (BytesPost wh l w):=by
 obtain⟨j0,Y,aa,ah,af⟩:=info_parts Ee;have HN:=hid hn;have HM:=hid (fun k=>AK (WF wh l k) hb);have HD:=hid (fun wx r (h:r∈l)=>Tm wx wh r (N r h) (hl r h));unfold Nd at HD;unfold BytesPost;clear hn N hl hb;go_enter func48,ntmps48;go_wp2_with fail;go_loopw [5,10] (fun u i wr=>∃ (k q:Nat),k<=n/\q<=1000000000/\i= .int .i64 k/\Hid ((xZ wh (l.take k)).length=q)/\Hid (wr.ownsRow w 5 1 u q (cZ .u8 (xZ wh (l.take k))))/\Hid (Below w w wr)) (fun _ i _=>n-(intOf i).toNat)
 case atStart=>exact⟨0,0,mw,mw,rfl,rfl,AI _ _ _ _,Ag _ _⟩
 case round=>
  obtain⟨k,q,hk,hq,rfl,HQ,HO,HB⟩:=hrel;have hz:=HB.out.size;by_cases ai:k<n
  ·obtain⟨b,ak,r,rfl,aj,hg,c0,c1,c2,c3⟩:=Row.rec (ha.below HB.out) HN.out ai;have D:=hid (fun wx=>HD.out wx r (Be hg));have HT:=hid (W6 (wh:=wh) hg);have M:q+(CR wh r).length<=1000000000:=(by have h:=HM.out (k+1);rw[HT.out,Ae,HQ.out]at h;exact h);have ae:(CR wh r).length<=1000000000:=mw;unfold Rec.val at D;have x0:(0:Int)<=(k:Int):=mw;have x1:(k:Int)<(n:Int):=mw;generalize CR wh r=O at *;obtain⟨m,hm⟩:=ii O.length;rw[<-hm]at D M ae;have Z:=hid hm;clear hg hm;go_wp2_with fail;refine(D.out _).mono ?_;rintro e w1 ⟨v1,rfl,E,z⟩;obtain⟨A1,d1,rfl⟩:=bZ E;have ac:Hid (Src w1 A1 m d1 1 (cZ .u8 O)):=Dq E;have J:Hid (Below w w w1):=dZ z (aZ HB.out);have L:Hid (w1.ownsRow w 5 1 u5 q (cZ .u8 (xZ wh (l.take k)))):=eZ (HO.out.alloc (.cells #[.int .u64 r.time, .int .u8 r.level, .string r.source, .string r.text] 43)) (fun y hy=>z.block y ky);have U:=J.out.size;clear E z D c0 c1 c2 c3 HO HB;go_wp2_with(at_builtin;refine iZ rfl (.tmp 14) (.tmp 17) 28 rfl w 5 j0 _ 1 1 underlying28 Y aa ah af rfl ip _ _ _ mz L.out _ _ _ _ mz ac.out (Ci _ _) pm mw U ?_;intro v4 w4 j Q G);have ag:Hid (Below w w w4):=J.out.grown Q U (fun y hy=>(Aj L.out y hy).1);have ab:Hid (w4.ownsRow w 5 1 v4 (q+m) (cZ .u8 (xZ wh (l.take (k+1))))):=(by rw[HT.out,show cZ .u8 (xZ wh (l.take k)++O)=cZ .u8 (xZ wh (l.take k))++cZ .u8 O by simp[cZ]];exact j);clear j Q G;go_roundw
   case measure=>exact jo
   case rel=>go_light;exact⟨k+1,q+m,mw,M,iu,by show _=_;rw[HT.out,Ae,HQ.out,Z.out],ab.out,ag.out⟩
  ·obtain rfl:k=n:=by omega
   have h1:l.take k=l:=BQ nm;rw[h1]at HQ HO;clear h1;go_wp2_with fail;go_ret;exact⟨_,rfl,by rw[HQ.out];exact HO.out,HB.out⟩
end Recs
namespace Recs
open Go.RowKit Mem Own Canon NumPut
def goG(S:Nat):Nat->Nat->List Nat->List Nat
 |_,c,[]=> [c]
 |h,c,x :: t=>if S<h+x then c :: goG S x 1 t else goG S (h+x) (c+1) t
def G2(S:Nat):List Nat->List Nat
 | []=> []
 |x :: t=>goG S x 1 t
def Eo(wh:Bool)(l:List Rec):List Nat:=l.map fun r=>(CR wh r).length
theorem Zp{l:List Rec}{r:Rec}(hr:l[k]? =some r):(Eo wh l).drop k=(CR wh r).length :: (Eo wh l).drop (k+1):=by
 obtain⟨hk,e⟩:=Cv.1 hr;have h:k<(Eo wh l).length:=by unfold Eo;rw[Bb];exact hk
 rw[Dj h];congr 1;simp[Eo,e]
theorem Z5{l:List Rec}(hn:l.length=n):(Eo wh l).drop n= []:=EB (by unfold Eo;rw[Bb];omega)
theorem OE{done:List Nat}(h:w.ownsRow base 3 1 (.slice (some ⟨g,0,none⟩) (q+1) cg) (q+1) (cZ .i64 (done++ [z])))(hq:done.length=q):w.cell? ⟨g,q,none⟩=some (.int .i64 (z:Nat)):=by rw[(Lz.own_cells h (show q<q+1 by omega)).1];simp only[cZ,List.getElem?_map];rw[IT mw,hq];simp
theorem Og{done:List Nat}(h:w.ownsRow base 3 1 (.slice (some ⟨g,0,none⟩) (q+1) cg) (q+1) (cZ .i64 (done++ [z])))(hq:done.length=q):(w.setCell ⟨g,q,none⟩ (.int .i64 (z+1:Nat))).ownsRow base 3 1 (.slice (some ⟨g,0,none⟩) (q+1) cg) (q+1) (cZ .i64 (done++ [z+1])):=by
 have h1:=Lz.Ri h (.int .i64 (z+1:Nat)) (show q<q+1 by omega)
 have e:(cZ .i64 (done++ [z])).set q (.int .i64 (z+1:Nat))=cZ .i64 (done++ [z+1]):=by
  have hl:q=(cZ .i64 done).length:=by unfold cZ;rw[Bb,hq]
  have e1:cZ .i64 (done++ [z])=cZ .i64 done++ [.int .i64 (z:Nat)]:=oW
  rw[e1,hl,List.set_append_right _ _ (Ak _),Gx];simp[cZ]
 rw[e]at h1;exact h1
theorem ZI:(prog.info? 3).map (fun i=>(i.zero,i.size,i.bytes))=some (some (.int .i64 0),1,8):=mr
def OA(S:Nat)(wh:Bool)(l:List Rec)(w:World)(e:Ending)(w':World):Prop:=
 ∃v,e= .returned v/\w'.ownsRow w 3 1 v (G2 S (Eo wh l)).length (cZ .i64 (G2 S (Eo wh l)))/\Below w w w'
theorem Qo(k:IntKind)(l:List Nat)(x:Nat):cZ k (l++ [x])=cZ k l++ [.int k (x:Nat)]:=oW
theorem Y3(w:World)(S:Nat)(wh:Bool)(A:Option Addr)(n c:Nat)(l:List Rec)(hS:1<=S)(bu:S<=1000000)(hn:l.length=n)(hN:n<=1000000)(az:∀r∈l,B8 r)(hl:∀r∈l,Cy r=false)(ha:Row w w A n 4 (BP l)):
 Calls prog 46 #[S,wh, .slice A n c] w (OA S wh l w):=by
 obtain⟨j0,a3,ba,a5,bb⟩:=info_parts ZI;have HN:=hid hn;have HX:=hid (fun r (h:r∈l)=>(Pe wh (az r h) (hl r h)).1);have bl:=hid (fun r (h:r∈l)=>IK (hl r h));have HD:=hid (fun wx r (h:r∈l)=>Tm wx wh r (az r h) (hl r h));have HE:=hid (Z5 (wh:=wh) hn);unfold Nd at HD;unfold OA;obtain⟨R,hR⟩:=ii (G2 S (Eo wh l));have HR:=hid hR;rw[<-hR];have bt:max (1:Int) (S:Int)=(S:Int):=mw
 clear hn az hl hR;go_enter func46,ntmps46;go_wp2_with fail;go_loopw [7,8,14] (fun u hv i wr=>∃ (k q h:Nat) (out:List Nat),k<=n/\q<=k/\h<=1010000/\i= .int .i64 k/\hv= .int .i64 h/\Hid (out.length=q)/\Hid ((k=0/\out= []/\h=0)∨(0<k/\∃done z,out=done++ [z]/\z<=k/\done++goG S h z ((Eo wh l).drop k)=R))/\Hid (wr.ownsRow w 3 1 u q (cZ .i64 out))/\Hid (Below w w wr)) (fun _ _ i _=>n-(intOf i).toNat)
 case atStart=>exact⟨0,0,0,[],mw,mw,mw,rfl,rfl,rfl, .inl ⟨rfl,rfl,rfl⟩,AI _ _ _ _,Ag _ _⟩
 case round=>
  obtain⟨k,q,h,out,hk,b0,hh,rfl,rfl,HQ,HC,HO,HB⟩:=hrel;obtain⟨uA,uc,rfl⟩:=bZ HO.out;have hz:=HB.out.size;by_cases bj:k<n
  ·obtain⟨b,bS,r,rfl,bN,hg,c0,c1,c2,c3⟩:=Row.rec (ha.below HB.out) HN.out bj;have D:=hid (fun wx=>HD.out wx r (Be hg));unfold Rec.val at D;have hx:=HX.out r (Be hg);have bh:=bl.out r (Be hg);have x0:(0:Int)<=(k:Int):=mw;have x1:(k:Int)<(n:Int):=mw;have bi:(CR wh r).length<=8017:=mw;have ah:=hid (Zp (wh:=wh) hg);generalize CR wh r=O at *;obtain⟨x,be⟩:=ii O.length;rw[<-be]at D bi ah;have s1:IntKind.i64.wrap ((h:Int)+(x:Int))=((h+x:Nat):Int):=m8;have s2:IntKind.i64.wrap ((0:Int)+(x:Int))=(x:Int):=m8;clear hg hx bh be;by_cases E:k=0∨S<h+x
   ·
    have ax:Hid (∃j,out=j/\j++goG S x 1 ((Eo wh l).drop (k+1))=R):=by
     rcases HC.out with ⟨h1,h2,h3⟩|⟨h1,done,z,h2,h3,h4⟩
     ·refine⟨[],h2,?_⟩;have e:=HR.out;have e2:=ah.out;rw[h1,Hd]at e2;rw[e2,G2]at e;rw[h1];exact e.symm
     ·refine⟨out,rfl,?_⟩;have hf:S<h+x:=(by rcases E with E|E;omega;exact E);rw[ah.out,goG,Ab hf]at h4;rw[h2,AE];exact h4
    have av:Hid (out++goG S x 1 ((Eo wh l).drop (k+1))=R):=(by obtain⟨d2,h1,h2⟩:=ax.out;rw[h1];exact h2);obtain⟨J,ac⟩:=ii (h+x);rw[<-ac]at s1 E;by_cases aw:q=0
    ·have gq:((q:Int)==0)=true:=(by simp[aw]);clear E ac ax HC aw;go_wp2_with fail;refine(D.out _).mono ?_;rintro e w1 ⟨v1,rfl,U,N⟩;obtain⟨A1,d1,rfl⟩:=bZ U;have ab:Hid (Below w w w1):=dZ N (aZ HB.out);have aa:Hid (w1.ownsRow w 3 1 (.slice uA q uc) q (cZ .i64 out)):=eZ (HO.out.alloc (.cells #[.int .u64 r.time, .int .u8 r.level, .string r.source, .string r.text] 43)) (fun y hy=>N.block y ky);have ay:=ab.out.size;obtain⟨z,ai⟩:∃z:Nat,z=0:=⟨_,rfl⟩;have HZ:=hid ai;have bg:z<=0:=mw;obtain⟨j,Z⟩:=ii out;obtain⟨q2,Q⟩:=ii q;have L:Hid (j.length=q2):=(by rw[Z,Q];exact HQ.out);have aq:=hid Z;have aj:=hid Q;have bd:q2<=k:=mw;clear U N D c0 c1 c2 c3 HO HB hz ai Z Q;go_wp2_with(at_builtin;refine iZ rfl (.tmp 33) (.tmp 34) 37 rfl w 3 j0 _ 1 8 underlying37 a3 ba a5 bb rfl ip _ _ _ mz (aa.out.alloc _) _ 1 1 [.int .i64 0] mz (Src.of_blk (g:=w1.heap.size) (Blk.made _ _ _) 1 1 1 rfl) mj pm mw oT ?_;intro v4 w4 M am ag;have Y:Hid (Below w w w4):=(aZ ab.out).grown am oT (fun y hy=>(Aj aa.out y hy).1);have G:Hid (w4.ownsRow w 3 1 v4 (q2+1) (cZ .i64 (j++ [z]))):=(by rw[aq.out,aj.out,Qo,HZ.out];exact M);have a0:=aj.out;subst a0;clear M am ag aa ab ay;have a6:=Y.out.size;obtain⟨g,cg,rfl,af,_⟩:=G.out.form mw;have ae:w4.cell? ⟨g,q2,none⟩=some (.int .i64 (z:Nat)):=OE G.out L.out;have bf:=(Lz.own_cells G.out (show q2<q2+1 by omega)).2.1;have an:Hid ((w4.setCell ⟨g,q2,none⟩ (.int .i64 (z+1:Nat))).ownsRow w 3 1 (.slice (some ⟨g,0,none⟩) (q2+1) cg) (q2+1) (cZ .i64 (j++ [z+1]))):=Og G.out L.out;have al:Hid (Below w w (w4.setCell ⟨g,q2,none⟩ (.int .i64 (z+1:Nat)))):=BW af Y.out;have u1:IntKind.i64.wrap (((q2+1:Nat):Int)-1)=(q2:Int):=m8;have a4:IntKind.i64.wrap ((q2:Int)+1-1)=(q2:Int):=m8;have u2:IntKind.i64.wrap ((z:Int)+1)=((z+1:Nat):Int):=m8;have y0:(0:Int)<=(q2:Int):=mw;have y1:(q2:Int)<((q2+1:Nat):Int):=mw);go_roundw
     case measure=>exact jo
     case rel=>exact jh
    ·have gq:((q:Int)==0)=false:=nc;have a9:¬k=0:=mw;have hf:S<J:=(by rcases E with E|E;exact absurd E a9;exact E);have gs:=ic ((S:Int)<J);have bk:=ic (S<J);clear E ac ax HC hf a9 aw;go_wp2_with fail;refine(D.out _).mono ?_;rintro e w1 ⟨v1,rfl,U,N⟩;obtain⟨A1,d1,rfl⟩:=bZ U;have ab:Hid (Below w w w1):=dZ N (aZ HB.out);have aa:Hid (w1.ownsRow w 3 1 (.slice uA q uc) q (cZ .i64 out)):=eZ (HO.out.alloc (.cells #[.int .u64 r.time, .int .u8 r.level, .string r.source, .string r.text] 43)) (fun y hy=>N.block y ky);have ay:=ab.out.size;obtain⟨z,ai⟩:∃z:Nat,z=0:=⟨_,rfl⟩;have HZ:=hid ai;have bg:z<=0:=mw;obtain⟨j,Z⟩:=ii out;obtain⟨q2,Q⟩:=ii q;have L:Hid (j.length=q2):=(by rw[Z,Q];exact HQ.out);have aq:=hid Z;have aj:=hid Q;have bd:q2<=k:=mw;clear U N D c0 c1 c2 c3 HO HB hz ai Z Q;go_wp2_with(at_builtin;refine iZ rfl (.tmp 33) (.tmp 34) 37 rfl w 3 j0 _ 1 8 underlying37 a3 ba a5 bb rfl ip _ _ _ mz (aa.out.alloc _) _ 1 1 [.int .i64 0] mz (Src.of_blk (g:=w1.heap.size) (Blk.made _ _ _) 1 1 1 rfl) mj pm mw oT ?_;intro v4 w4 M am ag;have Y:Hid (Below w w w4):=(aZ ab.out).grown am oT (fun y hy=>(Aj aa.out y hy).1);have G:Hid (w4.ownsRow w 3 1 v4 (q2+1) (cZ .i64 (j++ [z]))):=(by rw[aq.out,aj.out,Qo,HZ.out];exact M);have a0:=aj.out;subst a0;clear M am ag aa ab ay;have a6:=Y.out.size;obtain⟨g,cg,rfl,af,_⟩:=G.out.form mw;have ae:w4.cell? ⟨g,q2,none⟩=some (.int .i64 (z:Nat)):=OE G.out L.out;have bf:=(Lz.own_cells G.out (show q2<q2+1 by omega)).2.1;have an:Hid ((w4.setCell ⟨g,q2,none⟩ (.int .i64 (z+1:Nat))).ownsRow w 3 1 (.slice (some ⟨g,0,none⟩) (q2+1) cg) (q2+1) (cZ .i64 (j++ [z+1]))):=Og G.out L.out;have al:Hid (Below w w (w4.setCell ⟨g,q2,none⟩ (.int .i64 (z+1:Nat)))):=BW af Y.out;have u1:IntKind.i64.wrap (((q2+1:Nat):Int)-1)=(q2:Int):=m8;have a4:IntKind.i64.wrap ((q2:Int)+1-1)=(q2:Int):=m8;have u2:IntKind.i64.wrap ((z:Int)+1)=((z+1:Nat):Int):=m8;have y0:(0:Int)<=(q2:Int):=mw;have y1:(q2:Int)<((q2+1:Nat):Int):=mw);go_roundw
     case measure=>exact jo
     case rel=>exact jh
   ·
    have bc:¬k=0:=mw;have hf:¬S<h+x:=mw
    obtain⟨j,z,ak,bx,ar⟩:∃done z,out=done++ [z]/\z<=k/\done++goG S h z ((Eo wh l).drop k)=R:=by
     rcases HC.out with ⟨h1,_,_⟩|⟨_,h2⟩
     ·exact absurd h1 bc
     ·exact h2
    rw[ah.out,goG,Aa hf]at ar;have a1:=HQ.out;rw[ak,Ae]at a1;obtain⟨q2,Q⟩:=ii j.length;have bn:q=q2+1:=(by rw[Q,<-a1];rfl);subst bn;have gq:(((q2+1:Nat):Int)==0)=false:=nc;have bC:((q2:Int)+1==0)=false:=nc;obtain⟨J,ac⟩:=ii (h+x);rw[<-ac]at s1 hf ar;have gs:=ig ((S:Int)<J);have bk:=ig (S<J);have bp:J<=1010000:=mw;have bm:=hid ar;have au:=hid ak;have L:Hid (j.length=q2):=Q.symm;clear ar ak a1 Q hf E bc ac HC ah;go_wp2_with fail;refine(D.out _).mono ?_;rintro e w4 ⟨v1,rfl,U,N⟩;obtain⟨A1,d1,rfl⟩:=bZ U;have Y:Hid (Below w w w4):=dZ N (aZ HB.out);have G:Hid (w4.ownsRow w 3 1 (.slice uA (q2+1) uc) (q2+1) (cZ .i64 (j++ [z]))):=(by rw[<-au.out];exact eZ (HO.out.alloc (.cells #[.int .u64 r.time, .int .u8 r.level, .string r.source, .string r.text] 43)) (fun y hy=>N.block y ky));clear U N D c0 c1 c2 c3 HO HB hz au HQ;have a6:=Y.out.size;obtain⟨g,cg,bq,af,_⟩:=G.out.form mw;injection bq with hg91 hg92 hg93;subst hg91 hg93;have ae:w4.cell? ⟨g,q2,none⟩=some (.int .i64 (z:Nat)):=OE G.out L.out;have bf:=(Lz.own_cells G.out (show q2<q2+1 by omega)).2.1;have an:Hid ((w4.setCell ⟨g,q2,none⟩ (.int .i64 (z+1:Nat))).ownsRow w 3 1 (.slice (some ⟨g,0,none⟩) (q2+1) uc) (q2+1) (cZ .i64 (j++ [z+1]))):=Og G.out L.out;have al:Hid (Below w w (w4.setCell ⟨g,q2,none⟩ (.int .i64 (z+1:Nat)))):=BW af Y.out;have u1:IntKind.i64.wrap (((q2+1:Nat):Int)-1)=(q2:Int):=m8;have a4:IntKind.i64.wrap ((q2:Int)+1-1)=(q2:Int):=m8;have u2:IntKind.i64.wrap ((z:Int)+1)=((z+1:Nat):Int):=m8;have y0:(0:Int)<=(q2:Int):=mw;have y1:(q2:Int)<((q2+1:Nat):Int):=mw;go_wp2_with fail;go_roundw
    case measure=>exact jo
    case rel=>go_light;exact⟨k+1,q2+1,J,j++ [z+1],mw,mw,bp,iu,iu,oy, .inr ⟨mw,j,z+1,rfl,mw,bm.out⟩,an.out,al.out⟩
  ·obtain rfl:k=n:=by omega
   have HF:Hid (out=R):=by
    rcases HC.out with ⟨h1,h2,_⟩|⟨_,done,z,h2,_,h4⟩
    ·have e:=HR.out;have e2:=HE.out;rw[h1,Hd]at e2;rw[e2,G2]at e;rw[h2];exact e.symm
    ·rw[HE.out,goG]at h4;rw[h2];exact h4
   clear HC;go_wp2_with fail;go_ret;exact⟨_,rfl,by rw[<-HF.out,HQ.out];exact HO.out,HB.out⟩
end Recs
namespace Nums
open Go.RowKit Mem Own Canon NumPut
open Crc (EQ Gu Fy)
def FE(ls:List Nat):ByteArray:=⟨(ls.map UInt8.ofNat).toArray⟩
theorem gX(s:ByteArray):FE (sB s)=s:=by
 unfold sB FE;simp only[List.map_map];have:(UInt8.ofNat ∘ UInt8.toNat)=id:=by funext x;simp
 rw[this];simp
theorem fW{B:Nat}{ls:List Nat}(hr:Row w B A n 1 (jZ .u8 ls))(hn:ls.length=n):
 (convert 28 9 (.slice A n c)).run prog w= .ok (.string (FE ls)) w:=by
 have e:FE ls=strOfNums (ls.map Int.ofNat):=by unfold FE strOfNums;rw[List.map_map];rfl
 rcases Nat.eq_zero_or_pos n with h0|h0
 ·subst h0;obtain rfl:=Vt.1 hn;cases A with
  |none=>exact run_convert_bytes_nil w _ _ underlying28 underlying5 _ _ _ underlying9
  |some a=>rw[run_convert_bytes_string w _ _ _ _ _ _ underlying28 underlying5 underlying9];rw[run_bytesToString w a 0 c [] (run_loadCells_list (P:=prog) w a [] (fun j v hj=>by cases hj))];rfl
 ·obtain⟨b,h,rfl,_,hc⟩:=hr h0;rw[e];refine run_convert_bytes_arg w _ _ underlying28 underlying5 b h n c (ls.map Int.ofNat) (by simpa using hn) (fun i hi=> ?_) _ underlying9;have:=hc i 0 hi mw;rw[CM,Bf]at this;rw[this];unfold jZ;congr 2;simp[List.getD_eq_getElem?_getD,List.getElem?_map,List.getElem?_eq_getElem (show i<ls.length by omega)]
theorem left_any(w:World)(g base:Nat)(bs:List Nat)(A:Option Addr)(c at_:Nat)(er:Int)(h:Cur w g base bs A c at_ er):
 Calls prog 191 #[.pointer (some ⟨g,0,none⟩)] w fun e w'=>e= .returned (.int .i64 (bs.length-at_:Nat))/\∃q,w'=w.drewN q:=by
 have D:=hid (rest_any w g base bs A c at_ er h);clear h;generalize bs.length-at_=m at *;go_enter func191,ntmps191;go_wp2_with fail;refine D.out.mono ?_;rintro e w2 ⟨rfl,q,rfl⟩;go_wp2_with fail;go_ret;exact⟨rfl,q,rfl⟩
theorem Wl(w:World)(g base ob:Nat)(bs:List Nat)(A:Option Addr)(c at_:Nat)(J:bs.length<=100000)(h8:∀x∈bs,x<=255)(h:Cur w g base bs A c at_ 0)(i:Blk w ob 41 #[.int .u64 0]):
 Calls prog 292 #[.slice (AQ A at_ c 1) (bs.length-at_) (c-at_), .pointer (some ⟨ob,0,none⟩)] w fun e w'=>∃ (k:Nat) (e2:Int),e= .returned (.tuple #[.int .i64 k,e2])/\k<=100000/\Cur w' g base bs A c at_ 0/\
  (Kept (fun x=>x≠ob) w w'/\k=(Bg (bs.drop at_) 0 0).2.1/\e2=(Bg (bs.drop at_) 0 0).2.2/\Blk w' ob 41 #[.int .u64 (Bg (bs.drop at_) 0 0).1]):=by
 have f1:=i.frozen 0;have d1:=i.ia 0;have z:=Em h.own;have j:=EQ (own_row h.own) h.le z.2;have y:∀x∈bs.drop at_,x<=255:=fun x hx=>h8 x (BY hx);have D:=SQ w (AQ A at_ c 1) (bs.length-at_) (c-at_) (bs.drop at_) (by rw[AO]) mw y j;have E:=J1 (bs.drop at_) 0 0 y mw oK;have hk:(Bg (bs.drop at_) 0 0).2.1<=100000:=by have:=E.2.1;rw[AO]at this;omega
 generalize Bg (bs.drop at_) 0 0=R at *;have G:=Blk.apart i h.blk ip;have D:=hid D;have H:=hid h;have HO:=hid i;generalize AQ A at_ c 1=A1 at *;clear j y E h i z;go_enter func292,ntmps292;go_wp2_with fail;refine D.out.mono ?_;rintro e w1 ⟨rfl,rfl⟩;go_wp2_with fail;go_ret2;refine⟨R.2.1,R.2.2,rfl,hk,?_,(Kept.refl _ _).set (fun h=>h rfl) _,rfl,rfl,HO.out.set 0 _⟩;exact⟨H.out.blk.far (fun e=>G e.symm) _,BS H.out.own (gZ H.out.own HO.out ip) _,H.out.le,H.out.lo⟩
theorem num_any(w:World)(g base:Nat)(bs:List Nat)(A:Option Addr)(c at_:Nat)(er:Int)(Z:bs.length<=100000)(h8:∀x∈bs,x<=255)(h:Cur w g base bs A c at_ er):
 Calls prog 243 #[.pointer (some ⟨g,0,none⟩)] w fun e w'=>e= .returned (.int .u64 (G5 bs at_ er:Nat))/\Cur w' g base bs A c (Ip bs at_ er) (Im bs at_ er)/\Kept (By g w) w w':=by
 have ag:=h.blk.lt;have h2:Cur (w.alloc (.cells #[.int .u64 0] 41)) g base bs A c at_ er:=(h.step (aZ (Ag _ _)));have M:Blk (w.alloc (.cells #[.int .u64 0] 41)) w 41 #[.int .u64 0]:=Blk.made _ _ _;have N:Kept (fun x=>x<w.heap.size/\x≠g) w (w.alloc (.cells #[.int .u64 0] 41)):=Kept.of_below (by(repeat (with_reducible first|exact Ag _ _|assumption|refine Ar ?_ |refine below_drewN ?_ _|refine sZ ?_ |refine aZ ?_ |refine dZ im ?_ |refine belA ?_ |refine tZ im ?_)):Below w w _) (fun x hx=>hx.1);have ah:=h.le;unfold By;by_cases he:er=0
 ·subst he;have ac:∀L wx,(callFunc 292 L).run prog wx= .ok (.enter 292 L) wx:=by intro L wx;simp[callFunc,go_sem,func292];rfl
  have D:=fun w2 (hc2:Cur w2 g base bs A c at_ 0) (M:Blk w2 w 41 #[.int .u64 0])=>Mf w2 g base bs A c at_ hc2 Z 292 #[.pointer (some ⟨w,0,none⟩)]
   (fun k e2 w'=>Kept (fun x=>x≠w.heap.size) w2 w'/\k=(Bg (bs.drop at_) 0 0).2.1/\e2=(Bg (bs.drop at_) 0 0).2.2/\Blk w' w 41 #[.int .u64 (Bg (bs.drop at_) 0 0).1]) ac
   (fun q=>(Wl (w2.drewN q) g base w bs A c at_ Z h8 (hc2.drewN q) (M.drewN q)).mono fun e w' ⟨k,e2,h1,h2,h3,h4⟩=>⟨k,e2,h1,h2,h3,⟨⟨h4.1.os,h4.1.tape,h4.1.output,h4.1.size,h4.1.block⟩,h4.2⟩⟩)
  have D:=hid (D _ h2 M);have ab:∀x∈bs.drop at_,x<=255:=fun x hx=>h8 x (BY hx);have Q:=J1 (bs.drop at_) 0 0 ab mw oK;rw[AO]at Q;have eV:G5 bs at_ 0=(Bg (bs.drop at_) 0 0).1:=Aa oK;have eA:Ip bs at_ 0=at_+(Bg (bs.drop at_) 0 0).2.1:=Aa oK;have eE:Im bs at_ 0=(Bg (bs.drop at_) 0 0).2.2:=Aa oK;rw[eV,eA,eE];generalize Bg (bs.drop at_) 0 0=R at *;have HK:=hid N;have ae:w.heap.size≠g:=mw
  have aa:=hid Q;clear ac h2 M N ab Q eV eA eE;by_cases hR:R.2.2=0
  ·have af:at_+R.2.1<=bs.length:=(by have:=aa.out.2.1;omega);go_enter func243,ntmps243;go_wp2_with fail;refine D.out.mono ?_;rintro e w4 ⟨k,e2,w3,⟨i,z,E,y⟩,J,j⟩;rcases j with ⟨h0,_,_⟩|⟨_,rfl,rfl⟩
   ·exact absurd (E.trans hR) h0
   ·have G:Hid (Kept (fun x=>x<w.heap.size/\x≠g) w w3):=HK.out.trans ⟨i.os,i.tape,i.output,i.size,fun x hx=>i.block x mw⟩;have hB:=y.far (fun e=>ae e) (p:=⟨g,1,none⟩) (.int .i64 (at_+k:Nat));have d0:=hB.ia 0;have HC:=hid (J.setAt (at_+k) mw);rw[z]at HC;have U:Hid (Kept (fun x=>x<w.heap.size/\x≠g) w (w3.setCell ⟨g,1,none⟩ (.int .i64 (at_+k:Nat)))):=G.out.set (fun h=>h.2 rfl) _;rw[<-z]at HC;have Y:Hid (Cur (w3.setCell ⟨g,1,none⟩ (.int .i64 (at_+k:Nat))) g base bs A c (at_+R.2.1) R.2.2):=nJ;generalize w3.setCell ⟨g,1,none⟩ (.int .i64 (at_+k:Nat))=w5 at *;clear hB y J i D G HK z E HC hR;go_wp2_with fail;go_ret;exact⟨rfl,Y.out,U.out⟩
  ·have hz:=aa.out.2.2.2.1 hR;go_enter func243,ntmps243;go_wp2_with fail;refine D.out.mono ?_;rintro e w4 ⟨k,e2,w3,⟨i,z,E,y⟩,J,j⟩;rcases j with ⟨_,rfl,rfl⟩|⟨h0,_,_⟩
   ·have G:Hid (Kept (fun x=>x<w.heap.size/\x≠g) w w3):=HK.out.trans ⟨i.os,i.tape,i.output,i.size,fun x hx=>i.block x mw⟩;have Y:Hid (Cur (w3.setCell ⟨g,2,none⟩ (.int .i64 e2)) g base bs A c (at_+R.2.1) R.2.2):=(by rw[hz.2,<-E];exact J.setErr e2);have U:Hid (Kept (fun x=>x<w.heap.size/\x≠g) w (w3.setCell ⟨g,2,none⟩ (.int .i64 e2))):=G.out.set (fun h=>h.2 rfl) _;generalize w3.setCell ⟨g,2,none⟩ (.int .i64 e2)=w5 at *;have HZ:=hid hz.1;clear y J i D G HK z E hR hz;go_wp2_with fail;go_ret;exact⟨by rw[HZ.out];rfl,Y.out,U.out⟩
   ·exact absurd (E.symm.trans h0) hR
 ·have D:=hid (L9 _ g base bs A c at_ er h2 he (.func (.func 292) #[] #[.pointer (some ⟨w,0,none⟩)]));have eV:G5 bs at_ er=0:=Ab he;have eA:Ip bs at_ er=at_:=Ab he;have eE:Im bs at_ er=er:=Ab he;rw[eV,eA,eE];have HK:=hid N;have HC:=hid h2;clear h2 M N he eV eA eE;go_enter func243,ntmps243;go_wp2_with fail;refine D.out.mono ?_;rintro e w4 ⟨rfl,rfl⟩;go_wp2_with fail;go_ret;exact⟨rfl,HC.out,HK.out⟩
end Nums
namespace Nums
open Go.RowKit Mem Own Canon NumPut
open Crc (EQ Gu Fy)
def Cf(most:Nat)(ls:List Nat):List Nat×Nat×Int:=
 if(Bx most ls).2.2≠0 then([],0,(Bx most ls).2.2)else if ls.length-(Bx most ls).2.1<(Bx most ls).1 then([],0,1)else((ls.drop (Bx most ls).2.1).take (Bx most ls).1,(Bx most ls).2.1+(Bx most ls).1,0)
theorem Md(most:Nat)(ls:List Nat)(h8:∀c∈ls,c<=255):(Cf most ls).1.length<=most/\(Cf most ls).2.1<=ls.length/\((Cf most ls).2.2=0->1<=(Cf most ls).2.1)/\((Cf most ls).2.2≠0->(Cf most ls).1= []/\(Cf most ls).2.1=0)/\(∀x∈(Cf most ls).1,x<=255)/\0<=(Cf most ls).2.2/\(Cf most ls).2.2<=6:=by
 have h:=G8 most ls h8;unfold Cf;split
 ·rename_i he;exact⟨oK,oK,fun h0=>absurd h0 he,fun _=>⟨rfl,rfl⟩,fun x hx=>oM,h.2.2.2.2.1,h.2.2.2.2.2⟩
 ·split
  ·exact⟨oK,oK,fun h0=>absurd h0 ip,fun _=>⟨rfl,rfl⟩,fun x hx=>oM,oK,oK⟩
  ·rename_i he hl;have h1:=h.2.2.1 mw;exact⟨by rw[AZ];have:=h.1;omega,by have:=h.2.1;simp only;omega,fun _=>oO,fun h0=>absurd rfl h0,fun x hx=>h8 x (BY (CV hx)),oK,oK⟩
def Ey(most:Nat)(bs:List Nat)(at_:Nat)(er:Int):List Nat:=if er≠0 then []else(Cf most (bs.drop at_)).1
def Dw(most:Nat)(bs:List Nat)(at_:Nat)(er:Int):Nat:=if er≠0 then at_ else at_+(Cf most (bs.drop at_)).2.1
def Dv(most:Nat)(bs:List Nat)(at_:Nat)(er:Int):Int:=if er≠0 then er else(Cf most (bs.drop at_)).2.2
theorem aF(w:World)(g base mb ob:Nat)(bs:List Nat)(A:Option Addr)(c at_ most:Nat)(ac:bs.length<=100000)(h8:∀x∈bs,x<=255)(J:most<=1000000000)(h:Cur w g base bs A c at_ 0)(Y:Blk w mb 3 #[most])(E:Blk w ob 9 #[.string ⟨#[]⟩]):
 Calls prog 301 #[.slice (AQ A at_ c 1) (bs.length-at_) (c-at_), .pointer (some ⟨mb,0,none⟩), .pointer (some ⟨ob,0,none⟩)] w fun e w'=>∃ (k:Nat) (e2:Int),e= .returned (.tuple #[.int .i64 k,e2])/\k<=100000/\Cur w' g base bs A c at_ 0/\
  (Kept (fun x=>x<w.heap.size/\x≠ob) w w'/\k=(Cf most (bs.drop at_)).2.1/\e2=(Cf most (bs.drop at_)).2.2/\Blk w' ob 9 #[.string (FE (Cf most (bs.drop at_)).1)]):=by
 have d0:=Y.ia 0;have f1:=E.frozen 0;have d1:=E.ia 0;have M:=Em h.own;have ag:=h.le;have z:=EQ (own_row h.own) h.le M.2;have N:∀x∈bs.drop at_,x<=255:=fun x hx=>h8 x (BY hx);have D:=RU w (AQ A at_ c 1) (bs.length-at_) (c-at_) (bs.drop at_) most J (by rw[AO]) mw N z;have y:=G8 most (bs.drop at_) N;rw[AO]at y;have an:bs.length-at_<=100000:=mw
 have aa:bs.length-at_<=c-at_:=by have:=M.2;omega
 unfold Cf;rw[show(bs.drop at_).length=bs.length-at_ from AO];have U:(bs.drop at_).length=bs.length-at_:=AO;have Z:=Blk.apart E h.blk ip;have ah:mb≠ob:=by intro e;subst e;rw[d0]at d1;cases d1
 have H:=hid h;have HO:=hid E;generalize bs.drop at_=L at *;generalize bs.length-at_=m at *;generalize AQ A at_ c 1=A1 at *;generalize c-at_=cc at *;generalize af:Bx most L=R at *;have HR:=hid z;have HL:=hid U;have D:=hid D;have al:=y.1;have aq:=y.2.1;have ak:=y.2.2.2.2.1;have aj:=y.2.2.2.2.2;clear z N h E Y M U af y ag ac h8;obtain⟨x,n,er⟩:=R;simp only at *;by_cases he:er=0
 ·subst he;rw[Aa oK];have ai:IntKind.i64.wrap ((m:Int)-(n:Int))=((m-n:Nat):Int):=by rw[Aq _ mw];omega
  by_cases G:m-n<x
  ·rw[Ab G];have g1:=ic (((m-n:Nat):Int)<(x:Int));have g2:=ic (m-n<x);clear G;go_enter func301,ntmps301;go_wp2_with fail;refine D.out.mono ?_;rintro e w1 ⟨rfl,rfl⟩;go_wp2_with fail;go_ret2;exact⟨0,1,rfl,mw,H.out,Kept.refl _ _,rfl,rfl,HO.out⟩
  ·rw[Aa G];have g1:=ig (((m-n:Nat):Int)<(x:Int));have g2:=ig (m-n<x);have s2:IntKind.i64.wrap ((n:Int)+(x:Int))=((n:Int)+(x:Int)):=m4;have ks:=fun wx=>Pm (P:=prog) (t:=28) (s:=1) underlying28 (fun _=>by kernel_rfl) A1 m cc .i64 .i64 (n:Int) ((n:Int)+(x:Int)) n (n+x) rfl mw mw mw wx;rw[IS]at ks;have ab:((L.drop n).take x).length=x:=by rw[AZ,AO,HL.out];omega
   have Q:Hid (∀wx,Below w w wx->(convert 28 9 (.slice (AQ A1 n cc 1) x (cc-n))).run prog wx= .ok (.string (FE ((L.drop n).take x))) wx):=fun wx hb=>
    fW ((HR.out.below hb).cut n x mw aa (fun i j hi hj=>by
     obtain rfl:j=0:=mw
     simp only[jZ,List.getD_eq_getElem?_getD,List.getElem?_take,List.getElem?_drop];rw[Ab hi])) ab
   have ae:n+x<=100000:=mw;generalize (L.drop n).take x=T at *;have cv:=Q.out w (Ag _ _);have am:=Q.out w.drew pn;clear G HR HL;go_enter func301,ntmps301;go_wp2_with fail;refine D.out.mono ?_;rintro e w1 ⟨rfl,rfl⟩;go_wp2_with fail;go_ret2;refine⟨n+x,0,rfl,ae,?_,(Kept.refl _ _).set (fun h=>h.2 rfl) _,rfl,rfl,HO.out.set 0 _⟩;exact⟨H.out.blk.far (fun e=>Z e.symm) _,BS H.out.own (gZ H.out.own HO.out ip) _,H.out.le,H.out.lo⟩
 ·rw[Ab he];have g1:(er != 0)=true:=by simpa using he
  clear he HR HL;go_enter func301,ntmps301;go_wp2_with fail;refine D.out.mono ?_;rintro e w1 ⟨rfl,rfl⟩;go_wp2_with fail;go_ret2;exact⟨0,er,rfl,mw,H.out,Kept.refl _ _,rfl,rfl,HO.out⟩
theorem Od(w:World)(g base:Nat)(bs:List Nat)(A:Option Addr)(c at_:Nat)(er:Int)(most:Nat)(ab:bs.length<=100000)(h8:∀x∈bs,x<=255)(U:most<=1000000000)(h:Cur w g base bs A c at_ er):
 Calls prog 251 #[.pointer (some ⟨g,0,none⟩),most] w fun e w'=>e= .returned (.string (FE (Ey most bs at_ er)))/\Cur w' g base bs A c (Dw most bs at_ er) (Dv most bs at_ er)/\Kept (By g w) w w':=by
 have ak:=h.blk.lt;have h2:Cur ((w.alloc (.cells #[most] 3)).alloc (.cells #[.string ⟨#[]⟩] 9)) g base bs A c at_ er:=(h.step (aZ (Ag _ _))).step (aZ (Ag _ _));have J:Blk ((w.alloc (.cells #[most] 3)).alloc (.cells #[.string ⟨#[]⟩] 9)) w 3 #[most]:=(Blk.made _ _ _).alloc _;have N:Blk ((w.alloc (.cells #[most] 3)).alloc (.cells #[.string ⟨#[]⟩] 9)) (w.heap.size+1) 9 #[.string ⟨#[]⟩]:=Blk.made_at _ _ _ oK;have Q:Kept (fun x=>x<w.heap.size/\x≠g) w ((w.alloc (.cells #[most] 3)).alloc (.cells #[.string ⟨#[]⟩] 9)):=Kept.of_below (by(repeat (with_reducible first|exact Ag _ _|assumption|refine Ar ?_ |refine below_drewN ?_ _|refine sZ ?_ |refine aZ ?_ |refine dZ im ?_ |refine belA ?_ |refine tZ im ?_)):Below w w _) (fun x hx=>hx.1);have aj:=h.le;have af:((w.alloc (.cells #[most] 3)).alloc (.cells #[.string ⟨#[]⟩] 9)).heap.size=w.heap.size+2:=oK
 unfold By;by_cases he:er=0
 ·subst he;have ah:∀M wx,(callFunc 301 M).run prog wx= .ok (.enter 301 M) wx:=by intro M wx;simp[callFunc,go_sem,func301];rfl
  have D:=fun w2 (hc2:Cur w2 g base bs A c at_ 0) (J:Blk w2 w 3 #[most]) (N:Blk w2 (w.heap.size+1) 9 #[.string ⟨#[]⟩])=>Mf w2 g base bs A c at_ hc2 ab 301 #[.pointer (some ⟨w,0,none⟩), .pointer (some ⟨w.heap.size+1,0,none⟩)]
   (fun k e2 w'=>Kept (fun x=>x<w2.heap.size/\x≠w.heap.size+1) w2 w'/\k=(Cf most (bs.drop at_)).2.1/\e2=(Cf most (bs.drop at_)).2.2/\Blk w' (w.heap.size+1) 9 #[.string (FE (Cf most (bs.drop at_)).1)]) ah
   (fun q=>(aF (w2.drewN q) g base w (w.heap.size+1) bs A c at_ most ab h8 U (hc2.drewN q) (J.drewN q) (N.drewN q)).mono fun e w' ⟨k,e2,h1,h2,h3,h4⟩=>⟨k,e2,h1,h2,h3,⟨⟨h4.1.os,h4.1.tape,h4.1.output,h4.1.size,h4.1.block⟩,h4.2⟩⟩)
  have D:=hid (D _ h2 J N);have ag:∀x∈bs.drop at_,x<=255:=fun x hx=>h8 x (BY hx);have Y:=Md most (bs.drop at_) ag;rw[AO]at Y;have eV:Ey most bs at_ 0=(Cf most (bs.drop at_)).1:=Aa oK;have eA:Dw most bs at_ 0=at_+(Cf most (bs.drop at_)).2.1:=Aa oK;have eE:Dv most bs at_ 0=(Cf most (bs.drop at_)).2.2:=Aa oK;rw[eV,eA,eE];generalize Cf most (bs.drop at_)=R at *;have HK:=hid Q;have ac:w.heap.size+1≠g:=mw
  have ae:=hid Y;clear ah h2 J N Q ag Y eV eA eE;by_cases hR:R.2.2=0
  ·have ai:at_+R.2.1<=bs.length:=(by have:=ae.out.2.1;omega);go_enter func251,ntmps251;go_wp2_with fail;refine D.out.mono ?_;rintro e w4 ⟨k,e2,w3,⟨i,z,E,j⟩,L,y⟩;rcases y with ⟨h0,_,_⟩|⟨_,rfl,rfl⟩
   ·exact absurd (E.trans hR) h0
   ·have G:Hid (Kept (fun x=>x<w.heap.size/\x≠g) w w3):=HK.out.trans ⟨i.os,i.tape,i.output,i.size,fun x hx=>i.block x ⟨by have:=hx.1;rw[af];omega,mg⟩⟩;have hB:=j.far (fun e=>ac e) (p:=⟨g,1,none⟩) (.int .i64 (at_+k:Nat));have d0:=hB.ia 0;have HC:=hid (L.setAt (at_+k) mw);rw[z]at HC;have Z:Hid (Kept (fun x=>x<w.heap.size/\x≠g) w (w3.setCell ⟨g,1,none⟩ (.int .i64 (at_+k:Nat)))):=G.out.set (fun h=>h.2 rfl) _;rw[<-z]at HC;have aa:Hid (Cur (w3.setCell ⟨g,1,none⟩ (.int .i64 (at_+k:Nat))) g base bs A c (at_+R.2.1) R.2.2):=nJ;generalize w3.setCell ⟨g,1,none⟩ (.int .i64 (at_+k:Nat))=w5 at *;clear hB j L i D G HK z E HC hR;go_wp2_with fail;go_ret;exact⟨rfl,aa.out,Z.out⟩
  ·have hz:=ae.out.2.2.2.1 hR;go_enter func251,ntmps251;go_wp2_with fail;refine D.out.mono ?_;rintro e w4 ⟨k,e2,w3,⟨i,z,E,j⟩,L,y⟩;rcases y with ⟨_,rfl,rfl⟩|⟨h0,_,_⟩
   ·have G:Hid (Kept (fun x=>x<w.heap.size/\x≠g) w w3):=HK.out.trans ⟨i.os,i.tape,i.output,i.size,fun x hx=>i.block x ⟨by have:=hx.1;rw[af];omega,mg⟩⟩;have aa:Hid (Cur (w3.setCell ⟨g,2,none⟩ (.int .i64 e2)) g base bs A c (at_+R.2.1) R.2.2):=(by rw[hz.2,<-E];exact L.setErr e2);have Z:Hid (Kept (fun x=>x<w.heap.size/\x≠g) w (w3.setCell ⟨g,2,none⟩ (.int .i64 e2))):=G.out.set (fun h=>h.2 rfl) _;have hB:=j.far (fun e=>ac e) (p:=⟨g,2,none⟩) (.int .i64 e2);have d0:=hB.ia 0;generalize w3.setCell ⟨g,2,none⟩ (.int .i64 e2)=w5 at *;clear hB j L i D G HK z E hR hz;go_wp2_with fail;go_ret;exact⟨rfl,aa.out,Z.out⟩
   ·exact absurd (E.symm.trans h0) hR
 ·have D:=hid (L9 _ g base bs A c at_ er h2 he (.func (.func 301) #[] #[.pointer (some ⟨w,0,none⟩), .pointer (some ⟨w.heap.size+1,0,none⟩)]));have eV:Ey most bs at_ er= []:=Ab he;have eA:Dw most bs at_ er=at_:=Ab he;have eE:Dv most bs at_ er=er:=Ab he;rw[eV,eA,eE];have HK:=hid Q;have HC:=hid h2;clear h2 J N Q he eV eA eE;go_enter func251,ntmps251;go_wp2_with fail;refine D.out.mono ?_;rintro e w4 ⟨rfl,rfl⟩;go_wp2_with fail;go_ret;exact⟨rfl,HC.out,HK.out⟩
end Nums
namespace Nums
open Go.RowKit Mem Own Canon NumPut
theorem intA_le{bs:List Nat}(h8:∀x∈bs,x<=255){at_:Nat}(er:Int)(h:at_<=bs.length):zZ most bs at_ er<=bs.length:=by
 unfold zZ;split
 ·exact h
 ·have:=(G8 most (bs.drop at_) (fun x hx=>h8 x (BY hx))).2.1;rw[AO]at this;omega
theorem FQ{bs:List Nat}(h8:∀x∈bs,x<=255)(at_:Nat)(er:Int):AY most bs at_ er<=most:=by
 unfold AY;split
 ·omega
 ·exact(G8 most (bs.drop at_) (fun x hx=>h8 x (BY hx))).1
end Nums
namespace Nums
open Go.RowKit Mem Own Canon
def Gn(bs:List Nat)(at_:Nat)(er:Int):Int:=if at_<bs.length then FX er 2 else er
theorem Tc(w:World)(g base:Nat)(bs:List Nat)(A:Option Addr)(c at_:Nat)(er:Int)(h:Cur w g base bs A c at_ er):
 Calls prog 114 #[.pointer (some ⟨g,0,none⟩)] w fun e w'=>e= .returned (.int .i64 (Gn bs at_ er))/\Cur w' g base bs A c at_ (Gn bs at_ er)/\Kept (fun x=>x≠g) w w':=by
 have DL:=hid (left_any w g base bs A c at_ er h);have H:=hid h;obtain⟨R,hR⟩:=ii (Gn bs at_ er);rw[<-hR];unfold Gn at hR;by_cases j:at_<bs.length
 ·rw[Ab j]at hR;have gl:=ic ((0:Int)<((bs.length-at_:Nat):Int))
  have L:=ic (0<bs.length-at_)
  have N:=ic (at_<bs.length)
  have HR:=hid hR;obtain⟨m,hm⟩:=ii (bs.length-at_);rw[<-hm]at DL gl L;clear h hR j hm;go_enter func114,ntmps114;go_wp2_with fail;refine DL.out.mono ?_;rintro e w1 ⟨rfl,q,hq⟩;have y:Hid (Cur w1 g base bs A c at_ er):=by rw[hq];exact H.out.drewN q
  have z:Hid (Kept (fun x=>x≠g) w w1):=nQ
  clear hq;go_wp2_with fail;refine(GM w1 g base bs A c at_ er 2 y.out).mono ?_;rintro e w2 ⟨rfl,i,G⟩;rw[<-HR.out]at i;have M:=hid i;have J:Hid (Kept (fun x=>x≠g) w w2):=z.out.trans G;have DE:=hid (Dl w2 g base bs A c at_ R i);clear i G HR;go_wp2_with fail;refine DE.out.mono ?_;rintro e w3 ⟨rfl,rfl⟩;go_wp2_with fail;go_ret;exact⟨rfl,M.out,J.out⟩
 ·rw[Aa j]at hR;subst hR;have E:bs.length-at_=0:=by omega
  rw[E]at DL;have gl:=ig ((0:Int)<((0:Nat):Int))
  clear h j E;go_enter func114,ntmps114;go_wp2_with fail;refine DL.out.mono ?_;rintro e w1 ⟨rfl,q,hq⟩;have y:Hid (Cur w1 g base bs A c at_ R):=by rw[hq];exact H.out.drewN q
  have z:Hid (Kept (fun x=>x≠g) w w1):=nQ
  have DE:=hid (Dl w1 g base bs A c at_ R y.out);clear hq;go_wp2_with fail;refine DE.out.mono ?_;rintro e w3 ⟨rfl,rfl⟩;go_wp2_with fail;go_ret;exact⟨rfl,y.out,z.out⟩
end Nums
namespace Recs
open NumPut
def FN(d:Nat):Nat:=if d<9223372036854775808 then 2*d else 36893488147419103231-2*d
def Iw(a b:Nat):Nat:=(a+18446744073709551616-b) % 18446744073709551616
theorem Na{d:Nat}(h:d<18446744073709551616):FN d<18446744073709551616:=by unfold FN;split<;>omega
theorem MZ(a b:Nat):Iw a b<18446744073709551616:=Nat.mod_lt _ mw
def Ca(g:Nat->Nat->List Nat):Nat->List Nat->List Nat
 |_,[]=> []
 |was,t :: l=>g was t++Ca g t l
theorem Qp(g:Nat->Nat->List Nat):∀ (l:List Nat) (h t:Nat),Ca g h (l++ [t])=Ca g h l++g (l.getLast?.getD h) t
 | [],h,t=>by simp[Ca]
 |x :: l,h,t=>by
  rw[DH,Ca,Qp g l x t,Ca,AE]
  have e:(x :: l).getLast?.getD h=l.getLast?.getD x:=by
   cases l with
   |nil=>rfl
   |cons z s=>simp[List.getLast?_cons]
  rw[e]
theorem TP{g:Nat->Nat->List Nat}(h:∀a b,(g a b).length<=10):∀ (l:List Nat) (i:Nat),(Ca g i l).length<=10*l.length
 | [],_=>by simp[Ca]
 |t :: l,i=>by have:=TP h l t;have:=h i t;rw[Ca,Ae,AD];omega
theorem Qe{g:Nat->Nat->List Nat}(h:∀a b,∀y∈g a b,y<=255):∀ (l:List Nat) (i:Nat),∀y∈Ca g i l,y<=255
 | [],_,y,hy=>by simp[Ca]at hy
 |t :: l,i,y,hy=>by
  rw[Ca]at hy;rcases BF.1 hy with hy|hy
  ·exact h i t y hy
  ·exact Qe h l t y hy
def stepT(was t:Nat):List Nat:=fZ (FN (Iw t was))
theorem Zl(a b:Nat):(stepT a b).length<=10:=qZ (Na (MZ b a))
theorem V9(a b:Nat):∀y∈stepT a b,y<=255:=fun y hy=>CU _ y hy
def lead(x:Nat):List Nat->Nat
 | []=>0
 |y :: t=>if y=x then lead x t+1 else 0
theorem Pj(x:Nat):∀l,lead x l<=l.length
 | []=>by simp[lead]
 |y :: t=>by have:=Pj x t;rw[lead];split<;>simp<;>omega
theorem O9(x:Nat):∀ (l:List Nat) (j:Nat),(∀i,i<j->l[i]? =some x)->l[j]? ≠some x->lead x l=j
 | [],0,_,_=>rfl
 | [],j+1,h,_=>by have:=h 0 mw;simp at this
 |y :: t,0,_,h=>by rw[lead,Aa];intro e;exact h (by rw[e];rfl)
 |y :: t,j+1,h,h2=>by have:=h 0 mw;rw[lead,Ab (by simpa using this),O9 x t j (fun i hi=>by have:=h (i+1) mw;simpa using this) pg]
def lvB:List Nat->List Nat
 | []=> []
 |x :: t=>x :: (fZ (lead x t+1)++lvB (t.drop (lead x t)))
termination_by l=>l.length
decreasing_by simp only[List.length_drop,List.length_cons];omega
theorem SO:∀ (n:Nat) (l:List Nat),l.length<=n->(∀x∈l,x<=255)->l.length<18446744073709551616->(lvB l).length<=11*l.length
 |_,[],_,_,_=>by rw[lvB];simp
 |n+1,x :: t,h,h8,h64=>by have hl:=Pj x t;simp only[List.length_cons]at h h64;have:=qZ (x:=lead x t+1) mw;have ih:=SO n (t.drop (lead x t)) mP (fun y hy=>h8 y (BR _ (BY hy))) mP;rw[AO]at ih;rw[lvB];simp only[List.length_cons,List.length_append];omega
theorem Sf:∀ (n:Nat) (l:List Nat),l.length<=n->(∀x∈l,x<=255)->∀y∈lvB l,y<=255
 |_,[],_,_,y,hy=>by rw[lvB]at hy;cases hy
 |n+1,x :: t,h,h8,y,hy=>by
  rw[lvB]at hy;simp only[List.length_cons]at h;rcases AM.1 hy with rfl|hy
  ·exact h8 _ oK
  ·rcases BF.1 hy with hy|hy
   ·exact CU _ y hy
   ·exact Sf n (t.drop (lead x t)) mP (fun y hy=>h8 y (BR _ (BY hy))) y hy
def Bk(l:List Rec):List Nat:=l.map fun r=>r.time.toNat
def Bz(l:List Rec):List Nat:=l.map fun r=>r.level.toNat
def C9(l:List Rec):List Nat:=Ca stepT 0 (Bk l)++lvB (Bz l)
theorem TF{l:List Rec}(h:∀r∈l,B8 r):∀x∈Bz l,x<=255:=fun x hx=>by obtain⟨r,hr,rfl⟩:=Ck.1 hx;have:=h r hr;obtain⟨_,_,h1,h2⟩:=this;omega
theorem SH{l:List Rec}(h:∀r∈l,B8 r):∀x∈C9 l,x<=255:=fun x hx=>by
 rcases BF.1 hx with hx|hx
 ·exact Qe V9 _ _ x hx
 ·exact Sf _ _ (Ak _) (TF h) x hx
theorem Ma{l:List Rec}(h:∀r∈l,B8 r)(hn:l.length<=1000000):(C9 l).length<=21*l.length:=by have h1:=TP Zl (Bk l) 0;have h2:=SO _ (Bz l) (Ak _) (TF h) (by unfold Bz;rw[Bb];omega);unfold Bk at h1;unfold Bz at h2;rw[Bb]at h1 h2;unfold C9;rw[Ae];unfold Bk Bz;omega
end Recs
namespace One
open Go.RowKit Mem Own Canon NumPut Crc
open Recs Opts
open Block (Bm Jm lZ Mh)
theorem Pb(S:Nat):∀ (t:List Nat) (h c:Nat),(goG S h c t).sum=c+t.length
 | [],_,c=>by simp[goG]
 |x :: t,h,c=>by
  rw[goG];split
  ·rw[Fo,Pb S t];simp;omega
  ·rw[Pb S t];simp;omega
theorem O7(S:Nat):∀ (t:List Nat) (h c:Nat),1<=c->∀x∈goG S h c t,1<=x
 | [],_,c,hc,x,hx=>by rw[goG,Ei]at hx;omega
 |y :: t,h,c,hc,x,hx=>by
  rw[goG]at hx;split at hx
  ·rcases AM.1 hx with rfl|hx
   ·exact hc
   ·exact O7 S t _ 1 mw x hx
  ·exact O7 S t _ (c+1) mw x hx
theorem Ot(S:Nat)(l:List Nat):(G2 S l).sum=l.length:=by
 cases l with
 |nil=>rfl
 |cons x t=>rw[G2,Pb];simp;omega
theorem Ly(S:Nat)(l:List Nat):∀x∈G2 S l,1<=x:=by
 cases l with
 |nil=>intro x hx;cases hx
 |cons y t=>exact O7 S t y 1 mw
theorem Oh:∀ {l:List Nat},(∀x∈l,1<=x)->l.length<=l.sum
 | [],_=>oK
 |x :: l,h=>by have h1:=h x oK;have h2:=Oh (l:=l) (fun y hy=>h y (by simp[hy]));rw[AD,Fo];omega
theorem Oa(wh:Bool)(l:List Rec):(Eo wh l).length=l.length:=by unfold Eo;rw[Bb]
end One
namespace One
open Go.RowKit Mem Own Canon NumPut Crc
open Recs Opts
open Block (Bm Jm lZ Jt Mh)
theorem K8{l:List Rec}(h:Dt l=0):∀r∈l,Cy r=false:=by
 unfold Dt at h;split at h
 ·cases h
 ·split at h
  ·cases h
  ·rename_i h1;intro r hr;cases hb:Cy r
   ·rfl
   ·exact absurd (List.any_eq_true.2 ⟨r,hr,hb⟩) h1
theorem Vr{l:List Rec}{m:Nat}(h:i<m)(j:Nat):BP (l.take m) i j=BP l i j:=by
 have e:(l.take m).getD i FP=l.getD i FP:=by rw[Am,Am,Gd,Ab h]
 unfold BP;rw[e]
theorem Tv(l:List Rec)(k i j:Nat):BP l (k+i) j=BP (l.drop k) i j:=by
 have e:(l.drop k).getD i FP=l.getD (k+i) FP:=by rw[Am,Am,Ik]
 unfold BP;rw[e]
theorem Vh(wh:Bool){l l':List Rec}(h:l.Sublist l'):(xZ wh l).length<=(xZ wh l').length:=by
 induction h with
 |slnil=>exact Ak _
 |cons a _ ih=>unfold xZ at *;rw[Cm,Ae];omega
 |cons_cons a _ ih=>unfold xZ at *;rw[Cm,Cm,Ae,Ae];omega
theorem U5{bs:List Nat}(plain:Bool)(h:bs.length<=16000):(Bm bs plain).length<=bs.length+25:=by
 have hb:(Block.Dx bs plain).length<=bs.length:=by
  unfold Block.Dx;split
  ·rename_i hc;rw[BV]at hc;have h2:=hc.2;unfold Block.sqz at h2;simp at h2;omega
  ·omega
 have h1:=qZ (x:=bs.length) mw;have h2:=qZ (x:=(Block.Dx bs plain).length) mw;unfold Bm Block.Dn Block.Iz;simp only[List.length_append,List.length_singleton];have:(CJ (Ce (([Block.Gp bs plain]++fZ bs.length++fZ (Block.Dx bs plain).length)++Block.Dx bs plain))).length=4:=rfl;omega
theorem MY(wh:Bool)(l:List Rec)(m:Nat):(xZ wh (l.take m)).length+(xZ wh (l.drop m)).length=(xZ wh l).length:=by
 conv=>rhs;rw[<-EA m l]
 unfold xZ;rw[Il,Ae]
end One
namespace One
open Go.RowKit Mem Own Canon NumPut Crc
open Recs Opts
open Block (Bm Jm lZ Jt own_one)
def FrsAt(w:World)(base:Nat)(ps:List Part):Prop:=∀p∈ps,w.ownsRow base 5 1 p.v p.ls.length (cZ .u8 p.ls)
theorem FrsAt.step{ps:List Part}(h:FrsAt w base ps)(hb:Below w w w'):FrsAt w' base ps:=fun p hp=>eZ (h p hp) (fun y hy=>hb.block y (Aj (h p hp) y hy).2)
theorem FA{s s' n':Nat}{e e':TypeId}{v v':Value}{j:List Value}(h:w.ownsRow base e s v n xs)(ho:w.ownsRow i e' s' v' n' j)(z:e≠e')(hg:w.grownBy w' v'.ownBlock):w'.ownsRow base e s v n xs:=
 eZ h (fun y hy=>hg.block y (Aj h y hy).2 (fun e=>by
  rcases ER h ho z with h0|h0
  ·rw[h0]at hy;cases hy
  ·exact h0 (hy.trans e)))
theorem FrsAt.grown{v:Value}{ps:List Part}(h:FrsAt w base ps)(ho:w.ownsRow i 28 1 v n xs)(hg:w.grownBy w' v.ownBlock):FrsAt w' base ps:=fun p hp=>FA (h p hp) ho ip hg
theorem FrsAt.snoc{ps:List Part}{p:Part}(h:FrsAt w base ps)(hp:w.ownsRow base 5 1 p.v p.ls.length (cZ .u8 p.ls)):FrsAt w base (ps++ [p]):=fun q hq=>by
 rcases BF.1 hq with hq|hq
 ·exact h q hq
 ·rw[Ei.1 hq];exact hp
theorem MV:(prog.info? 28).map (fun i=>(i.zero,i.size,i.bytes))=some (some (.slice none 0 0),1,24):=mr
end One
namespace One
open Go.RowKit Mem Own Canon NumPut Crc
open Recs Opts
open Block (Bm lZ)
theorem SE{fs:List (List Nat)}{x:List Nat}(h:x∈fs):x.length<=fs.flatten.length:=by
 induction fs with
 |nil=>cases h
 |cons y t ih=>
  rw[List.flatten_cons,Ae];rcases AM.1 h with rfl|h
  ·omega
  ·have:=ih h;omega
end One
namespace One
open Go.RowKit Mem Own Canon NumPut Crc
open Recs Opts
open Block (Bm lZ)
theorem VQ{l:List Rec}(h:Dt l≠0):Dt l=6:=by
 unfold Dt at h ⊢;split
 ·rfl
 ·split
  ·rfl
  ·split
   ·rfl
   ·rename_i h1 h2 h3;rw[Aa h1,Aa h2,Aa h3]at h;exact absurd rfl h
end One
namespace Opts
open Go.RowKit Mem
def Hg(o:Opt):Int:=if(16<=o.block/\o.block<=32768)/\(1<=o.bucket/\o.bucket<=64)/\(o.data=0/\o.parity=0/\o.chunk=0)then 0 else 9
theorem YK{o:Opt}(h:Hg o≠0):Hg o=9:=by
 unfold Hg at h ⊢;split
 ·rename_i hc;rw[Ab hc]at h;exact absurd rfl h
 ·rfl
def Opt.body(o:Opt):Opt:=⟨o.block,o.plain,o.bucket,0,0,0⟩
def CL(o:Opt):Int:=Hg o.body
theorem V2(w:World)(o:Opt):
 Calls prog 92 #[.int .i64 2,o.val] w fun e w'=>e= .returned (.int .i64 (Hg o))/\Below w w w':=by
 obtain⟨bl,pl,bu,da,pa,ch⟩:=o;unfold Opt.val Hg;simp only;have D:=hid (fun wx=>Ux wx bl 16 32768);have DB:=hid (fun wx=>Ux wx bu 1 64);have HE:=jE pl pl bl bl 0 0 da 0 pa 0 ch 0;by_cases hb:16<=bl/\bl<=32768
 ·rw[Bc hb]at D;by_cases hu:1<=bu/\bu<=64
  ·rw[Bc hu]at DB;by_cases hz:da=0/\pa=0/\ch=0
   ·rw[Ab ⟨hb,hu,hz⟩];have hd:decide (bl=bl/\pl=pl/\(0:Int)=0/\da=0/\pa=0/\ch=0)=true:=Bc ⟨rfl,rfl,rfl,hz⟩;rw[hd]at HE;clear hb hz hd hu;go_enter func92,ntmps92;go_wp2_with fail;refine(D.out _).mono ?_;rintro e w1 ⟨rfl,rfl⟩;go_wp2_with fail;refine(DB.out _).mono ?_;rintro e w1 ⟨rfl,rfl⟩;go_wp2_with fail;go_ret;exact⟨rfl,pn⟩
   ·rw[Aa (fun h=>hz h.2.2)];have hd:decide (bl=bl/\pl=pl/\(0:Int)=0/\da=0/\pa=0/\ch=0)=false:=Bt (fun h=>hz h.2.2.2);rw[hd]at HE;clear hb hz hd hu;go_enter func92,ntmps92;go_wp2_with fail;refine(D.out _).mono ?_;rintro e w1 ⟨rfl,rfl⟩;go_wp2_with fail;refine(DB.out _).mono ?_;rintro e w1 ⟨rfl,rfl⟩;go_wp2_with fail;go_ret;exact⟨rfl,pn⟩
  ·rw[Bt hu]at DB;rw[Aa (fun h=>hu h.2.1)];clear hb hu HE;go_enter func92,ntmps92;go_wp2_with fail;refine(D.out _).mono ?_;rintro e w1 ⟨rfl,rfl⟩;go_wp2_with fail;refine(DB.out _).mono ?_;rintro e w1 ⟨rfl,rfl⟩;go_wp2_with fail;go_ret;exact⟨rfl,pn⟩
 ·rw[Bt hb]at D;rw[Aa (fun h=>hb h.1)];clear hb HE DB;go_enter func92,ntmps92;go_wp2_with fail;refine(D.out _).mono ?_;rintro e w1 ⟨rfl,rfl⟩;go_wp2_with fail;go_ret;exact⟨rfl,pn⟩
theorem Lo(w:World)(o:Opt):
 Calls prog 44 #[o.val] w fun e w'=>e= .returned (.int .i64 (CL o))/\Below w w w':=by
 have D:=hid (fun wx=>V2 wx o.body);unfold CL;obtain⟨bl,pl,bu,da,pa,ch⟩:=o;unfold Opt.body Opt.val at D;unfold Opt.val Opt.body;simp only at D ⊢;generalize Hg ⟨bl,pl,bu,0,0,0⟩=E at *;go_enter func44,ntmps44;go_wp2_with fail;refine(D.out _).mono ?_;rintro e w1 ⟨rfl,hb⟩;have HB:=hid hb;clear hb D;go_wp2_with fail;go_ret;exact⟨rfl,dZ HB.out (aZ (Ag _ _))⟩
end Opts
namespace Nums
open Go.RowKit Mem Own Canon
def Fl(bs:List Nat):Nat:=bs.getD 0 0+256*bs.getD 1 0+65536*bs.getD 2 0+16777216*bs.getD 3 0
theorem Mw{y:Nat}(hx:x<2 ^ i)(h:x+y*2 ^ i<18446744073709551616):bits .or .u64 (x:Int) ((y*2 ^ i:Nat):Int)=((x+y*2 ^ i:Nat):Int):=Tf hx h
theorem Yp(w:World)(g base:Nat)(bs:List Nat)(A:Option Addr)(c:Nat)(h4:bs.length=4)(h8:∀x∈bs,x<=255)(h:Cur w g base bs A c 0 0):
 Calls prog 111 #[.pointer (some ⟨g,0,none⟩), .int .i64 4] w fun e w'=>e= .returned (.int .u64 (Fl bs:Nat))/\Cur w' g base bs A c 4 0/\Kept (By g w) w w':=by
 have D:=JC w g base bs A c 0 0 4 mw mw h;unfold JH at D;rw[Jz,Jp,Jo,Aa mw,Aa mw,Aa mw,Hd,BQ mw,h4]at D
 obtain⟨b0,b1,b2,b3,rfl⟩:∃b0 b1 b2 b3,bs= [b0,b1,b2,b3]:=by
  match bs,h4 with
  | [b0,b1,b2,b3],_=>exact⟨b0,b1,b2,b3,rfl⟩
 have l0:=h8 b0 oK;have l1:=h8 b1 oK;have l2:=h8 b2 oK;have l3:=h8 b3 oK;have hV:Fl [b0,b1,b2,b3]=b0+256*b1+65536*b2+16777216*b3:=rfl;rw[hV];have D:=hid D;have E:=h.blk.lt;clear h h8 h4 hV;go_enter func111,ntmps111;go_wp2_with fail;refine D.out.mono ?_;rintro e w1 ⟨v,rfl,j,hc,hk⟩;obtain⟨gv,cv,hv,_⟩:=j.form mw;subst hv;have c0:=j.cellAt 0 mw;have c1:=j.cellAt 1 mw;have c2:=j.cellAt 2 mw;have c3:=j.cellAt 3 mw;simp only[cZ,List.map_cons,List.map_nil,List.getElem?_cons_zero,List.getElem?_cons_succ]at c0 c1 c2 c3;have HC:=hid hc;have HK:=hid hk;clear j hc hk D;have E0:Hid (bits .or .u64 (0:Int) (b0:Int)=((b0:Nat):Int)):=by have h:=Mw (x:=0) (y:=b0) (i:=0) mw mw;show _=_;simpa using h
 have E1:Hid (bits .or .u64 (b0:Int) ((b1:Int)*256)=((b0+256*b1:Nat):Int)):=by have h:=Mw (x:=b0) (y:=b1) (i:=8) mw mw;rw[show((b1*2 ^ 8:Nat):Int)=(b1:Int)*256 by omega]at h;show _=_;rw[h];omega
 have E2:Hid (bits .or .u64 ((b0+256*b1:Nat):Int) ((b2:Int)*65536)=((b0+256*b1+65536*b2:Nat):Int)):=by have h:=Mw (x:=b0+256*b1) (y:=b2) (i:=16) mw mw;rw[show((b2*2 ^ 16:Nat):Int)=(b2:Int)*65536 by omega]at h;show _=_;rw[h];omega
 have E3:Hid (bits .or .u64 ((b0+256*b1+65536*b2:Nat):Int) ((b3:Int)*16777216)=((b0+256*b1+65536*b2+16777216*b3:Nat):Int)):=by have h:=Mw (x:=b0+256*b1+65536*b2) (y:=b3) (i:=24) mw mw;rw[show((b3*2 ^ 24:Nat):Int)=(b3:Int)*16777216 by omega]at h;show _=_;rw[h];omega
 go_wp2_with fail;go_loopw [5,20] (fun xv iv wr=>Hid (wr=w1)/\((xv= .int .u64 0/\iv= .int .i64 0)∨(xv= .int .u64 (b0:Nat)/\iv= .int .i64 1)∨(xv= .int .u64 (b0+256*b1:Nat)/\iv= .int .i64 2)∨(xv= .int .u64 (b0+256*b1+65536*b2:Nat)/\iv= .int .i64 3)∨(xv= .int .u64 (b0+256*b1+65536*b2+16777216*b3:Nat)/\iv= .int .i64 4))) (fun _ iv _=>4-(intOf iv).toNat)
 case atStart=>exact⟨iy, .inl ⟨rfl,rfl⟩⟩
 case round=>
  obtain⟨hw,z⟩:=hrel;have hw:=hw.out;subst hw;rcases z with ⟨rfl,rfl⟩|⟨rfl,rfl⟩|⟨rfl,rfl⟩|⟨rfl,rfl⟩|⟨rfl,rfl⟩
  ·have e0:=E0.out;go_wp2_with fail;exact⟨⟨trivial, .inr (.inl ⟨rfl,rfl⟩)⟩,o6⟩
  ·have e1:=E1.out;have s1:IntKind.u64.wrap ((b1:Int)*256)=(b1:Int)*256:=m9;go_wp2_with fail;exact⟨⟨trivial, .inr (.inr (.inl ⟨rfl,rfl⟩))⟩,o6⟩
  ·have s2:IntKind.u64.wrap ((b2:Int)*65536)=(b2:Int)*65536:=m9;go_wp2_with fail;exact⟨⟨trivial, .inr (.inr (.inr (.inl ⟨by rw[show((b0:Int)+256*(b1:Int))=((b0+256*b1:Nat):Int) by omega,E2.out],rfl⟩)))⟩,o6⟩
  ·have s3:IntKind.u64.wrap ((b3:Int)*16777216)=(b3:Int)*16777216:=m9;go_wp2_with fail;exact⟨⟨trivial, .inr (.inr (.inr (.inr ⟨by rw[show((b0:Int)+256*(b1:Int)+65536*(b2:Int))=((b0+256*b1+65536*b2:Nat):Int) by omega,E3.out],rfl⟩)))⟩,o6⟩
  ·go_wp2_with fail;go_ret;exact⟨rfl,HC.out,HK.out⟩
end Nums
namespace Body
open Go.RowKit Mem Own Canon Nums Crc
def Fg(ls:List Nat):List Nat:=(ls.drop (ls.length-4-Fl (ls.drop (ls.length-4)))).take (Fl (ls.drop (ls.length-4)))
def GF(ls:List Nat):Prop:=ls.length<4∨ls.length-4<Fl (ls.drop (ls.length-4))
def Sw(ls:List Nat)(A:Option Addr)(c:Nat)(w:World)(e:Ending)(w':World):Prop:=
 Below w w w'/\(GF ls->e= .returned (.tuple #[(),(), .int .i64 1]))/\
  (¬GF ls->∃v,e= .returned (.tuple #[.slice A (ls.length-4-Fl (ls.drop (ls.length-4))) c,v, .int .i64 (Cw (Fg ls))])/\w'.ownsRow w 5 1 v (Bh (Fg ls)).length (cZ .u8 (Bh (Fg ls))))
theorem eU{bs:List Nat}(h8:∀x∈bs,x<=255)(h4:bs.length=4):Fl bs<4294967296:=by
 match bs,h4 with
 | [b0,b1,b2,b3],_=>have l0:=h8 b0 oK;have l1:=h8 b1 oK;have l2:=h8 b2 oK;have l3:=h8 b3 oK;have hV:Fl [b0,b1,b2,b3]=b0+256*b1+65536*b2+16777216*b3:=rfl;omega
theorem Vv(w:World)(A:Option Addr)(n c:Nat)(ls:List Nat)(hn:ls.length=n)(Y:n<=100000)(hc:n<=c)(h8:∀x∈ls,x<=255)(ht:TabAt w)(hh:∀a,A=some a->a.add 0=a)(ha:Row w w A n 1 (jZ .u8 ls)):
 Calls prog 56 #[.slice A n c] w (Sw ls A c w):=by
 unfold Sw;by_cases h4:n<4
 ·have i:GF ls:= .inl mw;have HB:=hid i;have s1:decide (IntKind.i64.wrap ((n:Int)-4)<0)=true:=by rw[Aq _ mw];simp;omega
  have s2:=ic ((n:Int)-4<0)
  have s3:IntKind.i64.wrap ((n:Int)-4)=(n:Int)-4:=Aq _ mw;clear hn Y hc h8 ht hh ha i;go_enter func56,ntmps56;go_wp2_with fail
  go_ret3
  exact⟨Ag _ _,fun _=>rfl,fun h=>absurd HB.out h⟩
 ·obtain⟨m,rfl⟩:∃m,n=m+4:=⟨n-4,mw⟩;have y:ls.length-4=m:=by omega
  have G:(ls.drop m).length=4:=mP
  have M:∀x∈ls.drop m,x<=255:=fun x hx=>h8 x (BY hx);have al:=eU M G;have Q:A=none->m+4=0/\c=0:=fun e=>by obtain⟨b,av,e2,_⟩:=ha mw;rw[e]at e2;cases e2
  have hd:=EQ ha (show m<=m+4 by omega) hc;rw[show m+4-m=4 by omega]at hd;have aa:AQ A m c 1=none->4=0/\c-m=0:=fun h=>by obtain⟨b,av,e2,_⟩:=hd mw;rw[h]at e2;cases e2
  have D0:=hid (new_any w (AQ A m c 1) 4 (c-m) (ls.drop m) G mw aa hd);have ai:=fun wx=>FU (P:=prog) (t:=28) (s:=1) underlying28 (fun _=>by kernel_rfl) A (m+4) c .i64 (m:Int) m rfl mw wx;have N:=ai;rw[show m+4-m=4 by omega]at ai;have D1:=hid (fun wx g B d h=>Yp wx g w (ls.drop m) B d G M h);have s1:IntKind.i64.wrap (((m+4:Nat):Int)-4)=(m:Int):=m8
  have wm:IntKind.i64.wrap (m:Int)=(m:Int):=Aq _ mw;have g1:=ig ((m:Int)<0)
  obtain⟨k,hk⟩:=ii (Fl (ls.drop m));rw[<-hk]at D1 al;have wk:IntKind.i64.wrap (k:Int)=(k:Int):=Aq _ mw;by_cases am:m<k
  ·have i:GF ls:= .inr (by rw[y,<-hk];exact am);have ae:=hid i;have g2:=ic ((m:Int)<k);have an:=ic (m<k);generalize AQ A m c 1=A1 at *;generalize c-m=c1 at *;clear hd ha h8 M ht hh Q aa hn Y hc i hk G y h4 N;go_enter func56,ntmps56;go_wp2_with fail;refine D0.out.mono ?_;rintro e w1 ⟨g,B,d,rfl,j,L⟩;have E:=hid L;have D2:=hid (D1.out w1 g B d j);have ag:=j.lo;clear j L D0 D1;go_wp2_with fail;refine D2.out.mono ?_;rintro e w2 ⟨rfl,Z,J⟩;have z:Hid (Below w w w2):=E.out.trans (J.below fun b h=>⟨by have:=E.out.size;omega,mw⟩);clear Z J;go_wp2_with fail
   go_ret3
   exact⟨z.out,fun _=>rfl,fun h=>absurd ae.out h⟩
  ·have ah:¬GF ls:=fun h=>h.elim (fun h=>by omega) (fun h=>by rw[y,<-hk]at h;omega);have ak:=hid ah;have g2:=ig ((m:Int)<k);have an:=ig (m<k);obtain⟨r,hr⟩:=ii (m-k);have s2:IntKind.i64.wrap ((m:Int)-(k:Int))=(r:Int):=m8;have ac:Fg ls=(ls.drop r).take k:=(by unfold Fg;rw[y,<-hk,<-hr]);have aj:=Gu (EQ ha (show r<=m+4 by omega) hc) (show k<=m+4-r by omega);have DC:=hid (fun wx (hb:Below w w wx)=>MH wx (AQ A r c 1) k (c-r) ((ls.drop r).take k) (by rw[AZ,AO];omega) mw mw (fun x hx=>h8 x (BY (CV hx))) (ht.step hb) ((aj.below hb).mono hb.size));rw[<-ac]at DC;have aq:=fun wx=>Pm (P:=prog) (t:=28) (s:=1) underlying28 (fun _=>by kernel_rfl) A (m+4) c .i64 .i64 (r:Int) (m:Int) r m rfl rfl mw mw wx;rw[show m-r=k by omega]at aq;have ax:=fun wx=>Fy (P:=prog) (t:=28) (s:=1) underlying28 (fun _=>by kernel_rfl) A (m+4) c .i64 (r:Int) r rfl mw hh wx;have au:Hid (ls.length-4-Fl (ls.drop (ls.length-4))=r):=(by show _=_;rw[y,<-hk,hr]);generalize AQ A m c 1=A1 at *;generalize c-m=c1 at *;generalize AQ A r c 1=A2 at *;generalize c-r=c2 at *;clear hd ha h8 M ht hh Q aa hn Y hc ah hk G y h4 N aj ac hr;go_enter func56,ntmps56;go_wp2_with fail;refine D0.out.mono ?_;rintro e w1 ⟨g,B,d,rfl,j,L⟩;have E:=hid L;have D2:=hid (D1.out w1 g B d j);have ag:=j.lo;clear j L D0 D1;go_wp2_with fail;refine D2.out.mono ?_;rintro e w2 ⟨rfl,Z,J⟩;have z:Hid (Below w w w2):=E.out.trans (J.below fun b h=>⟨by have:=E.out.size;omega,mw⟩);have ab:=hid (DC.out w2 z.out);unfold Je at ab;clear Z J DC E;go_wp2_with fail;refine ab.out.mono ?_;rintro e w3 ⟨v,rfl,U,af⟩;have ar:Hid (Below w w w3):=z.out.trans (af.mono z.out.size);have aw:Hid (w3.ownsRow w 5 1 v (Bh (Fg ls)).length (cZ .u8 (Bh (Fg ls)))):=kZ U z.out.size;clear U af ab;go_wp2_with fail
   go_ret3
   rw[au.out];exact⟨ar.out,fun h=>absurd h ak.out,fun _=>⟨v,rfl,aw.out⟩⟩
end Body
namespace Recs
open Go.RowKit Mem Own Canon NumPut Nums
theorem IZ{ob:Nat}{bs:List Nat}{at_:Nat}{er:Int}{t:TypeId}{cs:Array Value}(h:Cur w g base bs A c at_ er)(i:Blk w ob t cs)(ht:t≠5)(hg:t≠243)(k:Nat)(u:Value):Cur (w.setCell ⟨ob,k,none⟩ u) g base bs A c at_ er:=
 ⟨h.blk.far (fun e=>Blk.apart i h.blk hg e.symm) _,BS h.own (gZ h.own i ht.symm) _,h.le,h.lo⟩
end Recs
namespace Recs
open Go.RowKit Mem Own Canon NumPut Nums
theorem Sl{bs:List Nat}(h8:∀x∈bs,x<=255){at_:Nat}(er:Int)(h:at_<=bs.length):Dw most bs at_ er<=bs.length:=by
 unfold Dw;split
 ·exact h
 ·have:=(Md most (bs.drop at_) (fun x hx=>h8 x (BY hx))).2.1;rw[AO]at this;omega
theorem lR(most:Nat)(bs:List Nat)(at_:Nat)(er:Int):at_<=Dw most bs at_ er:=by unfold Dw;split<;>omega
def Ct(l:List Rec):List Value:=l.flatMap fun r=> [.int .u64 r.time, .int .u8 r.level, .string r.source, .string r.text]
theorem YH(l:List Rec)(r:Rec):Ct (l++ [r])=Ct l++ [.int .u64 r.time, .int .u8 r.level, .string r.source, .string r.text]:=by simp[Ct]
theorem O4(l m:List Rec):Ct (l++m)=Ct l++Ct m:=by simp[Ct]
theorem k7:(prog.info? 43).map (fun i=>(i.zero,i.size,i.bytes))=some (some (.agg #[.int .u64 0, .int .u8 0, .string ⟨#[]⟩, .string ⟨#[]⟩]),4,48):=mr
theorem L4:∀ (l:List Rec) (i j:Nat),i<l.length->j<4->(Ct l)[i*4+j]? =some (BP l i j)
 | [],i,j,h,_=>oL
 |t :: ts,0,j,_,hj=>by
  obtain rfl|rfl|rfl|rfl:j=0∨j=1∨j=2∨j=3:=mw
  all_goals rfl
 |t :: ts,i+1,j,h,hj=>by have:=L4 ts i j pf hj;show(_ :: _ :: _ :: _ :: Ct ts)[(i+1)*4+j]? =_;rw[show(i+1)*4+j=(i*4+j)+1+1+1+1 by omega,List.getElem?_cons_succ,List.getElem?_cons_succ,List.getElem?_cons_succ,List.getElem?_cons_succ,this];rfl
theorem j7{l:List Rec}(h:w.ownsRow base 43 4 (.slice A l.length c) l.length (Ct l)):Row w w A l.length 4 (BP l):=
 Row.of_own h rfl fun i j hi hj=>L4 l i j hi hj
def R6(w:World)(R:List Rec×Int)(e:Ending)(w':World):Prop:=
 ∃v,e= .returned (.tuple #[v,R.2])/\w'.ownsRow w 43 4 v R.1.length (Ct R.1)/\Below w w w'
def atOf(w:World)(g:Nat):Nat:=(intOf ((w.cell? ⟨g,1,none⟩).getD (.int .i64 0))).toNat
end Recs
namespace Recs
open Go.RowKit Mem Own Canon NumPut Nums
def EE(bs:List Nat)(at_:Nat)(er:Int):Rec×Nat×Int:=
 let a3:=Dw 4000 bs at_ er;let e3:=Dv 4000 bs at_ er
 (⟨0,0,FE (Ey 4000 bs at_ er),FE (Ey 4000 bs a3 e3)⟩,Dw 4000 bs a3 e3,Dv 4000 bs a3 e3)
theorem X0{bs:List Nat}(h8:∀x∈bs,x<=255){at_:Nat}(h:at_<=bs.length)(er:Int):(EE bs at_ er).2.1<=bs.length/\((EE bs at_ er).2.2=0->at_<(EE bs at_ er).2.1)/\B8 (EE bs at_ er).1:=by
 have hA3:=Sl (most:=4000) h8 er h;refine⟨Sl h8 _ hA3,fun he=> ?_,?_⟩
 ·have e0:er=0:=by refine Jk fun hn=> ?_;have e3:∀a,Dv 4000 bs a er=er:=fun a=>Ab hn;unfold EE at he;simp only[e3]at he;exact hn he
  have e1:Dv 4000 bs at_ er=0:=by refine Jk fun hn=> ?_;have e3:∀a,Dv 4000 bs a (Dv 4000 bs at_ er)=Dv 4000 bs at_ er:=fun a=>Ab hn;unfold EE at he;simp only[e3]at he;exact hn he
  have hs:=(Md 4000 (bs.drop at_) (fun x hx=>h8 x (BY hx))).2.2.1;have h1:Dw 4000 bs at_ er=at_+(Cf 4000 (bs.drop at_)).2.1:=Aa (by simp[e0]);have h2:Dv 4000 bs at_ er=(Cf 4000 (bs.drop at_)).2.2:=Aa (by simp[e0]);have h3:=hs (h2.symm.trans e1);have h4:=lR 4000 bs (Dw 4000 bs at_ er) (Dv 4000 bs at_ er);show at_<Dw 4000 bs _ _;omega
 ·unfold B8 EE;simp only;omega
theorem VH(w:World)(g base:Nat)(bs:List Nat)(A:Option Addr)(c at_:Nat)(er:Int)(M:bs.length<=100000)(h8:∀x∈bs,x<=255)(h:Cur w g base bs A c at_ er):
 Calls prog 201 #[.agg #[.pointer (some ⟨g,0,none⟩)],false] w fun e w'=>e= .returned (EE bs at_ er).1.val/\Cur w' g base bs A c (EE bs at_ er).2.1 (EE bs at_ er).2.2/\Kept (By g w) w w':=by
 have ah:=h.blk.lt;unfold EE Rec.val;simp only;have D3:=hid (fun wx hx=>Od wx g base bs A c at_ er 4000 M h8 mw hx);generalize FE (Ey 4000 bs at_ er)=v3 at *;generalize Dw 4000 bs at_ er=a3 at *;generalize Dv 4000 bs at_ er=e3 at *;have D4:=hid (fun wx hx=>Od wx g base bs A c a3 e3 4000 M h8 mw hx);generalize FE (Ey 4000 bs a3 e3)=v4 at *;generalize Dw 4000 bs a3 e3=a4 at *;generalize Dv 4000 bs a3 e3=e4 at *;have H:=hid h;clear h h8 M;go_enter func201,ntmps201;go_wp2_with fail;refine(D3.out _ (H.out.step pn)).mono ?_;rintro e w3 ⟨rfl,Z,y⟩;have N:Blk w3 w 249 #[.pointer (some ⟨g,0,none⟩)]:=(y.block _ ⟨oT,mw⟩).trans ((Blk.made _ _ _).alloc _);have E:Blk w3 (w.heap.size+1) 43 #[.int .u64 0, .int .u8 0, .string ⟨#[]⟩, .string ⟨#[]⟩]:=(y.block _ ⟨oK,mw⟩).trans (Blk.made_at _ _ _ oK);have U:Hid (Kept (By g w) w w3):=(Kept.of_below (B:=w.heap.size) pn (fun x hx=>hx.1)).trans ⟨y.os,y.tape,y.output,y.size,fun x hx=>y.block x ⟨by have:=hx.1;simp;omega,hx.2⟩⟩;have ab:=hid Z;have x3:=N.ia 0;have y3:=E.ia 2;have f3:=E.frozen 2;have aa:=y.size;have Y:=hid N;have J:=hid E;clear Z y N E D3;go_wp2_with fail;refine(D4.out _ (IZ ab.out J.out ip ip 2 (.string v3))).mono ?_;rintro e w4 ⟨rfl,Q,j⟩;have L:Blk w4 w 249 #[.pointer (some ⟨g,0,none⟩)]:=(j.block _ ⟨(Y.out.far (p:=⟨w.heap.size+1,2,none⟩) oK (.string v3)).lt,mw⟩).trans (Y.out.far (p:=⟨w.heap.size+1,2,none⟩) oK (.string v3));have G:Blk w4 (w.heap.size+1) 43 #[.int .u64 0, .int .u8 0, .string v3, .string ⟨#[]⟩]:=(j.block _ ⟨(J.out.set 2 (.string v3)).lt,mw⟩).trans (J.out.set 2 (.string v3));have ac:Hid (Kept (By g w) w w4):=(U.out.set (p:=⟨w.heap.size+1,2,none⟩) (fun h=>absurd h.1 oK) (.string v3)).trans ⟨j.os,j.tape,j.output,j.size,fun x hx=>j.block x ⟨by have:=hx.1;have:=U.out.size;simp;omega,hx.2⟩⟩;have ae:=hid Q;have x4:=L.ia 0;have y4:=G.ia 3;have f4:=G.frozen 3;have ag:=j.size;have af:=hid L;have i:=hid G;clear Q j L G D4;have p0:=i.out.ia 0;have p1:=i.out.ia 1;have p2:=i.out.ia 2;have q0:=i.out.frozen 0;have q1:=i.out.frozen 1;have q2:=i.out.frozen 2;clear aa x3 y3 f3;go_wp2_with fail;have B5:=((((i.out.set 3 (.string v4)).set 0 (.int .u64 0)).set 1 (.int .u8 0)).set 2 (.string v3)).set 3 (.string v4);have C5:=IZ (IZ (IZ (IZ (IZ ae.out i.out ip ip 3 (.string v4)) (i.out.set 3 (.string v4)) ip ip 0 (.int .u64 0)) ((i.out.set 3 (.string v4)).set 0 (.int .u64 0)) ip ip 1 (.int .u8 0)) (((i.out.set 3 (.string v4)).set 0 (.int .u64 0)).set 1 (.int .u8 0)) ip ip 2 (.string v3)) ((((i.out.set 3 (.string v4)).set 0 (.int .u64 0)).set 1 (.int .u8 0)).set 2 (.string v3)) ip ip 3 (.string v4);have z:∀k,¬By g w (⟨w.heap.size+1,k,none⟩:Addr).block:=fun k h=>absurd h.1 oK;have K5:=((((ac.out.set (z 3) (.string v4)).set (z 0) (.int .u64 0)).set (z 1) (.int .u8 0)).set (z 2) (.string v3)).set (z 3) (.string v4);generalize ((((w4.setCell ⟨w.heap.size+1,3,none⟩ (.string v4)).setCell ⟨w.heap.size+1,0,none⟩ (.int .u64 0)).setCell ⟨w.heap.size+1,1,none⟩ (.int .u8 0)).setCell ⟨w.heap.size+1,2,none⟩ (.string v3)).setCell ⟨w.heap.size+1,3,none⟩ (.string v4)=w5 at *;have z0:=B5.cell 0;have z1:=B5.cell 1;have z2:=B5.cell 2;have z3:=B5.cell 3;simp at z0 z1 z2 z3;refine Cz (v:= .agg #[.int .u64 0, .int .u8 0, .string v3, .string v4]) ?_ rfl ⟨rfl,C5,K5⟩;simp[results,results201,go_sem,z0,z1,z2,z3]
def IN:Nat->List Nat->Nat->List Rec->List Rec×Int
 |0,_,_,acc=>(acc,0)
 |f+1,bs,at_,acc=>if bs.length<=at_ then(acc,0)else if(EE bs at_ 0).2.2≠0 then([],(EE bs at_ 0).2.2)else IN f bs (EE bs at_ 0).2.1 (acc++ [(EE bs at_ 0).1])
theorem SW{f:Nat}{bs:List Nat}{at_:Nat}{i:List Rec}(h:bs.length<=at_):IN f bs at_ i=(i,0):=by
 cases f with
 |zero=>rfl
 |succ f=>exact Ab h
def FV(bs:List Nat):List Rec×Int:=IN bs.length bs 0 []
theorem Y9(w:World)(A:Option Addr)(n c:Nat)(bs:List Nat)(hn:bs.length=n)(ah:n<=100000)(h8:∀x∈bs,x<=255)(N:A=none->n=0/\c=0)(ha:Row w w A n 1 (jZ .u8 bs)):
 Calls prog 123 #[false, .slice A n c] w (R6 w (FV bs)):=by
 obtain⟨j0,av,a3,ay,a5⟩:=info_parts k7;have D0:=hid (new_any w A n c bs hn ah N ha);have an:bs.length<=100000:=mw
 obtain⟨R,hR⟩:=ii (FV bs);have ag:Hid (IN bs.length bs 0 []=R):=hR.symm;rw[<-hR];have H8:=hid h8;clear hn N ha hR h8 ah;go_enter func123,ntmps123;go_wp2_with fail;refine D0.out.mono ?_;rintro e w1 ⟨g,B,d,rfl,M,ae⟩;have z1:=ae.size;have bg:=M.blk.lt;have be:=M.lo;have am:=hid M;have au:=hid ae;clear M ae D0;go_wp2_with fail;have aq:=am.out.step (w':=w1.alloc (.cells #[.pointer (some ⟨g,0,none⟩)] 249)) pn;have Z:Blk (w1.alloc (.cells #[.pointer (some ⟨g,0,none⟩)] 249)) w1 249 #[.pointer (some ⟨g,0,none⟩)]:=Blk.made _ _ _;have Y:Below w w (w1.alloc (.cells #[.pointer (some ⟨g,0,none⟩)] 249)):=nZ z1 au.out;generalize w1.alloc (.cells #[.pointer (some ⟨g,0,none⟩)] 249)=w2 at *;have z2:=Y.size;have ax:=Z.lt;have al:=hid aq;have ba:=hid Z;have af:=hid Y;clear aq Z Y am au;go_loopw [7] (fun v wr=>∃ (f at_:Nat) (j:List Rec),at_<=bs.length/\j.length<=at_/\Hid (bs.length<=f+at_)/\Hid (IN f bs at_ j=R)/\Hid (wr.ownsRow w2 43 4 v j.length (Ct j))/\Hid (Cur wr g w bs B d at_ 0)/\Hid (Kept (fun x=>x<w2.heap.size/\x≠g) w2 wr)) (fun _ wr=>bs.length-atOf wr g)
 case atStart=>exact⟨bs.length,0,[],mw,oK,Ak _,ag.out,AI _ _ _ _,al.out,Kept.refl _ _⟩
 case round=>
  obtain⟨f,at_,j,a9,bd,HF,HG,HO,HC,HK⟩:=hrel;have ab:w1.heap.size≠g:=mw
  have zk:=HK.out.size;have xb:Blk wr w1 249 #[.pointer (some ⟨g,0,none⟩)]:=(HK.out.block _ ⟨ax,ab⟩).trans ba.out;have x0:=xb.ia 0;have XB:=hid xb;have DL:=hid (left_any wr g w bs B d at_ 0 HC.out);have Q:=HO.out;obtain⟨va,vc,rfl⟩:=bZ Q;have ar:atOf wr g=at_:=by have h1:=HC.out.cells.2.1;unfold atOf;rw[h1];exact Br _
  have aw:=hid ar;have a0:Hid (Below w w wr):=af.out.trans (HK.out.below (fun b h=>⟨mw,by have:=HC.out.lo;omega⟩));clear xb Q ar ag;by_cases z:bs.length<=at_
  ·have ai:bs.length-at_=0:=mw;have bb:Hid (R=(j,0)):=HG.out.symm.trans (SW z);rw[ai]at DL;clear z ai HG;go_wp2_with fail;refine DL.out.mono ?_;rintro e w3 ⟨rfl,q,rfl⟩;go_wp2_with fail;go_ret2;rw[bb.out];exact⟨_,rfl,kZ (eZ HO.out (fun x hx=>rfl)) z2,below_drewN a0.out q⟩
  ·obtain⟨f,rfl⟩:∃f',f=f'+1:=⟨f-1,lk⟩;have bf:0<bs.length-at_:=mw;have gl:=ic ((0:Int)<((bs.length-at_:Nat):Int));have bk:=ic (0<bs.length-at_);have bh:=ic (at_<bs.length);have hG:=HG.out;unfold IN at hG;rw[Aa z]at hG;have L:=X0 H8.out a9 0;have DR:=hid (fun wx hx=>VH wx g w bs B d at_ 0 an H8.out hx);generalize EE bs at_ 0=T at *;obtain⟨⟨rt,rl,rs,rx⟩,a2,e2⟩:=T;simp only at hG L DR;unfold Rec.val at DR;simp only at DR;have a6:=L.1;have a4:=hid L.2.1;generalize aj:bs.length-at_=m at *;have bj:=hid aj;clear aj HG L;by_cases he:e2=0
   ·subst he;rw[Aa oK]at hG;have HG:=hid hG;clear hG;go_wp2_with fail;refine DL.out.mono ?_;rintro e w3 ⟨rfl,q,rfl⟩;go_wp2_with fail;refine(DR.out _ (HC.out.drewN q)).mono ?_;rintro e w4 ⟨rfl,y,i⟩;have z4:=i.size;simp at z4;have a1:w1.heap.size<w4.heap.size:=mw;have E:Blk w4 w1 249 #[.pointer (some ⟨g,0,none⟩)]:=(i.block _ ⟨(XB.out.drewN q).lt,ab⟩).trans (XB.out.drewN q);have x4:=E.ia 0;have G:Hid (w4.ownsRow w2 43 4 (.slice va j.length vc) j.length (Ct j)):=eZ HO.out (fun x hx=>i.block x ⟨(Aj HO.out x hx).2,by have:=(Aj HO.out x hx).1;omega⟩);have ac:Hid (Kept (fun x=>x<w2.heap.size/\x≠g) w2 w4):=HK.out.trans ⟨i.os,i.tape,i.output,i.size,fun x hx=>i.block x ⟨by have:=hx.1;simp;omega,hx.2⟩⟩;have J:=hid y;clear y i E x0 DL DR HO HK HC XB;go_wp2_with fail;refine(Dl _ g w bs B d a2 0 (J.out.step pn)).mono ?_;rintro e w5 ⟨rfl,rfl⟩;have bi:=a4.out trivial;have az:j.length<=100000:=mw;go_wp2_with(at_builtin;refine iZ rfl (.tmp 26) (.tmp 28) 24 rfl w2 43 j0 _ 4 48 underlying24 av a3 ay a5 rfl ip _ _ _ mz ((G.out.alloc _).alloc _) _ 1 1 [.int .u64 rt, .int .u8 rl, .string rs, .string rx] mz (Src.of_blk (g:=w4.heap.size+1) (Blk.made_at _ _ _ oK) 1 1 4 rfl) mo pm mw oT ?_;intro v5 w5 aa U bc);have ak:Cur w5 g w bs B d a2 0:=(by have h1:=(J.out.step (w':=(w4.alloc (.cells #[.int .u64 rt, .int .u8 rl, .string rs, .string rx] 43)).alloc (.cells #[.int .u64 rt, .int .u8 rl, .string rs, .string rx] 43)) pn);exact⟨h1.blk.grown U (fun e=>by have:=(Aj G.out g e.symm).1;omega),eZ h1.own (fun x hx=>U.block x (Aj h1.own x hx).2 (fun e=>by have:=(Aj al.out.own x hx).2;have:=(Aj G.out x e.symm).1;omega)),h1.le,h1.lo⟩);go_roundw
    case measure=>go_light;have h1:=ak.cells.2.1;have h2:atOf w5 g=a2:=(by unfold atOf;rw[h1];exact Br _);rw[h2,aw.out];omega
    case rel=>
     go_light;refine⟨f,a2,j++ [⟨rt,rl,rs,rx⟩],a6,by rw[Ae];simp;omega,?_,HG,?_,ak,?_⟩
     ·show _<=_;have:=HF.out;omega
     ·rw[YH,Ae];exact aa
     ·exact((ac.out.alloc (fun b h=>by have:=h.1;omega) _).alloc (fun b h=>by have:=h.1;simp;omega) _).grown U (fun b h=>by have:=h.1;simp;omega) (fun b hb hh=>by have:=(Aj G.out b hb).1;have:=hh.1;omega)
   ·rw[Ab he]at hG;have HG:=hid hG;have g1:(e2 != 0)=true:=ph;clear hG he;go_wp2_with fail;refine DL.out.mono ?_;rintro e w3 ⟨rfl,q,rfl⟩;go_wp2_with fail;refine(DR.out _ (HC.out.drewN q)).mono ?_;rintro e w4 ⟨rfl,y,i⟩;have z4:=i.size;simp at z4;have a1:w1.heap.size<w4.heap.size:=mw;have E:Blk w4 w1 249 #[.pointer (some ⟨g,0,none⟩)]:=(i.block _ ⟨(XB.out.drewN q).lt,ab⟩).trans (XB.out.drewN q);have x4:=E.ia 0;have G:Hid (w4.ownsRow w2 43 4 (.slice va j.length vc) j.length (Ct j)):=eZ HO.out (fun x hx=>i.block x ⟨(Aj HO.out x hx).2,by have:=(Aj HO.out x hx).1;omega⟩);have ac:Hid (Kept (fun x=>x<w2.heap.size/\x≠g) w2 w4):=HK.out.trans ⟨i.os,i.tape,i.output,i.size,fun x hx=>i.block x ⟨by have:=hx.1;simp;omega,hx.2⟩⟩;have J:=hid y;clear y i E x0 DL DR HO HK HC XB;go_wp2_with fail;refine(Dl _ g w bs B d a2 e2 (J.out.step pn)).mono ?_;rintro e w5 ⟨rfl,rfl⟩;go_wp2_with fail;go_ret2;rw[<-HG.out];exact⟨_,rfl,AI _ _ _ _,nZ mw (af.out.trans (ac.out.below (fun b h=>⟨mw,by have:=J.out.lo;omega⟩)))⟩
end Recs
end Go.Proofs.YtfgdoknipbpfhaaGreatDoor
