/- Options: the walks o -/
import Derived.Test.YtfgdoknipbpfhaaGreatDoorZBodyOpened10
import Derived.Test.YtfgdoknipbpfhaaGreatDoorZBodyOpened21
import Derived.Lib.AppendStr
namespace Go.Proofs.YtfgdoknipbpfhaaGreatDoor
open Go.Proofs.Tryz
open Go.Lib (hid)
set_option maxHeartbeats 2000000
set_option maxRecDepth 100000
variable{base c cg g i k most n q x z:Nat}{w w':World}{A:Option Addr}{xs:List Value}{wh:Bool}
namespace Opts
open Go.RowKit Mem
structure Opt where
 block:Int
 plain:Bool
 bucket:Int
 data:Int
 parity:Int
 chunk:Int
def Opt.val(o:Opt):Value:= .agg #[o.block,o.plain,o.bucket,o.data,o.parity,o.chunk]
theorem WZ(a b:Bool)(a0 b0 a2 b2 a3 b3 a4 b4 a5 b5:Int)(w:World):(binOp .eql 23 (.agg #[a0,a,a2,a3,a4,a5]) (.agg #[b0,b,b2,b3,b4,b5])).run prog w= .ok (.bool (decide (a0=b0/\a=b/\a2=b2/\a3=b3/\a4=b4/\a5=b5))) w:=by
 go_simp
 by_cases h0:a0=b0<;>by_cases h1:a=b<;>by_cases h2:a2=b2<;>by_cases h3:a3=b3<;>by_cases h4:a4=b4<;>by_cases h5:a5=b5<;>simp[h0,h1,h2,h3,h4,h5]
theorem SE(w:World)(x lo hi:Int):
 Calls prog 161 #[x,lo,hi] w fun e w'=>e= .returned (.bool (decide (lo<=x/\x<=hi)))/\w'=w:=by
 by_cases h:lo<=x
 ·have g1:decide (lo<=x)=true:=by simpa using h
  have HD:Hid (decide (lo<=x/\x<=hi)=decide (x<=hi)):=by show _=_;simp[h]
  rw[HD.out];clear h;go_enter func161,ntmps161;go_wp2_with fail;go_ret;exact⟨rfl,rfl⟩
 ·have g1:decide (lo<=x)=false:=by simpa using h
  have HD:Hid (decide (lo<=x/\x<=hi)=false):=by show _=_;simp[h]
  rw[HD.out];clear h;go_enter func161,ntmps161;go_wp2_with fail;go_ret;exact⟨rfl,rfl⟩
end Opts
namespace Recs
open Go.RowKit Mem
def Rec.val(r:Rec):Value:= .agg #[.int .u64 r.time, .int .u8 r.level, .string r.source, .string r.text]
def CA(r:Rec):Bool:=decide (4000<r.source.size) || decide (4000<r.text.size)
def CH(l:List Rec):Int:=if 20000<l.length then 6 else if l.any CA=true then 6 else if 1048576<Bp l then 6 else 0
theorem YY{l:List Rec}{p:Rec->Bool}{r:Rec}(hr:l[k]? =some r):(l.drop k).any p=(p r || (l.drop (k+1)).any p):=by obtain⟨hk,e⟩:=CE.1 hr;rw[Df hk,List.any_cons,e]
theorem IQ{r:Rec}(h:CA r=false):r.source.size<=4000/\r.text.size<=4000:=by unfold CA at h;simp at h;exact h
theorem aS{l:List Rec}{r:Rec}(hr:l[k]? =some r):Bp (l.take (k+1))=Bp (l.take k)+weigh r:=by rw[Cm,hr];simp[VM]
theorem bH{l:List Rec}(h:∀r∈l,CA r=false):0<=Bp l/\Bp l<=8016*(l.length:Int):=by
 induction l with
 |nil=>simp[J7]
 |cons r l ih=>
  have h1:=IQ (h r pI);have h2:=ih (fun x hx=>h x pW);have e:Bp (r :: l)=weigh r+Bp l:=pM
  rw[e];unfold weigh;simp only[List.length_cons]
  push_cast
  omega
theorem long_any(w:World)(r:Rec):
 Calls prog 95 #[r.val] w fun e w'=>e= .returned (.bool (CA r))/\Below w w w':=by
 unfold Rec.val;by_cases h1:4000<r.source.size
 ·have hl:CA r=true:=by unfold CA;simp[h1]
  rw[hl];have g1:=ic ((4000:Int)<r.source.size)
  have i:=ic (4000<r.source.size)
  clear hl h1;go_enter func95,ntmps95;go_wp2_with fail;go_ret;exact⟨rfl,qh⟩
 ·have g1:=ig ((4000:Int)<r.source.size)
  have i:=ig (4000<r.source.size)
  by_cases h2:4000<r.text.size
  ·have hl:CA r=true:=(by unfold CA;simp[h2]);rw[hl];have g2:=ic ((4000:Int)<r.text.size);have h:=ic (4000<r.text.size);clear hl h1 h2;go_enter func95,ntmps95;go_wp2_with fail;go_ret;exact⟨rfl,qh⟩
  ·have hl:CA r=false:=(by unfold CA;simp;omega);rw[hl];have g2:=ig ((4000:Int)<r.text.size);have h:=ig (4000<r.text.size);clear hl h1 h2;go_enter func95,ntmps95;go_wp2_with fail;go_ret;exact⟨rfl,qh⟩
theorem gD(w:World)(A:Option Addr)(n c:Nat)(l:List Rec)(hl:l.length=n)(hn:n<=9223372036854775807)(hr:Row w w A n 4 (BS l))(K:Nat)(p:Rec->Bool)(hK:∀args wx,(callFunc K args).run prog wx= .ok (.enter K args) wx)
 (hp:∀wx r,Calls prog K #[Rec.val r] wx fun e w'=>e= .returned (.bool (p r))/\Below wx wx w'):
 Calls prog 164 #[.slice A n c, .func (.func K) #[] #[]] w fun e w'=>∃z:Int,e= .returned (.int .i64 z)/\decide (0<=z)=l.any p/\Below w w w':=by
 have HP:=hid hp;have HL:=hid hl;clear hp hl;go_enter func164,ntmps164;go_wp2_with fail;go_loopw [8] (fun i wx=>∃k:Nat,k<=n/\i= .int .i64 k/\Hid ((l.drop k).any p=l.any p)/\Hid (Below w w wx)) (fun i _=>n-(intOf i).toNat)
 case atStart=>exact⟨0,mz,rfl,rfl,Ag _ _⟩
 case round=>
  obtain⟨k,hk,rfl,hA,HB⟩:=hrel;by_cases y:k<n
  ·obtain⟨b,G,r,rfl,E,hg,c0,c1,c2,c3⟩:=Row.rec (hr.below HB.out) HL.out y;have ha:=hA.out;rw[YY hg]at ha;have D:=HP.out wr r;unfold Rec.val at D;have x0:(0:Int)<=(k:Int):=mz;have x1:(k:Int)<(n:Int):=mz;cases hb:p r
   ·rw[hb]at D ha;rw[Bool.false_or]at ha;have D:=hid D;have HA:=hid ha;clear hA ha hb hg;go_wp2_with fail;refine D.out.mono ?_;rintro e w1 ⟨rfl,h⟩;have j:Hid (Below w w w1):=dZ h HB.out;clear h D c0 c1 c2 c3;go_wp2_with fail;go_roundw
    case measure=>exact jo
    case rel=>go_light;exact⟨k+1,mz,jp,HA.out,j.out⟩
   ·rw[hb]at D ha;rw[Bool.true_or]at ha;have D:=hid D;have HA:=hid ha;clear hA ha hb hg;go_wp2_with fail;refine D.out.mono ?_;rintro e w1 ⟨rfl,h⟩;have j:Hid (Below w w w1):=dZ h HB.out;clear h D c0 c1 c2 c3;go_wp2_with fail;go_ret;exact⟨k,rfl,by rw[<-HA.out];simp,j.out⟩
  ·obtain rfl:k=n:=by omega
   have ha:=hA.out;rw[Eb (by rw[HL.out];exact Aq _)]at ha;have HA:=hid ha;clear ha hA;go_wp2_with fail;go_ret;exact⟨-1,rfl,by rw[<-HA.out];rfl,HB.out⟩
theorem Wg(w:World)(A:Option Addr)(n c:Nat)(l:List Rec)(hl:l.length=n)(hn:n<=9223372036854775807)(hr:Row w w A n 4 (BS l)):
 Calls prog 94 #[.slice A n c, .func (.func 95) #[] #[]] w fun e w'=>e= .returned (.bool (l.any CA))/\Below w w w':=by
 have D:=hid (gD w A n c l hl hn hr 95 CA (by intro h wx;simp[callFunc,go_sem,func95];rfl) long_any);clear hl hr;go_enter func94,ntmps94;go_wp2_with fail;refine D.out.mono ?_;rintro e w1 ⟨z,rfl,hz,hb⟩;have HZ:=hid hz;clear hz D;go_wp2_with fail;go_ret;exact⟨Hj HZ.out,hb⟩
theorem Z7(w:World)(A:Option Addr)(n c:Nat)(l:List Rec)(hl:l.length=n)(hn:n<=20000)(hs:∀r∈l,CA r=false)(hr:Row w w A n 4 (BS l)):
 Calls prog 96 #[.slice A n c] w fun e w'=>e= .returned (.int .i64 (Bp l))/\Below w w w':=by
 have HL:=hid hl;have HS:=hid hs
 have HT:Hid (∀k,k<=n->0<=Bp (l.take k)/\Bp (l.take k)<=160320000):=fun k hk=>by
  have h:=bH (l:=l.take k) (fun r hr=>hs r (C7 hr));have N:(l.take k).length<=n:=nX
  omega
 clear hl hs;go_enter func96,ntmps96;go_wp2_with fail;go_loopw [3,8] (fun s i wx=>∃ (k:Nat) (x:Int),k<=n/\i= .int .i64 k/\s= .int .i64 x/\Hid (Bp (l.take k)=x)/\Hid (Below w w wx)) (fun _ i _=>n-(intOf i).toNat)
 case atStart=>exact⟨0,0,mz,rfl,rfl,rfl,Ag _ _⟩
 case round=>
  obtain⟨k,x,hk,rfl,rfl,hx,HB⟩:=hrel;by_cases z:k<n
  ·obtain⟨b,G,r,rfl,E,hg,c0,c1,c2,c3⟩:=Row.rec (hr.below HB.out) HL.out z;have y:=HT.out k hk;rw[hx.out]at y;have J:=IQ (HS.out r (Bg hg));have HW:Hid (Bp (l.take (k+1))=x+weigh r):=(by show _=_;rw[aS hg,hx.out]);unfold weigh at HW;have x0:(0:Int)<=(k:Int):=mz;have x1:(k:Int)<(n:Int):=mz;have s1:IntKind.i64.wrap (16+(r.source.size:Int))=16+(r.source.size:Int):=Aw _ mz;have s2:IntKind.i64.wrap (16+(r.source.size:Int)+(r.text.size:Int))=16+(r.source.size:Int)+(r.text.size:Int):=Aw _ mz;have s3:IntKind.i64.wrap (x+(16+(r.source.size:Int)+(r.text.size:Int)))=x+(16+(r.source.size:Int)+(r.text.size:Int)):=Aw _ mz;have M:=HB.out.size;clear hg hx;go_wp2_with fail;go_roundw
   case measure=>exact jo
   case rel=>go_light;exact⟨k+1,x+(16+(r.source.size:Int)+(r.text.size:Int)),mz,iu,iu,HW.out,by have h:=HB.out;show Below w w _;(repeat (with_reducible first|exact Ag _ _|assumption|refine Az ?_ |refine below_drewN ?_ _|refine qZ ?_ |refine aZ ?_ |refine dZ im ?_ |refine belA ?_ |refine rZ im ?_))⟩
  ·obtain rfl:k=n:=by omega
   have j:=hx.out;rw[BV (by rw[HL.out];exact Aq _)]at j;have HX:=hid j;clear j hx;go_wp2_with fail;go_ret;exact⟨by rw[HX.out];rfl,HB.out⟩
theorem OK(w:World)(A:Option Addr)(n c:Nat)(l:List Rec)(hl:l.length=n)(hn:n<=9223372036854775807)(hr:Row w w A n 4 (BS l)):
 Calls prog 45 #[.slice A n c] w fun e w'=>e= .returned (.int .i64 (CH l))/\Below w w w':=by
 have D1:=hid (Wg w A n c l hl hn hr);unfold CH;rw[hl];by_cases h1:20000<n
 ·rw[Ae h1];have g1:=ic ((20000:Int)<n)
  have j:=ic (20000<n)
  clear h1 hl hr D1;go_enter func45,ntmps45;go_wp2_with fail;go_ret;exact⟨rfl,Ag _ _⟩
 ·rw[Ab h1];have g1:=ig ((20000:Int)<n)
  have j:=ig (20000<n)
  cases hlo:l.any CA with
  |true=>rw[Ae rfl];rw[hlo]at D1;clear h1 hl hr hlo;go_enter func45,ntmps45;go_wp2_with fail;refine D1.out.mono ?_;rintro e w1 ⟨rfl,hb⟩;go_wp2_with fail;go_ret;exact⟨rfl,hb⟩
  |false=>
   rw[Ab pI];rw[hlo]at D1;have hs:∀r∈l,CA r=false:=fun r h=>by have:=List.any_eq_false.1 hlo r h;simpa using this
   have D2:=hid (fun wx (hb:Below w w wx)=>Z7 wx A n c l hl mz hs ((hr.below hb).mono hb.size));generalize Bp l=x at *;by_cases h2:1048576<x
   ·rw[Ae h2];have g2:decide (1048576<x)=true:=p6;clear h1 hl hr hlo hs h2;go_enter func45,ntmps45;go_wp2_with fail;refine D1.out.mono ?_;rintro e w1 ⟨rfl,hb⟩;have E2:=hid (D2.out w1 hb);clear D1 D2;go_wp2_with fail;refine E2.out.mono ?_;rintro e w2 ⟨rfl,i⟩;go_wp2_with fail;go_ret;exact⟨rfl,dZ i hb⟩
   ·rw[Ab h2];have g2:decide (1048576<x)=false:=p6;clear h1 hl hr hlo hs h2;go_enter func45,ntmps45;go_wp2_with fail;refine D1.out.mono ?_;rintro e w1 ⟨rfl,hb⟩;have E2:=hid (D2.out w1 hb);clear D1 D2;go_wp2_with fail;refine E2.out.mono ?_;rintro e w2 ⟨rfl,i⟩;go_wp2_with fail;go_ret;exact⟨rfl,dZ i hb⟩
end Recs
namespace NumPut
open Go.RowKit Mem Own Canon
theorem Mg{X:Nat}(h:X*2 ^ (7*k)<18446744073709551616)(i:128<=X):k+1<=9/\X / 128*2 ^ (7*(k+1))<18446744073709551616:=by
 have e:2 ^ (7*(k+1))=128*2 ^ (7*k):=by rw[show 7*(k+1)=7*k+7 by omega,Nat.pow_add];omega
 constructor
 ·by_cases hk:k+1<=9
  ·exact hk
  ·exfalso;have h1:2 ^ 63<=2 ^ (7*k):=Cl mz mz;have h2:128*2 ^ 63<=X*2 ^ (7*k):=Hn i h1;omega
 ·rw[e,<-Nat.mul_assoc];have:X / 128*128*2 ^ (7*k)<=X*2 ^ (7*k):=Gp _ (Nat.div_mul_le_self _ _);omega
theorem fD:∀ (x k:Nat),x*2 ^ (7*k)<18446744073709551616->k<=9->(fZ x).length+k<=10:=by
 intro x
 induction x using Nat.strongRecOn with
 |_ x ih=>
  intro k h hk;by_cases h1:x<128
  ·rw[EW h1];simp;omega
  ·obtain⟨s1,s2⟩:=Mg h mz;have:=ih (x / 128) mz (k+1) s2 s1;rw[Gi h1,AI];omega
theorem sZ(h:x<18446744073709551616):(fZ x).length<=10:=by have:=fD x 0 p5 mz;omega
theorem Gf(w:World)(x:Nat)(hx:x<18446744073709551616):
 Calls prog 99 #[.int .u64 x] w fun e w'=>∃v,e= .returned v/\w'.ownsRow w 5 1 v (fZ x).length (cZ .u8 (fZ x))/\Below w w w':=by
 obtain⟨j0,Z,aa,U,Y⟩:=info_parts Eo;obtain⟨R,hR⟩:=ii (fZ x);have ab:Hid ([]++fZ x=R):=hR.symm;have Q:Hid (x*2 ^ (7*0)<18446744073709551616):=by show _<_;simpa using hx
 rw[<-hR];clear hR;go_enter func99,ntmps99;go_wp2_with fail;go_loopw [0,3] (fun u v wr=>∃ (X k:Nat) (done:List Nat),u= .int .u64 X/\k<=9/\X<18446744073709551616/\Hid (X*2 ^ (7*k)<18446744073709551616)/\Hid (done.length=k)/\Hid (done++fZ X=R)/\Hid (wr.ownsRow w 5 1 v k (cZ .u8 done))/\Hid (Below w w wr)) (fun u _ _=>(intOf u).toNat)
 case atStart=>exact⟨x,0,[],rfl,mz,hx,Q.out,rfl,ab.out,AK _ _ _ _,Ag _ _⟩
 case round=>
  obtain⟨X,k,done,rfl,hk,hX,HX,HL,HR,HO,HB⟩:=hrel;clear ab Q;have zb:=HB.out.size;by_cases z:X<128
  ·have g1:=ig ((128:Int)<=X);have ac:=ig (128<=X);have c1:IntKind.u8.wrap (X:Int)=(X:Int):=oF;have j:Hid (done++ [X]=R):=ka;go_wp2_with(at_builtin;refine iZ rfl (.tmp 14) (.tmp 17) 28 rfl w 5 j0 _ 1 1 underlying28 Z aa U Y rfl ip _ _ _ nc (HO.out.alloc _) _ 1 1 [.int .u8 (X:Nat)] nc (Src.of_blk (g:=wr.heap.size) (Blk.made _ _ _) 1 1 1 rfl) mj qg mz pQ ?_;intro v4 w4 i J M);have G:Hid (w4.ownsRow w 5 1 v4 R.length (cZ .u8 R)):=nk;have E:Hid (Below w w w4):=(aZ HB.out).grown J pQ (fun y hy=>(Am HO.out y hy).1);go_ret;exact⟨_,rfl,G.out,E.out⟩
  ·have g1:=ic ((128:Int)<=X);have ac:=ic (128<=X);have c1:IntKind.u8.wrap (X:Int)=((X % 256:Nat):Int):=oF;have o1:bits .or .u8 ((X % 256:Nat):Int) 128=((X % 128+128:Nat):Int):=pj;have j:Hid ((done++ [X % 128+128])++fZ (X / 128)=R):=ke;obtain⟨ag,N⟩:=Mg HX.out mz;have af:=hid N;obtain⟨b,hb⟩:=ii (X % 128+128);obtain⟨a,ha⟩:=ii (X % 256);rw[<-hb]at o1 j;rw[<-ha]at o1 c1;clear hb ha N;go_wp2_with(at_builtin;refine iZ rfl (.tmp 6) (.tmp 10) 28 rfl w 5 j0 _ 1 1 underlying28 Z aa U Y rfl ip _ _ _ nc (HO.out.alloc _) _ 1 1 [.int .u8 (b:Nat)] nc (Src.of_blk (g:=wr.heap.size) (Blk.made _ _ _) 1 1 1 rfl) mj qg mz pQ ?_;intro v4 w4 i J M);have ae:Hid (w4.ownsRow w 5 1 v4 (k+1) (cZ .u8 (done++ [b]))):=(by rw[Ji];exact i);have E:Hid (Below w w w4):=(aZ HB.out).grown J pQ (fun y hy=>(Am HO.out y hy).1);exact⟨⟨X / 128,k+1,done++ [b],AE _ mz,mz,mz,af.out,py,j.out,ae.out,E.out⟩,pY⟩
theorem JY(w:World)(x:Nat)(hx:x<18446744073709551616):
 Calls prog 77 #[.int .u64 x] w fun e w'=>∃v,e= .returned v/\w'.ownsRow w 5 1 v (fZ x).length (cZ .u8 (fZ x))/\Below w w w':=by
 obtain⟨j0,Z,aa,U,Y⟩:=info_parts Eo;obtain⟨R,hR⟩:=ii (fZ x);have ab:Hid ([]++fZ x=R):=hR.symm;have Q:Hid (x*2 ^ (7*0)<18446744073709551616):=by show _<_;simpa using hx
 rw[<-hR];clear hR;go_enter func77,ntmps77;go_wp2_with fail;go_loopw [0,3] (fun u v wr=>∃ (X k:Nat) (done:List Nat),u= .int .u64 X/\k<=9/\X<18446744073709551616/\Hid (X*2 ^ (7*k)<18446744073709551616)/\Hid (done.length=k)/\Hid (done++fZ X=R)/\Hid (wr.ownsRow w 5 1 v k (cZ .u8 done))/\Hid (Below w w wr)) (fun u _ _=>(intOf u).toNat)
 case atStart=>exact⟨x,0,[],rfl,mz,hx,Q.out,rfl,ab.out,AK _ _ _ _,Ag _ _⟩
 case round=>
  obtain⟨X,k,done,rfl,hk,hX,HX,HL,HR,HO,HB⟩:=hrel;clear ab Q;have zb:=HB.out.size;by_cases z:X<128
  ·have g1:=ig ((128:Int)<=X);have ac:=ig (128<=X);have c1:IntKind.u8.wrap (X:Int)=(X:Int):=oF;have j:Hid (done++ [X]=R):=ka;go_wp2_with(at_builtin;refine iZ rfl (.tmp 15) (.tmp 18) 28 rfl w 5 j0 _ 1 1 underlying28 Z aa U Y rfl ip _ _ _ nc (HO.out.alloc _) _ 1 1 [.int .u8 (X:Nat)] nc (Src.of_blk (g:=wr.heap.size) (Blk.made _ _ _) 1 1 1 rfl) mj qg mz pQ ?_;intro v4 w4 i J M);have G:Hid (w4.ownsRow w 5 1 v4 R.length (cZ .u8 R)):=nk;have E:Hid (Below w w w4):=(aZ HB.out).grown J pQ (fun y hy=>(Am HO.out y hy).1);go_ret;exact⟨_,rfl,G.out,E.out⟩
  ·have g1:=ic ((128:Int)<=X);have ac:=ic (128<=X);have c1:IntKind.u64.wrap (128+(X:Int) % 128)=((X % 128+128:Nat):Int):=(by rw[show IntKind.u64.wrap (128+(X:Int) % 128)=(128+(X:Int) % 128) % 18446744073709551616 from by simp[IntKind.wrap,IntKind.bits,IntKind.signed]];omega);have c2:IntKind.u8.wrap ((X % 128+128:Nat):Int)=((X % 128+128:Nat):Int):=oF;have j:Hid ((done++ [X % 128+128])++fZ (X / 128)=R):=ke;obtain⟨ag,N⟩:=Mg HX.out mz;have af:=hid N;obtain⟨b,hb⟩:=ii (X % 128+128);rw[<-hb]at c1 c2 j;clear hb N;go_wp2_with(at_builtin;refine iZ rfl (.tmp 6) (.tmp 11) 28 rfl w 5 j0 _ 1 1 underlying28 Z aa U Y rfl ip _ _ _ nc (HO.out.alloc _) _ 1 1 [.int .u8 (b:Nat)] nc (Src.of_blk (g:=wr.heap.size) (Blk.made _ _ _) 1 1 1 rfl) mj qg mz pQ ?_;intro v4 w4 i J M);have ae:Hid (w4.ownsRow w 5 1 v4 (k+1) (cZ .u8 (done++ [b]))):=(by rw[Ji];exact i);have E:Hid (Below w w w4):=(aZ HB.out).grown J pQ (fun y hy=>(Am HO.out y hy).1);exact⟨⟨X / 128,k+1,done++ [b],AE _ mz,mz,mz,af.out,py,j.out,ae.out,E.out⟩,pY⟩
def sB(s:ByteArray):List Nat:=s.data.toList.map UInt8.toNat
theorem KU(s:ByteArray):(sB s).length=s.size:=by unfold sB;rw[Bc,Array.length_toList];rfl
theorem kO(s:ByteArray):∀x∈sB s,x<=255:=fun x hx=>by obtain⟨c,_,rfl⟩:=Cc.1 hx;have:=c.toNat_lt;omega
theorem YE(s:ByteArray):cZ .u8 (sB s)=Lib.strCells s:=by unfold cZ sB Lib.strCells;rw[List.map_map];rfl
def BF(s:ByteArray):List Nat:=fZ s.size++sB s
theorem QE(s:ByteArray):∀x∈BF s,x<=255:=fun x hx=>by
 rcases BJ.1 hx with hx|hx
 ·exact CY _ x hx
 ·exact kO s x hx
theorem KT{s:ByteArray}(h:s.size<=100000):(BF s).length<=3+s.size/\s.size<(BF s).length:=by
 have h1:(fZ s.size).length<=3:=by
  by_cases h1:s.size<128
  ·rw[EW h1];simp
  ·rw[Gi h1,AI];by_cases h2:s.size / 128<128
   ·rw[EW h2];simp
   ·rw[Gi h2,EW mz];simp
 have h2:1<=(fZ s.size).length:=by
  by_cases h1:s.size<128
  ·rw[EW h1];simp
  ·rw[Gi h1,AI];omega
 unfold BF;rw[Aj,KU];omega
theorem Yn:(prog.info? 5).map (fun i=>(i.zero,i.size,i.bytes))=some (some (.int .u8 0),1,1):=mr
theorem Mb(w:World)(s:ByteArray)(hs:s.size<=100000):
 Calls prog 165 #[.string s] w fun e w'=>∃v,e= .returned v/\w'.ownsRow w 5 1 v (BF s).length (cZ .u8 (BF s))/\Below w w w':=by
 obtain⟨j0,z,J,M,N⟩:=info_parts Yn;have D:=hid (Gf w s.size mz);have hl:=sZ (x:=s.size) mz;have u1:IntKind.u64.wrap (s.size:Int)=(s.size:Int):=n5
 have HT:Hid (cZ .u8 (BF s)=cZ .u8 (fZ s.size)++Lib.strCells s/\(BF s).length=(fZ s.size).length+s.size):=⟨by rw[<-YE];simp[BF,cZ],by unfold BF;rw[Aj,KU]⟩;generalize BF s=T at *;generalize fZ s.size=X at *;obtain⟨k,hk⟩:=ii X.length;rw[<-hk]at D hl HT;clear hk;go_enter func165,ntmps165;go_wp2_with fail;refine D.out.mono ?_;rintro e w1 ⟨v,rfl,ho,hb⟩;have HO:=hid ho;have HB:=hid hb;have hz:=hb.size;clear ho hb D;go_wp2_with(at_builtin;refine Lib.wpList_append_own_string w1 rfl (.tmp 6) (.tmp 7) 28 9 rfl w 5 j0 underlying28 underlying9 z J M N _ k _ nc HO.out s nc qg mz hz ?_;intro v4 w4 h j i;have E:Hid (Below w w w4):=HB.out.grown j hz (fun y hy=>(Am HO.out y hy).1);have G:Hid (w4.ownsRow w 5 1 v4 T.length (cZ .u8 T)):=(by rw[HT.out.1,HT.out.2];exact h);clear h j i);go_ret;exact⟨_,rfl,G.out,E.out⟩
end NumPut
namespace Recs
open Go.RowKit Mem Own Canon NumPut
open Nums (PV)
open Block (nZ)
def BY(r:Rec):Prop:=0<=r.time/\r.time<18446744073709551616/\0<=r.level/\r.level<=255
def G8(wh:Bool)(r:Rec):List Nat:=if wh=true then fZ r.time.toNat++ [r.level.toNat]else []
def CW(wh:Bool)(r:Rec):List Nat:=G8 wh r++(BF r.source++BF r.text)
theorem U1(wh:Bool){r:Rec}(h:BY r):(G8 wh r).length<=11:=by
 unfold G8;split
 ·have:=sZ (x:=r.time.toNat) (by have:=h.1;have:=h.2.1;omega);rw[Aj];simp;omega
 ·simp
theorem X4(wh:Bool){r:Rec}(h:BY r):∀x∈G8 wh r,x<=255:=by
 unfold G8;split
 ·intro x hx;rcases BJ.1 hx with hx|hx
  ·exact CY _ x hx
  ·simp at hx;have:=h.2.2;omega
 ·intro x hx;cases hx
theorem WE(wh:Bool){r:Rec}(h:BY r):∀x∈CW wh r,x<=255:=fun x hx=>by
 unfold CW at hx;simp only[List.mem_append]at hx;rcases hx with hx|hx|hx
 ·exact X4 wh h x hx
 ·exact QE _ x hx
 ·exact QE _ x hx
theorem OI(wh:Bool){r:Rec}(h:BY r)(hl:CA r=false):(CW wh r).length<=17+r.source.size+r.text.size/\2<=(CW wh r).length:=by obtain⟨h1,h2⟩:=IQ hl;have a:=U1 wh h;have b:=KT (s:=r.source) mz;have c:=KT (s:=r.text) mz;unfold CW;rw[Aj,Aj];omega
def MN(wh:Bool)(r:Rec)(w:World)(e:Ending)(w':World):Prop:=
 ∃v,e= .returned v/\w'.ownsRow w 5 1 v (CW wh r).length (cZ .u8 (CW wh r))/\Below w w w'
theorem Vi(w:World)(wh:Bool)(r:Rec)(hr:BY r)(hl:CA r=false):
 Calls prog 97 #[wh,r.val] w (MN wh r w):=by
 obtain⟨j0,a0,a9,ax,ay⟩:=info_parts Eo;obtain⟨h1,h2⟩:=IQ hl;obtain⟨t1,t2,l1,l2⟩:=hr;have az:=U1 wh (r:=r) ⟨t1,t2,l1,l2⟩;have b1:=KT (s:=r.source) mz;have b2:=KT (s:=r.text) mz;unfold MN CW;obtain⟨tm,lv,j,i⟩:=r;obtain⟨t,rfl⟩:=Iz t1;obtain⟨l,rfl⟩:=Iz l1;unfold Rec.val;simp only at *;clear hl;have D1:=hid (fun wx=>Gf wx t mz);have D2:=hid (fun wx=>Mb wx j mz);have D3:=hid (fun wx=>Mb wx i mz);cases wh with
 |true=>
  have HH:Hid (G8 true ⟨(t:Nat),(l:Nat),j,i⟩=fZ t++ [l]):=rfl;have ba:=sZ (x:=t) mz;generalize G8 true ⟨(t:Nat),(l:Nat),j,i⟩=H at *;generalize fZ t=N1 at *;generalize BF j=T1 at *;generalize BF i=T2 at *;go_enter func97,ntmps97;go_upto_region 3 with fail;have E:Blk (w.alloc (.cells #[.int .u64 t, .int .u8 l, .string j, .string i] 43)) w 43 #[.int .u64 t, .int .u8 l, .string j, .string i]:=Blk.made _ _ _;have M:Below w w (w.alloc (.cells #[.int .u64 t, .int .u8 l, .string j, .string i] 43)):=aZ (Ag _ _);have ag:(w.alloc (.cells #[.int .u64 t, .int .u8 l, .string j, .string i] 43)).heap.size=w.heap.size+1:=pI
  generalize w.alloc (.cells #[.int .u64 t, .int .u8 l, .string j, .string i] 43)=wa at *;have ah:=hid E;have J:=hid M;have an:w.heap.size<wa.heap.size:=mz
  have HS:Hid (∀wx,Below wa wa wx->wx.cell? ⟨w,0,none⟩=some (.int .u64 t)/\wx.cell? ⟨w,1,none⟩=some (.int .u8 l)):=fun wx h=>⟨(E.step h).cell 0,(E.step h).cell 1⟩;clear E M ag
  go_region_held3 (fun wx=>wx.cell? ⟨w,0,none⟩=some (.int .u64 t)/\wx.cell? ⟨w,1,none⟩=some (.int .u8 l)) (first|exact HS.out _ ((Ag _ _).drew)|exact HS.out _ U|exact HS.out _ G|exact HS.out _ (Az (aZ (Ag _ _)))|exact HS.out _ (mZ (Below.size G) G)|(refine HS.out _ ?_;(repeat (with_reducible first|exact Ag _ _|assumption|refine Az ?_ |refine below_drewN ?_ _|refine qZ ?_ |refine aZ ?_ |refine dZ im ?_ |refine belA ?_ |refine rZ im ?_))))
   (first|(go_at_call 99;(with_reducible refine(D1.out _).mono ?_);rintro e w1 ⟨v,rfl,al,ae⟩;obtain⟨A1,c1,rfl⟩:=bZ al;have G:Below wa wa w1:=uZ ae pI qh;have au:=G.size;have af:w1.ownsRow wa 5 1 (.slice A1 N1.length c1) N1.length (cZ .u8 N1):=kZ al pI)|(refine PV rfl (.tmp 9) (.tmp 12) 28 rfl wa 5 j0 _ 1 1 underlying28 a0 a9 ax ay rfl ip (.slice A1 N1.length c1) N1.length (cZ .u8 N1) nc (by first|exact af|exact af.alloc _) _ 1 1 [.int .u8 l] nc (by first|exact Src.of_blk (g:=w1.heap.size) (Blk.made _ _ _) 1 1 1 rfl|exact Src.of_blk (g:=wa.heap.size) ((Blk.drew (Blk.made _ _ _)).step ae) 1 1 1 rfl|exact Src.of_blk (g:=wa.heap.size) (Blk.step (Blk.made _ _ _) ae) 1 1 1 rfl) mj qg mz it ?_;intro A4 c4 w4 ab ar;have U:Below wa wa w4:=Below.grown (by first|exact G|exact G.alloc au _) ar it (fun y hy=>(Am af y hy).1)))
  all_goals
   have P4:Hid (Part.Ok (⟨A4,c4,H⟩:Part) w4):=(by rw[HH.out];have e1:(N1++ [l]).length=N1.length+1:=(by rw[Aj];rfl);refine nZ (base:=wa.heap.size) (ls:=N1++ [l]) (n:=(N1++ [l]).length) ?_ rfl;rw[e1,Ji];exact ab);have Z:Hid (Below w w w4):=J.out.trans (U.mono mz);have z:Hid (∀wx,Below w4 w4 wx->wx.cell? ⟨w,2,none⟩=some (.string j)/\wx.cell? ⟨w,3,none⟩=some (.string i)):=fun wx h=>⟨((ah.out.step U).step h).cell 2,((ah.out.step U).step h).cell 3⟩;have ai:∀a1 a2 a3 a4 a5 a6,BM [(⟨a1,a2,H⟩:Part),⟨a3,a4,T1⟩,⟨a5,a6,T2⟩]<=1000000:=fun _ _ _ _ _ _=>pR
   have aw:Hid (H.length=N1.length+1):=(by show _=_;rw[HH.out,Aj];rfl);have av:H.length=N1.length+1:=aw.out;rw[<-av];clear HS ah U ab ar af ae al G au J D1 av aw HH;go_upto_region 4 with fail;go_region_held3 (fun wx=>wx.cell? ⟨w,2,none⟩=some (.string j)/\wx.cell? ⟨w,3,none⟩=some (.string i)) (first|exact z.out _ ((Ag _ _).drew)|exact z.out _ BA|exact z.out _ BB|(refine z.out _ ?_;(repeat (with_reducible first|exact Ag _ _|assumption|refine Az ?_ |refine below_drewN ?_ _|refine qZ ?_ |refine aZ ?_ |refine dZ im ?_ |refine belA ?_ |refine rZ im ?_)))) (first|(go_at_call 165;first|((with_reducible refine(D2.out _).mono ?_);rintro e wA ⟨vA,rfl,ac,aa⟩;obtain⟨AA,cA,rfl⟩:=bZ ac;have BA:Below w4 w4 wA:=uZ aa it qh;have zA:=BA.size;have PA:Part.Ok (⟨AA,cA,T1⟩:Part) wA:=nZ ac rfl;have kA:=aa)|((with_reducible refine(D3.out _).mono ?_);rintro e wB ⟨vB,rfl,Q,Y⟩;obtain⟨AB,cB,rfl⟩:=bZ Q;have BB:Below w4 w4 wB:=uZ Y it qh;have zB:=BB.size;have PB:Part.Ok (⟨AB,cB,T2⟩:Part) wB:=nZ Q rfl;have kB:=Y))|(go_at_call 55;(refine(FJ _ _ 3 [(⟨A4,c4,H⟩:Part),(⟨AA,cA,T1⟩:Part),(⟨AB,cB,T2⟩:Part)] rfl mz (ai _ _ _ _ _ _) (fun p hp=>by{rcases AQ.1 hp with rfl|hp;exact P4.out.step qh;rcases AQ.1 hp with rfl|hp;exact PA.step qh;rcases AQ.1 hp with rfl|hp;exact PB.step qh;cases hp}) iq).mono ?_);rintro e w7 ⟨v7,rfl,N,aj⟩;obtain⟨A7,c7,rfl⟩:=bZ N;have B7:Below w4 w4 w7:=uZ aj it qh));have ak:Hid (Below w w w7):=Z.out.trans (B7.mono Z.out.size);have am:=hid (kZ N (show w.heap.size<=_ by have:=Z.out.size;have:=zA;have:=zB;first|omega|(simp;omega)));go_wp2_with fail;go_ret;refine⟨_,rfl,?_,ak.out⟩;have h:=am.out;simp only[List.flatMap_cons,List.flatMap_nil,List.append_nil]at h;rw[Aj,Aj]at h ⊢;exact h
 |false=>
  have aq:G8 false ⟨(t:Nat),(l:Nat),j,i⟩= []:=rfl;rw[aq,FA];clear az aq D1;generalize BF j=T1 at *;generalize BF i=T2 at *;go_enter func97,ntmps97;go_upto_region 4 with fail;have E:Blk (w.alloc (.cells #[.int .u64 t, .int .u8 l, .string j, .string i] 43)) w 43 #[.int .u64 t, .int .u8 l, .string j, .string i]:=Blk.made _ _ _;have M:Below w w (w.alloc (.cells #[.int .u64 t, .int .u8 l, .string j, .string i] 43)):=aZ (Ag _ _);have ag:(w.alloc (.cells #[.int .u64 t, .int .u8 l, .string j, .string i] 43)).heap.size=w.heap.size+1:=pI
  generalize w.alloc (.cells #[.int .u64 t, .int .u8 l, .string j, .string i] 43)=wa at *;have an:w.heap.size<wa.heap.size:=mz
  have J:=hid M;have z:Hid (∀wx,Below wa wa wx->wx.cell? ⟨w,2,none⟩=some (.string j)/\wx.cell? ⟨w,3,none⟩=some (.string i)):=fun wx h=>⟨(E.step h).cell 2,(E.step h).cell 3⟩;have P4:Hid (Part.Ok (⟨none,0,([]:List Nat)⟩:Part) wa):=⟨Row.zero,fun _=>⟨rfl,rfl⟩⟩;have ai:∀ (a1:Option Addr) (a2:Nat) a3 a4 a5 a6,BM [(⟨a1,a2,([]:List Nat)⟩:Part),⟨a3,a4,T1⟩,⟨a5,a6,T2⟩]<=1000000:=fun _ _ _ _ _ _=>pR
  clear E M ag;go_region_held3 (fun wx=>wx.cell? ⟨w,2,none⟩=some (.string j)/\wx.cell? ⟨w,3,none⟩=some (.string i)) (first|exact z.out _ ((Ag _ _).drew)|exact z.out _ BA|exact z.out _ BB|(refine z.out _ ?_;(repeat (with_reducible first|exact Ag _ _|assumption|refine Az ?_ |refine below_drewN ?_ _|refine qZ ?_ |refine aZ ?_ |refine dZ im ?_ |refine belA ?_ |refine rZ im ?_)))) (first|(go_at_call 165;first|((with_reducible refine(D2.out _).mono ?_);rintro e wA ⟨vA,rfl,ac,aa⟩;obtain⟨AA,cA,rfl⟩:=bZ ac;have BA:Below wa wa wA:=uZ aa it qh;have zA:=BA.size;have PA:Part.Ok (⟨AA,cA,T1⟩:Part) wA:=nZ ac rfl;have kA:=aa)|((with_reducible refine(D3.out _).mono ?_);rintro e wB ⟨vB,rfl,Q,Y⟩;obtain⟨AB,cB,rfl⟩:=bZ Q;have BB:Below wa wa wB:=uZ Y it qh;have zB:=BB.size;have PB:Part.Ok (⟨AB,cB,T2⟩:Part) wB:=nZ Q rfl;have kB:=Y))|(go_at_call 55;(refine(FJ _ _ 3 [(⟨none,0,([]:List Nat)⟩:Part),(⟨AA,cA,T1⟩:Part),(⟨AB,cB,T2⟩:Part)] rfl mz (ai _ _ _ _ _ _) (fun p hp=>by{rcases AQ.1 hp with rfl|hp;exact P4.out.step qh;rcases AQ.1 hp with rfl|hp;exact PA.step qh;rcases AQ.1 hp with rfl|hp;exact PB.step qh;cases hp}) iq).mono ?_);rintro e w7 ⟨v7,rfl,N,aj⟩;obtain⟨A7,c7,rfl⟩:=bZ N;have B7:Below wa wa w7:=uZ aj it qh));have ak:Hid (Below w w w7):=J.out.trans (B7.mono J.out.size);have am:=hid (kZ N (show w.heap.size<=_ by have:=J.out.size;have:=zA;have:=zB;first|omega|(simp;omega)));go_wp2_with fail;go_ret;refine⟨_,rfl,?_,ak.out⟩;have h:=am.out;simp only[List.flatMap_cons,List.flatMap_nil,List.append_nil,List.nil_append]at h;rw[Aj]at h ⊢;exact h
theorem Dz(h:w.ownsRow base 5 1 (.slice A n c) n xs):Src w A n c 1 xs:=by
 obtain⟨h0,h1⟩:=h;refine⟨h0,?_⟩;rcases h1 with ⟨hv,_⟩|⟨g,y,cur,hv,_,hh,_,_,_,i⟩
 ·injection hv with e1 e2 e3;exact .inl ⟨e1,e2,e3⟩
 ·injection hv with e1 e2 e3;refine .inr ⟨⟨g,0,none⟩,e1,fun j u hu=> ?_⟩;rw[add_none,Ck,Blk.cell hh];rw[<-i,Gq]at hu;split at hu
  ·simpa using hu
  ·cases hu
end Recs
namespace Recs
open Go.RowKit Mem Own Canon NumPut
open Block (nZ)
def wZ(wh:Bool)(l:List Rec):List Nat:=l.flatMap (CW wh)
theorem ZM{l:List Rec}{r:Rec}(hr:l[k]? =some r):wZ wh (l.take (k+1))=wZ wh (l.take k)++CW wh r:=by unfold wZ;rw[Cm,hr,Ix];simp
theorem N4(wh:Bool){l:List Rec}(h:∀r∈l,BY r):∀x∈wZ wh l,x<=255:=fun x hx=>by obtain⟨r,hr,hx⟩:=List.mem_flatMap.1 hx;exact WE wh (h r hr) x hx
theorem Su(wh:Bool):∀ {l:List Rec},(∀r∈l,BY r)->(∀r∈l,CA r=false)->((wZ wh l).length:Int)<=Bp l+l.length
 | [],_,_=>by simp[wZ,J7]
 |r :: l,h,hl=>by
  have h1:=(OI wh (h r pI) (hl r pI)).1;have ih:=Su wh (l:=l) (fun x hx=>h x pW) (fun x hx=>hl x pW);have e:Bp (r :: l)=weigh r+Bp l:=pM
  have e2:(wZ wh (r :: l)).length=(CW wh r).length+(wZ wh l).length:=by unfold wZ;rw[Ct,Aj]
  rw[e,e2];unfold weigh;simp only[List.length_cons]
  push_cast
  omega
theorem Zu(wh:Bool)(l:List Rec)(k:Nat):(wZ wh (l.take k)).length<=(wZ wh l).length:=by
 conv=>rhs;rw[<-EM k l]
 unfold wZ;rw[Ix,Aj];omega
def BytesPost(wh:Bool)(l:List Rec)(w:World)(e:Ending)(w':World):Prop:=
 ∃v,e= .returned v/\w'.ownsRow w 5 1 v (wZ wh l).length (cZ .u8 (wZ wh l))/\Below w w w'
theorem bytes_any(w:World)(wh:Bool)(A:Option Addr)(n c:Nat)(l:List Rec)(hn:l.length=n)(hN:n<=9223372036854775807)(N:∀r∈l,BY r)(hl:∀r∈l,CA r=false)(hb:(wZ wh l).length<=1000000000)(ha:Row w w A n 4 (BS l)):
 Calls prog 48 #[wh, .slice A n c] w (BytesPost wh l w):=by
 obtain⟨j0,ab,ah,ai,aj⟩:=info_parts Eo;have HN:=hid hn;have HM:=hid (fun k=>AN (Zu wh l k) hb);have HD:=hid (fun wx r (h:r∈l)=>Vi wx wh r (N r h) (hl r h));unfold MN at HD;unfold BytesPost;clear hn N hl hb;go_enter func48,ntmps48;go_wp2_with fail;go_loopw [5,10] (fun u i wr=>∃ (k q:Nat),k<=n/\q<=1000000000/\i= .int .i64 k/\Hid ((wZ wh (l.take k)).length=q)/\Hid (wr.ownsRow w 5 1 u q (cZ .u8 (wZ wh (l.take k))))/\Hid (Below w w wr)) (fun _ i _=>n-(intOf i).toNat)
 case atStart=>exact⟨0,0,mz,mz,rfl,rfl,AK _ _ _ _,Ag _ _⟩
 case round=>
  obtain⟨k,q,hk,hq,rfl,HQ,HO,HB⟩:=hrel;have hz:=HB.out.size;by_cases ag:k<n
  ·obtain⟨b,al,r,rfl,ak,hg,c0,c1,c2,c3⟩:=Row.rec (ha.below HB.out) HN.out ag;have D:=hid (fun wx=>HD.out wx r (Bg hg));have HT:=hid (ZM (wh:=wh) hg);have Q:q+(CW wh r).length<=1000000000:=(by have h:=HM.out (k+1);rw[HT.out,Aj,HQ.out]at h;exact h);have aa:(CW wh r).length<=1000000000:=mz;unfold Rec.val at D;have x0:(0:Int)<=(k:Int):=mz;have x1:(k:Int)<(n:Int):=mz;generalize CW wh r=O at *;obtain⟨m,hm⟩:=ii O.length;rw[<-hm]at D Q aa;have ae:=hid hm;clear hg hm;go_wp2_with fail;refine(D.out _).mono ?_;rintro e w1 ⟨v1,rfl,E,z⟩;obtain⟨A1,d1,rfl⟩:=bZ E;have Z:Hid (Src w1 A1 m d1 1 (cZ .u8 O)):=Dz E;have G:Hid (Below w w w1):=dZ z (aZ HB.out);have M:Hid (w1.ownsRow w 5 1 u5 q (cZ .u8 (wZ wh (l.take k)))):=eZ (HO.out.alloc (.cells #[.int .u64 r.time, .int .u8 r.level, .string r.source, .string r.text] 43)) (fun y hy=>z.block y ky);have Y:=G.out.size;clear E z D c0 c1 c2 c3 HO HB;go_wp2_with(at_builtin;refine iZ rfl (.tmp 14) (.tmp 17) 28 rfl w 5 j0 _ 1 1 underlying28 ab ah ai aj rfl ip _ _ _ nc M.out _ _ _ _ nc Z.out (Cq _ _) qg mz Y ?_;intro v4 w4 j U J);have ac:Hid (Below w w w4):=G.out.grown U Y (fun y hy=>(Am M.out y hy).1);have af:Hid (w4.ownsRow w 5 1 v4 (q+m) (cZ .u8 (wZ wh (l.take (k+1))))):=(by rw[HT.out,show cZ .u8 (wZ wh (l.take k)++O)=cZ .u8 (wZ wh (l.take k))++cZ .u8 O by simp[cZ]];exact j);clear j U J;go_roundw
   case measure=>exact jo
   case rel=>go_light;exact⟨k+1,q+m,mz,Q,iu,by show _=_;rw[HT.out,Aj,HQ.out,ae.out],af.out,ac.out⟩
  ·obtain rfl:k=n:=by omega
   have h1:l.take k=l:=BV oq;rw[h1]at HQ HO;clear h1;go_wp2_with fail;go_ret;exact⟨_,rfl,by rw[HQ.out];exact HO.out,HB.out⟩
end Recs
namespace Recs
open Go.RowKit Mem Own Canon NumPut
def goG(S:Nat):Nat->Nat->List Nat->List Nat
 |_,c,[]=> [c]
 |h,c,x :: t=>if S<h+x then c :: goG S x 1 t else goG S (h+x) (c+1) t
def Hc(S:Nat):List Nat->List Nat
 | []=> []
 |x :: t=>goG S x 1 t
def EJ(wh:Bool)(l:List Rec):List Nat:=l.map fun r=>(CW wh r).length
theorem dV{l:List Rec}{r:Rec}(hr:l[k]? =some r):(EJ wh l).drop k=(CW wh r).length :: (EJ wh l).drop (k+1):=by
 obtain⟨hk,e⟩:=CE.1 hr;have h:k<(EJ wh l).length:=by unfold EJ;rw[Bc];exact hk
 rw[Df h];congr 1;simp[EJ,e]
theorem aL{l:List Rec}(hn:l.length=n):(EJ wh l).drop n= []:=Eb (by unfold EJ;rw[Bc];omega)
theorem Ot{done:List Nat}(h:w.ownsRow base 3 1 (.slice (some ⟨g,0,none⟩) (q+1) cg) (q+1) (cZ .i64 (done++ [z])))(hq:done.length=q):w.cell? ⟨g,q,none⟩=some (.int .i64 (z:Nat)):=by rw[(Lz.own_cells h (show q<q+1 by omega)).1];simp only[cZ,List.getElem?_map];rw[I4 mz,hq];simp
theorem NU{done:List Nat}(h:w.ownsRow base 3 1 (.slice (some ⟨g,0,none⟩) (q+1) cg) (q+1) (cZ .i64 (done++ [z])))(hq:done.length=q):(w.setCell ⟨g,q,none⟩ (.int .i64 (z+1:Nat))).ownsRow base 3 1 (.slice (some ⟨g,0,none⟩) (q+1) cg) (q+1) (cZ .i64 (done++ [z+1])):=by
 have h1:=Lz.Tz h (.int .i64 (z+1:Nat)) (show q<q+1 by omega)
 have e:(cZ .i64 (done++ [z])).set q (.int .i64 (z+1:Nat))=cZ .i64 (done++ [z+1]):=by
  have hl:q=(cZ .i64 done).length:=by unfold cZ;rw[Bc,hq]
  have e1:cZ .i64 (done++ [z])=cZ .i64 done++ [.int .i64 (z:Nat)]:=pT
  rw[e1,hl,List.set_append_right _ _ (Aq _),Gn];simp[cZ]
 rw[e]at h1;exact h1
theorem Z0:(prog.info? 3).map (fun i=>(i.zero,i.size,i.bytes))=some (some (.int .i64 0),1,8):=mr
def Ol(S:Nat)(wh:Bool)(l:List Rec)(w:World)(e:Ending)(w':World):Prop:=
 ∃v,e= .returned v/\w'.ownsRow w 3 1 v (Hc S (EJ wh l)).length (cZ .i64 (Hc S (EJ wh l)))/\Below w w w'
theorem UP(k:IntKind)(l:List Nat)(x:Nat):cZ k (l++ [x])=cZ k l++ [.int k (x:Nat)]:=pT
theorem cQ(w:World)(S:Nat)(wh:Bool)(A:Option Addr)(n c:Nat)(l:List Rec)(hS:1<=S)(b0:S<=1000000)(hn:l.length=n)(hN:n<=1000000)(a0:∀r∈l,BY r)(hl:∀r∈l,CA r=false)(ha:Row w w A n 4 (BS l)):
 Calls prog 46 #[S,wh, .slice A n c] w (Ol S wh l w):=by
 obtain⟨j0,bd,bg,a9,ba⟩:=info_parts Z0;have HN:=hid hn;have HX:=hid (fun r (h:r∈l)=>(OI wh (a0 r h) (hl r h)).1);have bt:=hid (fun r (h:r∈l)=>IQ (hl r h));have HD:=hid (fun wx r (h:r∈l)=>Vi wx wh r (a0 r h) (hl r h));have HE:=hid (aL (wh:=wh) hn);unfold MN at HD;unfold Ol;obtain⟨R,hR⟩:=ii (Hc S (EJ wh l));have HR:=hid hR;rw[<-hR];have bN:max (1:Int) (S:Int)=(S:Int):=mz
 clear hn a0 hl hR;go_enter func46,ntmps46;go_wp2_with fail;go_loopw [7,8,14] (fun u hv i wr=>∃ (k q h:Nat) (out:List Nat),k<=n/\q<=k/\h<=1010000/\i= .int .i64 k/\hv= .int .i64 h/\Hid (out.length=q)/\Hid ((k=0/\out= []/\h=0)∨(0<k/\∃done z,out=done++ [z]/\z<=k/\done++goG S h z ((EJ wh l).drop k)=R))/\Hid (wr.ownsRow w 3 1 u q (cZ .i64 out))/\Hid (Below w w wr)) (fun _ _ i _=>n-(intOf i).toNat)
 case atStart=>exact⟨0,0,0,[],mz,mz,mz,rfl,rfl,rfl, .inl ⟨rfl,rfl,rfl⟩,AK _ _ _ _,Ag _ _⟩
 case round=>
  obtain⟨k,q,h,out,hk,b1,hh,rfl,rfl,HQ,HC,HO,HB⟩:=hrel;obtain⟨uA,uc,rfl⟩:=bZ HO.out;have hz:=HB.out.size;by_cases bk:k<n
  ·obtain⟨b,bx,r,rfl,bu,hg,c0,c1,c2,c3⟩:=Row.rec (ha.below HB.out) HN.out bk;have D:=hid (fun wx=>HD.out wx r (Bg hg));unfold Rec.val at D;have hx:=HX.out r (Bg hg);have bp:=bt.out r (Bg hg);have x0:(0:Int)<=(k:Int):=mz;have x1:(k:Int)<(n:Int):=mz;have bj:(CW wh r).length<=8017:=mz;have ai:=hid (dV (wh:=wh) hg);generalize CW wh r=O at *;obtain⟨x,bb⟩:=ii O.length;rw[<-bb]at D bj ai;have s1:IntKind.i64.wrap ((h:Int)+(x:Int))=((h+x:Nat):Int):=nW;have s2:IntKind.i64.wrap ((0:Int)+(x:Int))=(x:Int):=nW;clear hg hx bp bb;by_cases E:k=0∨S<h+x
   ·
    have a1:Hid (∃j,out=j/\j++goG S x 1 ((EJ wh l).drop (k+1))=R):=by
     rcases HC.out with ⟨h1,h2,h3⟩|⟨h1,done,z,h2,h3,h4⟩
     ·refine⟨[],h2,?_⟩;have e:=HR.out;have e2:=ai.out;rw[h1,Iy]at e2;rw[e2,Hc]at e;rw[h1];exact e.symm
     ·refine⟨out,rfl,?_⟩;have hf:S<h+x:=(by rcases E with E|E;omega;exact E);rw[ai.out,goG,Ae hf]at h4;rw[h2,AJ];exact h4
    have av:Hid (out++goG S x 1 ((EJ wh l).drop (k+1))=R):=(by obtain⟨d2,h1,h2⟩:=a1.out;rw[h1];exact h2);obtain⟨J,ae⟩:=ii (h+x);rw[<-ae]at s1 E;by_cases a3:q=0
    ·have gq:((q:Int)==0)=true:=(by simp[a3]);clear E ae a1 HC a3;go_wp2_with fail;refine(D.out _).mono ?_;rintro e w1 ⟨v1,rfl,Z,M⟩;obtain⟨A1,d1,rfl⟩:=bZ Z;have aa:Hid (Below w w w1):=dZ M (aZ HB.out);have ab:Hid (w1.ownsRow w 3 1 (.slice uA q uc) q (cZ .i64 out)):=eZ (HO.out.alloc (.cells #[.int .u64 r.time, .int .u8 r.level, .string r.source, .string r.text] 43)) (fun y hy=>M.block y ky);have ay:=aa.out.size;obtain⟨z,af⟩:∃z:Nat,z=0:=⟨_,rfl⟩;have HZ:=hid af;have a5:z<=0:=mz;obtain⟨j,ac⟩:=ii out;obtain⟨q2,Q⟩:=ii q;have N:Hid (j.length=q2):=(by rw[ac,Q];exact HQ.out);have ar:=hid ac;have al:=hid Q;have bh:q2<=k:=mz;clear Z M D c0 c1 c2 c3 HO HB hz af ac Q;go_wp2_with(at_builtin;refine iZ rfl (.tmp 33) (.tmp 34) 37 rfl w 3 j0 _ 1 8 underlying37 bd bg a9 ba rfl ip _ _ _ nc (ab.out.alloc _) _ 1 1 [.int .i64 0] nc (Src.of_blk (g:=w1.heap.size) (Blk.made _ _ _) 1 1 1 rfl) mj qg mz pQ ?_;intro v4 w4 U ah ag;have Y:Hid (Below w w w4):=(aZ aa.out).grown ah pQ (fun y hy=>(Am ab.out y hy).1);have G:Hid (w4.ownsRow w 3 1 v4 (q2+1) (cZ .i64 (j++ [z]))):=(by rw[ar.out,al.out,UP,HZ.out];exact U);have ax:=al.out;subst ax;clear U ah ag ab aa ay;have a6:=Y.out.size;obtain⟨g,cg,rfl,an,_⟩:=G.out.form mz;have am:w4.cell? ⟨g,q2,none⟩=some (.int .i64 (z:Nat)):=Ot G.out N.out;have a4:=(Lz.own_cells G.out (show q2<q2+1 by omega)).2.1;have aq:Hid ((w4.setCell ⟨g,q2,none⟩ (.int .i64 (z+1:Nat))).ownsRow w 3 1 (.slice (some ⟨g,0,none⟩) (q2+1) cg) (q2+1) (cZ .i64 (j++ [z+1]))):=NU G.out N.out;have aj:Hid (Below w w (w4.setCell ⟨g,q2,none⟩ (.int .i64 (z+1:Nat)))):=B4 an Y.out;have u1:IntKind.i64.wrap (((q2+1:Nat):Int)-1)=(q2:Int):=nW;have bf:IntKind.i64.wrap ((q2:Int)+1-1)=(q2:Int):=nW;have u2:IntKind.i64.wrap ((z:Int)+1)=((z+1:Nat):Int):=nW;have y0:(0:Int)<=(q2:Int):=mz;have y1:(q2:Int)<((q2+1:Nat):Int):=mz);go_roundw
     case measure=>exact jo
     case rel=>exact jh
    ·have gq:((q:Int)==0)=false:=n8;have be:¬k=0:=mz;have hf:S<J:=(by rcases E with E|E;exact absurd E be;exact E);have gs:=ic ((S:Int)<J);have bq:=ic (S<J);clear E ae a1 HC hf be a3;go_wp2_with fail;refine(D.out _).mono ?_;rintro e w1 ⟨v1,rfl,Z,M⟩;obtain⟨A1,d1,rfl⟩:=bZ Z;have aa:Hid (Below w w w1):=dZ M (aZ HB.out);have ab:Hid (w1.ownsRow w 3 1 (.slice uA q uc) q (cZ .i64 out)):=eZ (HO.out.alloc (.cells #[.int .u64 r.time, .int .u8 r.level, .string r.source, .string r.text] 43)) (fun y hy=>M.block y ky);have ay:=aa.out.size;obtain⟨z,af⟩:∃z:Nat,z=0:=⟨_,rfl⟩;have HZ:=hid af;have a5:z<=0:=mz;obtain⟨j,ac⟩:=ii out;obtain⟨q2,Q⟩:=ii q;have N:Hid (j.length=q2):=(by rw[ac,Q];exact HQ.out);have ar:=hid ac;have al:=hid Q;have bh:q2<=k:=mz;clear Z M D c0 c1 c2 c3 HO HB hz af ac Q;go_wp2_with(at_builtin;refine iZ rfl (.tmp 33) (.tmp 34) 37 rfl w 3 j0 _ 1 8 underlying37 bd bg a9 ba rfl ip _ _ _ nc (ab.out.alloc _) _ 1 1 [.int .i64 0] nc (Src.of_blk (g:=w1.heap.size) (Blk.made _ _ _) 1 1 1 rfl) mj qg mz pQ ?_;intro v4 w4 U ah ag;have Y:Hid (Below w w w4):=(aZ aa.out).grown ah pQ (fun y hy=>(Am ab.out y hy).1);have G:Hid (w4.ownsRow w 3 1 v4 (q2+1) (cZ .i64 (j++ [z]))):=(by rw[ar.out,al.out,UP,HZ.out];exact U);have ax:=al.out;subst ax;clear U ah ag ab aa ay;have a6:=Y.out.size;obtain⟨g,cg,rfl,an,_⟩:=G.out.form mz;have am:w4.cell? ⟨g,q2,none⟩=some (.int .i64 (z:Nat)):=Ot G.out N.out;have a4:=(Lz.own_cells G.out (show q2<q2+1 by omega)).2.1;have aq:Hid ((w4.setCell ⟨g,q2,none⟩ (.int .i64 (z+1:Nat))).ownsRow w 3 1 (.slice (some ⟨g,0,none⟩) (q2+1) cg) (q2+1) (cZ .i64 (j++ [z+1]))):=NU G.out N.out;have aj:Hid (Below w w (w4.setCell ⟨g,q2,none⟩ (.int .i64 (z+1:Nat)))):=B4 an Y.out;have u1:IntKind.i64.wrap (((q2+1:Nat):Int)-1)=(q2:Int):=nW;have bf:IntKind.i64.wrap ((q2:Int)+1-1)=(q2:Int):=nW;have u2:IntKind.i64.wrap ((z:Int)+1)=((z+1:Nat):Int):=nW;have y0:(0:Int)<=(q2:Int):=mz;have y1:(q2:Int)<((q2+1:Nat):Int):=mz);go_roundw
     case measure=>exact jo
     case rel=>exact jh
   ·
    have bc:¬k=0:=mz;have hf:¬S<h+x:=mz
    obtain⟨j,z,ak,bC,au⟩:∃done z,out=done++ [z]/\z<=k/\done++goG S h z ((EJ wh l).drop k)=R:=by
     rcases HC.out with ⟨h1,_,_⟩|⟨_,h2⟩
     ·exact absurd h1 bc
     ·exact h2
    rw[ai.out,goG,Ab hf]at au;have az:=HQ.out;rw[ak,Aj]at az;obtain⟨q2,Q⟩:=ii j.length;have bl:q=q2+1:=(by rw[Q,<-az];rfl);subst bl;have gq:(((q2+1:Nat):Int)==0)=false:=n8;have bS:((q2:Int)+1==0)=false:=n8;obtain⟨J,ae⟩:=ii (h+x);rw[<-ae]at s1 hf au;have gs:=ig ((S:Int)<J);have bq:=ig (S<J);have bm:J<=1010000:=mz;have bn:=hid au;have aw:=hid ak;have N:Hid (j.length=q2):=Q.symm;clear au ak az Q hf E bc ae HC ai;go_wp2_with fail;refine(D.out _).mono ?_;rintro e w4 ⟨v1,rfl,Z,M⟩;obtain⟨A1,d1,rfl⟩:=bZ Z;have Y:Hid (Below w w w4):=dZ M (aZ HB.out);have G:Hid (w4.ownsRow w 3 1 (.slice uA (q2+1) uc) (q2+1) (cZ .i64 (j++ [z]))):=(by rw[<-aw.out];exact eZ (HO.out.alloc (.cells #[.int .u64 r.time, .int .u8 r.level, .string r.source, .string r.text] 43)) (fun y hy=>M.block y ky));clear Z M D c0 c1 c2 c3 HO HB hz aw HQ;have a6:=Y.out.size;obtain⟨g,cg,bi,an,_⟩:=G.out.form mz;injection bi with hg91 hg92 hg93;subst hg91 hg93;have am:w4.cell? ⟨g,q2,none⟩=some (.int .i64 (z:Nat)):=Ot G.out N.out;have a4:=(Lz.own_cells G.out (show q2<q2+1 by omega)).2.1;have aq:Hid ((w4.setCell ⟨g,q2,none⟩ (.int .i64 (z+1:Nat))).ownsRow w 3 1 (.slice (some ⟨g,0,none⟩) (q2+1) uc) (q2+1) (cZ .i64 (j++ [z+1]))):=NU G.out N.out;have aj:Hid (Below w w (w4.setCell ⟨g,q2,none⟩ (.int .i64 (z+1:Nat)))):=B4 an Y.out;have u1:IntKind.i64.wrap (((q2+1:Nat):Int)-1)=(q2:Int):=nW;have bf:IntKind.i64.wrap ((q2:Int)+1-1)=(q2:Int):=nW;have u2:IntKind.i64.wrap ((z:Int)+1)=((z+1:Nat):Int):=nW;have y0:(0:Int)<=(q2:Int):=mz;have y1:(q2:Int)<((q2+1:Nat):Int):=mz;go_wp2_with fail;go_roundw
    case measure=>exact jo
    case rel=>go_light;exact⟨k+1,q2+1,J,j++ [z+1],mz,mz,bm,iu,iu,pB, .inr ⟨mz,j,z+1,rfl,mz,bn.out⟩,aq.out,aj.out⟩
  ·obtain rfl:k=n:=by omega
   have HF:Hid (out=R):=by
    rcases HC.out with ⟨h1,h2,_⟩|⟨_,done,z,h2,_,h4⟩
    ·have e:=HR.out;have e2:=HE.out;rw[h1,Iy]at e2;rw[e2,Hc]at e;rw[h2];exact e.symm
    ·rw[HE.out,goG]at h4;rw[h2];exact h4
   clear HC;go_wp2_with fail;go_ret;exact⟨_,rfl,by rw[<-HF.out,HQ.out];exact HO.out,HB.out⟩
end Recs
namespace Nums
open Go.RowKit Mem Own Canon NumPut
open Crc (Fe GC FG)
def FN(ls:List Nat):ByteArray:=⟨(ls.map UInt8.ofNat).toArray⟩
theorem Wi(s:ByteArray):FN (sB s)=s:=by
 unfold sB FN;simp only[List.map_map];have:(UInt8.ofNat ∘ UInt8.toNat)=id:=by funext x;simp
 rw[this];simp
theorem nN{B:Nat}{ls:List Nat}(hr:Row w B A n 1 (jZ .u8 ls))(hn:ls.length=n):
 (convert 28 9 (.slice A n c)).run prog w= .ok (.string (FN ls)) w:=by
 have e:FN ls=strOfNums (ls.map Int.ofNat):=by unfold FN strOfNums;rw[List.map_map];rfl
 rcases Nat.eq_zero_or_pos n with h0|h0
 ·subst h0;obtain rfl:=VY.1 hn;cases A with
  |none=>exact run_convert_bytes_nil w _ _ underlying28 underlying5 _ _ _ underlying9
  |some a=>rw[run_convert_bytes_string w _ _ _ _ _ _ underlying28 underlying5 underlying9];rw[run_bytesToString w a 0 c [] (run_loadCells_list (P:=prog) w a [] (fun j v hj=>by cases hj))];rfl
 ·obtain⟨b,h,rfl,_,hc⟩:=hr h0;rw[e];refine run_convert_bytes_arg w _ _ underlying28 underlying5 b h n c (ls.map Int.ofNat) (by simpa using hn) (fun i hi=> ?_) _ underlying9;have:=hc i 0 hi mz;rw[CG,Bj]at this;rw[this];unfold jZ;congr 2;simp[List.getD_eq_getElem?_getD,List.getElem?_map,List.getElem?_eq_getElem (show i<ls.length by omega)]
theorem left_any(w:World)(g base:Nat)(bs:List Nat)(A:Option Addr)(c at_:Nat)(er:Int)(h:Cur w g base bs A c at_ er):
 Calls prog 191 #[.pointer (some ⟨g,0,none⟩)] w fun e w'=>e= .returned (.int .i64 (bs.length-at_:Nat))/\∃q,w'=w.drewN q:=by
 have D:=hid (rest_any w g base bs A c at_ er h);clear h;generalize bs.length-at_=m at *;go_enter func191,ntmps191;go_wp2_with fail;refine D.out.mono ?_;rintro e w2 ⟨rfl,q,rfl⟩;go_wp2_with fail;go_ret;exact⟨rfl,q,rfl⟩
theorem Za(w:World)(g base ob:Nat)(bs:List Nat)(A:Option Addr)(c at_:Nat)(J:bs.length<=100000)(h8:∀x∈bs,x<=255)(h:Cur w g base bs A c at_ 0)(i:Blk w ob 41 #[.int .u64 0]):
 Calls prog 292 #[.slice (AW A at_ c 1) (bs.length-at_) (c-at_), .pointer (some ⟨ob,0,none⟩)] w fun e w'=>∃ (k:Nat) (e2:Int),e= .returned (.tuple #[.int .i64 k,e2])/\k<=100000/\Cur w' g base bs A c at_ 0/\
  (Kept (fun x=>x≠ob) w w'/\k=(Bm (bs.drop at_) 0 0).2.1/\e2=(Bm (bs.drop at_) 0 0).2.2/\Blk w' ob 41 #[.int .u64 (Bm (bs.drop at_) 0 0).1]):=by
 have f1:=i.frozen 0;have d1:=i.ia 0;have E:=Ex h.own;have j:=Fe (own_row h.own) h.le E.2;have y:∀x∈bs.drop at_,x<=255:=fun x hx=>h8 x (Cb hx);have D:=Qq w (AW A at_ c 1) (bs.length-at_) (c-at_) (bs.drop at_) (by rw[AU]) mz y j;have G:=J5 (bs.drop at_) 0 0 y mz pI;have hk:(Bm (bs.drop at_) 0 0).2.1<=100000:=by have:=G.2.1;rw[AU]at this;omega
 generalize Bm (bs.drop at_) 0 0=R at *;have z:=Blk.apart i h.blk ip;have D:=hid D;have H:=hid h;have HO:=hid i;generalize AW A at_ c 1=A1 at *;clear j y G h i E;go_enter func292,ntmps292;go_wp2_with fail;refine D.out.mono ?_;rintro e w1 ⟨rfl,rfl⟩;go_wp2_with fail;go_ret2;refine⟨R.2.1,R.2.2,rfl,hk,?_,(Kept.refl _ _).set (fun h=>h rfl) _,rfl,rfl,HO.out.set 0 _⟩;exact⟨H.out.blk.far (fun e=>z e.symm) _,BZ H.out.own (gZ H.out.own HO.out ip) _,H.out.le,H.out.lo⟩
theorem num_any(w:World)(g base:Nat)(bs:List Nat)(A:Option Addr)(c at_:Nat)(er:Int)(ab:bs.length<=100000)(h8:∀x∈bs,x<=255)(h:Cur w g base bs A c at_ er):
 Calls prog 243 #[.pointer (some ⟨g,0,none⟩)] w fun e w'=>e= .returned (.int .u64 (Hf bs at_ er:Nat))/\Cur w' g base bs A c (IT bs at_ er) (IR bs at_ er)/\Kept (BD g w) w w':=by
 have ah:=h.blk.lt;have h2:Cur (w.alloc (.cells #[.int .u64 0] 41)) g base bs A c at_ er:=(h.step (aZ (Ag _ _)));have J:Blk (w.alloc (.cells #[.int .u64 0] 41)) w 41 #[.int .u64 0]:=Blk.made _ _ _;have Q:Kept (fun x=>x<w.heap.size/\x≠g) w (w.alloc (.cells #[.int .u64 0] 41)):=Kept.of_below (by(repeat (with_reducible first|exact Ag _ _|assumption|refine Az ?_ |refine below_drewN ?_ _|refine qZ ?_ |refine aZ ?_ |refine dZ im ?_ |refine belA ?_ |refine rZ im ?_)):Below w w _) (fun x hx=>hx.1);have ai:=h.le;unfold BD;by_cases he:er=0
 ·subst he;have ac:∀N wx,(callFunc 292 N).run prog wx= .ok (.enter 292 N) wx:=by intro N wx;simp[callFunc,go_sem,func292];rfl
  have D:=fun w2 (hc2:Cur w2 g base bs A c at_ 0) (J:Blk w2 w 41 #[.int .u64 0])=>LQ w2 g base bs A c at_ hc2 ab 292 #[.pointer (some ⟨w,0,none⟩)]
   (fun k e2 w'=>Kept (fun x=>x≠w.heap.size) w2 w'/\k=(Bm (bs.drop at_) 0 0).2.1/\e2=(Bm (bs.drop at_) 0 0).2.2/\Blk w' w 41 #[.int .u64 (Bm (bs.drop at_) 0 0).1]) ac
   (fun q=>(Za (w2.drewN q) g base w bs A c at_ ab h8 (hc2.drewN q) (J.drewN q)).mono fun e w' ⟨k,e2,h1,h2,h3,h4⟩=>⟨k,e2,h1,h2,h3,⟨⟨h4.1.os,h4.1.tape,h4.1.output,h4.1.size,h4.1.block⟩,h4.2⟩⟩)
  have D:=hid (D _ h2 J);have ae:∀x∈bs.drop at_,x<=255:=fun x hx=>h8 x (Cb hx);have Z:=J5 (bs.drop at_) 0 0 ae mz pI;rw[AU]at Z;have eV:Hf bs at_ 0=(Bm (bs.drop at_) 0 0).1:=Ab pI;have eA:IT bs at_ 0=at_+(Bm (bs.drop at_) 0 0).2.1:=Ab pI;have eE:IR bs at_ 0=(Bm (bs.drop at_) 0 0).2.2:=Ab pI;rw[eV,eA,eE];generalize Bm (bs.drop at_) 0 0=R at *;have HK:=hid Q;have af:w.heap.size≠g:=mz
  have aa:=hid Z;clear ac h2 J Q ae Z eV eA eE;by_cases hR:R.2.2=0
  ·have ag:at_+R.2.1<=bs.length:=(by have:=aa.out.2.1;omega);go_enter func243,ntmps243;go_wp2_with fail;refine D.out.mono ?_;rintro e w4 ⟨k,e2,w3,⟨i,E,z,y⟩,M,j⟩;rcases j with ⟨h0,_,_⟩|⟨_,rfl,rfl⟩
   ·exact absurd (z.trans hR) h0
   ·have G:Hid (Kept (fun x=>x<w.heap.size/\x≠g) w w3):=HK.out.trans ⟨i.os,i.tape,i.output,i.size,fun x hx=>i.block x mz⟩;have hB:=y.far (fun e=>af e) (p:=⟨g,1,none⟩) (.int .i64 (at_+k:Nat));have d0:=hB.ia 0;have HC:=hid (M.setAt (at_+k) mz);rw[E]at HC;have U:Hid (Kept (fun x=>x<w.heap.size/\x≠g) w (w3.setCell ⟨g,1,none⟩ (.int .i64 (at_+k:Nat)))):=G.out.set (fun h=>h.2 rfl) _;rw[<-E]at HC;have Y:Hid (Cur (w3.setCell ⟨g,1,none⟩ (.int .i64 (at_+k:Nat))) g base bs A c (at_+R.2.1) R.2.2):=oR;generalize w3.setCell ⟨g,1,none⟩ (.int .i64 (at_+k:Nat))=w5 at *;clear hB y M i D G HK E z HC hR;go_wp2_with fail;go_ret;exact⟨rfl,Y.out,U.out⟩
  ·have hz:=aa.out.2.2.2.1 hR;go_enter func243,ntmps243;go_wp2_with fail;refine D.out.mono ?_;rintro e w4 ⟨k,e2,w3,⟨i,E,z,y⟩,M,j⟩;rcases j with ⟨_,rfl,rfl⟩|⟨h0,_,_⟩
   ·have G:Hid (Kept (fun x=>x<w.heap.size/\x≠g) w w3):=HK.out.trans ⟨i.os,i.tape,i.output,i.size,fun x hx=>i.block x mz⟩;have Y:Hid (Cur (w3.setCell ⟨g,2,none⟩ (.int .i64 e2)) g base bs A c (at_+R.2.1) R.2.2):=(by rw[hz.2,<-z];exact M.setErr e2);have U:Hid (Kept (fun x=>x<w.heap.size/\x≠g) w (w3.setCell ⟨g,2,none⟩ (.int .i64 e2))):=G.out.set (fun h=>h.2 rfl) _;generalize w3.setCell ⟨g,2,none⟩ (.int .i64 e2)=w5 at *;have HZ:=hid hz.1;clear y M i D G HK E z hR hz;go_wp2_with fail;go_ret;exact⟨by rw[HZ.out];rfl,Y.out,U.out⟩
   ·exact absurd (z.symm.trans h0) hR
 ·have D:=hid (LW _ g base bs A c at_ er h2 he (.func (.func 292) #[] #[.pointer (some ⟨w,0,none⟩)]));have eV:Hf bs at_ er=0:=Ae he;have eA:IT bs at_ er=at_:=Ae he;have eE:IR bs at_ er=er:=Ae he;rw[eV,eA,eE];have HK:=hid Q;have HC:=hid h2;clear h2 J Q he eV eA eE;go_enter func243,ntmps243;go_wp2_with fail;refine D.out.mono ?_;rintro e w4 ⟨rfl,rfl⟩;go_wp2_with fail;go_ret;exact⟨rfl,HC.out,HK.out⟩
end Nums
namespace Nums
open Go.RowKit Mem Own Canon NumPut
open Crc (Fe GC FG)
def Co(most:Nat)(ls:List Nat):List Nat×Nat×Int:=
 if(BC most ls).2.2≠0 then([],0,(BC most ls).2.2)else if ls.length-(BC most ls).2.1<(BC most ls).1 then([],0,1)else((ls.drop (BC most ls).2.1).take (BC most ls).1,(BC most ls).2.1+(BC most ls).1,0)
theorem L4(most:Nat)(ls:List Nat)(h8:∀c∈ls,c<=255):(Co most ls).1.length<=most/\(Co most ls).2.1<=ls.length/\((Co most ls).2.2=0->1<=(Co most ls).2.1)/\((Co most ls).2.2≠0->(Co most ls).1= []/\(Co most ls).2.1=0)/\(∀x∈(Co most ls).1,x<=255)/\0<=(Co most ls).2.2/\(Co most ls).2.2<=6:=by
 have h:=Hl most ls h8;unfold Co;split
 ·rename_i he;exact⟨pI,pI,fun h0=>absurd h0 he,fun _=>⟨rfl,rfl⟩,fun x hx=>pK,h.2.2.2.2.1,h.2.2.2.2.2⟩
 ·split
  ·exact⟨pI,pI,fun h0=>absurd h0 ip,fun _=>⟨rfl,rfl⟩,fun x hx=>pK,pI,pI⟩
  ·rename_i he hl;have h1:=h.2.2.1 mz;exact⟨by rw[Bd];have:=h.1;omega,by have:=h.2.1;simp only;omega,fun _=>pL,fun h0=>absurd rfl h0,fun x hx=>h8 x (Cb (C7 hx)),pI,pI⟩
def EI(most:Nat)(bs:List Nat)(at_:Nat)(er:Int):List Nat:=if er≠0 then []else(Co most (bs.drop at_)).1
def DQ(most:Nat)(bs:List Nat)(at_:Nat)(er:Int):Nat:=if er≠0 then at_ else at_+(Co most (bs.drop at_)).2.1
def DJ(most:Nat)(bs:List Nat)(at_:Nat)(er:Int):Int:=if er≠0 then er else(Co most (bs.drop at_)).2.2
theorem Wc(w:World)(g base mb ob:Nat)(bs:List Nat)(A:Option Addr)(c at_ most:Nat)(ab:bs.length<=100000)(h8:∀x∈bs,x<=255)(M:most<=1000000000)(h:Cur w g base bs A c at_ 0)(Y:Blk w mb 3 #[most])(z:Blk w ob 9 #[.string ⟨#[]⟩]):
 Calls prog 301 #[.slice (AW A at_ c 1) (bs.length-at_) (c-at_), .pointer (some ⟨mb,0,none⟩), .pointer (some ⟨ob,0,none⟩)] w fun e w'=>∃ (k:Nat) (e2:Int),e= .returned (.tuple #[.int .i64 k,e2])/\k<=100000/\Cur w' g base bs A c at_ 0/\
  (Kept (fun x=>x<w.heap.size/\x≠ob) w w'/\k=(Co most (bs.drop at_)).2.1/\e2=(Co most (bs.drop at_)).2.2/\Blk w' ob 9 #[.string (FN (Co most (bs.drop at_)).1)]):=by
 have d0:=Y.ia 0;have f1:=z.frozen 0;have d1:=z.ia 0;have J:=Ex h.own;have ac:=h.le;have E:=Fe (own_row h.own) h.le J.2;have N:∀x∈bs.drop at_,x<=255:=fun x hx=>h8 x (Cb hx);have D:=Vz w (AW A at_ c 1) (bs.length-at_) (c-at_) (bs.drop at_) most M (by rw[AU]) mz N E;have y:=Hl most (bs.drop at_) N;rw[AU]at y;have am:bs.length-at_<=100000:=mz
 have ae:bs.length-at_<=c-at_:=by have:=J.2;omega
 unfold Co;rw[show(bs.drop at_).length=bs.length-at_ from AU];have Q:(bs.drop at_).length=bs.length-at_:=AU;have U:=Blk.apart z h.blk ip;have ah:mb≠ob:=by intro e;subst e;rw[d0]at d1;cases d1
 have H:=hid h;have HO:=hid z;generalize bs.drop at_=L at *;generalize bs.length-at_=m at *;generalize AW A at_ c 1=A1 at *;generalize c-at_=cc at *;generalize af:BC most L=R at *;have HR:=hid E;have HL:=hid Q;have D:=hid D;have ak:=y.1;have aq:=y.2.1;have an:=y.2.2.2.2.1;have al:=y.2.2.2.2.2;clear E N h z Y J Q af y ac ab h8;obtain⟨x,n,er⟩:=R;simp only at *;by_cases he:er=0
 ·subst he;rw[Ab pI];have ai:IntKind.i64.wrap ((m:Int)-(n:Int))=((m-n:Nat):Int):=by rw[Aw _ mz];omega
  by_cases G:m-n<x
  ·rw[Ae G];have g1:=ic (((m-n:Nat):Int)<(x:Int));have g2:=ic (m-n<x);clear G;go_enter func301,ntmps301;go_wp2_with fail;refine D.out.mono ?_;rintro e w1 ⟨rfl,rfl⟩;go_wp2_with fail;go_ret2;exact⟨0,1,rfl,mz,H.out,Kept.refl _ _,rfl,rfl,HO.out⟩
  ·rw[Ab G];have g1:=ig (((m-n:Nat):Int)<(x:Int));have g2:=ig (m-n<x);have s2:IntKind.i64.wrap ((n:Int)+(x:Int))=((n:Int)+(x:Int)):=nV;have ks:=fun wx=>OP (P:=prog) (t:=28) (s:=1) underlying28 (fun _=>by kernel_rfl) A1 m cc .i64 .i64 (n:Int) ((n:Int)+(x:Int)) n (n+x) rfl mz mz mz wx;rw[I2]at ks;have ag:((L.drop n).take x).length=x:=by rw[Bd,AU,HL.out];omega
   have Z:Hid (∀wx,Below w w wx->(convert 28 9 (.slice (AW A1 n cc 1) x (cc-n))).run prog wx= .ok (.string (FN ((L.drop n).take x))) wx):=fun wx hb=>
    nN ((HR.out.below hb).cut n x mz ae (fun i j hi hj=>by
     obtain rfl:j=0:=mz
     simp only[jZ,List.getD_eq_getElem?_getD,List.getElem?_take,List.getElem?_drop];rw[Ae hi])) ag
   have aa:n+x<=100000:=mz;generalize (L.drop n).take x=T at *;have cv:=Z.out w (Ag _ _);have aj:=Z.out w.drew qh;clear G HR HL;go_enter func301,ntmps301;go_wp2_with fail;refine D.out.mono ?_;rintro e w1 ⟨rfl,rfl⟩;go_wp2_with fail;go_ret2;refine⟨n+x,0,rfl,aa,?_,(Kept.refl _ _).set (fun h=>h.2 rfl) _,rfl,rfl,HO.out.set 0 _⟩;exact⟨H.out.blk.far (fun e=>U e.symm) _,BZ H.out.own (gZ H.out.own HO.out ip) _,H.out.le,H.out.lo⟩
 ·rw[Ae he];have g1:(er != 0)=true:=by simpa using he
  clear he HR HL;go_enter func301,ntmps301;go_wp2_with fail;refine D.out.mono ?_;rintro e w1 ⟨rfl,rfl⟩;go_wp2_with fail;go_ret2;exact⟨0,er,rfl,mz,H.out,Kept.refl _ _,rfl,rfl,HO.out⟩
theorem NN(w:World)(g base:Nat)(bs:List Nat)(A:Option Addr)(c at_:Nat)(er:Int)(most:Nat)(ae:bs.length<=100000)(h8:∀x∈bs,x<=255)(aa:most<=1000000000)(h:Cur w g base bs A c at_ er):
 Calls prog 251 #[.pointer (some ⟨g,0,none⟩),most] w fun e w'=>e= .returned (.string (FN (EI most bs at_ er)))/\Cur w' g base bs A c (DQ most bs at_ er) (DJ most bs at_ er)/\Kept (BD g w) w w':=by
 have ak:=h.blk.lt;have h2:Cur ((w.alloc (.cells #[most] 3)).alloc (.cells #[.string ⟨#[]⟩] 9)) g base bs A c at_ er:=(h.step (aZ (Ag _ _))).step (aZ (Ag _ _));have M:Blk ((w.alloc (.cells #[most] 3)).alloc (.cells #[.string ⟨#[]⟩] 9)) w 3 #[most]:=(Blk.made _ _ _).alloc _;have J:Blk ((w.alloc (.cells #[most] 3)).alloc (.cells #[.string ⟨#[]⟩] 9)) (w.heap.size+1) 9 #[.string ⟨#[]⟩]:=Blk.made_at _ _ _ pI;have U:Kept (fun x=>x<w.heap.size/\x≠g) w ((w.alloc (.cells #[most] 3)).alloc (.cells #[.string ⟨#[]⟩] 9)):=Kept.of_below (by(repeat (with_reducible first|exact Ag _ _|assumption|refine Az ?_ |refine below_drewN ?_ _|refine qZ ?_ |refine aZ ?_ |refine dZ im ?_ |refine belA ?_ |refine rZ im ?_)):Below w w _) (fun x hx=>hx.1);have al:=h.le;have af:((w.alloc (.cells #[most] 3)).alloc (.cells #[.string ⟨#[]⟩] 9)).heap.size=w.heap.size+2:=pI
 unfold BD;by_cases he:er=0
 ·subst he;have ah:∀Q wx,(callFunc 301 Q).run prog wx= .ok (.enter 301 Q) wx:=by intro Q wx;simp[callFunc,go_sem,func301];rfl
  have D:=fun w2 (hc2:Cur w2 g base bs A c at_ 0) (M:Blk w2 w 3 #[most]) (J:Blk w2 (w.heap.size+1) 9 #[.string ⟨#[]⟩])=>LQ w2 g base bs A c at_ hc2 ae 301 #[.pointer (some ⟨w,0,none⟩), .pointer (some ⟨w.heap.size+1,0,none⟩)]
   (fun k e2 w'=>Kept (fun x=>x<w2.heap.size/\x≠w.heap.size+1) w2 w'/\k=(Co most (bs.drop at_)).2.1/\e2=(Co most (bs.drop at_)).2.2/\Blk w' (w.heap.size+1) 9 #[.string (FN (Co most (bs.drop at_)).1)]) ah
   (fun q=>(Wc (w2.drewN q) g base w (w.heap.size+1) bs A c at_ most ae h8 aa (hc2.drewN q) (M.drewN q) (J.drewN q)).mono fun e w' ⟨k,e2,h1,h2,h3,h4⟩=>⟨k,e2,h1,h2,h3,⟨⟨h4.1.os,h4.1.tape,h4.1.output,h4.1.size,h4.1.block⟩,h4.2⟩⟩)
  have D:=hid (D _ h2 M J);have ai:∀x∈bs.drop at_,x<=255:=fun x hx=>h8 x (Cb hx);have ab:=L4 most (bs.drop at_) ai;rw[AU]at ab;have eV:EI most bs at_ 0=(Co most (bs.drop at_)).1:=Ab pI;have eA:DQ most bs at_ 0=at_+(Co most (bs.drop at_)).2.1:=Ab pI;have eE:DJ most bs at_ 0=(Co most (bs.drop at_)).2.2:=Ab pI;rw[eV,eA,eE];generalize Co most (bs.drop at_)=R at *;have HK:=hid U;have ag:w.heap.size+1≠g:=mz
  have ac:=hid ab;clear ah h2 M J U ai ab eV eA eE;by_cases hR:R.2.2=0
  ·have aj:at_+R.2.1<=bs.length:=(by have:=ac.out.2.1;omega);go_enter func251,ntmps251;go_wp2_with fail;refine D.out.mono ?_;rintro e w4 ⟨k,e2,w3,⟨i,E,z,j⟩,N,y⟩;rcases y with ⟨h0,_,_⟩|⟨_,rfl,rfl⟩
   ·exact absurd (z.trans hR) h0
   ·have G:Hid (Kept (fun x=>x<w.heap.size/\x≠g) w w3):=HK.out.trans ⟨i.os,i.tape,i.output,i.size,fun x hx=>i.block x ⟨by have:=hx.1;rw[af];omega,mg⟩⟩;have hB:=j.far (fun e=>ag e) (p:=⟨g,1,none⟩) (.int .i64 (at_+k:Nat));have d0:=hB.ia 0;have HC:=hid (N.setAt (at_+k) mz);rw[E]at HC;have Y:Hid (Kept (fun x=>x<w.heap.size/\x≠g) w (w3.setCell ⟨g,1,none⟩ (.int .i64 (at_+k:Nat)))):=G.out.set (fun h=>h.2 rfl) _;rw[<-E]at HC;have Z:Hid (Cur (w3.setCell ⟨g,1,none⟩ (.int .i64 (at_+k:Nat))) g base bs A c (at_+R.2.1) R.2.2):=oR;generalize w3.setCell ⟨g,1,none⟩ (.int .i64 (at_+k:Nat))=w5 at *;clear hB j N i D G HK E z HC hR;go_wp2_with fail;go_ret;exact⟨rfl,Z.out,Y.out⟩
  ·have hz:=ac.out.2.2.2.1 hR;go_enter func251,ntmps251;go_wp2_with fail;refine D.out.mono ?_;rintro e w4 ⟨k,e2,w3,⟨i,E,z,j⟩,N,y⟩;rcases y with ⟨_,rfl,rfl⟩|⟨h0,_,_⟩
   ·have G:Hid (Kept (fun x=>x<w.heap.size/\x≠g) w w3):=HK.out.trans ⟨i.os,i.tape,i.output,i.size,fun x hx=>i.block x ⟨by have:=hx.1;rw[af];omega,mg⟩⟩;have Z:Hid (Cur (w3.setCell ⟨g,2,none⟩ (.int .i64 e2)) g base bs A c (at_+R.2.1) R.2.2):=(by rw[hz.2,<-z];exact N.setErr e2);have Y:Hid (Kept (fun x=>x<w.heap.size/\x≠g) w (w3.setCell ⟨g,2,none⟩ (.int .i64 e2))):=G.out.set (fun h=>h.2 rfl) _;have hB:=j.far (fun e=>ag e) (p:=⟨g,2,none⟩) (.int .i64 e2);have d0:=hB.ia 0;generalize w3.setCell ⟨g,2,none⟩ (.int .i64 e2)=w5 at *;clear hB j N i D G HK E z hR hz;go_wp2_with fail;go_ret;exact⟨rfl,Z.out,Y.out⟩
   ·exact absurd (z.symm.trans h0) hR
 ·have D:=hid (LW _ g base bs A c at_ er h2 he (.func (.func 301) #[] #[.pointer (some ⟨w,0,none⟩), .pointer (some ⟨w.heap.size+1,0,none⟩)]));have eV:EI most bs at_ er= []:=Ae he;have eA:DQ most bs at_ er=at_:=Ae he;have eE:DJ most bs at_ er=er:=Ae he;rw[eV,eA,eE];have HK:=hid U;have HC:=hid h2;clear h2 M J U he eV eA eE;go_enter func251,ntmps251;go_wp2_with fail;refine D.out.mono ?_;rintro e w4 ⟨rfl,rfl⟩;go_wp2_with fail;go_ret;exact⟨rfl,HC.out,HK.out⟩
end Nums
namespace Nums
open Go.RowKit Mem Own Canon NumPut
theorem intA_le{bs:List Nat}(h8:∀x∈bs,x<=255){at_:Nat}(er:Int)(h:at_<=bs.length):AM most bs at_ er<=bs.length:=by
 unfold AM;split
 ·exact h
 ·have:=(Hl most (bs.drop at_) (fun x hx=>h8 x (Cb hx))).2.1;rw[AU]at this;omega
theorem Gb{bs:List Nat}(h8:∀x∈bs,x<=255)(at_:Nat)(er:Int):Ba most bs at_ er<=most:=by
 unfold Ba;split
 ·omega
 ·exact(Hl most (bs.drop at_) (fun x hx=>h8 x (Cb hx))).1
end Nums
namespace Nums
open Go.RowKit Mem Own Canon
def Gu(bs:List Nat)(at_:Nat)(er:Int):Int:=if at_<bs.length then Ga er 2 else er
theorem U8(w:World)(g base:Nat)(bs:List Nat)(A:Option Addr)(c at_:Nat)(er:Int)(h:Cur w g base bs A c at_ er):
 Calls prog 114 #[.pointer (some ⟨g,0,none⟩)] w fun e w'=>e= .returned (.int .i64 (Gu bs at_ er))/\Cur w' g base bs A c at_ (Gu bs at_ er)/\Kept (fun x=>x≠g) w w':=by
 have DL:=hid (left_any w g base bs A c at_ er h);have H:=hid h;obtain⟨R,hR⟩:=ii (Gu bs at_ er);rw[<-hR];unfold Gu at hR;by_cases i:at_<bs.length
 ·rw[Ae i]at hR;have gl:=ic ((0:Int)<((bs.length-at_:Nat):Int))
  have M:=ic (0<bs.length-at_)
  have Q:=ic (at_<bs.length)
  have HR:=hid hR;obtain⟨m,hm⟩:=ii (bs.length-at_);rw[<-hm]at DL gl M;clear h hR i hm;go_enter func114,ntmps114;go_wp2_with fail;refine DL.out.mono ?_;rintro e w1 ⟨rfl,q,hq⟩;have y:Hid (Cur w1 g base bs A c at_ er):=by rw[hq];exact H.out.drewN q
  have z:Hid (Kept (fun x=>x≠g) w w1):=oY
  clear hq;go_wp2_with fail;refine(GR w1 g base bs A c at_ er 2 y.out).mono ?_;rintro e w2 ⟨rfl,j,E⟩;rw[<-HR.out]at j;have N:=hid j;have J:Hid (Kept (fun x=>x≠g) w w2):=z.out.trans E;have DE:=hid (Dv w2 g base bs A c at_ R j);clear j E HR;go_wp2_with fail;refine DE.out.mono ?_;rintro e w3 ⟨rfl,rfl⟩;go_wp2_with fail;go_ret;exact⟨rfl,N.out,J.out⟩
 ·rw[Ab i]at hR;subst hR;have G:bs.length-at_=0:=by omega
  rw[G]at DL;have gl:=ig ((0:Int)<((0:Nat):Int))
  clear h i G;go_enter func114,ntmps114;go_wp2_with fail;refine DL.out.mono ?_;rintro e w1 ⟨rfl,q,hq⟩;have y:Hid (Cur w1 g base bs A c at_ R):=by rw[hq];exact H.out.drewN q
  have z:Hid (Kept (fun x=>x≠g) w w1):=oY
  have DE:=hid (Dv w1 g base bs A c at_ R y.out);clear hq;go_wp2_with fail;refine DE.out.mono ?_;rintro e w3 ⟨rfl,rfl⟩;go_wp2_with fail;go_ret;exact⟨rfl,y.out,z.out⟩
end Nums
namespace Recs
open NumPut
def Gm(d:Nat):Nat:=if d<9223372036854775808 then 2*d else 36893488147419103231-2*d
def IA(a b:Nat):Nat:=(a+18446744073709551616-b) % 18446744073709551616
theorem MJ{d:Nat}(h:d<18446744073709551616):Gm d<18446744073709551616:=by unfold Gm;split<;>omega
theorem MC(a b:Nat):IA a b<18446744073709551616:=Nat.mod_lt _ mz
def Cj(g:Nat->Nat->List Nat):Nat->List Nat->List Nat
 |_,[]=> []
 |was,t :: l=>g was t++Cj g t l
theorem Uo(g:Nat->Nat->List Nat):∀ (l:List Nat) (h t:Nat),Cj g h (l++ [t])=Cj g h l++g (l.getLast?.getD h) t
 | [],h,t=>by simp[Cj]
 |x :: l,h,t=>by
  rw[Ec,Cj,Uo g l x t,Cj,AJ]
  have e:(x :: l).getLast?.getD h=l.getLast?.getD x:=by
   cases l with
   |nil=>rfl
   |cons z s=>simp[List.getLast?_cons]
  rw[e]
theorem Sf{g:Nat->Nat->List Nat}(h:∀a b,(g a b).length<=10):∀ (l:List Nat) (i:Nat),(Cj g i l).length<=10*l.length
 | [],_=>by simp[Cj]
 |t :: l,i=>by have:=Sf h l t;have:=h i t;rw[Cj,Aj,AI];omega
theorem UF{g:Nat->Nat->List Nat}(h:∀a b,∀y∈g a b,y<=255):∀ (l:List Nat) (i:Nat),∀y∈Cj g i l,y<=255
 | [],_,y,hy=>by simp[Cj]at hy
 |t :: l,i,y,hy=>by
  rw[Cj]at hy;rcases BJ.1 hy with hy|hy
  ·exact h i t y hy
  ·exact UF h l t y hy
def stepT(was t:Nat):List Nat:=fZ (Gm (IA t was))
theorem ZG(a b:Nat):(stepT a b).length<=10:=sZ (MJ (MC b a))
theorem XH(a b:Nat):∀y∈stepT a b,y<=255:=fun y hy=>CY _ y hy
def lead(x:Nat):List Nat->Nat
 | []=>0
 |y :: t=>if y=x then lead x t+1 else 0
theorem OZ(x:Nat):∀l,lead x l<=l.length
 | []=>by simp[lead]
 |y :: t=>by have:=OZ x t;rw[lead];split<;>simp<;>omega
theorem OF(x:Nat):∀ (l:List Nat) (j:Nat),(∀i,i<j->l[i]? =some x)->l[j]? ≠some x->lead x l=j
 | [],0,_,_=>rfl
 | [],j+1,h,_=>by have:=h 0 mz;simp at this
 |y :: t,0,_,h=>by rw[lead,Ab];intro e;exact h (by rw[e];rfl)
 |y :: t,j+1,h,h2=>by have:=h 0 mz;rw[lead,Ae (by simpa using this),OF x t j (fun i hi=>by have:=h (i+1) mz;simpa using this) p6]
def lvB:List Nat->List Nat
 | []=> []
 |x :: t=>x :: (fZ (lead x t+1)++lvB (t.drop (lead x t)))
termination_by l=>l.length
decreasing_by simp only[List.length_drop,List.length_cons];omega
theorem UW:∀ (n:Nat) (l:List Nat),l.length<=n->(∀x∈l,x<=255)->l.length<18446744073709551616->(lvB l).length<=11*l.length
 |_,[],_,_,_=>by rw[lvB];simp
 |n+1,x :: t,h,h8,h64=>by have hl:=OZ x t;simp only[List.length_cons]at h h64;have:=sZ (x:=lead x t+1) mz;have ih:=UW n (t.drop (lead x t)) nm (fun y hy=>h8 y (BW _ (Cb hy))) nm;rw[AU]at ih;rw[lvB];simp only[List.length_cons,List.length_append];omega
theorem SH:∀ (n:Nat) (l:List Nat),l.length<=n->(∀x∈l,x<=255)->∀y∈lvB l,y<=255
 |_,[],_,_,y,hy=>by rw[lvB]at hy;cases hy
 |n+1,x :: t,h,h8,y,hy=>by
  rw[lvB]at hy;simp only[List.length_cons]at h;rcases AQ.1 hy with rfl|hy
  ·exact h8 _ pI
  ·rcases BJ.1 hy with hy|hy
   ·exact CY _ y hy
   ·exact SH n (t.drop (lead x t)) nm (fun y hy=>h8 y (BW _ (Cb hy))) y hy
def Bb(l:List Rec):List Nat:=l.map fun r=>r.time.toNat
def xZ(l:List Rec):List Nat:=l.map fun r=>r.level.toNat
def Dh(l:List Rec):List Nat:=Cj stepT 0 (Bb l)++lvB (xZ l)
theorem RY{l:List Rec}(h:∀r∈l,BY r):∀x∈xZ l,x<=255:=fun x hx=>by obtain⟨r,hr,rfl⟩:=Cc.1 hx;have:=h r hr;obtain⟨_,_,h1,h2⟩:=this;omega
theorem VR{l:List Rec}(h:∀r∈l,BY r):∀x∈Dh l,x<=255:=fun x hx=>by
 rcases BJ.1 hx with hx|hx
 ·exact UF XH _ _ x hx
 ·exact SH _ _ (Aq _) (RY h) x hx
theorem LX{l:List Rec}(h:∀r∈l,BY r)(hn:l.length<=1000000):(Dh l).length<=21*l.length:=by have h1:=Sf ZG (Bb l) 0;have h2:=UW _ (xZ l) (Aq _) (RY h) (by unfold xZ;rw[Bc];omega);unfold Bb at h1;unfold xZ at h2;rw[Bc]at h1 h2;unfold Dh;rw[Aj];unfold Bb xZ;omega
end Recs
namespace One
open Go.RowKit Mem Own Canon NumPut Crc
open Recs Opts
open Block (Bu J9 nZ L8)
theorem OS(S:Nat):∀ (t:List Nat) (h c:Nat),(goG S h c t).sum=c+t.length
 | [],_,c=>by simp[goG]
 |x :: t,h,c=>by
  rw[goG];split
  ·rw[GI,OS S t];simp;omega
  ·rw[OS S t];simp;omega
theorem ON(S:Nat):∀ (t:List Nat) (h c:Nat),1<=c->∀x∈goG S h c t,1<=x
 | [],_,c,hc,x,hx=>by rw[goG,Eu]at hx;omega
 |y :: t,h,c,hc,x,hx=>by
  rw[goG]at hx;split at hx
  ·rcases AQ.1 hx with rfl|hx
   ·exact hc
   ·exact ON S t _ 1 mz x hx
  ·exact ON S t _ (c+1) mz x hx
theorem Oc(S:Nat)(l:List Nat):(Hc S l).sum=l.length:=by
 cases l with
 |nil=>rfl
 |cons x t=>rw[Hc,OS];simp;omega
theorem Nc(S:Nat)(l:List Nat):∀x∈Hc S l,1<=x:=by
 cases l with
 |nil=>intro x hx;cases hx
 |cons y t=>exact ON S t y 1 mz
theorem N5:∀ {l:List Nat},(∀x∈l,1<=x)->l.length<=l.sum
 | [],_=>pI
 |x :: l,h=>by have h1:=h x pI;have h2:=N5 (l:=l) (fun y hy=>h y (by simp[hy]));rw[AI,GI];omega
theorem NL(wh:Bool)(l:List Rec):(EJ wh l).length=l.length:=by unfold EJ;rw[Bc]
end One
namespace One
open Go.RowKit Mem Own Canon NumPut Crc
open Recs Opts
open Block (Bu J9 nZ Ke L8)
theorem Js{l:List Rec}(h:CH l=0):∀r∈l,CA r=false:=by
 unfold CH at h;split at h
 ·cases h
 ·split at h
  ·cases h
  ·rename_i h1;intro r hr;cases hb:CA r
   ·rfl
   ·exact absurd (List.any_eq_true.2 ⟨r,hr,hb⟩) h1
theorem Uw{l:List Rec}{m:Nat}(h:i<m)(j:Nat):BS (l.take m) i j=BS l i j:=by
 have e:(l.take m).getD i FY=l.getD i FY:=by rw[Ar,Ar,Gq,Ae h]
 unfold BS;rw[e]
theorem RI(l:List Rec)(k i j:Nat):BS l (k+i) j=BS (l.drop k) i j:=by
 have e:(l.drop k).getD i FY=l.getD (k+i) FY:=by rw[Ar,Ar,I3]
 unfold BS;rw[e]
theorem Uk(wh:Bool){l l':List Rec}(h:l.Sublist l'):(wZ wh l).length<=(wZ wh l').length:=by
 induction h with
 |slnil=>exact Aq _
 |cons a _ ih=>unfold wZ at *;rw[Ct,Aj];omega
 |cons_cons a _ ih=>unfold wZ at *;rw[Ct,Ct,Aj,Aj];omega
theorem T8{bs:List Nat}(plain:Bool)(h:bs.length<=16000):(Bu bs plain).length<=bs.length+25:=by
 have hb:(Block.DV bs plain).length<=bs.length:=by
  unfold Block.DV;split
  ·rename_i hc;rw[BX]at hc;have h2:=hc.2;unfold Block.sqz at h2;simp at h2;omega
  ·omega
 have h1:=sZ (x:=bs.length) mz;have h2:=sZ (x:=(Block.DV bs plain).length) mz;unfold Bu Block.Dw Block.ID;simp only[List.length_append,List.length_singleton];have:(CR (Cn (([Block.Gv bs plain]++fZ bs.length++fZ (Block.DV bs plain).length)++Block.DV bs plain))).length=4:=rfl;omega
theorem ML(wh:Bool)(l:List Rec)(m:Nat):(wZ wh (l.take m)).length+(wZ wh (l.drop m)).length=(wZ wh l).length:=by
 conv=>rhs;rw[<-EM m l]
 unfold wZ;rw[Ix,Aj]
end One
namespace One
open Go.RowKit Mem Own Canon NumPut Crc
open Recs Opts
open Block (Bu J9 nZ Ke own_one)
def FrsAt(w:World)(base:Nat)(ps:List Part):Prop:=∀p∈ps,w.ownsRow base 5 1 p.v p.ls.length (cZ .u8 p.ls)
theorem FrsAt.step{ps:List Part}(h:FrsAt w base ps)(hb:Below w w w'):FrsAt w' base ps:=fun p hp=>eZ (h p hp) (fun y hy=>hb.block y (Am (h p hp) y hy).2)
theorem FH{s s' n':Nat}{e e':TypeId}{v v':Value}{z:List Value}(h:w.ownsRow base e s v n xs)(ho:w.ownsRow i e' s' v' n' z)(j:e≠e')(hg:w.grownBy w' v'.ownBlock):w'.ownsRow base e s v n xs:=
 eZ h (fun y hy=>hg.block y (Am h y hy).2 (fun e=>by
  rcases EZ h ho j with h0|h0
  ·rw[h0]at hy;cases hy
  ·exact h0 (hy.trans e)))
theorem FrsAt.grown{v:Value}{ps:List Part}(h:FrsAt w base ps)(ho:w.ownsRow i 28 1 v n xs)(hg:w.grownBy w' v.ownBlock):FrsAt w' base ps:=fun p hp=>FH (h p hp) ho ip hg
theorem FrsAt.snoc{ps:List Part}{p:Part}(h:FrsAt w base ps)(hp:w.ownsRow base 5 1 p.v p.ls.length (cZ .u8 p.ls)):FrsAt w base (ps++ [p]):=fun q hq=>by
 rcases BJ.1 hq with hq|hq
 ·exact h q hq
 ·rw[Eu.1 hq];exact hp
theorem Mx:(prog.info? 28).map (fun i=>(i.zero,i.size,i.bytes))=some (some (.slice none 0 0),1,24):=mr
end One
namespace One
open Go.RowKit Mem Own Canon NumPut Crc
open Recs Opts
open Block (Bu nZ)
theorem UJ{fs:List (List Nat)}{x:List Nat}(h:x∈fs):x.length<=fs.flatten.length:=by
 induction fs with
 |nil=>cases h
 |cons y t ih=>
  rw[List.flatten_cons,Aj];rcases AQ.1 h with rfl|h
  ·omega
  ·have:=ih h;omega
end One
namespace One
open Go.RowKit Mem Own Canon NumPut Crc
open Recs Opts
open Block (Bu nZ)
theorem VF{l:List Rec}(h:CH l≠0):CH l=6:=by
 unfold CH at h ⊢;split
 ·rfl
 ·split
  ·rfl
  ·split
   ·rfl
   ·rename_i h1 h2 h3;rw[Ab h1,Ab h2,Ab h3]at h;exact absurd rfl h
end One
namespace Opts
open Go.RowKit Mem
def Im(o:Opt):Int:=if(16<=o.block/\o.block<=32768)/\(1<=o.bucket/\o.bucket<=64)/\(o.data=0/\o.parity=0/\o.chunk=0)then 0 else 9
theorem bK{o:Opt}(h:Im o≠0):Im o=9:=by
 unfold Im at h ⊢;split
 ·rename_i hc;rw[Ae hc]at h;exact absurd rfl h
 ·rfl
def Opt.body(o:Opt):Opt:=⟨o.block,o.plain,o.bucket,0,0,0⟩
def C8(o:Opt):Int:=Im o.body
theorem YP(w:World)(o:Opt):
 Calls prog 92 #[.int .i64 2,o.val] w fun e w'=>e= .returned (.int .i64 (Im o))/\Below w w w':=by
 obtain⟨bl,pl,bu,da,pa,ch⟩:=o;unfold Opt.val Im;simp only;have D:=hid (fun wx=>SE wx bl 16 32768);have DB:=hid (fun wx=>SE wx bu 1 64);have HE:=WZ pl pl bl bl 0 0 da 0 pa 0 ch 0;by_cases hb:16<=bl/\bl<=32768
 ·rw[Be hb]at D;by_cases hu:1<=bu/\bu<=64
  ·rw[Be hu]at DB;by_cases hz:da=0/\pa=0/\ch=0
   ·rw[Ae ⟨hb,hu,hz⟩];have hd:decide (bl=bl/\pl=pl/\(0:Int)=0/\da=0/\pa=0/\ch=0)=true:=Be ⟨rfl,rfl,rfl,hz⟩;rw[hd]at HE;clear hb hz hd hu;go_enter func92,ntmps92;go_wp2_with fail;refine(D.out _).mono ?_;rintro e w1 ⟨rfl,rfl⟩;go_wp2_with fail;refine(DB.out _).mono ?_;rintro e w1 ⟨rfl,rfl⟩;go_wp2_with fail;go_ret;exact⟨rfl,qh⟩
   ·rw[Ab (fun h=>hz h.2.2)];have hd:decide (bl=bl/\pl=pl/\(0:Int)=0/\da=0/\pa=0/\ch=0)=false:=Bi (fun h=>hz h.2.2.2);rw[hd]at HE;clear hb hz hd hu;go_enter func92,ntmps92;go_wp2_with fail;refine(D.out _).mono ?_;rintro e w1 ⟨rfl,rfl⟩;go_wp2_with fail;refine(DB.out _).mono ?_;rintro e w1 ⟨rfl,rfl⟩;go_wp2_with fail;go_ret;exact⟨rfl,qh⟩
  ·rw[Bi hu]at DB;rw[Ab (fun h=>hu h.2.1)];clear hb hu HE;go_enter func92,ntmps92;go_wp2_with fail;refine(D.out _).mono ?_;rintro e w1 ⟨rfl,rfl⟩;go_wp2_with fail;refine(DB.out _).mono ?_;rintro e w1 ⟨rfl,rfl⟩;go_wp2_with fail;go_ret;exact⟨rfl,qh⟩
 ·rw[Bi hb]at D;rw[Ab (fun h=>hb h.1)];clear hb HE DB;go_enter func92,ntmps92;go_wp2_with fail;refine(D.out _).mono ?_;rintro e w1 ⟨rfl,rfl⟩;go_wp2_with fail;go_ret;exact⟨rfl,qh⟩
theorem MW(w:World)(o:Opt):
 Calls prog 44 #[o.val] w fun e w'=>e= .returned (.int .i64 (C8 o))/\Below w w w':=by
 have D:=hid (fun wx=>YP wx o.body);unfold C8;obtain⟨bl,pl,bu,da,pa,ch⟩:=o;unfold Opt.body Opt.val at D;unfold Opt.val Opt.body;simp only at D ⊢;generalize Im ⟨bl,pl,bu,0,0,0⟩=E at *;go_enter func44,ntmps44;go_wp2_with fail;refine(D.out _).mono ?_;rintro e w1 ⟨rfl,hb⟩;have HB:=hid hb;clear hb D;go_wp2_with fail;go_ret;exact⟨rfl,dZ HB.out (aZ (Ag _ _))⟩
end Opts
namespace Nums
open Go.RowKit Mem Own Canon
def Fx(bs:List Nat):Nat:=bs.getD 0 0+256*bs.getD 1 0+65536*bs.getD 2 0+16777216*bs.getD 3 0
theorem LZ{y:Nat}(hx:x<2 ^ i)(h:x+y*2 ^ i<18446744073709551616):bits .or .u64 (x:Int) ((y*2 ^ i:Nat):Int)=((x+y*2 ^ i:Nat):Int):=QF hx h
theorem aP(w:World)(g base:Nat)(bs:List Nat)(A:Option Addr)(c:Nat)(h4:bs.length=4)(h8:∀x∈bs,x<=255)(h:Cur w g base bs A c 0 0):
 Calls prog 111 #[.pointer (some ⟨g,0,none⟩), .int .i64 4] w fun e w'=>e= .returned (.int .u64 (Fx bs:Nat))/\Cur w' g base bs A c 4 0/\Kept (BD g w) w w':=by
 have D:=JK w g base bs A c 0 0 4 mz mz h;unfold JL at D;rw[JC,Kc,Kb,Ab mz,Ab mz,Ab mz,Iy,BV mz,h4]at D
 obtain⟨b0,b1,b2,b3,rfl⟩:∃b0 b1 b2 b3,bs= [b0,b1,b2,b3]:=by
  match bs,h4 with
  | [b0,b1,b2,b3],_=>exact⟨b0,b1,b2,b3,rfl⟩
 have l0:=h8 b0 pI;have l1:=h8 b1 pI;have l2:=h8 b2 pI;have l3:=h8 b3 pI;have hV:Fx [b0,b1,b2,b3]=b0+256*b1+65536*b2+16777216*b3:=rfl;rw[hV];have D:=hid D;have E:=h.blk.lt;clear h h8 h4 hV;go_enter func111,ntmps111;go_wp2_with fail;refine D.out.mono ?_;rintro e w1 ⟨v,rfl,j,hc,hk⟩;obtain⟨gv,cv,hv,_⟩:=j.form mz;subst hv;have c0:=j.cellAt 0 mz;have c1:=j.cellAt 1 mz;have c2:=j.cellAt 2 mz;have c3:=j.cellAt 3 mz;simp only[cZ,List.map_cons,List.map_nil,List.getElem?_cons_zero,List.getElem?_cons_succ]at c0 c1 c2 c3;have HC:=hid hc;have HK:=hid hk;clear j hc hk D;have E0:Hid (bits .or .u64 (0:Int) (b0:Int)=((b0:Nat):Int)):=by have h:=LZ (x:=0) (y:=b0) (i:=0) mz mz;show _=_;simpa using h
 have E1:Hid (bits .or .u64 (b0:Int) ((b1:Int)*256)=((b0+256*b1:Nat):Int)):=by have h:=LZ (x:=b0) (y:=b1) (i:=8) mz mz;rw[show((b1*2 ^ 8:Nat):Int)=(b1:Int)*256 by omega]at h;show _=_;rw[h];omega
 have E2:Hid (bits .or .u64 ((b0+256*b1:Nat):Int) ((b2:Int)*65536)=((b0+256*b1+65536*b2:Nat):Int)):=by have h:=LZ (x:=b0+256*b1) (y:=b2) (i:=16) mz mz;rw[show((b2*2 ^ 16:Nat):Int)=(b2:Int)*65536 by omega]at h;show _=_;rw[h];omega
 have E3:Hid (bits .or .u64 ((b0+256*b1+65536*b2:Nat):Int) ((b3:Int)*16777216)=((b0+256*b1+65536*b2+16777216*b3:Nat):Int)):=by have h:=LZ (x:=b0+256*b1+65536*b2) (y:=b3) (i:=24) mz mz;rw[show((b3*2 ^ 24:Nat):Int)=(b3:Int)*16777216 by omega]at h;show _=_;rw[h];omega
 go_wp2_with fail;go_loopw [5,20] (fun xv iv wr=>Hid (wr=w1)/\((xv= .int .u64 0/\iv= .int .i64 0)∨(xv= .int .u64 (b0:Nat)/\iv= .int .i64 1)∨(xv= .int .u64 (b0+256*b1:Nat)/\iv= .int .i64 2)∨(xv= .int .u64 (b0+256*b1+65536*b2:Nat)/\iv= .int .i64 3)∨(xv= .int .u64 (b0+256*b1+65536*b2+16777216*b3:Nat)/\iv= .int .i64 4))) (fun _ iv _=>4-(intOf iv).toNat)
 case atStart=>exact⟨by first|trivial|rfl, .inl ⟨rfl,rfl⟩⟩
 case round=>
  obtain⟨hw,z⟩:=hrel;have hw:=hw.out;subst hw;rcases z with ⟨rfl,rfl⟩|⟨rfl,rfl⟩|⟨rfl,rfl⟩|⟨rfl,rfl⟩|⟨rfl,rfl⟩
  ·have e0:=E0.out;go_wp2_with fail;exact⟨⟨trivial, .inr (.inl ⟨rfl,rfl⟩)⟩,pX⟩
  ·have e1:=E1.out;have s1:IntKind.u64.wrap ((b1:Int)*256)=(b1:Int)*256:=n5;go_wp2_with fail;exact⟨⟨trivial, .inr (.inr (.inl ⟨rfl,rfl⟩))⟩,pX⟩
  ·have s2:IntKind.u64.wrap ((b2:Int)*65536)=(b2:Int)*65536:=n5;go_wp2_with fail;exact⟨⟨trivial, .inr (.inr (.inr (.inl ⟨by rw[show((b0:Int)+256*(b1:Int))=((b0+256*b1:Nat):Int) by omega,E2.out],rfl⟩)))⟩,pX⟩
  ·have s3:IntKind.u64.wrap ((b3:Int)*16777216)=(b3:Int)*16777216:=n5;go_wp2_with fail;exact⟨⟨trivial, .inr (.inr (.inr (.inr ⟨by rw[show((b0:Int)+256*(b1:Int)+65536*(b2:Int))=((b0+256*b1+65536*b2:Nat):Int) by omega,E3.out],rfl⟩)))⟩,pX⟩
  ·go_wp2_with fail;go_ret;exact⟨rfl,HC.out,HK.out⟩
end Nums
namespace Body
open Go.RowKit Mem Own Canon Nums Crc
def Fq(ls:List Nat):List Nat:=(ls.drop (ls.length-4-Fx (ls.drop (ls.length-4)))).take (Fx (ls.drop (ls.length-4)))
def GL(ls:List Nat):Prop:=ls.length<4∨ls.length-4<Fx (ls.drop (ls.length-4))
def Vu(ls:List Nat)(A:Option Addr)(c:Nat)(w:World)(e:Ending)(w':World):Prop:=
 Below w w w'/\(GL ls->e= .returned (.tuple #[(),(), .int .i64 1]))/\
  (¬GL ls->∃v,e= .returned (.tuple #[.slice A (ls.length-4-Fx (ls.drop (ls.length-4))) c,v, .int .i64 (CL (Fq ls))])/\w'.ownsRow w 5 1 v (Br (Fq ls)).length (cZ .u8 (Br (Fq ls))))
theorem mP{bs:List Nat}(h8:∀x∈bs,x<=255)(h4:bs.length=4):Fx bs<4294967296:=by
 match bs,h4 with
 | [b0,b1,b2,b3],_=>have l0:=h8 b0 pI;have l1:=h8 b1 pI;have l2:=h8 b2 pI;have l3:=h8 b3 pI;have hV:Fx [b0,b1,b2,b3]=b0+256*b1+65536*b2+16777216*b3:=rfl;omega
theorem Xo(w:World)(A:Option Addr)(n c:Nat)(ls:List Nat)(hn:ls.length=n)(aa:n<=100000)(hc:n<=c)(h8:∀x∈ls,x<=255)(ht:TabAt w)(hh:∀a,A=some a->a.add 0=a)(ha:Row w w A n 1 (jZ .u8 ls)):
 Calls prog 56 #[.slice A n c] w (Vu ls A c w):=by
 unfold Vu;by_cases h4:n<4
 ·have i:GL ls:= .inl mz;have HB:=hid i;have s1:decide (IntKind.i64.wrap ((n:Int)-4)<0)=true:=by rw[Aw _ mz];simp;omega
  have s2:=ic ((n:Int)-4<0)
  have s3:IntKind.i64.wrap ((n:Int)-4)=(n:Int)-4:=Aw _ mz;clear hn aa hc h8 ht hh ha i;go_enter func56,ntmps56;go_wp2_with fail
  go_ret3
  exact⟨Ag _ _,fun _=>rfl,fun h=>absurd HB.out h⟩
 ·obtain⟨m,rfl⟩:∃m,n=m+4:=⟨n-4,mz⟩;have z:ls.length-4=m:=by omega
  have M:(ls.drop m).length=4:=nm
  have N:∀x∈ls.drop m,x<=255:=fun x hx=>h8 x (Cb hx);have au:=mP N M;have U:A=none->m+4=0/\c=0:=fun e=>by obtain⟨b,an,e2,_⟩:=ha mz;rw[e]at e2;cases e2
  have hd:=Fe ha (show m<=m+4 by omega) hc;rw[show m+4-m=4 by omega]at hd;have Z:AW A m c 1=none->4=0/\c-m=0:=fun h=>by obtain⟨b,an,e2,_⟩:=hd mz;rw[h]at e2;cases e2
  have D0:=hid (new_any w (AW A m c 1) 4 (c-m) (ls.drop m) M mz Z hd);have af:=fun wx=>Gc (P:=prog) (t:=28) (s:=1) underlying28 (fun _=>by kernel_rfl) A (m+4) c .i64 (m:Int) m rfl mz wx;have Y:=af;rw[show m+4-m=4 by omega]at af;have D1:=hid (fun wx g B d h=>aP wx g w (ls.drop m) B d M N h);have s1:IntKind.i64.wrap (((m+4:Nat):Int)-4)=(m:Int):=nW
  have wm:IntKind.i64.wrap (m:Int)=(m:Int):=Aw _ mz;have g1:=ig ((m:Int)<0)
  obtain⟨k,hk⟩:=ii (Fx (ls.drop m));rw[<-hk]at D1 au;have wk:IntKind.i64.wrap (k:Int)=(k:Int):=Aw _ mz;by_cases ar:m<k
  ·have i:GL ls:= .inr (by rw[z,<-hk];exact ar);have ak:=hid i;have g2:=ic ((m:Int)<k);have av:=ic (m<k);generalize AW A m c 1=A1 at *;generalize c-m=c1 at *;clear hd ha h8 N ht hh U Z hn aa hc i hk M z h4 Y;go_enter func56,ntmps56;go_wp2_with fail;refine D0.out.mono ?_;rintro e w1 ⟨g,B,d,rfl,j,G⟩;have y:=hid G;have D2:=hid (D1.out w1 g B d j);have ag:=j.lo;clear j G D0 D1;go_wp2_with fail;refine D2.out.mono ?_;rintro e w2 ⟨rfl,ab,J⟩;have E:Hid (Below w w w2):=y.out.trans (J.below fun b h=>⟨by have:=y.out.size;omega,mz⟩);clear ab J;go_wp2_with fail
   go_ret3
   exact⟨E.out,fun _=>rfl,fun h=>absurd ak.out h⟩
  ·have aj:¬GL ls:=fun h=>h.elim (fun h=>by omega) (fun h=>by rw[z,<-hk]at h;omega);have al:=hid aj;have g2:=ig ((m:Int)<k);have av:=ig (m<k);obtain⟨r,hr⟩:=ii (m-k);have s2:IntKind.i64.wrap ((m:Int)-(k:Int))=(r:Int):=nW;have ae:Fq ls=(ls.drop r).take k:=(by unfold Fq;rw[z,<-hk,<-hr]);have ai:=GC (Fe ha (show r<=m+4 by omega) hc) (show k<=m+4-r by omega);have DC:=hid (fun wx (hb:Below w w wx)=>Mj wx (AW A r c 1) k (c-r) ((ls.drop r).take k) (by rw[Bd,AU];omega) mz mz (fun x hx=>h8 x (Cb (C7 hx))) (ht.step hb) ((ai.below hb).mono hb.size));rw[<-ae]at DC;have aq:=fun wx=>OP (P:=prog) (t:=28) (s:=1) underlying28 (fun _=>by kernel_rfl) A (m+4) c .i64 .i64 (r:Int) (m:Int) r m rfl rfl mz mz wx;rw[show m-r=k by omega]at aq;have ay:=fun wx=>FG (P:=prog) (t:=28) (s:=1) underlying28 (fun _=>by kernel_rfl) A (m+4) c .i64 (r:Int) r rfl mz hh wx;have am:Hid (ls.length-4-Fx (ls.drop (ls.length-4))=r):=(by show _=_;rw[z,<-hk,hr]);generalize AW A m c 1=A1 at *;generalize c-m=c1 at *;generalize AW A r c 1=A2 at *;generalize c-r=c2 at *;clear hd ha h8 N ht hh U Z hn aa hc aj hk M z h4 Y ai ae hr;go_enter func56,ntmps56;go_wp2_with fail;refine D0.out.mono ?_;rintro e w1 ⟨g,B,d,rfl,j,G⟩;have y:=hid G;have D2:=hid (D1.out w1 g B d j);have ag:=j.lo;clear j G D0 D1;go_wp2_with fail;refine D2.out.mono ?_;rintro e w2 ⟨rfl,ab,J⟩;have E:Hid (Below w w w2):=y.out.trans (J.below fun b h=>⟨by have:=y.out.size;omega,mz⟩);have ac:=hid (DC.out w2 E.out);unfold Jh at ac;clear ab J DC y;go_wp2_with fail;refine ac.out.mono ?_;rintro e w3 ⟨v,rfl,Q,ah⟩;have aw:Hid (Below w w w3):=E.out.trans (ah.mono E.out.size);have ax:Hid (w3.ownsRow w 5 1 v (Br (Fq ls)).length (cZ .u8 (Br (Fq ls)))):=kZ Q E.out.size;clear Q ah ac;go_wp2_with fail
   go_ret3
   rw[am.out];exact⟨aw.out,fun h=>absurd h al.out,fun _=>⟨v,rfl,ax.out⟩⟩
end Body
namespace Recs
open Go.RowKit Mem Own Canon NumPut Nums
theorem Jq{ob:Nat}{bs:List Nat}{at_:Nat}{er:Int}{t:TypeId}{cs:Array Value}(h:Cur w g base bs A c at_ er)(i:Blk w ob t cs)(ht:t≠5)(hg:t≠243)(k:Nat)(u:Value):Cur (w.setCell ⟨ob,k,none⟩ u) g base bs A c at_ er:=
 ⟨h.blk.far (fun e=>Blk.apart i h.blk hg e.symm) _,BZ h.own (gZ h.own i ht.symm) _,h.le,h.lo⟩
end Recs
namespace Recs
open Go.RowKit Mem Own Canon NumPut Nums
theorem Vl{bs:List Nat}(h8:∀x∈bs,x<=255){at_:Nat}(er:Int)(h:at_<=bs.length):DQ most bs at_ er<=bs.length:=by
 unfold DQ;split
 ·exact h
 ·have:=(L4 most (bs.drop at_) (fun x hx=>h8 x (Cb hx))).2.1;rw[AU]at this;omega
theorem W6(most:Nat)(bs:List Nat)(at_:Nat)(er:Int):at_<=DQ most bs at_ er:=by unfold DQ;split<;>omega
def Ci(l:List Rec):List Value:=l.flatMap fun r=> [.int .u64 r.time, .int .u8 r.level, .string r.source, .string r.text]
theorem Y4(l:List Rec)(r:Rec):Ci (l++ [r])=Ci l++ [.int .u64 r.time, .int .u8 r.level, .string r.source, .string r.text]:=by simp[Ci]
theorem LO(l m:List Rec):Ci (l++m)=Ci l++Ci m:=by simp[Ci]
theorem Va:(prog.info? 43).map (fun i=>(i.zero,i.size,i.bytes))=some (some (.agg #[.int .u64 0, .int .u8 0, .string ⟨#[]⟩, .string ⟨#[]⟩]),4,48):=mr
theorem LK:∀ (l:List Rec) (i j:Nat),i<l.length->j<4->(Ci l)[i*4+j]? =some (BS l i j)
 | [],i,j,h,_=>pJ
 |t :: ts,0,j,_,hj=>by
  obtain rfl|rfl|rfl|rfl:j=0∨j=1∨j=2∨j=3:=mz
  all_goals rfl
 |t :: ts,i+1,j,h,hj=>by have:=LK ts i j p5 hj;show(_ :: _ :: _ :: _ :: Ci ts)[(i+1)*4+j]? =_;rw[show(i+1)*4+j=(i*4+j)+1+1+1+1 by omega,List.getElem?_cons_succ,List.getElem?_cons_succ,List.getElem?_cons_succ,List.getElem?_cons_succ,this];rfl
theorem UY{l:List Rec}(h:w.ownsRow base 43 4 (.slice A l.length c) l.length (Ci l)):Row w w A l.length 4 (BS l):=
 Row.of_own h rfl fun i j hi hj=>LK l i j hi hj
def UM(w:World)(R:List Rec×Int)(e:Ending)(w':World):Prop:=
 ∃v,e= .returned (.tuple #[v,R.2])/\w'.ownsRow w 43 4 v R.1.length (Ci R.1)/\Below w w w'
def atOf(w:World)(g:Nat):Nat:=(intOf ((w.cell? ⟨g,1,none⟩).getD (.int .i64 0))).toNat
end Recs
namespace Recs
open Go.RowKit Mem Own Canon NumPut Nums
def EQ(bs:List Nat)(at_:Nat)(er:Int):Rec×Nat×Int:=
 let a3:=DQ 4000 bs at_ er;let e3:=DJ 4000 bs at_ er
 (⟨0,0,FN (EI 4000 bs at_ er),FN (EI 4000 bs a3 e3)⟩,DQ 4000 bs a3 e3,DJ 4000 bs a3 e3)
theorem Z4{bs:List Nat}(h8:∀x∈bs,x<=255){at_:Nat}(h:at_<=bs.length)(er:Int):(EQ bs at_ er).2.1<=bs.length/\((EQ bs at_ er).2.2=0->at_<(EQ bs at_ er).2.1)/\BY (EQ bs at_ er).1:=by
 have hA3:=Vl (most:=4000) h8 er h;refine⟨Vl h8 _ hA3,fun he=> ?_,?_⟩
 ·have e0:er=0:=by refine Ju fun hn=> ?_;have e3:∀a,DJ 4000 bs a er=er:=fun a=>Ae hn;unfold EQ at he;simp only[e3]at he;exact hn he
  have e1:DJ 4000 bs at_ er=0:=by refine Ju fun hn=> ?_;have e3:∀a,DJ 4000 bs a (DJ 4000 bs at_ er)=DJ 4000 bs at_ er:=fun a=>Ae hn;unfold EQ at he;simp only[e3]at he;exact hn he
  have hs:=(L4 4000 (bs.drop at_) (fun x hx=>h8 x (Cb hx))).2.2.1;have h1:DQ 4000 bs at_ er=at_+(Co 4000 (bs.drop at_)).2.1:=Ab (by simp[e0]);have h2:DJ 4000 bs at_ er=(Co 4000 (bs.drop at_)).2.2:=Ab (by simp[e0]);have h3:=hs (h2.symm.trans e1);have h4:=W6 4000 bs (DQ 4000 bs at_ er) (DJ 4000 bs at_ er);show at_<DQ 4000 bs _ _;omega
 ·unfold BY EQ;simp only;omega
theorem Yv(w:World)(g base:Nat)(bs:List Nat)(A:Option Addr)(c at_:Nat)(er:Int)(M:bs.length<=100000)(h8:∀x∈bs,x<=255)(h:Cur w g base bs A c at_ er):
 Calls prog 201 #[.agg #[.pointer (some ⟨g,0,none⟩)],false] w fun e w'=>e= .returned (EQ bs at_ er).1.val/\Cur w' g base bs A c (EQ bs at_ er).2.1 (EQ bs at_ er).2.2/\Kept (BD g w) w w':=by
 have ag:=h.blk.lt;unfold EQ Rec.val;simp only;have D3:=hid (fun wx hx=>NN wx g base bs A c at_ er 4000 M h8 mz hx);generalize FN (EI 4000 bs at_ er)=v3 at *;generalize DQ 4000 bs at_ er=a3 at *;generalize DJ 4000 bs at_ er=e3 at *;have D4:=hid (fun wx hx=>NN wx g base bs A c a3 e3 4000 M h8 mz hx);generalize FN (EI 4000 bs a3 e3)=v4 at *;generalize DQ 4000 bs a3 e3=a4 at *;generalize DJ 4000 bs a3 e3=e4 at *;have H:=hid h;clear h h8 M;go_enter func201,ntmps201;go_wp2_with fail;refine(D3.out _ (H.out.step qh)).mono ?_;rintro e w3 ⟨rfl,aa,j⟩;have N:Blk w3 w 249 #[.pointer (some ⟨g,0,none⟩)]:=(j.block _ ⟨pQ,mz⟩).trans ((Blk.made _ _ _).alloc _);have E:Blk w3 (w.heap.size+1) 43 #[.int .u64 0, .int .u8 0, .string ⟨#[]⟩, .string ⟨#[]⟩]:=(j.block _ ⟨pI,mz⟩).trans (Blk.made_at _ _ _ pI);have Y:Hid (Kept (BD g w) w w3):=(Kept.of_below (B:=w.heap.size) qh (fun x hx=>hx.1)).trans ⟨j.os,j.tape,j.output,j.size,fun x hx=>j.block x ⟨by have:=hx.1;simp;omega,hx.2⟩⟩;have ac:=hid aa;have x3:=N.ia 0;have y3:=E.ia 2;have f3:=E.frozen 2;have af:=j.size;have U:=hid N;have Q:=hid E;clear aa j N E D3;go_wp2_with fail;refine(D4.out _ (Jq ac.out Q.out ip ip 2 (.string v3))).mono ?_;rintro e w4 ⟨rfl,Z,y⟩;have J:Blk w4 w 249 #[.pointer (some ⟨g,0,none⟩)]:=(y.block _ ⟨(U.out.far (p:=⟨w.heap.size+1,2,none⟩) pI (.string v3)).lt,mz⟩).trans (U.out.far (p:=⟨w.heap.size+1,2,none⟩) pI (.string v3));have G:Blk w4 (w.heap.size+1) 43 #[.int .u64 0, .int .u8 0, .string v3, .string ⟨#[]⟩]:=(y.block _ ⟨(Q.out.set 2 (.string v3)).lt,mz⟩).trans (Q.out.set 2 (.string v3));have ab:Hid (Kept (BD g w) w w4):=(Y.out.set (p:=⟨w.heap.size+1,2,none⟩) (fun h=>absurd h.1 pI) (.string v3)).trans ⟨y.os,y.tape,y.output,y.size,fun x hx=>y.block x ⟨by have:=hx.1;have:=Y.out.size;simp;omega,hx.2⟩⟩;have ae:=hid Z;have x4:=J.ia 0;have y4:=G.ia 3;have f4:=G.frozen 3;have ai:=y.size;have ah:=hid J;have i:=hid G;clear Z y J G D4;have p0:=i.out.ia 0;have p1:=i.out.ia 1;have p2:=i.out.ia 2;have q0:=i.out.frozen 0;have q1:=i.out.frozen 1;have q2:=i.out.frozen 2;clear af x3 y3 f3;go_wp2_with fail;have B5:=((((i.out.set 3 (.string v4)).set 0 (.int .u64 0)).set 1 (.int .u8 0)).set 2 (.string v3)).set 3 (.string v4);have C5:=Jq (Jq (Jq (Jq (Jq ae.out i.out ip ip 3 (.string v4)) (i.out.set 3 (.string v4)) ip ip 0 (.int .u64 0)) ((i.out.set 3 (.string v4)).set 0 (.int .u64 0)) ip ip 1 (.int .u8 0)) (((i.out.set 3 (.string v4)).set 0 (.int .u64 0)).set 1 (.int .u8 0)) ip ip 2 (.string v3)) ((((i.out.set 3 (.string v4)).set 0 (.int .u64 0)).set 1 (.int .u8 0)).set 2 (.string v3)) ip ip 3 (.string v4);have z:∀k,¬BD g w (⟨w.heap.size+1,k,none⟩:Addr).block:=fun k h=>absurd h.1 pI;have K5:=((((ab.out.set (z 3) (.string v4)).set (z 0) (.int .u64 0)).set (z 1) (.int .u8 0)).set (z 2) (.string v3)).set (z 3) (.string v4);generalize ((((w4.setCell ⟨w.heap.size+1,3,none⟩ (.string v4)).setCell ⟨w.heap.size+1,0,none⟩ (.int .u64 0)).setCell ⟨w.heap.size+1,1,none⟩ (.int .u8 0)).setCell ⟨w.heap.size+1,2,none⟩ (.string v3)).setCell ⟨w.heap.size+1,3,none⟩ (.string v4)=w5 at *;have z0:=B5.cell 0;have z1:=B5.cell 1;have z2:=B5.cell 2;have z3:=B5.cell 3;simp at z0 z1 z2 z3;refine CI (v:= .agg #[.int .u64 0, .int .u8 0, .string v3, .string v4]) ?_ rfl ⟨rfl,C5,K5⟩;simp[results,results201,go_sem,z0,z1,z2,z3]
def IN:Nat->List Nat->Nat->List Rec->List Rec×Int
 |0,_,_,acc=>(acc,0)
 |f+1,bs,at_,acc=>if bs.length<=at_ then(acc,0)else if(EQ bs at_ 0).2.2≠0 then([],(EQ bs at_ 0).2.2)else IN f bs (EQ bs at_ 0).2.1 (acc++ [(EQ bs at_ 0).1])
theorem Rg{f:Nat}{bs:List Nat}{at_:Nat}{i:List Rec}(h:bs.length<=at_):IN f bs at_ i=(i,0):=by
 cases f with
 |zero=>rfl
 |succ f=>exact Ae h
def Gd(bs:List Nat):List Rec×Int:=IN bs.length bs 0 []
theorem nK(w:World)(A:Option Addr)(n c:Nat)(bs:List Nat)(hn:bs.length=n)(ag:n<=100000)(h8:∀x∈bs,x<=255)(U:A=none->n=0/\c=0)(ha:Row w w A n 1 (jZ .u8 bs)):
 Calls prog 123 #[false, .slice A n c] w (UM w (Gd bs)):=by
 obtain⟨j0,a9,bc,ay,az⟩:=info_parts Va;have D0:=hid (new_any w A n c bs hn ag U ha);have am:bs.length<=100000:=mz
 obtain⟨R,hR⟩:=ii (Gd bs);have ar:Hid (IN bs.length bs 0 []=R):=hR.symm;rw[<-hR];have H8:=hid h8;clear hn U ha hR h8 ag;go_enter func123,ntmps123;go_wp2_with fail;refine D0.out.mono ?_;rintro e w1 ⟨g,B,d,rfl,M,aa⟩;have z1:=aa.size;have bj:=M.blk.lt;have bf:=M.lo;have aj:=hid M;have ak:=hid aa;clear M aa D0;go_wp2_with fail;have al:=aj.out.step (w':=w1.alloc (.cells #[.pointer (some ⟨g,0,none⟩)] 249)) qh;have af:Blk (w1.alloc (.cells #[.pointer (some ⟨g,0,none⟩)] 249)) w1 249 #[.pointer (some ⟨g,0,none⟩)]:=Blk.made _ _ _;have Y:Below w w (w1.alloc (.cells #[.pointer (some ⟨g,0,none⟩)] 249)):=mZ z1 ak.out;generalize w1.alloc (.cells #[.pointer (some ⟨g,0,none⟩)] 249)=w2 at *;have z2:=Y.size;have aw:=af.lt;have aq:=hid al;have ba:=hid af;have av:=hid Y;clear al af Y aj ak;go_loopw [7] (fun v wr=>∃ (f at_:Nat) (j:List Rec),at_<=bs.length/\j.length<=at_/\Hid (bs.length<=f+at_)/\Hid (IN f bs at_ j=R)/\Hid (wr.ownsRow w2 43 4 v j.length (Ci j))/\Hid (Cur wr g w bs B d at_ 0)/\Hid (Kept (fun x=>x<w2.heap.size/\x≠g) w2 wr)) (fun _ wr=>bs.length-atOf wr g)
 case atStart=>exact⟨bs.length,0,[],mz,pI,Aq _,ar.out,AK _ _ _ _,aq.out,Kept.refl _ _⟩
 case round=>
  obtain⟨f,at_,j,bb,bd,HF,HG,HO,HC,HK⟩:=hrel;have ac:w1.heap.size≠g:=mz
  have zk:=HK.out.size;have xb:Blk wr w1 249 #[.pointer (some ⟨g,0,none⟩)]:=(HK.out.block _ ⟨aw,ac⟩).trans ba.out;have x0:=xb.ia 0;have XB:=hid xb;have DL:=hid (left_any wr g w bs B d at_ 0 HC.out);have Q:=HO.out;obtain⟨va,vc,rfl⟩:=bZ Q;have an:atOf wr g=at_:=by have h1:=HC.out.cells.2.1;unfold atOf;rw[h1];exact Bw _
  have ax:=hid an;have a3:Hid (Below w w wr):=av.out.trans (HK.out.below (fun b h=>⟨mz,by have:=HC.out.lo;omega⟩));clear xb Q an ar;by_cases z:bs.length<=at_
  ·have au:bs.length-at_=0:=mz;have a1:Hid (R=(j,0)):=HG.out.symm.trans (Rg z);rw[au]at DL;clear z au HG;go_wp2_with fail;refine DL.out.mono ?_;rintro e w3 ⟨rfl,q,rfl⟩;go_wp2_with fail;go_ret2;rw[a1.out];exact⟨_,rfl,kZ (eZ HO.out (fun x hx=>rfl)) z2,below_drewN a3.out q⟩
  ·obtain⟨f,rfl⟩:∃f',f=f'+1:=⟨f-1,lj⟩;have bg:0<bs.length-at_:=mz;have gl:=ic ((0:Int)<((bs.length-at_:Nat):Int));have bl:=ic (0<bs.length-at_);have bk:=ic (at_<bs.length);have hG:=HG.out;unfold IN at hG;rw[Ab z]at hG;have N:=Z4 H8.out bb 0;have DR:=hid (fun wx hx=>Yv wx g w bs B d at_ 0 am H8.out hx);generalize EQ bs at_ 0=T at *;obtain⟨⟨rt,rl,rs,rx⟩,a2,e2⟩:=T;simp only at hG N DR;unfold Rec.val at DR;simp only at DR;have a0:=N.1;have a4:=hid N.2.1;generalize ai:bs.length-at_=m at *;have bi:=hid ai;clear ai HG N;by_cases he:e2=0
   ·subst he;rw[Ab pI]at hG;have HG:=hid hG;clear hG;go_wp2_with fail;refine DL.out.mono ?_;rintro e w3 ⟨rfl,q,rfl⟩;go_wp2_with fail;refine(DR.out _ (HC.out.drewN q)).mono ?_;rintro e w4 ⟨rfl,y,i⟩;have z4:=i.size;simp at z4;have a6:w1.heap.size<w4.heap.size:=mz;have E:Blk w4 w1 249 #[.pointer (some ⟨g,0,none⟩)]:=(i.block _ ⟨(XB.out.drewN q).lt,ac⟩).trans (XB.out.drewN q);have x4:=E.ia 0;have J:Hid (w4.ownsRow w2 43 4 (.slice va j.length vc) j.length (Ci j)):=eZ HO.out (fun x hx=>i.block x ⟨(Am HO.out x hx).2,by have:=(Am HO.out x hx).1;omega⟩);have ae:Hid (Kept (fun x=>x<w2.heap.size/\x≠g) w2 w4):=HK.out.trans ⟨i.os,i.tape,i.output,i.size,fun x hx=>i.block x ⟨by have:=hx.1;simp;omega,hx.2⟩⟩;have G:=hid y;clear y i E x0 DL DR HO HK HC XB;go_wp2_with fail;refine(Dv _ g w bs B d a2 0 (G.out.step qh)).mono ?_;rintro e w5 ⟨rfl,rfl⟩;have bh:=a4.out trivial;have a5:j.length<=100000:=mz;go_wp2_with(at_builtin;refine iZ rfl (.tmp 26) (.tmp 28) 24 rfl w2 43 j0 _ 4 48 underlying24 a9 bc ay az rfl ip _ _ _ nc ((J.out.alloc _).alloc _) _ 1 1 [.int .u64 rt, .int .u8 rl, .string rs, .string rx] nc (Src.of_blk (g:=w4.heap.size+1) (Blk.made_at _ _ _ pI) 1 1 4 rfl) mo qg mz pQ ?_;intro v5 w5 Z ab be);have ah:Cur w5 g w bs B d a2 0:=(by have h1:=(G.out.step (w':=(w4.alloc (.cells #[.int .u64 rt, .int .u8 rl, .string rs, .string rx] 43)).alloc (.cells #[.int .u64 rt, .int .u8 rl, .string rs, .string rx] 43)) qh);exact⟨h1.blk.grown ab (fun e=>by have:=(Am J.out g e.symm).1;omega),eZ h1.own (fun x hx=>ab.block x (Am h1.own x hx).2 (fun e=>by have:=(Am aq.out.own x hx).2;have:=(Am J.out x e.symm).1;omega)),h1.le,h1.lo⟩);go_roundw
    case measure=>go_light;have h1:=ah.cells.2.1;have h2:atOf w5 g=a2:=(by unfold atOf;rw[h1];exact Bw _);rw[h2,ax.out];omega
    case rel=>
     go_light;refine⟨f,a2,j++ [⟨rt,rl,rs,rx⟩],a0,by rw[Aj];simp;omega,?_,HG,?_,ah,?_⟩
     ·show _<=_;have:=HF.out;omega
     ·rw[Y4,Aj];exact Z
     ·exact((ae.out.alloc (fun b h=>by have:=h.1;omega) _).alloc (fun b h=>by have:=h.1;simp;omega) _).grown ab (fun b h=>by have:=h.1;simp;omega) (fun b hb hh=>by have:=(Am J.out b hb).1;have:=hh.1;omega)
   ·rw[Ae he]at hG;have HG:=hid hG;have g1:(e2 != 0)=true:=p7;clear hG he;go_wp2_with fail;refine DL.out.mono ?_;rintro e w3 ⟨rfl,q,rfl⟩;go_wp2_with fail;refine(DR.out _ (HC.out.drewN q)).mono ?_;rintro e w4 ⟨rfl,y,i⟩;have z4:=i.size;simp at z4;have a6:w1.heap.size<w4.heap.size:=mz;have E:Blk w4 w1 249 #[.pointer (some ⟨g,0,none⟩)]:=(i.block _ ⟨(XB.out.drewN q).lt,ac⟩).trans (XB.out.drewN q);have x4:=E.ia 0;have J:Hid (w4.ownsRow w2 43 4 (.slice va j.length vc) j.length (Ci j)):=eZ HO.out (fun x hx=>i.block x ⟨(Am HO.out x hx).2,by have:=(Am HO.out x hx).1;omega⟩);have ae:Hid (Kept (fun x=>x<w2.heap.size/\x≠g) w2 w4):=HK.out.trans ⟨i.os,i.tape,i.output,i.size,fun x hx=>i.block x ⟨by have:=hx.1;simp;omega,hx.2⟩⟩;have G:=hid y;clear y i E x0 DL DR HO HK HC XB;go_wp2_with fail;refine(Dv _ g w bs B d a2 e2 (G.out.step qh)).mono ?_;rintro e w5 ⟨rfl,rfl⟩;go_wp2_with fail;go_ret2;rw[<-HG.out];exact⟨_,rfl,AK _ _ _ _,mZ mz (av.out.trans (ae.out.below (fun b h=>⟨mz,by have:=G.out.lo;omega⟩)))⟩
end Recs
end Go.Proofs.YtfgdoknipbpfhaaGreatDoor
