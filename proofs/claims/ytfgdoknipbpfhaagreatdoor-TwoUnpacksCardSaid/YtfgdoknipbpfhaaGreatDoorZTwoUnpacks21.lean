/- The walk of the refe -/
import Derived.Test.YtfgdoknipbpfhaaGreatDoorZTwoUnpacks10
import Derived.Test.YtfgdoknipbpfhaaGreatDoorZTwoUnpacks18
import Derived.Test.YtfgdoknipbpfhaaGreatDoorZTwoUnpacks20
import Derived.Test.YtfgdoknipbpfhaaGreatDoorZTwoUnpacks17
import Derived.Laws.BytesArg
import Derived.Laws.Strings
import Derived.KernelRfl
import Derived.Lib.SmallJoins
import Derived.Lib.AppendStr
namespace Go.Proofs.YtfgdoknipbpfhaaGreatDoor
open Go.Proofs.Tryz
open Go.Lib (hid)
set_option maxHeartbeats 2000000
set_option maxRecDepth 100000
variable{a b ls:List Nat}{w w':World}{B at_ base c g i k most n ob x:Nat}{A:Option Addr}{xs:List Value}{er:Int}{t:TypeId}
namespace Huff
open Go.RowKit Mem Canon
def Ha(ls:List Nat):ByteArray:=strOfNums (ls.map fun x=>((x:Nat):Int))
theorem Tb(x y:ByteArray):(x.toList==y.toList)=true↔x=y:=by
 rw[beq_iff_eq,Fw,Fw];constructor
 ·intro h;exact ByteArray.ext (Array.toList_inj.1 h)
 ·intro h;rw[h]
theorem Wu(ha:∀x∈a,x<=255)(hb:∀x∈b,x<=255)(h:Ha a=Ha b):a=b:=by
 have h:=AI (fun s:ByteArray=>s.data.toList) h;simp only[Ha,strOfNums_data,List.map_map]at h
 have e:∀l:List Nat,(∀x∈l,x<=255)->(l.map ((fun n:Int=>UInt8.ofNat n.toNat) ∘ fun x:Nat=>(x:Int))).map UInt8.toNat=l:=by
  intro l hl;rw[List.map_map]
  conv=>rhs;rw[<-List.map_id l]
  apply JT
  intro x hx;have:=hl x hx;simp;omega
 rw[<-e a ha,<-e b hb,h]
theorem Wd(ha:∀x∈a,x<=255)(hb:∀x∈b,x<=255):((Ha a).toList==(Ha b).toList)=decide (a=b):=by
 by_cases h:a=b
 ·subst h;rw[Aw rfl];exact(Tb _ _).2 rfl
 ·rw[Az h];cases e:(Ha a).toList==(Ha b).toList
  ·rfl
  ·exact absurd (Wu ha hb ((Tb _ _).1 e)) h
theorem SC(hn:ls.length=n)(ha:Row w B A n 1 (jZ .u8 ls))(z:A=none->n=0):
 (convert 28 9 (.slice A n c)).run prog w= .ok (.string (Ha ls)) w:=by
 cases A with
 |none=>obtain rfl:=z rfl;have hl:ls= []:=FK hn;subst hl;exact run_convert_bytes_nil w 28 5 underlying28 underlying5 0 c 9 underlying9
 |some ad=>
  obtain⟨b,y,h⟩:=ad;by_cases h0:n=0
  ·subst h0;have hl:ls= []:=FK hn;subst hl;have h0:(loadCells ⟨b,y,h⟩ 0).run prog w= .ok (([]:List Int).map (Value.int .u8)).toArray w:=(by have:=run_loadCells_list (P:=prog) w ⟨b,y,h⟩ [] (fun j v hj=>by simp at hj);simpa using this);rw[run_convert_bytes_string w 28 9 5 _ 0 c underlying28 underlying5 underlying9,run_bytesToString w _ 0 c [] h0,List.foldl_nil];have e:Ha []=ByteArray.empty:=rfl;rw[e]
  ·obtain⟨b',E,e,hb,hc⟩:=ha kR;simp only[Option.some.injEq,Addr.mk.injEq]at e;obtain⟨rfl,rfl,rfl⟩:=e;refine run_convert_bytes_arg w 28 5 underlying28 underlying5 b y n c _ (by simpa using hn) (fun i hi=> ?_) 9 underlying9;have:=hc i 0 hi kR;rw[EF,CT]at this;rw[this];unfold jZ;congr 2;simp[List.getD_eq_getElem?_getD,show i<ls.length by omega]
theorem Sn(w:World)(A B:Option Addr)(n m c d:Nat)(la lb:List Nat)(hn:la.length=n)(hm:lb.length=m)(hA:A=none->n=0)(hB:B=none->m=0)
 (i:∀x∈la,x<=255)(h:∀x∈lb,x<=255)(ha:Row w w A n 1 (jZ .u8 la))(hb:Row w w B m 1 (jZ .u8 lb)):
 Calls prog 42 #[.slice A n c, .slice B m d] w fun e w'=>e= .returned (.bool (decide (la=lb)))/\w=w':=by
 have p1:=SC (c:=c) hn ha hA;have p2:=SC (c:=d) hm hb hB;have HE:=hid (Wd i h);clear hn hm hA hB i h ha hb;go_enter func42,ntmps42;go_wp2_with fail;go_ret;exact⟨by simp[HE.out],rfl⟩
end Huff
namespace Block
open Go.RowKit Mem Own Canon
open NumPut Crc
open Huff (bytesOf Ru)
open Toks (Tk)
def sqO(bs:List Nat):List Nat:=TW.Xi (Lz.find bs)
def sqE(bs:List Nat):Int:=TW.Sw (Lz.find bs)
def sqz(bs:List Nat):Bool:=sqE bs==0&&decide ((sqO bs).length<bs.length)
def fWay(bs:List Nat)(plain:Bool):Nat:=if !plain&&sqz bs then 1 else 0
def IR(bs:List Nat)(plain:Bool):List Nat:=if !plain&&sqz bs then sqO bs else bs
def RM(bs:List Nat)(plain:Bool):List Nat:= [fWay bs plain]++tZ bs.length++tZ (IR bs plain).length
def fAll(bs:List Nat)(plain:Bool):List Nat:=RM bs plain++IR bs plain
def Gs(bs:List Nat)(plain:Bool):List Nat:=fAll bs plain++Cb (BE (fAll bs plain))
theorem VK(h:w.ownsRow base 5 1 (.slice A ls.length c) ls.length (cZ .u8 ls)):Row w w A ls.length 1 (jZ .u8 ls):=
 Row.of_own h rfl fun i j hi hj=>by
  obtain rfl:j=0:=kR
  simp[cZ,jZ,List.getD_eq_getElem?_getD,hi]
theorem uZ(h:w.ownsRow base 5 1 (.slice A n c) n (cZ .u8 ls))(hn:ls.length=n):Part.Ok ⟨A,c,ls⟩ w:=by subst hn;exact⟨VK h,(Da h).1⟩
theorem Gi{w:World}{g x:Nat}(h:Blk w g 5 #[.int .u8 (x:Nat)]):Part.Ok ⟨some ⟨g,0,none⟩,1,[x]⟩ w:=
 ⟨Row.of_blk h h.lt fun i j hi hj=>by
  obtain rfl:i=0:=by simp at hi;omega
  obtain rfl:j=0:=kR
  rfl,fun e=>by cases e⟩
end Block
namespace Block
open Go.RowKit Mem Own Canon
open NumPut Crc
end Block
namespace Opts
open Go.RowKit Mem
structure Opt where
 block:Int
 plain:Bool
 bucket:Int
 data:Int
 parity:Int
 chunk:Int
def Opt.val(o:Opt):Value:= .agg #[o.block,o.plain,o.bucket,o.data,o.parity,o.chunk]
theorem S0(a b:Bool)(a0 b0 a2 b2 a3 b3 a4 b4 a5 b5:Int)(w:World):(binOp .eql 23 (.agg #[a0,a,a2,a3,a4,a5]) (.agg #[b0,b,b2,b3,b4,b5])).run prog w= .ok (.bool (decide (a0=b0/\a=b/\a2=b2/\a3=b3/\a4=b4/\a5=b5))) w:=by
 go_simp
 by_cases h0:a0=b0<;>by_cases h1:a=b<;>by_cases h2:a2=b2<;>by_cases h3:a3=b3<;>by_cases h4:a4=b4<;>by_cases h5:a5=b5<;>simp[h0,h1,h2,h3,h4,h5]
theorem Lc(w:World)(x lo hi:Int):
 Calls prog 161 #[x,lo,hi] w fun e w'=>e= .returned (.bool (decide (lo<=x/\x<=hi)))/\w'=w:=by
 by_cases h:lo<=x
 ·have g1:decide (lo<=x)=true:=by simpa using h
  have HD:Hid (decide (lo<=x/\x<=hi)=decide (x<=hi)):=by show _=_;simp[h]
  rw[HD.out];clear h;go_enter func161,ntmps161;go_wp2_with fail;go_ret;exact⟨rfl,rfl⟩
 ·have g1:decide (lo<=x)=false:=by simpa using h
  have HD:Hid (decide (lo<=x/\x<=hi)=false):=by show _=_;simp[h]
  rw[HD.out];clear h;go_enter func161,ntmps161;go_wp2_with fail;go_ret;exact⟨rfl,rfl⟩
end Opts
namespace Recs
open Go.RowKit Mem
def Rec.val(r:Rec):Value:= .agg #[.int .u64 r.time, .int .u8 r.level, .string r.source, .string r.text]
def Cz(r:Rec):Bool:=decide (4000<r.source.size) || decide (4000<r.text.size)
def Dg(l:List Rec):Int:=if 20000<l.length then 6 else if l.any Cz=true then 6 else if 1048576<CC l then 6 else 0
theorem R9{l:List Rec}{p:Rec->Bool}{r:Rec}(hr:l[k]? =some r):(l.drop k).any p=(p r || (l.drop (k+1)).any p):=by obtain⟨hk,e⟩:=Ch.1 hr;rw[CU hk,List.any_cons,e]
theorem NP{r:Rec}(h:Cz r=false):r.source.size<=4000/\r.text.size<=4000:=by unfold Cz at h;simp at h;exact h
theorem S8{l:List Rec}{r:Rec}(hr:l[k]? =some r):CC (l.take (k+1))=CC (l.take k)+Gy r:=by rw[EG,hr];simp[UD]
theorem YL{l:List Rec}(h:∀r∈l,Cz r=false):0<=CC l/\CC l<=8016*(l.length:Int):=by
 induction l with
 |nil=>simp[NO]
 |cons r l ih=>
  have h1:=NP (h r mY);have h2:=ih (fun x hx=>h x (by simp[hx]));have e:CC (r :: l)=Gy r+CC l:=m9
  rw[e];unfold Gy;simp only[List.length_cons]
  push_cast
  omega
theorem Vv(w:World)(r:Rec):
 Calls prog 95 #[r.val] w fun e w'=>e= .returned (.bool (Cz r))/\aO w w':=by
 unfold Rec.val;by_cases h1:4000<r.source.size
 ·have hl:Cz r=true:=by unfold Cz;simp[h1]
  rw[hl];have g1:=iQ ((4000:Int)<r.source.size)
  have i:=iQ (4000<r.source.size)
  clear hl h1;go_enter func95,ntmps95;go_wp2_with fail;go_ret;exact⟨rfl,nJ⟩
 ·have g1:=iR ((4000:Int)<r.source.size)
  have i:=iR (4000<r.source.size)
  by_cases h2:4000<r.text.size
  ·have hl:Cz r=true:=(by unfold Cz;simp[h2]);rw[hl];have g2:=iQ ((4000:Int)<r.text.size);have h:=iQ (4000<r.text.size);clear hl h1 h2;go_enter func95,ntmps95;go_wp2_with fail;go_ret;exact⟨rfl,nJ⟩
  ·have hl:Cz r=false:=(by unfold Cz;simp;omega);rw[hl];have g2:=iR ((4000:Int)<r.text.size);have h:=iR (4000<r.text.size);clear hl h1 h2;go_enter func95,ntmps95;go_wp2_with fail;go_ret;exact⟨rfl,nJ⟩
theorem Y0(w:World)(A:Option Addr)(n c:Nat)(l:List Rec)(hl:l.length=n)(hn:n<=9223372036854775807)(hr:Row w w A n 4 (Dt l))(K:Nat)(p:Rec->Bool)(hK:∀args wx,(callFunc K args).run prog wx= .ok (.enter K args) wx)
 (hp:∀wx r,Calls prog K #[Rec.val r] wx fun e w'=>e= .returned (.bool (p r))/\aO wx w'):
 Calls prog 164 #[.slice A n c, .func (.func K) #[] #[]] w fun e w'=>∃z:Int,e= .returned (.int .i64 z)/\decide (0<=z)=l.any p/\aO w w':=by
 have HP:=hid hp;have HL:=hid hl;clear hp hl;go_enter func164,ntmps164;go_wp2_with fail;go_loopw [8] (fun i wx=>∃k:Nat,k<=n/\i= .int .i64 k/\Hid ((l.drop k).any p=l.any p)/\Hid (aO w wx)) (fun i _=>n-(intOf i).toNat)
 case atStart=>exact⟨0,kR,rfl,rfl,Ag _ _⟩
 case round=>
  obtain⟨k,hk,rfl,hA,HB⟩:=hrel;by_cases y:k<n
  ·obtain⟨b,G,r,rfl,E,hg,c0,c1,c2,c3⟩:=Row.rec (hr.below HB.out) HL.out y;have ha:=hA.out;rw[R9 hg]at ha;have D:=HP.out wr r;unfold Rec.val at D;have x0:(0:Int)<=(k:Int):=kR;have x1:(k:Int)<(n:Int):=kR;cases hb:p r
   ·rw[hb]at D ha;rw[Bool.false_or]at ha;have D:=hid D;have HA:=hid ha;clear hA ha hb hg;go_wp2_with fail;refine D.out.mono ?_;rintro e w1 ⟨rfl,h⟩;have j:Hid (aO w w1):=eZ h HB.out;clear h D c0 c1 c2 c3;go_wp2_with fail;go_roundw
    case measure=>exact jw
    case rel=>go_light;exact⟨k+1,kR,jx,HA.out,j.out⟩
   ·rw[hb]at D ha;rw[Bool.true_or]at ha;have D:=hid D;have HA:=hid ha;clear hA ha hb hg;go_wp2_with fail;refine D.out.mono ?_;rintro e w1 ⟨rfl,h⟩;have j:Hid (aO w w1):=eZ h HB.out;clear h D c0 c1 c2 c3;go_wp2_with fail;go_ret;exact⟨k,rfl,by rw[<-HA.out];simp,j.out⟩
  ·obtain rfl:k=n:=by omega
   have ha:=hA.out;rw[Cw lO]at ha;have HA:=hid ha;clear ha hA;go_wp2_with fail;go_ret;exact⟨-1,rfl,by rw[<-HA.out];rfl,HB.out⟩
theorem Yk(w:World)(A:Option Addr)(n c:Nat)(l:List Rec)(hl:l.length=n)(hn:n<=9223372036854775807)(hr:Row w w A n 4 (Dt l)):
 Calls prog 94 #[.slice A n c, .func (.func 95) #[] #[]] w fun e w'=>e= .returned (.bool (l.any Cz))/\aO w w':=by
 have D:=hid (Y0 w A n c l hl hn hr 95 Cz (by intro h wx;simp[callFunc,go_sem,func95];rfl) Vv);clear hl hr;go_enter func94,ntmps94;go_wp2_with fail;refine D.out.mono ?_;rintro e w1 ⟨z,rfl,hz,hb⟩;have HZ:=hid hz;clear hz D;go_wp2_with fail;go_ret;exact⟨El HZ.out,hb⟩
theorem Xe(w:World)(A:Option Addr)(n c:Nat)(l:List Rec)(hl:l.length=n)(hn:n<=20000)(hs:∀r∈l,Cz r=false)(hr:Row w w A n 4 (Dt l)):
 Calls prog 96 #[.slice A n c] w fun e w'=>e= .returned (.int .i64 (CC l))/\aO w w':=by
 have HL:=hid hl;have HS:=hid hs
 have HT:Hid (∀k,k<=n->0<=CC (l.take k)/\CC (l.take k)<=160320000):=fun k hk=>by
  have h:=YL (l:=l.take k) (fun r hr=>hs r (BZ hr));have L:(l.take k).length<=n:=ln
  omega
 clear hl hs;go_enter func96,ntmps96;go_wp2_with fail;go_loopw [3,8] (fun s i wx=>∃ (k:Nat) (x:Int),k<=n/\i= .int .i64 k/\s= .int .i64 x/\Hid (CC (l.take k)=x)/\Hid (aO w wx)) (fun _ i _=>n-(intOf i).toNat)
 case atStart=>exact⟨0,0,kR,rfl,rfl,rfl,Ag _ _⟩
 case round=>
  obtain⟨k,x,hk,rfl,rfl,hx,HB⟩:=hrel;by_cases z:k<n
  ·obtain⟨b,J,r,rfl,E,hg,c0,c1,c2,c3⟩:=Row.rec (hr.below HB.out) HL.out z;have y:=HT.out k hk;rw[hx.out]at y;have M:=NP (HS.out r (BP hg));have HW:Hid (CC (l.take (k+1))=x+Gy r):=(by show _=_;rw[S8 hg,hx.out]);unfold Gy at HW;have x0:(0:Int)<=(k:Int):=kR;have x1:(k:Int)<(n:Int):=kR;have s1:IntKind.i64.wrap (16+(r.source.size:Int))=16+(r.source.size:Int):=Am _ kR;have s2:IntKind.i64.wrap (16+(r.source.size:Int)+(r.text.size:Int))=16+(r.source.size:Int)+(r.text.size:Int):=Am _ kR;have s3:IntKind.i64.wrap (x+(16+(r.source.size:Int)+(r.text.size:Int)))=x+(16+(r.source.size:Int)+(r.text.size:Int)):=Am _ kR;have G:=HB.out.size;clear hg hx;go_wp2_with fail;go_roundw
   case measure=>exact jw
   case rel=>go_light;exact⟨k+1,x+(16+(r.source.size:Int)+(r.text.size:Int)),kR,i5,i5,HW.out,by have h:=HB.out;show aO w _;(repeat (with_reducible first|exact Ag _ _|assumption|refine Ak ?_ |refine below_drewN ?_ _|refine qZ ?_ |refine bZ ?_ |refine eZ iV ?_ |refine belA ?_ |refine rZ iV ?_))⟩
  ·obtain rfl:k=n:=by omega
   have j:=hx.out;rw[BR lO]at j;have HX:=hid j;clear j hx;go_wp2_with fail;go_ret;exact⟨by rw[HX.out];rfl,HB.out⟩
theorem Q7(w:World)(A:Option Addr)(n c:Nat)(l:List Rec)(hl:l.length=n)(hn:n<=9223372036854775807)(hr:Row w w A n 4 (Dt l)):
 Calls prog 45 #[.slice A n c] w fun e w'=>e= .returned (.int .i64 (Dg l))/\aO w w':=by
 have D1:=hid (Yk w A n c l hl hn hr);unfold Dg;rw[hl];by_cases h1:20000<n
 ·rw[Ab h1];have g1:=iQ ((20000:Int)<n)
  have j:=iQ (20000<n)
  clear h1 hl hr D1;go_enter func45,ntmps45;go_wp2_with fail;go_ret;exact⟨rfl,Ag _ _⟩
 ·rw[Aa h1];have g1:=iR ((20000:Int)<n)
  have j:=iR (20000<n)
  cases hlo:l.any Cz with
  |true=>rw[Ab rfl];rw[hlo]at D1;clear h1 hl hr hlo;go_enter func45,ntmps45;go_wp2_with fail;refine D1.out.mono ?_;rintro e w1 ⟨rfl,hb⟩;go_wp2_with fail;go_ret;exact⟨rfl,hb⟩
  |false=>
   rw[Aa mY];rw[hlo]at D1;have hs:∀r∈l,Cz r=false:=fun r h=>by have:=List.any_eq_false.1 hlo r h;simpa using this
   have D2:=hid (fun wx (hb:aO w wx)=>Xe wx A n c l hl kR hs ((hr.below hb).mono hb.size));generalize CC l=x at *;by_cases h2:1048576<x
   ·rw[Ab h2];have g2:decide (1048576<x)=true:=nA;clear h1 hl hr hlo hs h2;go_enter func45,ntmps45;go_wp2_with fail;refine D1.out.mono ?_;rintro e w1 ⟨rfl,hb⟩;have E2:=hid (D2.out w1 hb);clear D1 D2;go_wp2_with fail;refine E2.out.mono ?_;rintro e w2 ⟨rfl,i⟩;go_wp2_with fail;go_ret;exact⟨rfl,eZ i hb⟩
   ·rw[Aa h2];have g2:decide (1048576<x)=false:=nA;clear h1 hl hr hlo hs h2;go_enter func45,ntmps45;go_wp2_with fail;refine D1.out.mono ?_;rintro e w1 ⟨rfl,hb⟩;have E2:=hid (D2.out w1 hb);clear D1 D2;go_wp2_with fail;refine E2.out.mono ?_;rintro e w2 ⟨rfl,i⟩;go_wp2_with fail;go_ret;exact⟨rfl,eZ i hb⟩
theorem refcheck_any(w:World)(A:Option Addr)(n c:Nat)(l:List Rec)(hl:l.length=n)(hn:n<=9223372036854775807)(hr:Row w w A n 4 (Dt l)):
 Calls prog 24 #[.slice A n c] w fun e w'=>e= .returned (.int .i64 (Dg l))/\aO w w':=by
 obtain⟨E,hE⟩:=iS (Dg l);rw[<-hE];unfold Dg at hE;rw[hl]at hE;by_cases h1:20000<n
 ·rw[Ab h1]at hE;have g1:=iQ ((20000:Int)<n)
  have L:=iQ (20000<n)
  subst hE;clear h1 hl hr;go_enter func24,ntmps24;go_wp2_with fail;go_ret;exact⟨rfl,Ag _ _⟩
 ·rw[Aa h1]at hE;have g1:=iR ((20000:Int)<n)
  have L:=iR (20000<n)
  have HE:=hid hE;have HL:=hid hl;have Q:n<=20000:=kR
  clear h1 hl hE;go_enter func24,ntmps24;go_wp2_with fail;go_loopw [3,4] (fun s i wx=>∃ (k:Nat) (x:Int),k<=n/\i= .int .i64 k/\s= .int .i64 x/\0<=x/\x<=8016*(k:Int)/\Hid (CC (l.take k)=x)/\Hid ((l.drop k).any Cz=l.any Cz)/\Hid (aO w wx)) (fun _ i _=>n-(intOf i).toNat)
  case atStart=>exact⟨0,0,kR,rfl,rfl,kR,kR,rfl,rfl,Ag _ _⟩
  case round=>
   obtain⟨k,x,hk,rfl,rfl,Z,aa,hx,hA,HB⟩:=hrel;by_cases M:k<n
   ·obtain⟨b,Y,r,rfl,U,hg,c0,c1,c2,c3⟩:=Row.rec (hr.below HB.out) HL.out M;have ha:=hA.out;rw[R9 hg]at ha;have HW:Hid (CC (l.take (k+1))=x+Gy r):=(by show _=_;rw[S8 hg,hx.out]);have x0:(0:Int)<=(k:Int):=kR;have x1:(k:Int)<(n:Int):=kR;by_cases h2:4000<r.source.size
    ·have j:Cz r=true:=(by unfold Cz;simp[h2]);rw[j,Bool.true_or]at ha;have y:Hid (E=6):=(by have h:=HE.out;rw[<-ha,Ab rfl]at h;exact h);have g2:=iQ ((4000:Int)<r.source.size);have N:=iQ (4000<r.source.size);clear ha j h2 hg hA hx HE;go_wp2_with fail;go_ret;exact⟨by rw[y.out];rfl,HB.out⟩
    ·have g2:=iR ((4000:Int)<r.source.size);have N:=iR (4000<r.source.size);by_cases h3:4000<r.text.size
     ·have j:Cz r=true:=(by unfold Cz;simp[h3]);rw[j,Bool.true_or]at ha;have y:Hid (E=6):=(by have h:=HE.out;rw[<-ha,Ab rfl]at h;exact h);have g3:=iQ ((4000:Int)<r.text.size);have J:=iQ (4000<r.text.size);clear ha j h2 h3 hg hA hx HE;go_wp2_with fail;go_ret;exact⟨by rw[y.out];rfl,HB.out⟩
     ·have j:Cz r=false:=(by unfold Cz;simp;omega);rw[j,Bool.false_or]at ha;have G:=hid ha;have g3:=iR ((4000:Int)<r.text.size);have J:=iR (4000<r.text.size);unfold Gy at HW;have s1:IntKind.i64.wrap (x+16)=x+16:=Am _ kR;have s2:IntKind.i64.wrap (x+16+(r.source.size:Int))=x+16+(r.source.size:Int):=Am _ kR;have s3:IntKind.i64.wrap (x+16+(r.source.size:Int)+(r.text.size:Int))=x+16+(r.source.size:Int)+(r.text.size:Int):=Am _ kR;clear ha j hg hA hx;go_wp2_with fail;go_quiet (fail);go_wp2_with fail;go_roundw
      case measure=>exact jw
      case rel=>go_light;exact⟨k+1,x+16+(r.source.size:Int)+(r.text.size:Int),kR,i5,i5,kR,kR,by have h:=HW.out;show _=_;omega,G.out,below_drewN HB.out _⟩
   ·obtain rfl:k=n:=by omega
    have z:=hx.out;rw[BR lO]at z;have ha:=hA.out;rw[Cw lO]at ha;have he:=HE.out;rw[<-ha,z,Aa mY]at he;by_cases h4:1048576<x
    ·rw[Ab h4]at he;have g4:decide (1048576<x)=true:=(by simpa using h4);have y:=hid he;clear z hx ha hA he HE h4;go_wp2_with fail;go_ret;exact⟨by rw[y.out];rfl,HB.out⟩
    ·rw[Aa h4]at he;have g4:decide (1048576<x)=false:=(by simpa using h4);have y:=hid he;clear z hx ha hA he HE h4;go_wp2_with fail;go_ret;exact⟨by rw[y.out];rfl,HB.out⟩
end Recs
namespace NumPut
open Go.RowKit Mem Own Canon
theorem NJ{X:Nat}(h:X*2 ^ (7*k)<18446744073709551616)(i:128<=X):k+1<=9/\X / 128*2 ^ (7*(k+1))<18446744073709551616:=by
 have e:2 ^ (7*(k+1))=128*2 ^ (7*k):=by rw[show 7*(k+1)=7*k+7 by omega,Nat.pow_add];omega
 constructor
 ·by_cases hk:k+1<=9
  ·exact hk
  ·exfalso;have h1:2 ^ 63<=2 ^ (7*k):=BQ kR kR;have h2:128*2 ^ 63<=X*2 ^ (7*k):=GT i h1;omega
 ·rw[e,<-Nat.mul_assoc];have:X / 128*128*2 ^ (7*k)<=X*2 ^ (7*k):=Fk _ (Nat.div_mul_le_self _ _);omega
theorem YN:∀ (x k:Nat),x*2 ^ (7*k)<18446744073709551616->k<=9->(tZ x).length+k<=10:=by
 intro x
 induction x using Nat.strongRecOn with
 |_ x ih=>
  intro k h hk;by_cases h1:x<128
  ·rw[Gp h1];simp;omega
  ·obtain⟨s1,s2⟩:=NJ h kR;have:=ih (x / 128) kR (k+1) s2 s1;rw[Ih h1,Bu];omega
theorem Cf(h:x<18446744073709551616):(tZ x).length<=10:=by have:=YN x 0 nz kR;omega
theorem IK(w:World)(x:Nat)(hx:x<18446744073709551616):
 Calls prog 99 #[.int .u64 x] w fun e w'=>∃v,e= .returned v/\w'.ownsRow w 5 1 v (tZ x).length (cZ .u8 (tZ x))/\aO w w':=by
 obtain⟨j0,M,Z,aa,Q⟩:=info_parts Ct;obtain⟨R,hR⟩:=iS (tZ x);have L:Hid ([]++tZ x=R):=hR.symm;have U:Hid (x*2 ^ (7*0)<18446744073709551616):=by show _<_;simpa using hx
 rw[<-hR];clear hR;go_enter func99,ntmps99;go_wp2_with fail;go_loopw [0,3] (fun u v wr=>∃ (X k:Nat) (done:List Nat),u= .int .u64 X/\k<=9/\X<18446744073709551616/\Hid (X*2 ^ (7*k)<18446744073709551616)/\Hid (done.length=k)/\Hid (done++tZ X=R)/\Hid (wr.ownsRow w 5 1 v k (cZ .u8 done))/\Hid (aO w wr)) (fun u _ _=>(intOf u).toNat)
 case atStart=>exact⟨x,0,[],rfl,kR,hx,U.out,rfl,L.out,Aq _ _ _ _,Ag _ _⟩
 case round=>
  obtain⟨X,k,done,rfl,hk,hX,HX,HL,HR,HO,HB⟩:=hrel;clear L U;have zb:=HB.out.size;by_cases z:X<128
  ·have g1:=iR ((128:Int)<=X);have ab:=iR (128<=X);have c1:IntKind.u8.wrap (X:Int)=(X:Int):=lJ;have j:Hid (done++ [X]=R):=jH;go_wp2_with(at_builtin;refine gZ rfl (.tmp 14) (.tmp 17) 28 rfl w 5 j0 _ 1 1 underlying28 M Z aa Q rfl iX _ _ _ kU (HO.out.alloc _) _ 1 1 [.int .u8 (X:Nat)] kU (Src.of_blk (g:=wr.heap.size) (Blk.made _ _ _) 1 1 1 rfl) kw nI kR ni ?_;intro v4 w4 i G N);have J:Hid (w4.ownsRow w 5 1 v4 R.length (cZ .u8 R)):=lj;have E:Hid (aO w w4):=(bZ HB.out).grown G ni (fun y hy=>(Ae HO.out y hy).1);go_ret;exact⟨_,rfl,J.out,E.out⟩
  ·have g1:=iQ ((128:Int)<=X);have ab:=iQ (128<=X);have c1:IntKind.u8.wrap (X:Int)=((X % 256:Nat):Int):=lJ;have o1:bits .or .u8 ((X % 256:Nat):Int) 128=((X % 128+128:Nat):Int):=mu;have j:Hid ((done++ [X % 128+128])++tZ (X / 128)=R):=jI;obtain⟨af,Y⟩:=NJ HX.out kR;have ac:=hid Y;obtain⟨b,hb⟩:=iS (X % 128+128);obtain⟨a,ha⟩:=iS (X % 256);rw[<-hb]at o1 j;rw[<-ha]at o1 c1;clear hb ha Y;go_wp2_with(at_builtin;refine gZ rfl (.tmp 6) (.tmp 10) 28 rfl w 5 j0 _ 1 1 underlying28 M Z aa Q rfl iX _ _ _ kU (HO.out.alloc _) _ 1 1 [.int .u8 (b:Nat)] kU (Src.of_blk (g:=wr.heap.size) (Blk.made _ _ _) 1 1 1 rfl) kw nI kR ni ?_;intro v4 w4 i G N);have ae:Hid (w4.ownsRow w 5 1 v4 (k+1) (cZ .u8 (done++ [b]))):=(by rw[JJ];exact i);have E:Hid (aO w w4):=(bZ HB.out).grown G ni (fun y hy=>(Ae HO.out y hy).1);exact⟨⟨X / 128,k+1,done++ [b],AI _ kR,kR,kR,ac.out,mO,j.out,ae.out,E.out⟩,nw⟩
theorem Jb(w:World)(x:Nat)(hx:x<18446744073709551616):
 Calls prog 77 #[.int .u64 x] w fun e w'=>∃v,e= .returned v/\w'.ownsRow w 5 1 v (tZ x).length (cZ .u8 (tZ x))/\aO w w':=by
 obtain⟨j0,M,Z,aa,Q⟩:=info_parts Ct;obtain⟨R,hR⟩:=iS (tZ x);have L:Hid ([]++tZ x=R):=hR.symm;have U:Hid (x*2 ^ (7*0)<18446744073709551616):=by show _<_;simpa using hx
 rw[<-hR];clear hR;go_enter func77,ntmps77;go_wp2_with fail;go_loopw [0,3] (fun u v wr=>∃ (X k:Nat) (done:List Nat),u= .int .u64 X/\k<=9/\X<18446744073709551616/\Hid (X*2 ^ (7*k)<18446744073709551616)/\Hid (done.length=k)/\Hid (done++tZ X=R)/\Hid (wr.ownsRow w 5 1 v k (cZ .u8 done))/\Hid (aO w wr)) (fun u _ _=>(intOf u).toNat)
 case atStart=>exact⟨x,0,[],rfl,kR,hx,U.out,rfl,L.out,Aq _ _ _ _,Ag _ _⟩
 case round=>
  obtain⟨X,k,done,rfl,hk,hX,HX,HL,HR,HO,HB⟩:=hrel;clear L U;have zb:=HB.out.size;by_cases z:X<128
  ·have g1:=iR ((128:Int)<=X);have ab:=iR (128<=X);have c1:IntKind.u8.wrap (X:Int)=(X:Int):=lJ;have j:Hid (done++ [X]=R):=jH;go_wp2_with(at_builtin;refine gZ rfl (.tmp 15) (.tmp 18) 28 rfl w 5 j0 _ 1 1 underlying28 M Z aa Q rfl iX _ _ _ kU (HO.out.alloc _) _ 1 1 [.int .u8 (X:Nat)] kU (Src.of_blk (g:=wr.heap.size) (Blk.made _ _ _) 1 1 1 rfl) kw nI kR ni ?_;intro v4 w4 i G N);have J:Hid (w4.ownsRow w 5 1 v4 R.length (cZ .u8 R)):=lj;have E:Hid (aO w w4):=(bZ HB.out).grown G ni (fun y hy=>(Ae HO.out y hy).1);go_ret;exact⟨_,rfl,J.out,E.out⟩
  ·have g1:=iQ ((128:Int)<=X);have ab:=iQ (128<=X);have c1:IntKind.u64.wrap (128+(X:Int) % 128)=((X % 128+128:Nat):Int):=(by rw[show IntKind.u64.wrap (128+(X:Int) % 128)=(128+(X:Int) % 128) % 18446744073709551616 from by simp[IntKind.wrap,IntKind.bits,IntKind.signed]];omega);have c2:IntKind.u8.wrap ((X % 128+128:Nat):Int)=((X % 128+128:Nat):Int):=lJ;have j:Hid ((done++ [X % 128+128])++tZ (X / 128)=R):=jI;obtain⟨af,Y⟩:=NJ HX.out kR;have ac:=hid Y;obtain⟨b,hb⟩:=iS (X % 128+128);rw[<-hb]at c1 c2 j;clear hb Y;go_wp2_with(at_builtin;refine gZ rfl (.tmp 6) (.tmp 11) 28 rfl w 5 j0 _ 1 1 underlying28 M Z aa Q rfl iX _ _ _ kU (HO.out.alloc _) _ 1 1 [.int .u8 (b:Nat)] kU (Src.of_blk (g:=wr.heap.size) (Blk.made _ _ _) 1 1 1 rfl) kw nI kR ni ?_;intro v4 w4 i G N);have ae:Hid (w4.ownsRow w 5 1 v4 (k+1) (cZ .u8 (done++ [b]))):=(by rw[JJ];exact i);have E:Hid (aO w w4):=(bZ HB.out).grown G ni (fun y hy=>(Ae HO.out y hy).1);exact⟨⟨X / 128,k+1,done++ [b],AI _ kR,kR,kR,ac.out,mO,j.out,ae.out,E.out⟩,nw⟩
def sB(s:ByteArray):List Nat:=s.data.toList.map UInt8.toNat
theorem Yv(s:ByteArray):(sB s).length=s.size:=by unfold sB;rw[Cg,Array.length_toList];rfl
def IN(s:ByteArray):List Nat:=tZ s.size++sB s
theorem Yd{s:ByteArray}(h:s.size<=100000):(IN s).length<=3+s.size/\s.size<(IN s).length:=by
 have h1:(tZ s.size).length<=3:=by
  by_cases h1:s.size<128
  ·rw[Gp h1];simp
  ·rw[Ih h1,Bu];by_cases h2:s.size / 128<128
   ·rw[Gp h2];simp
   ·rw[Ih h2,Gp kR];simp
 have h2:1<=(tZ s.size).length:=by
  by_cases h1:s.size<128
  ·rw[Gp h1];simp
  ·rw[Ih h1,Bu];omega
 unfold IN;rw[Aj,Yv];omega
end NumPut
namespace Recs
open Go.RowKit Mem Own Canon NumPut
open Nums (NT)
open Block (uZ)
def Ht(r:Rec):Prop:=0<=r.time/\r.time<18446744073709551616/\0<=r.level/\r.level<=255
def Xy(wh:Bool)(r:Rec):List Nat:=if wh=true then tZ r.time.toNat++ [r.level.toNat]else []
def oneB(wh:Bool)(r:Rec):List Nat:=Xy wh r++(IN r.source++IN r.text)
theorem GK(h:w.ownsRow base 5 1 (.slice A n c) n xs):Src w A n c 1 xs:=by
 obtain⟨h0,h1⟩:=h;refine⟨h0,?_⟩;rcases h1 with ⟨hv,_⟩|⟨g,y,cur,hv,_,hh,_,_,_,i⟩
 ·injection hv with e1 e2 e3;exact .inl ⟨e1,e2,e3⟩
 ·injection hv with e1 e2 e3;refine .inr ⟨⟨g,0,none⟩,e1,fun j u hu=> ?_⟩;rw[add_none,BF,Blk.cell hh];rw[<-i,Iv]at hu;split at hu
  ·simpa using hu
  ·cases hu
end Recs
namespace Recs
open Go.RowKit Mem Own Canon NumPut
open Block (uZ)
def FH(wh:Bool)(l:List Rec):List Nat:=l.flatMap (oneB wh)
end Recs
namespace Recs
open Go.RowKit Mem Own Canon NumPut
def goG(S:Nat):Nat->Nat->List Nat->List Nat
 |_,c,[]=> [c]
 |h,c,x :: t=>if S<h+x then c :: goG S x 1 t else goG S (h+x) (c+1) t
def GI(S:Nat):List Nat->List Nat
 | []=> []
 |x :: t=>goG S x 1 t
def GH(wh:Bool)(l:List Rec):List Nat:=l.map fun r=>(oneB wh r).length
def Na(S:Nat)(wh:Bool)(l:List Rec)(w:World)(e:Ending)(w':World):Prop:=
 ∃v,e= .returned v/\w'.ownsRow w 3 1 v (GI S (GH wh l)).length (cZ .i64 (GI S (GH wh l)))/\aO w w'
end Recs
namespace Recs
open NumPut
def zigN(d:Nat):Nat:=if d<9223372036854775808 then 2*d else 36893488147419103231-2*d
def subN(a b:Nat):Nat:=(a+18446744073709551616-b) % 18446744073709551616
theorem Y6{d:Nat}(h:d<18446744073709551616):zigN d<18446744073709551616:=by unfold zigN;split<;>omega
theorem YT(a b:Nat):subN a b<18446744073709551616:=Nat.mod_lt _ kR
def GP(g:Nat->Nat->List Nat):Nat->List Nat->List Nat
 |_,[]=> []
 |was,t :: l=>g was t++GP g t l
theorem QW{g:Nat->Nat->List Nat}(h:∀a b,(g a b).length<=10):∀ (l:List Nat) (i:Nat),(GP g i l).length<=10*l.length
 | [],_=>by simp[GP]
 |t :: l,i=>by have:=QW h l t;have:=h i t;rw[GP,Aj,Bu];omega
theorem Tq{g:Nat->Nat->List Nat}(h:∀a b,∀y∈g a b,y<=255):∀ (l:List Nat) (i:Nat),∀y∈GP g i l,y<=255
 | [],_,y,hy=>by simp[GP]at hy
 |t :: l,i,y,hy=>by
  rw[GP]at hy;rcases BN.1 hy with hy|hy
  ·exact h i t y hy
  ·exact Tq h l t y hy
def stepT(was t:Nat):List Nat:=tZ (zigN (subN t was))
theorem XW(a b:Nat):(stepT a b).length<=10:=Cf (Y6 (YT b a))
theorem U0(a b:Nat):∀y∈stepT a b,y<=255:=fun y hy=>Et _ y hy
def lead(x:Nat):List Nat->Nat
 | []=>0
 |y :: t=>if y=x then lead x t+1 else 0
theorem SM(x:Nat):∀l,lead x l<=l.length
 | []=>by simp[lead]
 |y :: t=>by have:=SM x t;rw[lead];split<;>simp<;>omega
def lvB:List Nat->List Nat
 | []=> []
 |x :: t=>x :: (tZ (lead x t+1)++lvB (t.drop (lead x t)))
termination_by l=>l.length
decreasing_by simp only[List.length_drop,List.length_cons];omega
theorem Sy:∀ (n:Nat) (l:List Nat),l.length<=n->(∀x∈l,x<=255)->l.length<18446744073709551616->(lvB l).length<=11*l.length
 |_,[],_,_,_=>by rw[lvB];simp
 |n+1,x :: t,h,h8,h64=>by have hl:=SM x t;simp only[List.length_cons]at h h64;have:=Cf (x:=lead x t+1) kR;have ih:=Sy n (t.drop (lead x t)) lk (fun y hy=>h8 y (Fv _ (Be hy))) lk;rw[AK]at ih;rw[lvB];simp only[List.length_cons,List.length_append];omega
theorem Rq:∀ (n:Nat) (l:List Nat),l.length<=n->(∀x∈l,x<=255)->∀y∈lvB l,y<=255
 |_,[],_,_,y,hy=>by rw[lvB]at hy;cases hy
 |n+1,x :: t,h,h8,y,hy=>by
  rw[lvB]at hy;simp only[List.length_cons]at h;rcases BK.1 hy with rfl|hy
  ·exact h8 _ mY
  ·rcases BN.1 hy with hy|hy
   ·exact Et _ y hy
   ·exact Rq n (t.drop (lead x t)) lk (fun y hy=>h8 y (Fv _ (Be hy))) y hy
def Jq(l:List Rec):List Nat:=l.map fun r=>r.time.toNat
def Ij(l:List Rec):List Nat:=l.map fun r=>r.level.toNat
def FG(l:List Rec):List Nat:=GP stepT 0 (Jq l)++lvB (Ij l)
theorem QM{l:List Rec}(h:∀r∈l,Ht r):∀x∈Ij l,x<=255:=fun x hx=>by obtain⟨r,hr,rfl⟩:=ET.1 hx;have:=h r hr;obtain⟨_,_,h1,h2⟩:=this;omega
theorem UJ{l:List Rec}(h:∀r∈l,Ht r):∀x∈FG l,x<=255:=fun x hx=>by
 rcases BN.1 hx with hx|hx
 ·exact Tq U0 _ _ x hx
 ·exact Rq _ _ (Ai _) (QM h) x hx
theorem Tf{l:List Rec}(h:∀r∈l,Ht r)(hn:l.length<=1000000):(FG l).length<=21*l.length:=by have h1:=QW XW (Jq l) 0;have h2:=Sy _ (Ij l) (Ai _) (QM h) (by unfold Ij;rw[Cg];omega);unfold Jq at h1;unfold Ij at h2;rw[Cg]at h1 h2;unfold FG;rw[Aj];unfold Jq Ij;omega
end Recs
namespace Lz
open Go.RowKit Go.Maps Mem Own Canon
open Toks (Tk)
open Huff (CW IU Lq)
end Lz
namespace Block
open Go.RowKit Mem Own Canon
open NumPut Crc
theorem own_one{x:Value}(hb:base<=w.heap.size):(w.alloc (.cells #[x] 5)).ownsRow base 5 1 (.slice (some ⟨w,0,none⟩) 1 1) 1 [x]:=
 ⟨rfl, .inr ⟨w.heap.size,1,#[x],rfl,hb,heap_alloc_new w _,Ai _,nI,rfl,rfl⟩⟩
end Block
namespace One
open Go.RowKit Mem Own Canon NumPut Crc
open Recs Opts
open Block (Gs uZ)
def CG(v:Nat):List Nat:= [70,73,82,75,v]
def FQ(b:Bool):Nat:=if b=true then 1 else 0
theorem NC(S:Nat):∀ (t:List Nat) (h c:Nat),(goG S h c t).sum=c+t.length
 | [],_,c=>by simp[goG]
 |x :: t,h,c=>by
  rw[goG];split
  ·rw[GU,NC S t];simp;omega
  ·rw[NC S t];simp;omega
theorem Nx(S:Nat):∀ (t:List Nat) (h c:Nat),1<=c->∀x∈goG S h c t,1<=x
 | [],_,c,hc,x,hx=>by rw[goG,Dw]at hx;omega
 |y :: t,h,c,hc,x,hx=>by
  rw[goG]at hx;split at hx
  ·rcases BK.1 hx with rfl|hx
   ·exact hc
   ·exact Nx S t _ 1 kR x hx
  ·exact Nx S t _ (c+1) kR x hx
theorem M5(S:Nat)(l:List Nat):(GI S l).sum=l.length:=by
 cases l with
 |nil=>rfl
 |cons x t=>rw[GI,NC];simp;omega
theorem MY(S:Nat)(l:List Nat):∀x∈GI S l,1<=x:=by
 cases l with
 |nil=>intro x hx;cases hx
 |cons y t=>exact Nx S t y 1 kR
theorem MV:∀ {l:List Nat},(∀x∈l,1<=x)->l.length<=l.sum
 | [],_=>mY
 |x :: l,h=>by have h1:=h x mY;have h2:=MV (l:=l) (fun y hy=>h y (by simp[hy]));rw[Bu,GU];omega
theorem MO(wh:Bool)(l:List Rec):(GH wh l).length=l.length:=by unfold GH;rw[Cg]
theorem Yj{P:Program}(w:World)(t ty e:TypeId)(i:TypeInfo)(ht:P.underlying t=some (.slice e))(hi:P.info? e=some i)(hz:i.zero=some (.int .u8 0))(z:i.size=1)(N:i.bytes=1)
 (b:Addr)(n c:Nat)(y:List Value)(Y:y.length=n)(E:∀j v,y[j]? =some v->w.cell? (b.add j)=some v)
 (a:Addr)(m c2:Nat)(h:List Value)(hl:h.length=m)(G:∀j v,h[j]? =some v->w.cell? (a.add j)=some v)(hg:c<n+m)(U:n+m<=1000000):
 ∃v' w',(Builtin.append_ #[t,t] ty #[.slice (some b) n c, .slice (some a) m c2]).run P w= .ok v' w'/\w'.ownsRow w e 1 v' (n+m) (y++h)/\aO w w':=by
 have hr:=run_append_grow (P:=P) w t ty e i (.int .u8 0) ht hi hz b n c y (by rw[z];omega) E a m c2 h (by rw[z];omega) G hg kR (by rw[N];exact growslice_fits kR kR);have Q:=grownCap_ge w (n+m) c e;have M:grownCap w (n+m) c e<=maxLen:=grownCap_le_maxLen w (n+m) c e nI;refine⟨_,_,hr,⟨by rw[Aj];omega, .inr ⟨w.heap.size,_,_,rfl,Ai _,heap_alloc_new w.drew _,Q,M,?_,?_⟩⟩,((Ag _ _).drew).alloc (Ai _) _⟩
 ·have L:(Value.int IntKind.u8 0).cells.size=1:=rfl;simp only[Array.size_append,List.size_toArray,size_zeroCells,L];omega
 ·simp only[Array.toList_append,List.append_assoc];rw[<-zY];have J:(y++h).length=(n+m)*1:=by rw[Aj];omega
  rw[<-J];exact List.take_left
theorem Wp{P:Program}{y:Array Oper}{rest:List Oper}{o:Oper}{a:Act}{Q:Exit->Act->World->Prop}(z:o.guard=none)(s x:Operand)(t:TypeId)
 (ho:o.op= .call {callee:= .builtin .append,args:=#[s,x],argTypes:=#[t,t] })(e:TypeId)(i:TypeInfo)(ht:P.underlying t=some (.slice e))(hi:P.info? e=some i)(hz:i.zero=some (.int .u8 0))(hsize:i.size=1)(hby:i.bytes=1)
 (b:Addr)(n c:Nat)(olds:List Value)(hs:a.eval s= .slice (some b) n c)(hlo:olds.length=n)(holds:∀j v,olds[j]? =some v->w.cell? (b.add j)=some v)
 (ad:Addr)(m c2:Nat)(news:List Value)(hx:a.eval x= .slice (some ad) m c2)(hl:news.length=m)(hnews:∀j v,news[j]? =some v->w.cell? (ad.add j)=some v)(hg:c<n+m)(h63:n+m<=1000000)
 (h:∀v' w',w'.ownsRow w e 1 v' (n+m) (olds++news)->aO w w'->wpList P y Q rest (a.put o.dst v') w'):wpList P y Q (o :: rest) a w:=by
 refine wpList_plain z fun K hK=> ?_;obtain⟨v',w',hr,h2,h3⟩:=Yj (P:=P) w t o.type e i ht hi hz hsize hby b n c olds hlo holds ad m c2 news hl hnews hg h63;unfold Oper.wp execOp;simp only[ho,resolve,invoke,builtin,Sem.run_bind,Sem.run_pure,Result.andThen_ok,List.map_toArray,List.map_cons,List.map_nil,hs,hx,hr];exact hK _ _ (h v' w' h2 h3)
end One
namespace One
open Go.RowKit Mem Own Canon NumPut Crc
open Recs Opts
open Block (Gs uZ Gi)
theorem LV{l:List Rec}(h:Dg l=0):∀r∈l,Cz r=false:=by
 unfold Dg at h;split at h
 ·cases h
 ·split at h
  ·cases h
  ·rename_i h1;intro r hr;cases hb:Cz r
   ·rfl
   ·exact absurd (List.any_eq_true.2 ⟨r,hr,hb⟩) h1
theorem Xq{bs:List Nat}(plain:Bool)(h:bs.length<=16000):(Gs bs plain).length<=bs.length+25:=by
 have hb:(Block.IR bs plain).length<=bs.length:=by
  unfold Block.IR;split
  ·rename_i hc;rw[CV]at hc;have h2:=hc.2;unfold Block.sqz at h2;simp at h2;omega
  ·omega
 have h1:=Cf (x:=bs.length) kR;have h2:=Cf (x:=(Block.IR bs plain).length) kR;unfold Gs Block.fAll Block.RM;simp only[List.length_append,List.length_singleton];have:(Cb (BE (([Block.fWay bs plain]++tZ bs.length++tZ (Block.IR bs plain).length)++Block.IR bs plain))).length=4:=rfl;omega
theorem MM(wh:Bool)(l:List Rec)(m:Nat):(FH wh (l.take m)).length+(FH wh (l.drop m)).length=(FH wh l).length:=by
 conv=>rhs;rw[<-I5 m l]
 unfold FH;rw[KF,Aj]
end One
namespace One
open Go.RowKit Mem Own Canon NumPut Crc
open Recs Opts
open Block (Gs uZ Gi own_one)
def FrsAt(w:World)(base:Nat)(ps:List Part):Prop:=∀p∈ps,w.ownsRow base 5 1 p.v p.ls.length (cZ .u8 p.ls)
theorem FrsAt.step{ps:List Part}(h:FrsAt w base ps)(hb:aO w w'):FrsAt w' base ps:=fun p hp=>dZ (h p hp) (fun y hy=>hb.block y (Ae (h p hp) y hy).2)
theorem GN{s s' n':Nat}{e e':TypeId}{v v':Value}{j:List Value}(h:w.ownsRow base e s v n xs)(ho:w.ownsRow i e' s' v' n' j)(z:e≠e')(hg:w.grownBy w' v'.ownBlock):w'.ownsRow base e s v n xs:=
 dZ h (fun y hy=>hg.block y (Ae h y hy).2 (fun e=>by
  rcases Fh h ho z with h0|h0
  ·rw[h0]at hy;cases hy
  ·exact h0 (hy.trans e)))
theorem FrsAt.grown{v:Value}{ps:List Part}(h:FrsAt w base ps)(ho:w.ownsRow i 28 1 v n xs)(hg:w.grownBy w' v.ownBlock):FrsAt w' base ps:=fun p hp=>GN (h p hp) ho iX hg
theorem JM:(prog.info? 28).map (fun i=>(i.zero,i.size,i.bytes))=some (some (.slice none 0 0),1,24):=kG
end One
namespace One
open Go.RowKit Mem Own Canon NumPut Crc
open Recs Opts
open Block (Gs uZ)
theorem YE{cs:Array Value}(hb:base<=w.heap.size)(hn:cs.size=n)(hm:n<=maxLen):(w.alloc (.cells cs 5)).ownsRow base 5 1 (.slice (some ⟨w,0,none⟩) n n) n cs.toList:=
 ⟨by simpa using hn, .inr ⟨w.heap.size,n,cs,rfl,hb,heap_alloc_new w _,Ai _,hm,kR,by rw[EF,<-hn,<-Array.length_toList,List.take_length]⟩⟩
theorem Yp{fs:List (List Nat)}{x:List Nat}(h:x∈fs):x.length<=fs.flatten.length:=by
 induction fs with
 |nil=>cases h
 |cons y t ih=>
  rw[List.flatten_cons,Aj];rcases BK.1 h with rfl|h
  ·omega
  ·have:=ih h;omega
end One
namespace One
open Go.RowKit Mem Own Canon NumPut Crc
open Recs Opts
open Block (Gs uZ)
theorem RG{l:List Rec}(h:Dg l≠0):Dg l=6:=by
 unfold Dg at h ⊢;split
 ·rfl
 ·split
  ·rfl
  ·split
   ·rfl
   ·rename_i h1 h2 h3;rw[Aa h1,Aa h2,Aa h3]at h;exact absurd rfl h
end One
namespace Opts
open Go.RowKit Mem
def Dj(o:Opt):Int:=if(16<=o.block/\o.block<=32768)/\(1<=o.bucket/\o.bucket<=64)/\(o.data=0/\o.parity=0/\o.chunk=0)then 0 else 9
theorem Yx{o:Opt}(h:Dj o≠0):Dj o=9:=by
 unfold Dj at h ⊢;split
 ·rename_i hc;rw[Ab hc]at h;exact absurd rfl h
 ·rfl
def Opt.body(o:Opt):Opt:=⟨o.block,o.plain,o.bucket,0,0,0⟩
def Dl(o:Opt):Int:=Dj o.body
theorem KN(w:World)(o:Opt):
 Calls prog 92 #[.int .i64 2,o.val] w fun e w'=>e= .returned (.int .i64 (Dj o))/\aO w w':=by
 obtain⟨bl,pl,bu,da,pa,ch⟩:=o;unfold Opt.val Dj;simp only;have D:=hid (fun wx=>Lc wx bl 16 32768);have DB:=hid (fun wx=>Lc wx bu 1 64);have HE:=S0 pl pl bl bl 0 0 da 0 pa 0 ch 0;by_cases hb:16<=bl/\bl<=32768
 ·rw[Aw hb]at D;by_cases hu:1<=bu/\bu<=64
  ·rw[Aw hu]at DB;by_cases hz:da=0/\pa=0/\ch=0
   ·rw[Ab ⟨hb,hu,hz⟩];have hd:decide (bl=bl/\pl=pl/\(0:Int)=0/\da=0/\pa=0/\ch=0)=true:=Aw ⟨rfl,rfl,rfl,hz⟩;rw[hd]at HE;clear hb hz hd hu;go_enter func92,ntmps92;go_wp2_with fail;refine(D.out _).mono ?_;rintro e w1 ⟨rfl,rfl⟩;go_wp2_with fail;refine(DB.out _).mono ?_;rintro e w1 ⟨rfl,rfl⟩;go_wp2_with fail;go_ret;exact⟨rfl,nJ⟩
   ·rw[Aa (fun h=>hz h.2.2)];have hd:decide (bl=bl/\pl=pl/\(0:Int)=0/\da=0/\pa=0/\ch=0)=false:=Az (fun h=>hz h.2.2.2);rw[hd]at HE;clear hb hz hd hu;go_enter func92,ntmps92;go_wp2_with fail;refine(D.out _).mono ?_;rintro e w1 ⟨rfl,rfl⟩;go_wp2_with fail;refine(DB.out _).mono ?_;rintro e w1 ⟨rfl,rfl⟩;go_wp2_with fail;go_ret;exact⟨rfl,nJ⟩
  ·rw[Az hu]at DB;rw[Aa (fun h=>hu h.2.1)];clear hb hu HE;go_enter func92,ntmps92;go_wp2_with fail;refine(D.out _).mono ?_;rintro e w1 ⟨rfl,rfl⟩;go_wp2_with fail;refine(DB.out _).mono ?_;rintro e w1 ⟨rfl,rfl⟩;go_wp2_with fail;go_ret;exact⟨rfl,nJ⟩
 ·rw[Az hb]at D;rw[Aa (fun h=>hb h.1)];clear hb HE DB;go_enter func92,ntmps92;go_wp2_with fail;refine(D.out _).mono ?_;rintro e w1 ⟨rfl,rfl⟩;go_wp2_with fail;go_ret;exact⟨rfl,nJ⟩
theorem Sg(w:World)(o:Opt):
 Calls prog 41 #[.int .i64 2,o.val] w fun e w'=>e= .returned (.int .i64 (Dj o))/\aO w w':=by
 obtain⟨bl,pl,bu,da,pa,ch⟩:=o;unfold Opt.val Dj;simp only;by_cases h1:bl<16
 ·rw[Aa kR];have g1:decide (bl<16)=true:=by simpa using h1
  go_enter func41,ntmps41;go_wp2_with fail;go_ret;exact⟨rfl,nJ⟩
 have g1:decide (bl<16)=false:=by simpa using h1
 by_cases h2:32768<bl
 ·rw[Aa kR];have g2:decide (32768<bl)=true:=by simpa using h2
  clear h1;go_enter func41,ntmps41;go_wp2_with fail;go_ret;exact⟨rfl,nJ⟩
 have g2:decide (32768<bl)=false:=nA
 by_cases h3:bu<1
 ·rw[Aa kR];have g3:decide (bu<1)=true:=by simpa using h3
  clear h1 h2;go_enter func41,ntmps41;go_wp2_with fail;go_ret;exact⟨rfl,nJ⟩
 have g3:decide (bu<1)=false:=by simpa using h3
 by_cases h4:64<bu
 ·rw[Aa kR];have g4:decide (64<bu)=true:=by simpa using h4
  clear h1 h2 h3;go_enter func41,ntmps41;go_wp2_with fail;go_ret;exact⟨rfl,nJ⟩
 have g4:decide (64<bu)=false:=by simpa using h4
 by_cases h5:da=0
 ·by_cases h6:pa=0
  ·by_cases h7:ch=0
   ·rw[Ab ⟨kR,kR,h5,h6,h7⟩];subst h5 h6 h7;clear h1 h2 h3 h4;go_enter func41,ntmps41;go_wp2_with fail;go_ret;exact⟨rfl,nJ⟩
   ·rw[Aa kR];have g7:(ch != 0)=true:=(by simpa using h7);subst h5 h6;clear h1 h2 h3 h4 h7;go_enter func41,ntmps41;go_wp2_with fail;go_ret;exact⟨rfl,nJ⟩
  ·rw[Aa kR];have g6:(pa != 0)=true:=(by simpa using h6);subst h5;clear h1 h2 h3 h4 h6;go_enter func41,ntmps41;go_wp2_with fail;go_ret;exact⟨rfl,nJ⟩
 ·rw[Aa kR];have g5:(da != 0)=true:=by simpa using h5
  clear h1 h2 h3 h4 h5;go_enter func41,ntmps41;go_wp2_with fail;go_ret;exact⟨rfl,nJ⟩
theorem Qt(w:World)(o:Opt):
 Calls prog 44 #[o.val] w fun e w'=>e= .returned (.int .i64 (Dl o))/\aO w w':=by
 have D:=hid (fun wx=>KN wx o.body);unfold Dl;obtain⟨bl,pl,bu,da,pa,ch⟩:=o;unfold Opt.body Opt.val at D;unfold Opt.val Opt.body;simp only at D ⊢;generalize Dj ⟨bl,pl,bu,0,0,0⟩=E at *;go_enter func44,ntmps44;go_wp2_with fail;refine(D.out _).mono ?_;rintro e w1 ⟨rfl,hb⟩;have HB:=hid hb;clear hb D;go_wp2_with fail;go_ret;exact⟨rfl,eZ HB.out (bZ (Ag _ _))⟩
theorem WU(w:World)(o:Opt):
 Calls prog 17 #[o.val] w fun e w'=>e= .returned (.int .i64 (Dl o))/\aO w w':=by
 have D:=hid (fun wx=>Sg wx o.body);unfold Dl;obtain⟨bl,pl,bu,da,pa,ch⟩:=o;unfold Opt.body Opt.val at D;unfold Opt.val Opt.body;simp only at D ⊢;generalize Dj ⟨bl,pl,bu,0,0,0⟩=E at *;go_enter func17,ntmps17;go_wp2_with fail;refine(D.out _).mono ?_;rintro e w1 ⟨rfl,hb⟩;have HB:=hid hb;clear hb D;go_wp2_with fail;go_ret;exact⟨rfl,eZ HB.out (bZ (Ag _ _))⟩
end Opts
namespace Nums
open Go.RowKit Mem Own Canon NumPut
open Crc (Cv Dd CX)
def DQ(ls:List Nat):ByteArray:=⟨(ls.map UInt8.ofNat).toArray⟩
theorem X8(h:∀x∈ls,x<=255):sB (DQ ls)=ls:=by
 unfold sB DQ;simp only[List.map_map]
 conv=>rhs;rw[<-List.map_id ls]
 refine JT fun x hx=> ?_;have:=h x hx;simp[UInt8.toNat_ofNat'];omega
theorem Nt(hr:Row w B A n 1 (jZ .u8 ls))(hn:ls.length=n):
 (convert 28 9 (.slice A n c)).run prog w= .ok (.string (DQ ls)) w:=by
 have e:DQ ls=strOfNums (ls.map Int.ofNat):=by unfold DQ strOfNums;rw[List.map_map];rfl
 rcases Nat.eq_zero_or_pos n with h0|h0
 ·subst h0;obtain rfl:=Od.1 hn;cases A with
  |none=>exact run_convert_bytes_nil w _ _ underlying28 underlying5 _ _ _ underlying9
  |some a=>rw[run_convert_bytes_string w _ _ _ _ _ _ underlying28 underlying5 underlying9];rw[run_bytesToString w a 0 c [] (run_loadCells_list (P:=prog) w a [] (fun j v hj=>by cases hj))];rfl
 ·obtain⟨b,h,rfl,_,hc⟩:=hr h0;rw[e];refine run_convert_bytes_arg w _ _ underlying28 underlying5 b h n c (ls.map Int.ofNat) (by simpa using hn) (fun i hi=> ?_) _ underlying9;have:=hc i 0 hi kR;rw[EF,CT]at this;rw[this];unfold jZ;congr 2;simp[List.getD_eq_getElem?_getD,List.getElem?_map,List.getElem?_eq_getElem (show i<ls.length by omega)]
theorem left_any(w:World)(g base:Nat)(bs:List Nat)(A:Option Addr)(c at_:Nat)(er:Int)(h:Cur w g base bs A c at_ er):
 Calls prog 191 #[.pointer (some ⟨g,0,none⟩)] w fun e w'=>e= .returned (.int .i64 (bs.length-at_:Nat))/\∃q,w'=w.drewN q:=by
 have D:=hid (rest_any w g base bs A c at_ er h);clear h;generalize bs.length-at_=m at *;go_enter func191,ntmps191;go_wp2_with fail;refine D.out.mono ?_;rintro e w2 ⟨rfl,q,rfl⟩;go_wp2_with fail;go_ret;exact⟨rfl,q,rfl⟩
theorem WD(w:World)(g base ob:Nat)(bs:List Nat)(A:Option Addr)(c at_:Nat)(J:bs.length<=100000)(h8:∀x∈bs,x<=255)(h:Cur w g base bs A c at_ 0)(i:Blk w ob 41 #[.int .u64 0]):
 Calls prog 292 #[.slice (xZ A at_ c 1) (bs.length-at_) (c-at_), .pointer (some ⟨ob,0,none⟩)] w fun e w'=>∃ (k:Nat) (e2:Int),e= .returned (.tuple #[.int .i64 k,e2])/\k<=100000/\Cur w' g base bs A c at_ 0/\
  (Kept (fun x=>x≠ob) w w'/\k=(Bi (bs.drop at_) 0 0).2.1/\e2=(Bi (bs.drop at_) 0 0).2.2/\Blk w' ob 41 #[.int .u64 (Bi (bs.drop at_) 0 0).1]):=by
 have f1:=i.frozen 0;have d1:=i.iO 0;have z:=Da h.own;have j:=Cv (own_row h.own) h.le z.2;have y:∀x∈bs.drop at_,x<=255:=fun x hx=>h8 x (Be hx);have D:=PV w (xZ A at_ c 1) (bs.length-at_) (c-at_) (bs.drop at_) (by rw[AK]) kR y j;have E:=G8 (bs.drop at_) 0 0 y kR mY;have hk:(Bi (bs.drop at_) 0 0).2.1<=100000:=by have:=E.2.1;rw[AK]at this;omega
 generalize Bi (bs.drop at_) 0 0=R at *;have G:=Blk.apart i h.blk iX;have D:=hid D;have H:=hid h;have HO:=hid i;generalize xZ A at_ c 1=A1 at *;clear j y E h i z;go_enter func292,ntmps292;go_wp2_with fail;refine D.out.mono ?_;rintro e w1 ⟨rfl,rfl⟩;go_wp2_with fail;go_ret2;refine⟨R.2.1,R.2.2,rfl,hk,?_,(Kept.refl _ _).set (fun h=>h rfl) _,rfl,rfl,HO.out.set 0 _⟩;exact⟨H.out.blk.far (fun e=>G e.symm) _,sZ H.out.own (fZ H.out.own HO.out iX) _,H.out.le,H.out.lo⟩
theorem num_any(w:World)(g base:Nat)(bs:List Nat)(A:Option Addr)(c at_:Nat)(er:Int)(ab:bs.length<=100000)(h8:∀x∈bs,x<=255)(h:Cur w g base bs A c at_ er):
 Calls prog 243 #[.pointer (some ⟨g,0,none⟩)] w fun e w'=>e= .returned (.int .u64 (CY bs at_ er:Nat))/\Cur w' g base bs A c (En bs at_ er) (EE bs at_ er)/\Kept (AW g w) w w':=by
 have ag:=h.blk.lt;have h2:Cur (w.alloc (.cells #[.int .u64 0] 41)) g base bs A c at_ er:=(h.step (bZ (Ag _ _)));have M:Blk (w.alloc (.cells #[.int .u64 0] 41)) w 41 #[.int .u64 0]:=Blk.made _ _ _;have N:Kept (fun x=>x<w.heap.size/\x≠g) w (w.alloc (.cells #[.int .u64 0] 41)):=Kept.of_below (by(repeat (with_reducible first|exact Ag _ _|assumption|refine Ak ?_ |refine below_drewN ?_ _|refine qZ ?_ |refine bZ ?_ |refine eZ iV ?_ |refine belA ?_ |refine rZ iV ?_)):aO w _) (fun x hx=>hx.1);have ah:=h.le;unfold AW;by_cases he:er=0
 ·subst he;have Z:∀L wx,(callFunc 292 L).run prog wx= .ok (.enter 292 L) wx:=by intro L wx;simp[callFunc,go_sem,func292];rfl
  have D:=fun w2 (hc2:Cur w2 g base bs A c at_ 0) (M:Blk w2 w 41 #[.int .u64 0])=>L6 w2 g base bs A c at_ hc2 ab 292 #[.pointer (some ⟨w,0,none⟩)]
   (fun k e2 w'=>Kept (fun x=>x≠w.heap.size) w2 w'/\k=(Bi (bs.drop at_) 0 0).2.1/\e2=(Bi (bs.drop at_) 0 0).2.2/\Blk w' w 41 #[.int .u64 (Bi (bs.drop at_) 0 0).1]) Z
   (fun q=>(WD (w2.drewN q) g base w bs A c at_ ab h8 (hc2.drewN q) (M.drewN q)).mono fun e w' ⟨k,e2,h1,h2,h3,h4⟩=>⟨k,e2,h1,h2,h3,⟨⟨h4.1.os,h4.1.tape,h4.1.output,h4.1.size,h4.1.block⟩,h4.2⟩⟩)
  have D:=hid (D _ h2 M);have ac:∀x∈bs.drop at_,x<=255:=fun x hx=>h8 x (Be hx);have U:=G8 (bs.drop at_) 0 0 ac kR mY;rw[AK]at U;have eV:CY bs at_ 0=(Bi (bs.drop at_) 0 0).1:=Aa mY;have eA:En bs at_ 0=at_+(Bi (bs.drop at_) 0 0).2.1:=Aa mY;have eE:EE bs at_ 0=(Bi (bs.drop at_) 0 0).2.2:=Aa mY;rw[eV,eA,eE];generalize Bi (bs.drop at_) 0 0=R at *;have HK:=hid N;have ae:w.heap.size≠g:=kR
  have aa:=hid U;clear Z h2 M N ac U eV eA eE;by_cases hR:R.2.2=0
  ·have af:at_+R.2.1<=bs.length:=(by have:=aa.out.2.1;omega);go_enter func243,ntmps243;go_wp2_with fail;refine D.out.mono ?_;rintro e w4 ⟨k,e2,w3,⟨i,z,E,y⟩,G,j⟩;rcases j with ⟨h0,_,_⟩|⟨_,rfl,rfl⟩
   ·exact absurd (E.trans hR) h0
   ·have J:Hid (Kept (fun x=>x<w.heap.size/\x≠g) w w3):=HK.out.trans ⟨i.os,i.tape,i.output,i.size,fun x hx=>i.block x kR⟩;have hB:=y.far (fun e=>ae e) (p:=⟨g,1,none⟩) (.int .i64 (at_+k:Nat));have d0:=hB.iO 0;have HC:=hid (G.setAt (at_+k) kR);rw[z]at HC;have Q:Hid (Kept (fun x=>x<w.heap.size/\x≠g) w (w3.setCell ⟨g,1,none⟩ (.int .i64 (at_+k:Nat)))):=J.out.set (fun h=>h.2 rfl) _;rw[<-z]at HC;have Y:Hid (Cur (w3.setCell ⟨g,1,none⟩ (.int .i64 (at_+k:Nat))) g base bs A c (at_+R.2.1) R.2.2):=l9;generalize w3.setCell ⟨g,1,none⟩ (.int .i64 (at_+k:Nat))=w5 at *;clear hB y G i D J HK z E HC hR;go_wp2_with fail;go_ret;exact⟨rfl,Y.out,Q.out⟩
  ·have hz:=aa.out.2.2.2.1 hR;go_enter func243,ntmps243;go_wp2_with fail;refine D.out.mono ?_;rintro e w4 ⟨k,e2,w3,⟨i,z,E,y⟩,G,j⟩;rcases j with ⟨_,rfl,rfl⟩|⟨h0,_,_⟩
   ·have J:Hid (Kept (fun x=>x<w.heap.size/\x≠g) w w3):=HK.out.trans ⟨i.os,i.tape,i.output,i.size,fun x hx=>i.block x kR⟩;have Y:Hid (Cur (w3.setCell ⟨g,2,none⟩ (.int .i64 e2)) g base bs A c (at_+R.2.1) R.2.2):=mq;have Q:Hid (Kept (fun x=>x<w.heap.size/\x≠g) w (w3.setCell ⟨g,2,none⟩ (.int .i64 e2))):=J.out.set (fun h=>h.2 rfl) _;generalize w3.setCell ⟨g,2,none⟩ (.int .i64 e2)=w5 at *;have HZ:=hid hz.1;clear y G i D J HK z E hR hz;go_wp2_with fail;go_ret;exact⟨by rw[HZ.out];rfl,Y.out,Q.out⟩
   ·exact absurd (E.symm.trans h0) hR
 ·have D:=hid (zX _ g base bs A c at_ er h2 he (.func (.func 292) #[] #[.pointer (some ⟨w,0,none⟩)]));have eV:CY bs at_ er=0:=Ab he;have eA:En bs at_ er=at_:=Ab he;have eE:EE bs at_ er=er:=Ab he;rw[eV,eA,eE];have HK:=hid N;have HC:=hid h2;clear h2 M N he eV eA eE;go_enter func243,ntmps243;go_wp2_with fail;refine D.out.mono ?_;rintro e w4 ⟨rfl,rfl⟩;go_wp2_with fail;go_ret;exact⟨rfl,HC.out,HK.out⟩
end Nums
namespace Nums
open Go.RowKit Mem Own Canon NumPut
open Crc (Cv Dd CX)
def Cm(most:Nat)(ls:List Nat):List Nat×Nat×Int:=
 if(Bq most ls).2.2≠0 then([],0,(Bq most ls).2.2)else if ls.length-(Bq most ls).2.1<(Bq most ls).1 then([],0,1)else((ls.drop (Bq most ls).2.1).take (Bq most ls).1,(Bq most ls).2.1+(Bq most ls).1,0)
theorem Lj(most:Nat)(ls:List Nat)(h8:∀c∈ls,c<=255):(Cm most ls).1.length<=most/\(Cm most ls).2.1<=ls.length/\((Cm most ls).2.2=0->1<=(Cm most ls).2.1)/\((Cm most ls).2.2≠0->(Cm most ls).1= []/\(Cm most ls).2.1=0)/\(∀x∈(Cm most ls).1,x<=255)/\0<=(Cm most ls).2.2/\(Cm most ls).2.2<=6:=by
 have h:=FC most ls h8;unfold Cm;split
 ·rename_i he;exact⟨mY,mY,fun h0=>absurd h0 he,fun _=>⟨rfl,rfl⟩,fun x hx=>by simp at hx,h.2.2.2.2.1,h.2.2.2.2.2⟩
 ·split
  ·exact⟨mY,mY,fun h0=>absurd h0 iX,fun _=>⟨rfl,rfl⟩,fun x hx=>by simp at hx,mY,mY⟩
  ·rename_i he hl;have h1:=h.2.2.1 kR;exact⟨by rw[AN];have:=h.1;omega,by have:=h.2.1;simp only;omega,fun _=>m8,fun h0=>absurd rfl h0,fun x hx=>h8 x (Be (BZ hx)),mY,mY⟩
def Di(most:Nat)(bs:List Nat)(at_:Nat)(er:Int):List Nat:=if er≠0 then []else(Cm most (bs.drop at_)).1
def CL(most:Nat)(bs:List Nat)(at_:Nat)(er:Int):Nat:=if er≠0 then at_ else at_+(Cm most (bs.drop at_)).2.1
def CK(most:Nat)(bs:List Nat)(at_:Nat)(er:Int):Int:=if er≠0 then er else(Cm most (bs.drop at_)).2.2
theorem XN(w:World)(g base mb ob:Nat)(bs:List Nat)(A:Option Addr)(c at_ most:Nat)(ae:bs.length<=100000)(h8:∀x∈bs,x<=255)(N:most<=1000000000)(h:Cur w g base bs A c at_ 0)(Q:Blk w mb 3 #[most])(E:Blk w ob 9 #[.string ⟨#[]⟩]):
 Calls prog 301 #[.slice (xZ A at_ c 1) (bs.length-at_) (c-at_), .pointer (some ⟨mb,0,none⟩), .pointer (some ⟨ob,0,none⟩)] w fun e w'=>∃ (k:Nat) (e2:Int),e= .returned (.tuple #[.int .i64 k,e2])/\k<=100000/\Cur w' g base bs A c at_ 0/\
  (Kept (fun x=>x<w.heap.size/\x≠ob) w w'/\k=(Cm most (bs.drop at_)).2.1/\e2=(Cm most (bs.drop at_)).2.2/\Blk w' ob 9 #[.string (DQ (Cm most (bs.drop at_)).1)]):=by
 have d0:=Q.iO 0;have f1:=E.frozen 0;have d1:=E.iO 0;have J:=Da h.own;have ag:=h.le;have z:=Cv (own_row h.own) h.le J.2;have M:∀x∈bs.drop at_,x<=255:=fun x hx=>h8 x (Be hx);have D:=Oh w (xZ A at_ c 1) (bs.length-at_) (c-at_) (bs.drop at_) most N (by rw[AK]) kR M z;have y:=FC most (bs.drop at_) M;rw[AK]at y;have ak:bs.length-at_<=100000:=kR
 have af:bs.length-at_<=c-at_:=by have:=J.2;omega
 unfold Cm;rw[show(bs.drop at_).length=bs.length-at_ from AK];have Y:(bs.drop at_).length=bs.length-at_:=AK;have Z:=Blk.apart E h.blk iX;have ah:mb≠ob:=by intro e;subst e;rw[d0]at d1;cases d1
 have H:=hid h;have HO:=hid E;generalize bs.drop at_=L at *;generalize bs.length-at_=m at *;generalize xZ A at_ c 1=A1 at *;generalize c-at_=cc at *;generalize ab:Bq most L=R at *;have HR:=hid z;have HL:=hid Y;have D:=hid D;have aj:=y.1;have am:=y.2.1;have an:=y.2.2.2.2.1;have aq:=y.2.2.2.2.2;clear z M h E Q J Y ab y ag ae h8;obtain⟨x,n,er⟩:=R;simp only at *;by_cases he:er=0
 ·subst he;rw[Aa mY];have ai:IntKind.i64.wrap ((m:Int)-(n:Int))=((m-n:Nat):Int):=by rw[Am _ kR];omega
  by_cases G:m-n<x
  ·rw[Ab G];have g1:=iQ (((m-n:Nat):Int)<(x:Int));have g2:=iQ (m-n<x);clear G;go_enter func301,ntmps301;go_wp2_with fail;refine D.out.mono ?_;rintro e w1 ⟨rfl,rfl⟩;go_wp2_with fail;go_ret2;exact⟨0,1,rfl,kR,H.out,Kept.refl _ _,rfl,rfl,HO.out⟩
  ·rw[Aa G];have g1:=iR (((m-n:Nat):Int)<(x:Int));have g2:=iR (m-n<x);have s2:IntKind.i64.wrap ((n:Int)+(x:Int))=((n:Int)+(x:Int)):=lB;have ks:=fun wx=>Hy (P:=prog) (t:=28) (s:=1) underlying28 (fun _=>by kernel_rfl) A1 m cc .i64 .i64 (n:Int) ((n:Int)+(x:Int)) n (n+x) rfl kR kR kR wx;rw[Mi]at ks;have ac:((L.drop n).take x).length=x:=by rw[AN,AK,HL.out];omega
   have U:Hid (∀wx,aO w wx->(convert 28 9 (.slice (xZ A1 n cc 1) x (cc-n))).run prog wx= .ok (.string (DQ ((L.drop n).take x))) wx):=fun wx hb=>
    Nt ((HR.out.below hb).cut n x kR af (fun i j hi hj=>by
     obtain rfl:j=0:=kR
     simp only[jZ,List.getD_eq_getElem?_getD,List.getElem?_take,List.getElem?_drop];rw[Ab hi])) ac
   have aa:n+x<=100000:=kR;generalize (L.drop n).take x=T at *;have cv:=U.out w (Ag _ _);have al:=U.out w.drew nJ;clear G HR HL;go_enter func301,ntmps301;go_wp2_with fail;refine D.out.mono ?_;rintro e w1 ⟨rfl,rfl⟩;go_wp2_with fail;go_ret2;refine⟨n+x,0,rfl,aa,?_,(Kept.refl _ _).set (fun h=>h.2 rfl) _,rfl,rfl,HO.out.set 0 _⟩;exact⟨H.out.blk.far (fun e=>Z e.symm) _,sZ H.out.own (fZ H.out.own HO.out iX) _,H.out.le,H.out.lo⟩
 ·rw[Ab he];have g1:(er != 0)=true:=by simpa using he
  clear he HR HL;go_enter func301,ntmps301;go_wp2_with fail;refine D.out.mono ?_;rintro e w1 ⟨rfl,rfl⟩;go_wp2_with fail;go_ret2;exact⟨0,er,rfl,kR,H.out,Kept.refl _ _,rfl,rfl,HO.out⟩
theorem NE(w:World)(g base:Nat)(bs:List Nat)(A:Option Addr)(c at_:Nat)(er:Int)(most:Nat)(ae:bs.length<=100000)(h8:∀x∈bs,x<=255)(Z:most<=1000000000)(h:Cur w g base bs A c at_ er):
 Calls prog 251 #[.pointer (some ⟨g,0,none⟩),most] w fun e w'=>e= .returned (.string (DQ (Di most bs at_ er)))/\Cur w' g base bs A c (CL most bs at_ er) (CK most bs at_ er)/\Kept (AW g w) w w':=by
 have aj:=h.blk.lt;have h2:Cur ((w.alloc (.cells #[most] 3)).alloc (.cells #[.string ⟨#[]⟩] 9)) g base bs A c at_ er:=(h.step (bZ (Ag _ _))).step (bZ (Ag _ _));have M:Blk ((w.alloc (.cells #[most] 3)).alloc (.cells #[.string ⟨#[]⟩] 9)) w 3 #[most]:=(Blk.made _ _ _).alloc _;have N:Blk ((w.alloc (.cells #[most] 3)).alloc (.cells #[.string ⟨#[]⟩] 9)) (w.heap.size+1) 9 #[.string ⟨#[]⟩]:=Blk.made_at _ _ _ mY;have Q:Kept (fun x=>x<w.heap.size/\x≠g) w ((w.alloc (.cells #[most] 3)).alloc (.cells #[.string ⟨#[]⟩] 9)):=Kept.of_below (by(repeat (with_reducible first|exact Ag _ _|assumption|refine Ak ?_ |refine below_drewN ?_ _|refine qZ ?_ |refine bZ ?_ |refine eZ iV ?_ |refine belA ?_ |refine rZ iV ?_)):aO w _) (fun x hx=>hx.1);have ak:=h.le;have ag:((w.alloc (.cells #[most] 3)).alloc (.cells #[.string ⟨#[]⟩] 9)).heap.size=w.heap.size+2:=mY
 unfold AW;by_cases he:er=0
 ·subst he;have ab:∀L wx,(callFunc 301 L).run prog wx= .ok (.enter 301 L) wx:=by intro L wx;simp[callFunc,go_sem,func301];rfl
  have D:=fun w2 (hc2:Cur w2 g base bs A c at_ 0) (M:Blk w2 w 3 #[most]) (N:Blk w2 (w.heap.size+1) 9 #[.string ⟨#[]⟩])=>L6 w2 g base bs A c at_ hc2 ae 301 #[.pointer (some ⟨w,0,none⟩), .pointer (some ⟨w.heap.size+1,0,none⟩)]
   (fun k e2 w'=>Kept (fun x=>x<w2.heap.size/\x≠w.heap.size+1) w2 w'/\k=(Cm most (bs.drop at_)).2.1/\e2=(Cm most (bs.drop at_)).2.2/\Blk w' (w.heap.size+1) 9 #[.string (DQ (Cm most (bs.drop at_)).1)]) ab
   (fun q=>(XN (w2.drewN q) g base w (w.heap.size+1) bs A c at_ most ae h8 Z (hc2.drewN q) (M.drewN q) (N.drewN q)).mono fun e w' ⟨k,e2,h1,h2,h3,h4⟩=>⟨k,e2,h1,h2,h3,⟨⟨h4.1.os,h4.1.tape,h4.1.output,h4.1.size,h4.1.block⟩,h4.2⟩⟩)
  have D:=hid (D _ h2 M N);have af:∀x∈bs.drop at_,x<=255:=fun x hx=>h8 x (Be hx);have Y:=Lj most (bs.drop at_) af;rw[AK]at Y;have eV:Di most bs at_ 0=(Cm most (bs.drop at_)).1:=Aa mY;have eA:CL most bs at_ 0=at_+(Cm most (bs.drop at_)).2.1:=Aa mY;have eE:CK most bs at_ 0=(Cm most (bs.drop at_)).2.2:=Aa mY;rw[eV,eA,eE];generalize Cm most (bs.drop at_)=R at *;have HK:=hid Q;have ah:w.heap.size+1≠g:=kR
  have ac:=hid Y;clear ab h2 M N Q af Y eV eA eE;by_cases hR:R.2.2=0
  ·have ai:at_+R.2.1<=bs.length:=(by have:=ac.out.2.1;omega);go_enter func251,ntmps251;go_wp2_with fail;refine D.out.mono ?_;rintro e w4 ⟨k,e2,w3,⟨i,z,E,j⟩,G,y⟩;rcases y with ⟨h0,_,_⟩|⟨_,rfl,rfl⟩
   ·exact absurd (E.trans hR) h0
   ·have J:Hid (Kept (fun x=>x<w.heap.size/\x≠g) w w3):=HK.out.trans ⟨i.os,i.tape,i.output,i.size,fun x hx=>i.block x ⟨by have:=hx.1;rw[ag];omega,kr⟩⟩;have hB:=j.far (fun e=>ah e) (p:=⟨g,1,none⟩) (.int .i64 (at_+k:Nat));have d0:=hB.iO 0;have HC:=hid (G.setAt (at_+k) kR);rw[z]at HC;have U:Hid (Kept (fun x=>x<w.heap.size/\x≠g) w (w3.setCell ⟨g,1,none⟩ (.int .i64 (at_+k:Nat)))):=J.out.set (fun h=>h.2 rfl) _;rw[<-z]at HC;have aa:Hid (Cur (w3.setCell ⟨g,1,none⟩ (.int .i64 (at_+k:Nat))) g base bs A c (at_+R.2.1) R.2.2):=l9;generalize w3.setCell ⟨g,1,none⟩ (.int .i64 (at_+k:Nat))=w5 at *;clear hB j G i D J HK z E HC hR;go_wp2_with fail;go_ret;exact⟨rfl,aa.out,U.out⟩
  ·have hz:=ac.out.2.2.2.1 hR;go_enter func251,ntmps251;go_wp2_with fail;refine D.out.mono ?_;rintro e w4 ⟨k,e2,w3,⟨i,z,E,j⟩,G,y⟩;rcases y with ⟨_,rfl,rfl⟩|⟨h0,_,_⟩
   ·have J:Hid (Kept (fun x=>x<w.heap.size/\x≠g) w w3):=HK.out.trans ⟨i.os,i.tape,i.output,i.size,fun x hx=>i.block x ⟨by have:=hx.1;rw[ag];omega,kr⟩⟩;have aa:Hid (Cur (w3.setCell ⟨g,2,none⟩ (.int .i64 e2)) g base bs A c (at_+R.2.1) R.2.2):=mq;have U:Hid (Kept (fun x=>x<w.heap.size/\x≠g) w (w3.setCell ⟨g,2,none⟩ (.int .i64 e2))):=J.out.set (fun h=>h.2 rfl) _;have hB:=j.far (fun e=>ah e) (p:=⟨g,2,none⟩) (.int .i64 e2);have d0:=hB.iO 0;generalize w3.setCell ⟨g,2,none⟩ (.int .i64 e2)=w5 at *;clear hB j G i D J HK z E hR hz;go_wp2_with fail;go_ret;exact⟨rfl,aa.out,U.out⟩
   ·exact absurd (E.symm.trans h0) hR
 ·have D:=hid (zX _ g base bs A c at_ er h2 he (.func (.func 301) #[] #[.pointer (some ⟨w,0,none⟩), .pointer (some ⟨w.heap.size+1,0,none⟩)]));have eV:Di most bs at_ er= []:=Ab he;have eA:CL most bs at_ er=at_:=Ab he;have eE:CK most bs at_ er=er:=Ab he;rw[eV,eA,eE];have HK:=hid Q;have HC:=hid h2;clear h2 M N Q he eV eA eE;go_enter func251,ntmps251;go_wp2_with fail;refine D.out.mono ?_;rintro e w4 ⟨rfl,rfl⟩;go_wp2_with fail;go_ret;exact⟨rfl,HC.out,HK.out⟩
end Nums
namespace Nums
open Go.RowKit Mem Own Canon NumPut
theorem intA_le{bs:List Nat}(h8:∀x∈bs,x<=255)(er:Int)(h:at_<=bs.length):nZ most bs at_ er<=bs.length:=by
 unfold nZ;split
 ·exact h
 ·have:=(FC most (bs.drop at_) (fun x hx=>h8 x (Be hx))).2.1;rw[AK]at this;omega
theorem CI{bs:List Nat}(h8:∀x∈bs,x<=255)(at_:Nat)(er:Int):zZ most bs at_ er<=most:=by
 unfold zZ;split
 ·omega
 ·exact(FC most (bs.drop at_) (fun x hx=>h8 x (Be hx))).1
theorem Wm(most:Nat)(bs:List Nat)(at_:Nat)(er:Int)(h8:∀x∈bs,x<=255):
 (oZ most bs at_ er≠0->Di most bs at_ er= []/\CL most bs at_ er=nZ most bs at_ er/\CK most bs at_ er=oZ most bs at_ er)/\
 (oZ most bs at_ er=0->bs.length-nZ most bs at_ er<zZ most bs at_ er->Di most bs at_ er= []/\CL most bs at_ er=at_/\CK most bs at_ er=1)/\
 (oZ most bs at_ er=0->¬bs.length-nZ most bs at_ er<zZ most bs at_ er->Di most bs at_ er=(bs.drop (nZ most bs at_ er)).take (zZ most bs at_ er)/\CL most bs at_ er=nZ most bs at_ er+zZ most bs at_ er/\CK most bs at_ er=0):=by
 by_cases he:er=0
 ·have i1:zZ most bs at_ er=(Bq most (bs.drop at_)).1:=Aa nr;have i2:nZ most bs at_ er=at_+(Bq most (bs.drop at_)).2.1:=Aa nr;have i3:oZ most bs at_ er=(Bq most (bs.drop at_)).2.2:=Aa nr;have e1:Di most bs at_ er=(Cm most (bs.drop at_)).1:=Aa nr;have e2:CL most bs at_ er=at_+(Cm most (bs.drop at_)).2.1:=Aa nr;have e3:CK most bs at_ er=(Cm most (bs.drop at_)).2.2:=Aa nr;rw[i1,i2,i3,e1,e2,e3];have i:=FC most (bs.drop at_) (fun x hx=>h8 x (Be hx));rw[AK]at i;unfold Cm;rw[AK,List.drop_drop];generalize Bq most (bs.drop at_)=R at *;have j:bs.length-at_-R.2.1=bs.length-(at_+R.2.1):=by omega
  rw[j];refine⟨fun h=> ?_,fun h h2=> ?_,fun h h2=> ?_⟩
  ·rw[Ab h];exact⟨rfl,by have:=i.2.2.2.1 h;simp[this.2],rfl⟩
  ·rw[Aa nm,Ab h2];exact⟨rfl,rfl,rfl⟩
  ·rw[Aa nm,Aa h2];exact⟨rfl,m8,rfl⟩
 ·have e1:Di most bs at_ er= []:=Ab he;have e2:CL most bs at_ er=at_:=Ab he;have e3:CK most bs at_ er=er:=Ab he;have i2:nZ most bs at_ er=at_:=Ab he;have i3:oZ most bs at_ er=er:=Ab he;rw[e1,e2,e3,i2,i3];exact⟨fun _=>⟨rfl,rfl,rfl⟩,fun h=>absurd h he,fun h=>absurd h he⟩
theorem MS(w:World)(g base:Nat)(bs:List Nat)(A:Option Addr)(c at_:Nat)(er:Int)(most:Nat)(G:bs.length<=100000)(h8:∀x∈bs,x<=255)(J:most<=1000000000)(h:RCur w g base bs A c at_ er):
 Calls prog 217 #[.pointer (some ⟨g,0,none⟩),most] w fun e w'=>e= .returned (.string (DQ (Di most bs at_ er)))/\RCur w' g base bs A c (CL most bs at_ er) (CK most bs at_ er)/\Kept (AW g w) w w':=by
 obtain⟨d0,d1,d2⟩:=h.cells;have D:=hid (Gm w g base bs A c at_ er most G h8 J h);have Z:=h.le;have aa:=h.blk.lt;have hP:=intA_le (most:=most) h8 er h.le;have hV:=CI (most:=most) h8 at_ er;have j:=Wm most bs at_ er h8;clear h;generalize zZ most bs at_ er=V at *;generalize nZ most bs at_ er=P at *;generalize oZ most bs at_ er=E at *;by_cases hE:E=0
 ·subst hE;have D2:=hid (fun wx hx=>rleft_any wx g base bs A c P 0 G hx);by_cases i:bs.length-P<V
  ·obtain⟨e1,e2,e3⟩:=j.2.1 rfl i;rw[e1,e2,e3];have g1:=iQ (((bs.length-P:Nat):Int)<(V:Int));have Y:=iQ (bs.length-P<V);have U:=hid Z;clear e1 e2 e3 j i;generalize bs.length-P=m at *;go_enter func217,ntmps217;go_wp2_with fail;refine D.out.mono ?_;rintro e w1 ⟨rfl,hc,hk⟩;obtain⟨k0,k1,k2⟩:=hc.cells;have f1:=hc.blk.frozen 1;have f2:=hc.blk.frozen 2;have HC:=hid hc;have HK:=hid hk;clear hc hk D d0 d1 d2;go_wp2_with fail;refine(D2.out _ HC.out).mono ?_;rintro e w2 ⟨rfl,q,rfl⟩;go_wp2_with fail;go_ret;exact⟨rfl,((HC.out.drewN q).setAt at_ U.out).setErr 1,(HK.out.trans ((Kept.of_below (B:=w1.heap.size) nJ (fun x hx=>Em hx.1 HK.out.size)).set (fun h=>h.2 rfl) _)).set (fun h=>h.2 rfl) _⟩
  ·obtain⟨e1,e2,e3⟩:=j.2.2 rfl i;rw[e1,e2,e3];have D3:=hid (fun wx hx=>Ib wx g base bs A c P 0 V G kR hx);have eO:AZ bs P 0 V=(bs.drop P).take V:=(FU _ _ _).trans (Aa i);have eA:takeA bs P 0 V=P+V:=(G2 _ _ _).trans (Aa i);have eE:Bh bs P 0 V=0:=(IP _ _ _).trans (Aa i);unfold IY at D3;rw[eO,eA,eE]at D3;have g1:=iR (((bs.length-P:Nat):Int)<(V:Int));have Y:=iR (bs.length-P<V);clear e1 e2 e3 j i eO eA eE;generalize bs.length-P=m at *;generalize (bs.drop P).take V=L at *;go_enter func217,ntmps217;go_wp2_with fail;refine D.out.mono ?_;rintro e w1 ⟨rfl,hc,hk⟩;obtain⟨k0,k1,k2⟩:=hc.cells;have HC:=hid hc;have HK:=hid hk;clear hc hk D d0 d1 d2;go_wp2_with fail;refine(D2.out _ HC.out).mono ?_;rintro e w2 ⟨rfl,q,rfl⟩;go_wp2_with fail;refine(D3.out _ (HC.out.drewN q)).mono ?_;rintro e w3 ⟨v,rfl,z,N,M⟩;obtain⟨A2,c2,rfl⟩:=aZ z;have cv:=Nt (c:=c2) (own_row z) rfl;have Q:=hid N;have y:=hid M;clear N M z k0 k1 k2 D2 D3;go_wp2_with fail;go_ret;exact⟨rfl,Q.out,HK.out.trans ⟨y.out.os,y.out.tape,y.out.output,y.out.size,fun x hx=>y.out.block x ⟨Em hx.1 HK.out.size,hx.2⟩⟩⟩
 ·obtain⟨e1,e2,e3⟩:=j.1 hE;rw[e1,e2,e3];have g1:(E != 0)=true:=by simpa using hE
  clear e1 e2 e3 j hE;go_enter func217,ntmps217;go_wp2_with fail;refine D.out.mono ?_;rintro e w1 ⟨rfl,hc,hk⟩;obtain⟨k0,k1,k2⟩:=hc.cells;have HC:=hid hc;have HK:=hid hk;clear hc hk D d0 d1 d2;go_wp2_with fail;go_ret;exact⟨rfl,HC.out,HK.out⟩
end Nums
namespace Nums
open Go.RowKit Mem Own Canon
def Fb(bs:List Nat)(at_:Nat)(er:Int):Int:=if at_<bs.length then Du er 2 else er
theorem Sk(w:World)(g base:Nat)(bs:List Nat)(A:Option Addr)(c at_:Nat)(er:Int)(h:Cur w g base bs A c at_ er):
 Calls prog 114 #[.pointer (some ⟨g,0,none⟩)] w fun e w'=>e= .returned (.int .i64 (Fb bs at_ er))/\Cur w' g base bs A c at_ (Fb bs at_ er)/\Kept (fun x=>x≠g) w w':=by
 have DL:=hid (left_any w g base bs A c at_ er h);have H:=hid h;obtain⟨R,hR⟩:=iS (Fb bs at_ er);rw[<-hR];unfold Fb at hR;by_cases i:at_<bs.length
 ·rw[Ab i]at hR;have gl:=iQ ((0:Int)<((bs.length-at_:Nat):Int))
  have L:=iQ (0<bs.length-at_)
  have N:=iQ (at_<bs.length)
  have HR:=hid hR;obtain⟨m,hm⟩:=iS (bs.length-at_);rw[<-hm]at DL gl L;clear h hR i hm;go_enter func114,ntmps114;go_wp2_with fail;refine DL.out.mono ?_;rintro e w1 ⟨rfl,q,hq⟩;have y:Hid (Cur w1 g base bs A c at_ er):=ml
  have z:Hid (Kept (fun x=>x≠g) w w1):=mo
  clear hq;go_wp2_with fail;refine(Gc w1 g base bs A c at_ er 2 y.out).mono ?_;rintro e w2 ⟨rfl,j,G⟩;rw[<-HR.out]at j;have M:=hid j;have J:Hid (Kept (fun x=>x≠g) w w2):=z.out.trans G;have DE:=hid (CJ w2 g base bs A c at_ R j);clear j G HR;go_wp2_with fail;refine DE.out.mono ?_;rintro e w3 ⟨rfl,rfl⟩;go_wp2_with fail;go_ret;exact⟨rfl,M.out,J.out⟩
 ·rw[Aa i]at hR;subst hR;have E:bs.length-at_=0:=by omega
  rw[E]at DL;have gl:=iR ((0:Int)<((0:Nat):Int))
  clear h i E;go_enter func114,ntmps114;go_wp2_with fail;refine DL.out.mono ?_;rintro e w1 ⟨rfl,q,hq⟩;have y:Hid (Cur w1 g base bs A c at_ R):=ml
  have z:Hid (Kept (fun x=>x≠g) w w1):=mo
  have DE:=hid (CJ w1 g base bs A c at_ R y.out);clear hq;go_wp2_with fail;refine DE.out.mono ?_;rintro e w3 ⟨rfl,rfl⟩;go_wp2_with fail;go_ret;exact⟨rfl,y.out,z.out⟩
theorem Uv(w:World)(g base:Nat)(bs:List Nat)(A:Option Addr)(c at_:Nat)(er:Int)(J:bs.length<=100000)(h:RCur w g base bs A c at_ er):
 Calls prog 221 #[.pointer (some ⟨g,0,none⟩)] w fun e w'=>e= .returned (.int .i64 (Fb bs at_ er))/\RCur w' g base bs A c at_ (Fb bs at_ er)/\Kept (fun x=>x≠g) w w':=by
 have DL:=hid (rleft_any w g base bs A c at_ er J h);have H:=hid h;obtain⟨R,hR⟩:=iS (Fb bs at_ er);rw[<-hR];unfold Fb Du at hR;obtain⟨d0,d1,d2⟩:=h.cells;have f2:=h.blk.frozen 2;by_cases he:er=0
 ·subst he;rw[Ab (rfl:(0:Int)=0)]at hR;by_cases j:at_<bs.length
  ·rw[Ab j]at hR;subst hR;have gl:=iQ ((0:Int)<((bs.length-at_:Nat):Int));have L:=iQ (0<bs.length-at_);have M:=iQ (at_<bs.length);obtain⟨m,hm⟩:=iS (bs.length-at_);rw[<-hm]at DL gl L;clear h j hm d0 d1;go_enter func221,ntmps221;go_wp2_with fail;refine DL.out.mono ?_;rintro e w1 ⟨rfl,q,hq⟩;have i:Hid (RCur w1 g base bs A c at_ 0):=ml;have y:Hid (Kept (fun x=>x≠g) w w1):=mo;have e2:=i.out.cells.2.2;have k2:=i.out.blk.frozen 2;have E:Hid (RCur (w1.setCell ⟨g,2,none⟩ (.int .i64 2)) g base bs A c at_ 2):=i.out.setErr 2;have p2:=E.out.cells.2.2;clear hq d2 f2;go_wp2_with fail;go_ret;exact⟨rfl,E.out,y.out.set (fun h=>h rfl) _⟩
  ·rw[Aa j]at hR;subst hR;have z:bs.length-at_=0:=kR;rw[z]at DL;have gl:=iR ((0:Int)<((0:Nat):Int));clear h j z d0 d1;go_enter func221,ntmps221;go_wp2_with fail;refine DL.out.mono ?_;rintro e w1 ⟨rfl,q,hq⟩;have i:Hid (RCur w1 g base bs A c at_ 0):=ml;have y:Hid (Kept (fun x=>x≠g) w w1):=mo;have e2:=i.out.cells.2.2;clear hq d2 f2;go_wp2_with fail;go_ret;exact⟨rfl,i.out,y.out⟩
 ·rw[Aa he]at hR;have G:R=er:=by rw[hR];split<;>rfl
  subst G;have gE:(R==0)=false:=nB
  clear h hR he d0 d1 DL;go_enter func221,ntmps221;go_wp2_with fail;go_ret;exact⟨rfl,H.out,Kept.refl _ _⟩
end Nums
namespace Nums
open Go.RowKit Mem Own Canon
def Fa(bs:List Nat):Nat:=bs.getD 0 0+256*bs.getD 1 0+65536*bs.getD 2 0+16777216*bs.getD 3 0
theorem Lp{y:Nat}(hx:x<2 ^ i)(h:x+y*2 ^ i<18446744073709551616):bits .or .u64 (x:Int) ((y*2 ^ i:Nat):Int)=((x+y*2 ^ i:Nat):Int):=Qf hx h
theorem Yf(w:World)(g base:Nat)(bs:List Nat)(A:Option Addr)(c:Nat)(h4:bs.length=4)(h8:∀x∈bs,x<=255)(h:Cur w g base bs A c 0 0):
 Calls prog 111 #[.pointer (some ⟨g,0,none⟩), .int .i64 4] w fun e w'=>e= .returned (.int .u64 (Fa bs:Nat))/\Cur w' g base bs A c 4 0/\Kept (AW g w) w w':=by
 have D:=Ic w g base bs A c 0 0 4 kR kR h;unfold IH at D;rw[FU,G2,IP,Aa kR,Aa kR,Aa kR,Hk,BR kR,h4]at D
 obtain⟨b0,b1,b2,b3,rfl⟩:∃b0 b1 b2 b3,bs= [b0,b1,b2,b3]:=by
  match bs,h4 with
  | [b0,b1,b2,b3],_=>exact⟨b0,b1,b2,b3,rfl⟩
 have l0:=h8 b0 mY;have l1:=h8 b1 mY;have l2:=h8 b2 mY;have l3:=h8 b3 mY;have hV:Fa [b0,b1,b2,b3]=b0+256*b1+65536*b2+16777216*b3:=rfl;rw[hV];have D:=hid D;have E:=h.blk.lt;clear h h8 h4 hV;go_enter func111,ntmps111;go_wp2_with fail;refine D.out.mono ?_;rintro e w1 ⟨v,rfl,j,hc,hk⟩;obtain⟨gv,cv,hv,_⟩:=j.form kR;subst hv;have c0:=j.cellAt 0 kR;have c1:=j.cellAt 1 kR;have c2:=j.cellAt 2 kR;have c3:=j.cellAt 3 kR;simp only[cZ,List.map_cons,List.map_nil,List.getElem?_cons_zero,List.getElem?_cons_succ]at c0 c1 c2 c3;have HC:=hid hc;have HK:=hid hk;clear j hc hk D;have E0:Hid (bits .or .u64 (0:Int) (b0:Int)=((b0:Nat):Int)):=by have h:=Lp (x:=0) (y:=b0) (i:=0) kR kR;show _=_;simpa using h
 have E1:Hid (bits .or .u64 (b0:Int) ((b1:Int)*256)=((b0+256*b1:Nat):Int)):=by have h:=Lp (x:=b0) (y:=b1) (i:=8) kR kR;rw[show((b1*2 ^ 8:Nat):Int)=(b1:Int)*256 by omega]at h;show _=_;rw[h];omega
 have E2:Hid (bits .or .u64 ((b0+256*b1:Nat):Int) ((b2:Int)*65536)=((b0+256*b1+65536*b2:Nat):Int)):=by have h:=Lp (x:=b0+256*b1) (y:=b2) (i:=16) kR kR;rw[show((b2*2 ^ 16:Nat):Int)=(b2:Int)*65536 by omega]at h;show _=_;rw[h];omega
 have E3:Hid (bits .or .u64 ((b0+256*b1+65536*b2:Nat):Int) ((b3:Int)*16777216)=((b0+256*b1+65536*b2+16777216*b3:Nat):Int)):=by have h:=Lp (x:=b0+256*b1+65536*b2) (y:=b3) (i:=24) kR kR;rw[show((b3*2 ^ 24:Nat):Int)=(b3:Int)*16777216 by omega]at h;show _=_;rw[h];omega
 go_wp2_with fail;go_loopw [5,20] (fun xv iv wr=>Hid (wr=w1)/\((xv= .int .u64 0/\iv= .int .i64 0)∨(xv= .int .u64 (b0:Nat)/\iv= .int .i64 1)∨(xv= .int .u64 (b0+256*b1:Nat)/\iv= .int .i64 2)∨(xv= .int .u64 (b0+256*b1+65536*b2:Nat)/\iv= .int .i64 3)∨(xv= .int .u64 (b0+256*b1+65536*b2+16777216*b3:Nat)/\iv= .int .i64 4))) (fun _ iv _=>4-(intOf iv).toNat)
 case atStart=>exact⟨i8, .inl ⟨rfl,rfl⟩⟩
 case round=>
  obtain⟨hw,z⟩:=hrel;have hw:=hw.out;subst hw;rcases z with ⟨rfl,rfl⟩|⟨rfl,rfl⟩|⟨rfl,rfl⟩|⟨rfl,rfl⟩|⟨rfl,rfl⟩
  ·have e0:=E0.out;go_wp2_with fail;exact⟨⟨trivial, .inr (.inl ⟨rfl,rfl⟩)⟩,nu⟩
  ·have e1:=E1.out;have s1:IntKind.u64.wrap ((b1:Int)*256)=(b1:Int)*256:=lG;go_wp2_with fail;exact⟨⟨trivial, .inr (.inr (.inl ⟨rfl,rfl⟩))⟩,nu⟩
  ·have s2:IntKind.u64.wrap ((b2:Int)*65536)=(b2:Int)*65536:=lG;go_wp2_with fail;exact⟨⟨trivial, .inr (.inr (.inr (.inl ⟨by rw[show((b0:Int)+256*(b1:Int))=((b0+256*b1:Nat):Int) by omega,E2.out],rfl⟩)))⟩,nu⟩
  ·have s3:IntKind.u64.wrap ((b3:Int)*16777216)=(b3:Int)*16777216:=lG;go_wp2_with fail;exact⟨⟨trivial, .inr (.inr (.inr (.inr ⟨by rw[show((b0:Int)+256*(b1:Int)+65536*(b2:Int))=((b0+256*b1+65536*b2:Nat):Int) by omega,E3.out],rfl⟩)))⟩,nu⟩
  ·go_wp2_with fail;go_ret;exact⟨rfl,HC.out,HK.out⟩
theorem V5(w:World)(g base:Nat)(bs:List Nat)(A:Option Addr)(c:Nat)(h4:bs.length=4)(h8:∀x∈bs,x<=255)(h:RCur w g base bs A c 0 0):
 Calls prog 220 #[.pointer (some ⟨g,0,none⟩), .int .i64 4] w fun e w'=>e= .returned (.int .u64 (Fa bs:Nat))/\RCur w' g base bs A c 4 0/\Kept (AW g w) w w':=by
 have D:=Ib w g base bs A c 0 0 4 kR kR h;unfold IY at D;rw[FU,G2,IP,Aa kR,Aa kR,Aa kR,Hk,BR kR,h4]at D;obtain⟨d0,d1,d2⟩:=h.cells
 obtain⟨b0,b1,b2,b3,rfl⟩:∃b0 b1 b2 b3,bs= [b0,b1,b2,b3]:=by
  match bs,h4 with
  | [b0,b1,b2,b3],_=>exact⟨b0,b1,b2,b3,rfl⟩
 have l0:=h8 b0 mY;have l1:=h8 b1 mY;have l2:=h8 b2 mY;have l3:=h8 b3 mY;have hV:Fa [b0,b1,b2,b3]=b0+256*b1+65536*b2+16777216*b3:=rfl;obtain⟨V,j⟩:=iS (Fa [b0,b1,b2,b3]);rw[<-j];rw[hV]at j;have M:=hid j;have D:=hid D;have ac:=h.blk.lt;clear h h8 h4 hV j d0 d1;go_enter func220,ntmps220;go_wp2_with fail;refine D.out.mono ?_;rintro e w1 ⟨v,rfl,i,hc,hk⟩;obtain⟨gv,cv,hv,_⟩:=i.form kR;subst hv;have c0:=i.cellAt 0 kR;have c1:=i.cellAt 1 kR;have c2:=i.cellAt 2 kR;have c3:=i.cellAt 3 kR;simp only[cZ,List.map_cons,List.map_nil,List.getElem?_cons_zero,List.getElem?_cons_succ]at c0 c1 c2 c3;have HC:=hid hc;have HK:=hid hk;clear i hc hk D d2;obtain⟨x3,G⟩:=iS b3;obtain⟨x2,J⟩:=iS (256*x3+b2);obtain⟨x1,L⟩:=iS (256*x2+b1);obtain⟨x0,E⟩:=iS (256*x1+b0);have HX:Hid (x0=V):=by have h:=M.out;show _=_;omega
 have Z:x3<=255:=kR
 have Y:x2<=65535:=kR
 have aa:x1<=16777215:=kR
 have ab:x0<=4294967295:=kR
 obtain⟨y2,N⟩:=iS (256*x3);have m2:IntKind.u64.wrap ((x3:Int)*256)=(y2:Int):=lG
 have s2:IntKind.u64.wrap ((y2:Int)+(b2:Int))=(x2:Int):=lG
 obtain⟨y1,Q⟩:=iS (256*x2);have m1:IntKind.u64.wrap ((x2:Int)*256)=(y1:Int):=lG
 have s1:IntKind.u64.wrap ((y1:Int)+(b1:Int))=(x1:Int):=lG
 obtain⟨y0,U⟩:=iS (256*x1);have m0:IntKind.u64.wrap ((x1:Int)*256)=(y0:Int):=lG
 have s0:IntKind.u64.wrap ((y0:Int)+(b0:Int))=(x0:Int):=lG
 have H3:=hid G;have H2:=hid J;have H1:=hid L;have H0:=hid E;clear G J L E N Q U;go_wp2_with fail;go_loopw [6,7] (fun xv iv wr=>Hid (wr=w1)/\((xv= .int .u64 0/\iv= .int .i64 3)∨(xv= .int .u64 (x3:Nat)/\iv= .int .i64 2)∨(xv= .int .u64 (x2:Nat)/\iv= .int .i64 1)∨(xv= .int .u64 (x1:Nat)/\iv= .int .i64 0)∨(xv= .int .u64 (x0:Nat)/\iv= .int .i64 (-1)))) (fun _ iv _=>(intOf iv+1).toNat)
 case atStart=>exact⟨i8, .inl ⟨rfl,rfl⟩⟩
 case round=>
  obtain⟨hw,z⟩:=hrel;have hw:=hw.out;subst hw;rcases z with ⟨rfl,rfl⟩|⟨rfl,rfl⟩|⟨rfl,rfl⟩|⟨rfl,rfl⟩|⟨rfl,rfl⟩
  ·go_wp2_with fail;exact⟨⟨trivial, .inr (.inl ⟨by rw[H3.out],rfl⟩)⟩,nu⟩
  ·go_wp2_with fail;exact⟨⟨trivial, .inr (.inr (.inl ⟨rfl,rfl⟩))⟩,nu⟩
  ·go_wp2_with fail;exact⟨⟨trivial, .inr (.inr (.inr (.inl ⟨rfl,rfl⟩)))⟩,nu⟩
  ·go_wp2_with fail;exact⟨⟨trivial, .inr (.inr (.inr (.inr ⟨rfl,rfl⟩)))⟩,nu⟩
  ·go_wp2_with fail;go_ret;rw[<-HX.out];exact⟨rfl,HC.out,HK.out⟩
end Nums
namespace Body
open Go.RowKit Mem Own Canon Nums Crc
def Eh(ls:List Nat):List Nat:=(ls.drop (ls.length-4-Fa (ls.drop (ls.length-4)))).take (Fa (ls.drop (ls.length-4)))
def Hf(ls:List Nat):Prop:=ls.length<4∨ls.length-4<Fa (ls.drop (ls.length-4))
def Rf(ls:List Nat)(A:Option Addr)(c:Nat)(w:World)(e:Ending)(w':World):Prop:=
 aO w w'/\(Hf ls->e= .returned (.tuple #[(),(), .int .i64 1]))/\
  (¬Hf ls->∃v,e= .returned (.tuple #[.slice A (ls.length-4-Fa (ls.drop (ls.length-4))) c,v, .int .i64 (Bx (Eh ls))])/\w'.ownsRow w 5 1 v (vZ (Eh ls)).length (cZ .u8 (vZ (Eh ls))))
theorem R6{bs:List Nat}(h8:∀x∈bs,x<=255)(h4:bs.length=4):Fa bs<4294967296:=by
 match bs,h4 with
 | [b0,b1,b2,b3],_=>have l0:=h8 b0 mY;have l1:=h8 b1 mY;have l2:=h8 b2 mY;have l3:=h8 b3 mY;have hV:Fa [b0,b1,b2,b3]=b0+256*b1+65536*b2+16777216*b3:=rfl;omega
theorem Ug(w:World)(A:Option Addr)(n c:Nat)(ls:List Nat)(hn:ls.length=n)(aa:n<=100000)(hc:n<=c)(h8:∀x∈ls,x<=255)(ht:TabAt w)(hh:∀a,A=some a->a.add 0=a)(ha:Row w w A n 1 (jZ .u8 ls)):
 Calls prog 56 #[.slice A n c] w (Rf ls A c w):=by
 unfold Rf;by_cases h4:n<4
 ·have i:Hf ls:= .inl kR;have HB:=hid i;have s1:decide (IntKind.i64.wrap ((n:Int)-4)<0)=true:=by rw[Am _ kR];simp;omega
  have s2:=iQ ((n:Int)-4<0)
  have s3:IntKind.i64.wrap ((n:Int)-4)=(n:Int)-4:=Am _ kR;clear hn aa hc h8 ht hh ha i;go_enter func56,ntmps56;go_wp2_with fail
  go_ret3
  exact⟨Ag _ _,fun _=>rfl,fun h=>absurd HB.out h⟩
 ·obtain⟨m,rfl⟩:∃m,n=m+4:=⟨n-4,kR⟩;have y:ls.length-4=m:=by omega
  have L:(ls.drop m).length=4:=lk
  have M:∀x∈ls.drop m,x<=255:=fun x hx=>h8 x (Be hx);have am:=R6 M L;have Q:A=none->m+4=0/\c=0:=fun e=>by obtain⟨b,ak,e2,_⟩:=ha kR;rw[e]at e2;cases e2
  have hd:=Cv ha (show m<=m+4 by omega) hc;rw[show m+4-m=4 by omega]at hd;have ab:xZ A m c 1=none->4=0/\c-m=0:=fun h=>by obtain⟨b,ak,e2,_⟩:=hd kR;rw[h]at e2;cases e2
  have D0:=hid (new_any w (xZ A m c 1) 4 (c-m) (ls.drop m) L kR ab hd);have ai:=fun wx=>EM (P:=prog) (t:=28) (s:=1) underlying28 (fun _=>by kernel_rfl) A (m+4) c .i64 (m:Int) m rfl kR wx;have N:=ai;rw[show m+4-m=4 by omega]at ai;have D1:=hid (fun wx g B d h=>Yf wx g w (ls.drop m) B d L M h);have s1:IntKind.i64.wrap (((m+4:Nat):Int)-4)=(m:Int):=lD
  have wm:IntKind.i64.wrap (m:Int)=(m:Int):=Am _ kR;have g1:=iR ((m:Int)<0)
  obtain⟨k,hk⟩:=iS (Fa (ls.drop m));rw[<-hk]at D1 am;have wk:IntKind.i64.wrap (k:Int)=(k:Int):=Am _ kR;by_cases au:m<k
  ·have i:Hf ls:= .inr (by rw[y,<-hk];exact au);have ag:=hid i;have g2:=iQ ((m:Int)<k);have al:=iQ (m<k);generalize xZ A m c 1=A1 at *;generalize c-m=c1 at *;clear hd ha h8 M ht hh Q ab hn aa hc i hk L y h4 N;go_enter func56,ntmps56;go_wp2_with fail;refine D0.out.mono ?_;rintro e w1 ⟨g,B,d,rfl,j,J⟩;have z:=hid J;have D2:=hid (D1.out w1 g B d j);have ac:=j.lo;clear j J D0 D1;go_wp2_with fail;refine D2.out.mono ?_;rintro e w2 ⟨rfl,Z,G⟩;have E:Hid (aO w w2):=z.out.trans (G.below fun b h=>⟨by have:=z.out.size;omega,kR⟩);clear Z G;go_wp2_with fail
   go_ret3
   exact⟨E.out,fun _=>rfl,fun h=>absurd ag.out h⟩
  ·have ah:¬Hf ls:=fun h=>h.elim (fun h=>by omega) (fun h=>by rw[y,<-hk]at h;omega);have aq:=hid ah;have g2:=iR ((m:Int)<k);have al:=iR (m<k);obtain⟨r,hr⟩:=iS (m-k);have s2:IntKind.i64.wrap ((m:Int)-(k:Int))=(r:Int):=lD;have af:Eh ls=(ls.drop r).take k:=(by unfold Eh;rw[y,<-hk,<-hr]);have ae:=Dd (Cv ha (show r<=m+4 by omega) hc) (show k<=m+4-r by omega);have DC:=hid (fun wx (hb:aO w wx)=>JG wx (xZ A r c 1) k (c-r) ((ls.drop r).take k) lm kR kR (fun x hx=>h8 x (Be (BZ hx))) (ht.step hb) ((ae.below hb).mono hb.size));rw[<-af]at DC;have an:=fun wx=>Hy (P:=prog) (t:=28) (s:=1) underlying28 (fun _=>by kernel_rfl) A (m+4) c .i64 .i64 (r:Int) (m:Int) r m rfl rfl kR kR wx;rw[show m-r=k by omega]at an;have ax:=fun wx=>CX (P:=prog) (t:=28) (s:=1) underlying28 (fun _=>by kernel_rfl) A (m+4) c .i64 (r:Int) r rfl kR hh wx;have ar:Hid (ls.length-4-Fa (ls.drop (ls.length-4))=r):=(by show _=_;rw[y,<-hk,hr]);generalize xZ A m c 1=A1 at *;generalize c-m=c1 at *;generalize xZ A r c 1=A2 at *;generalize c-r=c2 at *;clear hd ha h8 M ht hh Q ab hn aa hc ah hk L y h4 N ae af hr;go_enter func56,ntmps56;go_wp2_with fail;refine D0.out.mono ?_;rintro e w1 ⟨g,B,d,rfl,j,J⟩;have z:=hid J;have D2:=hid (D1.out w1 g B d j);have ac:=j.lo;clear j J D0 D1;go_wp2_with fail;refine D2.out.mono ?_;rintro e w2 ⟨rfl,Z,G⟩;have E:Hid (aO w w2):=z.out.trans (G.below fun b h=>⟨by have:=z.out.size;omega,kR⟩);have Y:=hid (DC.out w2 E.out);unfold EL at Y;clear Z G DC z;go_wp2_with fail;refine Y.out.mono ?_;rintro e w3 ⟨v,rfl,U,aj⟩;have aw:Hid (aO w w3):=E.out.trans (aj.mono E.out.size);have av:Hid (w3.ownsRow w 5 1 v (vZ (Eh ls)).length (cZ .u8 (vZ (Eh ls)))):=iZ U E.out.size;clear U aj Y;go_wp2_with fail
   go_ret3
   rw[ar.out];exact⟨aw.out,fun h=>absurd h aq.out,fun _=>⟨v,rfl,av.out⟩⟩
end Body
namespace Recs
open Go.RowKit Mem Own Canon NumPut Nums
theorem IJ{bs:List Nat}{cs:Array Value}(h:Cur w g base bs A c at_ er)(i:Blk w ob t cs)(ht:t≠5)(hg:t≠243)(k:Nat)(u:Value):Cur (w.setCell ⟨ob,k,none⟩ u) g base bs A c at_ er:=
 ⟨h.blk.far (fun e=>Blk.apart i h.blk hg e.symm) _,sZ h.own (fZ h.own i ht.symm) _,h.le,h.lo⟩
end Recs
namespace Recs
open Go.RowKit Mem Own Canon NumPut Nums
theorem Q2{bs:List Nat}(h8:∀x∈bs,x<=255)(er:Int)(h:at_<=bs.length):CL most bs at_ er<=bs.length:=by
 unfold CL;split
 ·exact h
 ·have:=(Lj most (bs.drop at_) (fun x hx=>h8 x (Be hx))).2.1;rw[AK]at this;omega
theorem T0(most:Nat)(bs:List Nat)(at_:Nat)(er:Int):at_<=CL most bs at_ er:=by unfold CL;split<;>omega
def Bo(l:List Rec):List Value:=l.flatMap fun r=> [.int .u64 r.time, .int .u8 r.level, .string r.source, .string r.text]
theorem S6(l:List Rec)(r:Rec):Bo (l++ [r])=Bo l++ [.int .u64 r.time, .int .u8 r.level, .string r.source, .string r.text]:=by simp[Bo]
theorem J4(l m:List Rec):Bo (l++m)=Bo l++Bo m:=by simp[Bo]
theorem Lf:(prog.info? 43).map (fun i=>(i.zero,i.size,i.bytes))=some (some (.agg #[.int .u64 0, .int .u8 0, .string ⟨#[]⟩, .string ⟨#[]⟩]),4,48):=kG
theorem Jz:∀ (l:List Rec) (i j:Nat),i<l.length->j<4->(Bo l)[i*4+j]? =some (Dt l i j)
 | [],i,j,h,_=>by simp at h
 |t :: ts,0,j,_,hj=>by
  obtain rfl|rfl|rfl|rfl:j=0∨j=1∨j=2∨j=3:=kR
  all_goals rfl
 |t :: ts,i+1,j,h,hj=>by have:=Jz ts i j nz hj;show(_ :: _ :: _ :: _ :: Bo ts)[(i+1)*4+j]? =_;rw[show(i+1)*4+j=(i*4+j)+1+1+1+1 by omega,List.getElem?_cons_succ,List.getElem?_cons_succ,List.getElem?_cons_succ,List.getElem?_cons_succ,this];rfl
theorem J1{l:List Rec}(h:w.ownsRow base 43 4 (.slice A l.length c) l.length (Bo l)):Row w w A l.length 4 (Dt l):=
 Row.of_own h rfl fun i j hi hj=>Jz l i j hi hj
def La(w:World)(R:List Rec×Int)(e:Ending)(w':World):Prop:=
 ∃v,e= .returned (.tuple #[v,R.2])/\w'.ownsRow w 43 4 v R.1.length (Bo R.1)/\aO w w'
def GR(w:World)(g:Nat):Nat:=(intOf ((w.cell? ⟨g,1,none⟩).getD (.int .i64 0))).toNat
end Recs
namespace Recs
open Go.RowKit Mem Own Canon NumPut Nums
def EK(bs:List Nat)(at_:Nat)(er:Int):Rec×Nat×Int:=
 let a3:=CL 4000 bs at_ er;let e3:=CK 4000 bs at_ er
 (⟨0,0,DQ (Di 4000 bs at_ er),DQ (Di 4000 bs a3 e3)⟩,CL 4000 bs a3 e3,CK 4000 bs a3 e3)
theorem PZ{bs:List Nat}(h8:∀x∈bs,x<=255)(h:at_<=bs.length)(er:Int):(EK bs at_ er).2.1<=bs.length/\((EK bs at_ er).2.2=0->at_<(EK bs at_ er).2.1)/\Ht (EK bs at_ er).1:=by
 have hA3:=Q2 (most:=4000) h8 er h;refine⟨Q2 h8 _ hA3,fun he=> ?_,?_⟩
 ·have e0:er=0:=by refine JW fun hn=> ?_;have e3:∀a,CK 4000 bs a er=er:=fun a=>Ab hn;unfold EK at he;simp only[e3]at he;exact hn he
  have e1:CK 4000 bs at_ er=0:=by refine JW fun hn=> ?_;have e3:∀a,CK 4000 bs a (CK 4000 bs at_ er)=CK 4000 bs at_ er:=fun a=>Ab hn;unfold EK at he;simp only[e3]at he;exact hn he
  have hs:=(Lj 4000 (bs.drop at_) (fun x hx=>h8 x (Be hx))).2.2.1;have h1:CL 4000 bs at_ er=at_+(Cm 4000 (bs.drop at_)).2.1:=Aa (by simp[e0]);have h2:CK 4000 bs at_ er=(Cm 4000 (bs.drop at_)).2.2:=Aa (by simp[e0]);have h3:=hs (h2.symm.trans e1);have h4:=T0 4000 bs (CL 4000 bs at_ er) (CK 4000 bs at_ er);show at_<CL 4000 bs _ _;omega
 ·unfold Ht EK;simp only;omega
theorem VR(w:World)(g base:Nat)(bs:List Nat)(A:Option Addr)(c at_:Nat)(er:Int)(L:bs.length<=100000)(h8:∀x∈bs,x<=255)(h:Cur w g base bs A c at_ er):
 Calls prog 201 #[.agg #[.pointer (some ⟨g,0,none⟩)],false] w fun e w'=>e= .returned (EK bs at_ er).1.val/\Cur w' g base bs A c (EK bs at_ er).2.1 (EK bs at_ er).2.2/\Kept (AW g w) w w':=by
 have ag:=h.blk.lt;unfold EK Rec.val;simp only;have D3:=hid (fun wx hx=>NE wx g base bs A c at_ er 4000 L h8 kR hx);generalize DQ (Di 4000 bs at_ er)=v3 at *;generalize CL 4000 bs at_ er=a3 at *;generalize CK 4000 bs at_ er=e3 at *;have D4:=hid (fun wx hx=>NE wx g base bs A c a3 e3 4000 L h8 kR hx);generalize DQ (Di 4000 bs a3 e3)=v4 at *;generalize CL 4000 bs a3 e3=a4 at *;generalize CK 4000 bs a3 e3=e4 at *;have H:=hid h;clear h h8 L;go_enter func201,ntmps201;go_wp2_with fail;refine(D3.out _ (H.out.step nJ)).mono ?_;rintro e w3 ⟨rfl,Q,j⟩;have J:Blk w3 w 249 #[.pointer (some ⟨g,0,none⟩)]:=(j.block _ ⟨ni,kR⟩).trans ((Blk.made _ _ _).alloc _);have E:Blk w3 (w.heap.size+1) 43 #[.int .u64 0, .int .u8 0, .string ⟨#[]⟩, .string ⟨#[]⟩]:=(j.block _ ⟨mY,kR⟩).trans (Blk.made_at _ _ _ mY);have U:Hid (Kept (AW g w) w w3):=(Kept.of_below (B:=w.heap.size) nJ (fun x hx=>hx.1)).trans ⟨j.os,j.tape,j.output,j.size,fun x hx=>j.block x ⟨by have:=hx.1;simp;omega,hx.2⟩⟩;have aa:=hid Q;have x3:=J.iO 0;have y3:=E.iO 2;have f3:=E.frozen 2;have ae:=j.size;have Z:=hid J;have M:=hid E;clear Q j J E D3;go_wp2_with fail;refine(D4.out _ (IJ aa.out M.out iX iX 2 (.string v3))).mono ?_;rintro e w4 ⟨rfl,Y,y⟩;have N:Blk w4 w 249 #[.pointer (some ⟨g,0,none⟩)]:=(y.block _ ⟨(Z.out.far (p:=⟨w.heap.size+1,2,none⟩) mY (.string v3)).lt,kR⟩).trans (Z.out.far (p:=⟨w.heap.size+1,2,none⟩) mY (.string v3));have G:Blk w4 (w.heap.size+1) 43 #[.int .u64 0, .int .u8 0, .string v3, .string ⟨#[]⟩]:=(y.block _ ⟨(M.out.set 2 (.string v3)).lt,kR⟩).trans (M.out.set 2 (.string v3));have ac:Hid (Kept (AW g w) w w4):=(U.out.set (p:=⟨w.heap.size+1,2,none⟩) (fun h=>absurd h.1 mY) (.string v3)).trans ⟨y.os,y.tape,y.output,y.size,fun x hx=>y.block x ⟨by have:=hx.1;have:=U.out.size;simp;omega,hx.2⟩⟩;have ab:=hid Y;have x4:=N.iO 0;have y4:=G.iO 3;have f4:=G.frozen 3;have af:=y.size;have ah:=hid N;have i:=hid G;clear Y y N G D4;have p0:=i.out.iO 0;have p1:=i.out.iO 1;have p2:=i.out.iO 2;have q0:=i.out.frozen 0;have q1:=i.out.frozen 1;have q2:=i.out.frozen 2;clear ae x3 y3 f3;go_wp2_with fail;have B5:=((((i.out.set 3 (.string v4)).set 0 (.int .u64 0)).set 1 (.int .u8 0)).set 2 (.string v3)).set 3 (.string v4);have C5:=IJ (IJ (IJ (IJ (IJ ab.out i.out iX iX 3 (.string v4)) (i.out.set 3 (.string v4)) iX iX 0 (.int .u64 0)) ((i.out.set 3 (.string v4)).set 0 (.int .u64 0)) iX iX 1 (.int .u8 0)) (((i.out.set 3 (.string v4)).set 0 (.int .u64 0)).set 1 (.int .u8 0)) iX iX 2 (.string v3)) ((((i.out.set 3 (.string v4)).set 0 (.int .u64 0)).set 1 (.int .u8 0)).set 2 (.string v3)) iX iX 3 (.string v4);have z:∀k,¬AW g w (⟨w.heap.size+1,k,none⟩:Addr).block:=fun k h=>absurd h.1 mY;have K5:=((((ac.out.set (z 3) (.string v4)).set (z 0) (.int .u64 0)).set (z 1) (.int .u8 0)).set (z 2) (.string v3)).set (z 3) (.string v4);generalize ((((w4.setCell ⟨w.heap.size+1,3,none⟩ (.string v4)).setCell ⟨w.heap.size+1,0,none⟩ (.int .u64 0)).setCell ⟨w.heap.size+1,1,none⟩ (.int .u8 0)).setCell ⟨w.heap.size+1,2,none⟩ (.string v3)).setCell ⟨w.heap.size+1,3,none⟩ (.string v4)=w5 at *;have z0:=B5.cell 0;have z1:=B5.cell 1;have z2:=B5.cell 2;have z3:=B5.cell 3;simp at z0 z1 z2 z3;refine AV (v:= .agg #[.int .u64 0, .int .u8 0, .string v3, .string v4]) ?_ rfl ⟨rfl,C5,K5⟩;simp[results,results201,go_sem,z0,z1,z2,z3]
def GO:Nat->List Nat->Nat->List Rec->List Rec×Int
 |0,_,_,acc=>(acc,0)
 |f+1,bs,at_,acc=>if bs.length<=at_ then(acc,0)else if(EK bs at_ 0).2.2≠0 then([],(EK bs at_ 0).2.2)else GO f bs (EK bs at_ 0).2.1 (acc++ [(EK bs at_ 0).1])
theorem PJ{f:Nat}{bs:List Nat}{i:List Rec}(h:bs.length<=at_):GO f bs at_ i=(i,0):=by
 cases f with
 |zero=>rfl
 |succ f=>exact Ab h
def Eu(bs:List Nat):List Rec×Int:=GO bs.length bs 0 []
theorem X4(w:World)(A:Option Addr)(n c:Nat)(bs:List Nat)(hn:bs.length=n)(ar:n<=100000)(h8:∀x∈bs,x<=255)(N:A=none->n=0/\c=0)(ha:Row w w A n 1 (jZ .u8 bs)):
 Calls prog 123 #[false, .slice A n c] w (La w (Eu bs)):=by
 obtain⟨j0,aR,aW,aQ,aT⟩:=info_parts Lf;have D0:=hid (new_any w A n c bs hn ar N ha);have aj:bs.length<=100000:=kR
 obtain⟨R,hR⟩:=iS (Eu bs);have aq:Hid (GO bs.length bs 0 []=R):=hR.symm;rw[<-hR];have H8:=hid h8;clear hn N ha hR h8 ar;go_enter func123,ntmps123;go_wp2_with fail;refine D0.out.mono ?_;rintro e w1 ⟨g,B,d,rfl,M,Y⟩;have z1:=Y.size;have a5:=M.blk.lt;have aY:=M.lo;have ag:=hid M;have ai:=hid Y;clear M Y D0;go_wp2_with fail;have ah:=ag.out.step (w':=w1.alloc (.cells #[.pointer (some ⟨g,0,none⟩)] 249)) nJ;have aa:Blk (w1.alloc (.cells #[.pointer (some ⟨g,0,none⟩)] 249)) w1 249 #[.pointer (some ⟨g,0,none⟩)]:=Blk.made _ _ _;have ab:aO w (w1.alloc (.cells #[.pointer (some ⟨g,0,none⟩)] 249)):=lZ z1 ai.out;generalize w1.alloc (.cells #[.pointer (some ⟨g,0,none⟩)] 249)=w2 at *;have z2:=ab.size;have aV:=aa.lt;have al:=hid ah;have ay:=hid aa;have an:=hid ab;clear ah aa ab ag ai;go_loopw [7] (fun v wr=>∃ (f at_:Nat) (j:List Rec),at_<=bs.length/\j.length<=at_/\Hid (bs.length<=f+at_)/\Hid (GO f bs at_ j=R)/\Hid (wr.ownsRow w2 43 4 v j.length (Bo j))/\Hid (Cur wr g w bs B d at_ 0)/\Hid (Kept (fun x=>x<w2.heap.size/\x≠g) w2 wr)) (fun _ wr=>bs.length-GR wr g)
 case atStart=>exact⟨bs.length,0,[],kR,mY,Ai _,aq.out,Aq _ _ _ _,al.out,Kept.refl _ _⟩
 case round=>
  obtain⟨f,at_,j,aX,a3,HF,HG,HO,HC,HK⟩:=hrel;have U:w1.heap.size≠g:=kR
  have zk:=HK.out.size;have xb:Blk wr w1 249 #[.pointer (some ⟨g,0,none⟩)]:=(HK.out.block _ ⟨aV,U⟩).trans ay.out;have x0:=xb.iO 0;have XB:=hid xb;have DL:=hid (left_any wr g w bs B d at_ 0 HC.out);have Q:=HO.out;obtain⟨va,vc,rfl⟩:=aZ Q;have am:GR wr g=at_:=jz
  have aw:=hid am;have av:Hid (aO w wr):=an.out.trans (HK.out.below (fun b h=>⟨kR,by have:=HC.out.lo;omega⟩));clear xb Q am aq;by_cases G:bs.length<=at_
  ·have af:bs.length-at_=0:=kR;have aS:Hid (R=(j,0)):=HG.out.symm.trans (PJ G);rw[af]at DL;clear G af HG;go_wp2_with fail;refine DL.out.mono ?_;rintro e w3 ⟨rfl,q,rfl⟩;go_wp2_with fail;go_ret2;rw[aS.out];exact⟨_,rfl,iZ (dZ HO.out (fun x hx=>rfl)) z2,below_drewN av.out q⟩
  ·obtain⟨f,rfl⟩:∃f',f=f'+1:=⟨f-1,ka⟩;have a0:0<bs.length-at_:=kR;have gl:=iQ ((0:Int)<((bs.length-at_:Nat):Int));have a7:=iQ (0<bs.length-at_);have a4:=iQ (at_<bs.length);have hG:=HG.out;unfold GO at hG;rw[Aa G]at hG;have L:=PZ H8.out aX 0;have DR:=hid (fun wx hx=>VR wx g w bs B d at_ 0 aj H8.out hx);generalize EK bs at_ 0=T at *;obtain⟨⟨rt,rl,rs,rx⟩,a2,e2⟩:=T;simp only at hG L DR;unfold Rec.val at DR;simp only at DR;have ax:=L.1;have aP:=hid L.2.1;generalize au:bs.length-at_=m at *;have a8:=hid au;clear au HG L;by_cases he:e2=0
   ·subst he;rw[Aa mY]at hG;have HG:=hid hG;clear hG;go_wp2_with fail;refine DL.out.mono ?_;rintro e w3 ⟨rfl,q,rfl⟩;go_wp2_with fail;refine(DR.out _ (HC.out.drewN q)).mono ?_;rintro e w4 ⟨rfl,J,i⟩;have z4:=i.size;simp at z4;have az:w1.heap.size<w4.heap.size:=kR;have E:Blk w4 w1 249 #[.pointer (some ⟨g,0,none⟩)]:=(i.block _ ⟨(XB.out.drewN q).lt,U⟩).trans (XB.out.drewN q);have x4:=E.iO 0;have z:Hid (w4.ownsRow w2 43 4 (.slice va j.length vc) j.length (Bo j)):=dZ HO.out (fun x hx=>i.block x ⟨(Ae HO.out x hx).2,jU⟩);have ac:Hid (Kept (fun x=>x<w2.heap.size/\x≠g) w2 w4):=HK.out.trans ⟨i.os,i.tape,i.output,i.size,fun x hx=>i.block x ⟨by have:=hx.1;simp;omega,hx.2⟩⟩;have y:=hid J;clear J i E x0 DL DR HO HK HC XB;go_wp2_with fail;refine(CJ _ g w bs B d a2 0 (y.out.step nJ)).mono ?_;rintro e w5 ⟨rfl,rfl⟩;have a6:=aP.out trivial;have aU:j.length<=100000:=kR;go_wp2_with(at_builtin;refine gZ rfl (.tmp 26) (.tmp 28) 24 rfl w2 43 j0 _ 4 48 underlying24 aR aW aQ aT rfl iX _ _ _ kU ((z.out.alloc _).alloc _) _ 1 1 [.int .u64 rt, .int .u8 rl, .string rs, .string rx] kU (Src.of_blk (g:=w4.heap.size+1) (Blk.made_at _ _ _ mY) 1 1 4 rfl) kz nI kR ni ?_;intro v5 w5 Z ae a1);have ak:Cur w5 g w bs B d a2 0:=(by have h1:=(y.out.step (w':=(w4.alloc (.cells #[.int .u64 rt, .int .u8 rl, .string rs, .string rx] 43)).alloc (.cells #[.int .u64 rt, .int .u8 rl, .string rs, .string rx] 43)) nJ);exact⟨h1.blk.grown ae (fun e=>by have:=(Ae z.out g e.symm).1;omega),dZ h1.own (fun x hx=>ae.block x (Ae h1.own x hx).2 (fun e=>by have:=(Ae al.out.own x hx).2;have:=(Ae z.out x e.symm).1;omega)),h1.le,h1.lo⟩);go_roundw
    case measure=>go_light;have h1:=ak.cells.2.1;have h2:GR w5 g=a2:=(by unfold GR;rw[h1];exact CA _);rw[h2,aw.out];omega
    case rel=>
     go_light;refine⟨f,a2,j++ [⟨rt,rl,rs,rx⟩],ax,lz,?_,HG,?_,ak,?_⟩
     ·show _<=_;have:=HF.out;omega
     ·rw[S6,Aj];exact Z
     ·exact((ac.out.alloc (fun b h=>by have:=h.1;omega) _).alloc (fun b h=>by have:=h.1;simp;omega) _).grown ae (fun b h=>by have:=h.1;simp;omega) (fun b hb hh=>by have:=(Ae z.out b hb).1;have:=hh.1;omega)
   ·rw[Ab he]at hG;have HG:=hid hG;have g1:(e2 != 0)=true:=nB;clear hG he;go_wp2_with fail;refine DL.out.mono ?_;rintro e w3 ⟨rfl,q,rfl⟩;go_wp2_with fail;refine(DR.out _ (HC.out.drewN q)).mono ?_;rintro e w4 ⟨rfl,J,i⟩;have z4:=i.size;simp at z4;have az:w1.heap.size<w4.heap.size:=kR;have E:Blk w4 w1 249 #[.pointer (some ⟨g,0,none⟩)]:=(i.block _ ⟨(XB.out.drewN q).lt,U⟩).trans (XB.out.drewN q);have x4:=E.iO 0;have z:Hid (w4.ownsRow w2 43 4 (.slice va j.length vc) j.length (Bo j)):=dZ HO.out (fun x hx=>i.block x ⟨(Ae HO.out x hx).2,jU⟩);have ac:Hid (Kept (fun x=>x<w2.heap.size/\x≠g) w2 w4):=HK.out.trans ⟨i.os,i.tape,i.output,i.size,fun x hx=>i.block x ⟨by have:=hx.1;simp;omega,hx.2⟩⟩;have y:=hid J;clear J i E x0 DL DR HO HK HC XB;go_wp2_with fail;refine(CJ _ g w bs B d a2 e2 (y.out.step nJ)).mono ?_;rintro e w5 ⟨rfl,rfl⟩;go_wp2_with fail;go_ret2;rw[<-HG.out];exact⟨_,rfl,Aq _ _ _ _,lZ kR (an.out.trans (ac.out.below (fun b h=>⟨kR,by have:=y.out.lo;omega⟩)))⟩
end Recs
namespace Recs
open Go.RowKit Mem Own Canon NumPut Nums
theorem JN{bs:List Nat}{cs:Array Value}(h:RCur w g base bs A c at_ er)(i:Blk w ob t cs)(ht:t≠5)(hg:t≠207)(k:Nat)(u:Value):RCur (w.setCell ⟨ob,k,none⟩ u) g base bs A c at_ er:=
 ⟨h.blk.far (fun e=>Blk.apart i h.blk hg e.symm) _,sZ h.own (fZ h.own i ht.symm) _,h.le,h.lo⟩
end Recs
namespace Recs
open Go.RowKit Mem Own Canon NumPut Nums
theorem Xx(w:World)(A:Option Addr)(n c:Nat)(bs:List Nat)(hn:bs.length=n)(ax:n<=100000)(h8:∀x∈bs,x<=255)(ab:A=none->n=0/\c=0)(ha:Row w w A n 1 (jZ .u8 bs)):
 Calls prog 154 #[false, .slice A n c] w (La w (Eu bs)):=by
 obtain⟨j0,aX,a1,aW,aY⟩:=info_parts Lf;have D0:=hid (rnew_any w A n c bs hn ax ab ha);have G:bs.length<=100000:=kR
 obtain⟨R,hR⟩:=iS (Eu bs);have aw:Hid (GO bs.length bs 0 []=R):=hR.symm;rw[<-hR];have H8:=hid h8;clear hn ab ha hR h8 ax;go_enter func154,ntmps154;go_wp2_with fail;refine D0.out.mono ?_;rintro e w2 ⟨g,B,d,rfl,J,ah⟩;have z2:=ah.size;have bb:=J.blk.lt;have a6:=J.lo;have aU:=hid J;have aV:=hid (fun x hx=>(Ae J.own x hx).2);have av:=hid ah;clear J ah D0;go_wp2_with fail;go_loopw [7] (fun v wr=>∃ (f at_:Nat) (i:List Rec),at_<=bs.length/\i.length<=at_/\Hid (bs.length<=f+at_)/\Hid (GO f bs at_ i=R)/\Hid (wr.ownsRow w2 43 4 v i.length (Bo i))/\Hid (RCur wr g w bs B d at_ 0)/\Hid (Kept (fun x=>x<w2.heap.size/\x≠g) w2 wr)) (fun _ wr=>bs.length-GR wr g)
 case atStart=>exact⟨bs.length,0,[],kR,mY,Ai _,aw.out,Aq _ _ _ _,aU.out,Kept.refl _ _⟩
 case round=>
  obtain⟨f,at_,i,a5,a9,HF,HG,HO,HC,HK⟩:=hrel;have zk:=HK.out.size;have DL:=hid (rleft_any wr g w bs B d at_ 0 G HC.out);have ac:=HO.out;obtain⟨va,vc,rfl⟩:=aZ ac;have ar:GR wr g=at_:=jz
  have aT:=hid ar;have aS:Hid (aO w wr):=av.out.trans (HK.out.below (fun b h=>⟨kR,by have:=HC.out.lo;omega⟩));clear ac ar aw;by_cases L:bs.length<=at_
  ·have al:bs.length-at_=0:=kR;have M:Hid (R=(i,0)):=HG.out.symm.trans (PJ L);rw[al]at DL;clear L al HG;go_wp2_with fail;refine DL.out.mono ?_;rintro e w3 ⟨rfl,q,rfl⟩;go_wp2_with fail;go_ret2;rw[M.out];exact⟨_,rfl,iZ (dZ HO.out (fun x hx=>rfl)) z2,below_drewN aS.out q⟩
  ·obtain⟨f,rfl⟩:∃f',f=f'+1:=⟨f-1,ka⟩;have a7:0<bs.length-at_:=kR;have gl:=iQ ((0:Int)<((bs.length-at_:Nat):Int));have bd:=iQ (0<bs.length-at_);have ba:=iQ (at_<bs.length);have hG:=HG.out;unfold GO at hG;rw[Aa L]at hG;have ag:=PZ H8.out a5 0;have ae:=ag.1;have N:=ag.2.1;clear ag;unfold EK at hG ae N;simp only at hG ae N;have D3:=hid (fun wx hx=>MS wx g w bs B d at_ 0 4000 G H8.out kR hx);generalize DQ (Di 4000 bs at_ 0)=v3 at *;generalize CL 4000 bs at_ 0=a3 at *;generalize CK 4000 bs at_ 0=e3 at *;have D4:=hid (fun wx hx=>MS wx g w bs B d a3 e3 4000 G H8.out kR hx);generalize DQ (Di 4000 bs a3 e3)=v4 at *;generalize CL 4000 bs a3 e3=a4 at *;generalize CK 4000 bs a3 e3=e4 at *;have HG:=hid hG;have aQ:=hid N;generalize az:bs.length-at_=m at *;have bf:=hid az;clear az hG N;go_wp2_with fail;refine DL.out.mono ?_;rintro e w3 ⟨rfl,q,rfl⟩;have b0:Blk ((wr.drewN q).alloc (.cells #[.int .u64 0, .int .u8 0, .string ⟨#[]⟩, .string ⟨#[]⟩] 43)) wr 43 #[.int .u64 0, .int .u8 0, .string ⟨#[]⟩, .string ⟨#[]⟩]:=Blk.made _ _ _;have c0:=b0.iO 0;have c1:=b0.iO 1;have c2:=b0.iO 2;have c3:=b0.iO 3;have f0:=b0.frozen 0;have f1:=b0.frozen 1;have f2:=b0.frozen 2;have f3:=b0.frozen 3;go_wp2_with fail;have b3:Blk ((((((wr.drewN q).alloc (.cells #[.int .u64 0, .int .u8 0, .string ⟨#[]⟩, .string ⟨#[]⟩] 43)).setCell ⟨wr,0,none⟩ (.int .u64 0)).setCell ⟨wr,1,none⟩ (.int .u8 0)).setCell ⟨wr,2,none⟩ (.string ⟨#[]⟩)).setCell ⟨wr,3,none⟩ (.string ⟨#[]⟩)) wr 43 #[.int .u64 0, .int .u8 0, .string ⟨#[]⟩, .string ⟨#[]⟩]:=(((b0.set 0 _).set 1 _).set 2 _).set 3 _;have q0:RCur ((wr.drewN q).alloc (.cells #[.int .u64 0, .int .u8 0, .string ⟨#[]⟩, .string ⟨#[]⟩] 43)) g w bs B d at_ 0:=(HC.out.drewN q).step (bZ (Ag _ _));have q3:RCur ((((((wr.drewN q).alloc (.cells #[.int .u64 0, .int .u8 0, .string ⟨#[]⟩, .string ⟨#[]⟩] 43)).setCell ⟨wr,0,none⟩ (.int .u64 0)).setCell ⟨wr,1,none⟩ (.int .u8 0)).setCell ⟨wr,2,none⟩ (.string ⟨#[]⟩)).setCell ⟨wr,3,none⟩ (.string ⟨#[]⟩)) g w bs B d at_ 0:=JN (JN (JN (JN q0 b0 iX iX 0 _) (b0.set 0 _) iX iX 1 _) ((b0.set 0 _).set 1 _) iX iX 2 _) (((b0.set 0 _).set 1 _).set 2 _) iX iX 3 _;have j:∀k,¬AW g wr (⟨wr.heap.size,k,none⟩:Addr).block:=fun k h=>absurd h.1 mY;have k3:Kept (AW g wr) wr ((((((wr.drewN q).alloc (.cells #[.int .u64 0, .int .u8 0, .string ⟨#[]⟩, .string ⟨#[]⟩] 43)).setCell ⟨wr,0,none⟩ (.int .u64 0)).setCell ⟨wr,1,none⟩ (.int .u8 0)).setCell ⟨wr,2,none⟩ (.string ⟨#[]⟩)).setCell ⟨wr,3,none⟩ (.string ⟨#[]⟩)):=((((Kept.of_below (B:=wr.heap.size) nJ (fun x hx=>hx.1)).set (j 0) _).set (j 1) _).set (j 2) _).set (j 3) _;generalize ((((((wr.drewN q).alloc (.cells #[.int .u64 0, .int .u8 0, .string ⟨#[]⟩, .string ⟨#[]⟩] 43)).setCell ⟨wr,0,none⟩ (.int .u64 0)).setCell ⟨wr,1,none⟩ (.int .u8 0)).setCell ⟨wr,2,none⟩ (.string ⟨#[]⟩)).setCell ⟨wr,3,none⟩ (.string ⟨#[]⟩))=w3 at *;clear c0 c1 c2 c3 f0 f1 f2 f3 b0 q0 DL;have zg:g<wr.heap.size:=kR;have au:wr.heap.size≠g:=kR;refine(D3.out _ q3).mono ?_;rintro e x3 ⟨rfl,an,y⟩;have Q:Blk x3 wr 43 #[.int .u64 0, .int .u8 0, .string ⟨#[]⟩, .string ⟨#[]⟩]:=(y.block _ ⟨b3.lt,au⟩).trans b3;have ai:Hid (Kept (AW g wr) wr x3):=k3.trans ⟨y.os,y.tape,y.output,y.size,fun x hx=>y.block x ⟨by have:=hx.1;have:=k3.size;omega,hx.2⟩⟩;clear b3 q3 k3;have aP:=hid an;have y3:=Q.iO 2;have f3:=Q.frozen 2;have U:=hid Q;clear an y Q D3;go_wp2_with fail;refine(D4.out _ (JN aP.out U.out iX iX 2 (.string v3))).mono ?_;rintro e x4 ⟨rfl,aR,E⟩;have Y:Blk x4 wr 43 #[.int .u64 0, .int .u8 0, .string v3, .string ⟨#[]⟩]:=(E.block _ ⟨(U.out.set 2 (.string v3)).lt,au⟩).trans (U.out.set 2 (.string v3));have z:Hid (Kept (AW g wr) wr x4):=(ai.out.set (j 2) (.string v3)).trans ⟨E.os,E.tape,E.output,E.size,fun x hx=>E.block x ⟨by have:=hx.1;have:=ai.out.size;simp;omega,hx.2⟩⟩;clear y3 f3;have am:=hid aR;have y4:=Y.iO 3;have f4:=Y.frozen 3;have aa:=hid Y;clear aR E Y D4;have p0:=aa.out.iO 0;have p1:=aa.out.iO 1;have p2:=aa.out.iO 2;have pe:=am.out.cells.2.2;have zx:=z.out.size;have Z:Hid ((x4.setCell ⟨wr,3,none⟩ (.string v4)).ownsRow w2 43 4 (.slice va i.length vc) i.length (Bo i)):=dZ HO.out (fun x hx=>(z.out.set (j 3) (.string v4)).block x ⟨(Ae HO.out x hx).2,jU⟩);have ay:Hid (Kept (fun x=>x<w2.heap.size/\x≠g) w2 (x4.setCell ⟨wr,3,none⟩ (.string v4))):=HK.out.trans ⟨(z.out.set (j 3) (.string v4)).os,(z.out.set (j 3) (.string v4)).tape,(z.out.set (j 3) (.string v4)).output,(z.out.set (j 3) (.string v4)).size,fun x hx=>(z.out.set (j 3) (.string v4)).block x ⟨kr,hx.2⟩⟩;have ak:=hid (JN am.out aa.out iX iX 3 (.string v4));clear aP U ai HO HK HC;by_cases he:e4=0
   ·subst he;have bc:=aQ.out rfl;have a0:i.length<=100000:=kR;have M:Hid (GO f bs a4 (i++ [⟨0,0,v3,v4⟩])=R):=(by have h:=HG.out;rw[Aa mY]at h;exact h);clear HG aQ;go_wp2_with(at_builtin;refine gZ rfl (.tmp 37) (.tmp 39) 24 rfl w2 43 j0 _ 4 48 underlying24 aX a1 aW aY rfl iX _ _ _ kU (Z.out.alloc _) _ 1 1 [.int .u64 0, .int .u8 0, .string v3, .string v4] kU (Src.of_blk (g:=x4.heap.size) (Blk.made_at _ _ _ mY) 1 1 4 rfl) kz nI kR ni ?_;intro v5 w5 af aj a8);have aq:RCur w5 g w bs B d a4 0:=(by have h1:=ak.out.step (w':=(x4.setCell ⟨wr,3,none⟩ (.string v4)).alloc (.cells #[.int .u64 0, .int .u8 0, .string v3, .string v4] 43)) (bZ (Ag _ _));exact⟨h1.blk.grown aj (fun e=>by have:=(Ae Z.out g e.symm).1;omega),dZ h1.own (fun x hx=>aj.block x (Ae h1.own x hx).2 (fun e=>by have:=aV.out x hx;have:=(Ae Z.out x e.symm).1;omega)),h1.le,h1.lo⟩);go_roundw
    case measure=>go_light;have h1:=aq.cells.2.1;have h2:GR w5 g=a4:=(by unfold GR;rw[h1];exact CA _);rw[h2,aT.out];omega
    case rel=>
     go_light;refine⟨f,a4,i++ [⟨0,0,v3,v4⟩],ae,lz,?_,M,?_,aq,?_⟩
     ·show _<=_;have:=HF.out;omega
     ·rw[S6,Aj];exact af
     ·exact(ay.out.alloc (fun b h=>by have:=h.1;simp;omega) _).grown aj (fun b h=>by have:=h.1;simp;omega) (fun b hb hh=>by have:=(Ae Z.out b hb).1;have:=hh.1;omega)
   ·have g1:(e4 != 0)=true:=nB;have M:Hid (R=([],e4)):=(by have h:=HG.out;rw[Ab he]at h;exact h.symm);have be:=ak.out.cells.2.2;clear HG he;go_wp2_with fail;go_quiet (fail);go_wp2_with fail;go_ret2;rw[M.out];exact⟨_,rfl,Aq _ _ _ _,below_drewN (av.out.trans (ay.out.below (fun b h=>⟨kR,by have:=ak.out.lo;omega⟩))) _⟩
end Recs
end Go.Proofs.YtfgdoknipbpfhaaGreatDoor
