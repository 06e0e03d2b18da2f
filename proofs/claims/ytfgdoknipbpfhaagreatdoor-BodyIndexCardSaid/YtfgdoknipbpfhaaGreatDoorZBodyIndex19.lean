/- The walk of the refe -/
import Derived.Test.YtfgdoknipbpfhaaGreatDoorZBodyIndex11
import Derived.Test.YtfgdoknipbpfhaaGreatDoorZBodyIndex14
import Derived.Test.YtfgdoknipbpfhaaGreatDoorZBodyIndex18
import Derived.Test.YtfgdoknipbpfhaaGreatDoorZBodyIndex10
import Derived.Laws.BytesArg
import Derived.Laws.Strings
import Derived.KernelRfl
import Derived.Lib.SmallJoins
import Derived.Lib.AppendStr
namespace Go.Proofs.YtfgdoknipbpfhaaGreatDoor
open Go.Proofs.Tryz
open Go.Lib (hid)
set_option maxHeartbeats 2000000
set_option maxRecDepth 100000
variable{a b ls:List Nat}{w:World}{B base c k most n x:Nat}{A:Option Addr}{wh:Bool}
namespace Huff
open Go.RowKit Mem Canon
def Ir(ls:List Nat):ByteArray:=strOfNums (ls.map fun x=>((x:Nat):Int))
theorem Vo(x y:ByteArray):(x.toList==y.toList)=true↔x=y:=by
 rw[beq_iff_eq,GZ,GZ];constructor
 ·intro h;exact ByteArray.ext (Array.toList_inj.1 h)
 ·intro h;rw[h]
theorem WZ(ha:∀x∈a,x<=255)(hb:∀x∈b,x<=255)(h:Ir a=Ir b):a=b:=by
 have h:=AM (fun s:ByteArray=>s.data.toList) h;simp only[Ir,strOfNums_data,List.map_map]at h
 have e:∀l:List Nat,(∀x∈l,x<=255)->(l.map ((fun n:Int=>UInt8.ofNat n.toNat) ∘ fun x:Nat=>(x:Int))).map UInt8.toNat=l:=by
  intro l hl;rw[List.map_map]
  conv=>rhs;rw[<-List.map_id l]
  apply Hj
  intro x hx;have:=hl x hx;simp;omega
 rw[<-e a ha,<-e b hb,h]
theorem WG(ha:∀x∈a,x<=255)(hb:∀x∈b,x<=255):((Ir a).toList==(Ir b).toList)=decide (a=b):=by
 by_cases h:a=b
 ·subst h;rw[AQ rfl];exact(Vo _ _).2 rfl
 ·rw[AV h];cases e:(Ir a).toList==(Ir b).toList
  ·rfl
  ·exact absurd (WZ ha hb ((Vo _ _).1 e)) h
theorem Ru(hn:ls.length=n)(ha:Row w B A n 1 (kZ .u8 ls))(G:A=none->n=0):
 (convert 28 9 (.slice A n c)).run prog w= .ok (.string (Ir ls)) w:=by
 cases A with
 |none=>obtain rfl:=G rfl;have hl:ls= []:=Hl hn;subst hl;exact run_convert_bytes_nil w 28 5 underlying28 underlying5 0 c 9 underlying9
 |some ad=>
  obtain⟨b,E,h⟩:=ad;by_cases h0:n=0
  ·subst h0;have hl:ls= []:=Hl hn;subst hl;have h0:(loadCells ⟨b,E,h⟩ 0).run prog w= .ok (([]:List Int).map (Value.int .u8)).toArray w:=(by have:=run_loadCells_list (P:=prog) w ⟨b,E,h⟩ [] (fun j v hj=>by simp at hj);simpa using this);rw[run_convert_bytes_string w 28 9 5 _ 0 c underlying28 underlying5 underlying9,run_bytesToString w _ 0 c [] h0,List.foldl_nil];have e:Ir []=ByteArray.empty:=rfl;rw[e]
  ·obtain⟨b',J,e,hb,hc⟩:=ha nB;simp only[Option.some.injEq,Addr.mk.injEq]at e;obtain⟨rfl,rfl,rfl⟩:=e;refine run_convert_bytes_arg w 28 5 underlying28 underlying5 b E n c _ (by simpa using hn) (fun i hi=> ?_) 9 underlying9;have:=hc i 0 hi nB;rw[EK,Cw]at this;rw[this];unfold kZ;congr 2;simp[List.getD_eq_getElem?_getD,show i<ls.length by omega]
theorem Wm(w:World)(A B:Option Addr)(n m c d:Nat)(la lb:List Nat)(hn:la.length=n)(hm:lb.length=m)(hA:A=none->n=0)(hB:B=none->m=0)
 (h:∀x∈la,x<=255)(i:∀x∈lb,x<=255)(ha:Row w w A n 1 (kZ .u8 la))(hb:Row w w B m 1 (kZ .u8 lb)):
 Calls prog 42 #[.slice A n c, .slice B m d] w fun e w'=>e= .returned (.bool (decide (la=lb)))/\w=w':=by
 have p1:=Ru (c:=c) hn ha hA;have p2:=Ru (c:=d) hm hb hB;have HE:=hid (WG h i);clear hn hm hA hB h i ha hb;go_enter func42,ntmps42;go_wp2_with fail;go_ret;exact⟨by simp[HE.out],rfl⟩
end Huff
namespace Block
open Go.RowKit Mem Own Canon
open NumPut Crc
open Huff (Ii bytesOf Of)
open Toks (Tk)
def sqO(bs:List Nat):List Nat:=TW.G9 (Lz.find bs)
def sqE(bs:List Nat):Int:=TW.Ib (Lz.find bs)
def sqz(bs:List Nat):Bool:=sqE bs==0&&decide ((sqO bs).length<bs.length)
def FJ(bs:List Nat)(plain:Bool):Nat:=if !plain&&sqz bs then 1 else 0
def CD(bs:List Nat)(plain:Bool):List Nat:=if !plain&&sqz bs then sqO bs else bs
def IK(bs:List Nat)(plain:Bool):List Nat:= [FJ bs plain]++gZ bs.length++gZ (CD bs plain).length
def Do(bs:List Nat)(plain:Bool):List Nat:=IK bs plain++CD bs plain
def Cs(bs:List Nat)(plain:Bool):List Nat:=Do bs plain++CU (Ct (Do bs plain))
theorem SO(ts:List Tk):∀x∈TW.G9 ts,x<=255:=by
 intro x hx;unfold TW.G9 at hx;split at hx
 ·unfold bytesOf at hx;obtain⟨k,_,rfl⟩:=Cl.1 hx;exact Of _ _
 ·cases hx
theorem V1(h:w.ownsRow base 5 1 (.slice A ls.length c) ls.length (bZ .u8 ls)):Row w w A ls.length 1 (kZ .u8 ls):=
 Row.of_own h rfl fun i j hi hj=>by
  obtain rfl:j=0:=nB
  simp[bZ,kZ,List.getD_eq_getElem?_getD,hi]
theorem wZ(h:w.ownsRow base 5 1 (.slice A n c) n (bZ .u8 ls))(hn:ls.length=n):Part.Ok ⟨A,c,ls⟩ w:=by subst hn;exact⟨V1 h,(Ew h).1⟩
theorem KG(h:x<=16383):(gZ x).length<=2:=by
 by_cases h1:x<128
 ·rw[Fe h1];simp
 ·rw[Gd h1,Fe nB];simp
def Im(bs:List Nat)(plain:Bool)(w:World)(e:Ending)(w':World):Prop:=
 ∃v,e= .returned (.tuple #[v,jd])/\w'.ownsRow w 5 1 v (Cs bs plain).length (bZ .u8 (Cs bs plain))/\Below w w w'
theorem wrap_u64(n:Int):IntKind.u64.wrap n=n % 18446744073709551616:=by simp[IntKind.wrap,IntKind.bits,IntKind.signed]
end Block
namespace Block
open Go.RowKit Mem Own Canon
open NumPut Crc
end Block
namespace Opts
open Go.RowKit Mem
structure Opt where
 block:Int
 plain:Bool
 bucket:Int
 data:Int
 parity:Int
 chunk:Int
def Opt.val(o:Opt):Value:= .agg #[o.block,o.plain,o.bucket,o.data,o.parity,o.chunk]
theorem j9(a b:Bool)(a0 b0 a2 b2 a3 b3 a4 b4 a5 b5:Int)(w:World):(binOp .eql 23 (.agg #[a0,a,a2,a3,a4,a5]) (.agg #[b0,b,b2,b3,b4,b5])).run prog w= .ok (.bool (decide (a0=b0/\a=b/\a2=b2/\a3=b3/\a4=b4/\a5=b5))) w:=by
 go_simp
 by_cases h0:a0=b0<;>by_cases h1:a=b<;>by_cases h2:a2=b2<;>by_cases h3:a3=b3<;>by_cases h4:a4=b4<;>by_cases h5:a5=b5<;>simp[h0,h1,h2,h3,h4,h5]
theorem SA(w:World)(x lo hi:Int):
 Calls prog 161 #[x,lo,hi] w fun e w'=>e= .returned (.bool (decide (lo<=x/\x<=hi)))/\w'=w:=by
 by_cases h:lo<=x
 ·have g1:decide (lo<=x)=true:=by simpa using h
  have HD:Hid (decide (lo<=x/\x<=hi)=decide (x<=hi)):=by show _=_;simp[h]
  rw[HD.out];clear h;go_enter func161,ntmps161;go_wp2_with fail;go_ret;exact⟨rfl,rfl⟩
 ·have g1:decide (lo<=x)=false:=by simpa using h
  have HD:Hid (decide (lo<=x/\x<=hi)=false):=by show _=_;simp[h]
  rw[HD.out];clear h;go_enter func161,ntmps161;go_wp2_with fail;go_ret;exact⟨rfl,rfl⟩
end Opts
namespace Recs
open Go.RowKit Mem
def Rec.val(r:Rec):Value:= .agg #[.int .u64 r.time, .int .u8 r.level, .string r.source, .string r.text]
def Cc(r:Rec):Bool:=decide (4000<r.source.size) || decide (4000<r.text.size)
def DQ(l:List Rec):Int:=if 20000<l.length then 6 else if l.any Cc=true then 6 else if 1048576<Bq l then 6 else 0
theorem Re{l:List Rec}{p:Rec->Bool}{r:Rec}(hr:l[k]? =some r):(l.drop k).any p=(p r || (l.drop (k+1)).any p):=by obtain⟨hk,e⟩:=BS.1 hr;rw[Dx hk,List.any_cons,e]
theorem Hp{r:Rec}(h:Cc r=false):r.source.size<=4000/\r.text.size<=4000:=by unfold Cc at h;simp at h;exact h
theorem RU{l:List Rec}{r:Rec}(hr:l[k]? =some r):Bq (l.take (k+1))=Bq (l.take k)+weigh r:=by rw[Ca,hr];simp[TU]
theorem YX{l:List Rec}(h:∀r∈l,Cc r=false):0<=Bq l/\Bq l<=8016*(l.length:Int):=by
 induction l with
 |nil=>simp[KU]
 |cons r l ih=>
  have h1:=Hp (h r pR);have h2:=ih (fun x hx=>h x (by simp[hx]));have e:Bq (r :: l)=weigh r+Bq l:=pV
  rw[e];unfold weigh;simp only[List.length_cons]
  push_cast
  omega
theorem lW(w:World)(r:Rec):
 Calls prog 95 #[r.val] w fun e w'=>e= .returned (.bool (Cc r))/\Below w w w':=by
 unfold Rec.val;by_cases h1:4000<r.source.size
 ·have hl:Cc r=true:=by unfold Cc;simp[h1]
  rw[hl];have g1:=ja ((4000:Int)<r.source.size)
  have i:=ja (4000<r.source.size)
  clear hl h1;go_enter func95,ntmps95;go_wp2_with fail;go_ret;exact⟨rfl,qo⟩
 ·have g1:=jb ((4000:Int)<r.source.size)
  have i:=jb (4000<r.source.size)
  by_cases h2:4000<r.text.size
  ·have hl:Cc r=true:=(by unfold Cc;simp[h2]);rw[hl];have g2:=ja ((4000:Int)<r.text.size);have h:=ja (4000<r.text.size);clear hl h1 h2;go_enter func95,ntmps95;go_wp2_with fail;go_ret;exact⟨rfl,qo⟩
  ·have hl:Cc r=false:=(by unfold Cc;simp;omega);rw[hl];have g2:=jb ((4000:Int)<r.text.size);have h:=jb (4000<r.text.size);clear hl h1 h2;go_enter func95,ntmps95;go_wp2_with fail;go_ret;exact⟨rfl,qo⟩
theorem V9(w:World)(A:Option Addr)(n c:Nat)(l:List Rec)(hl:l.length=n)(hn:n<=9223372036854775807)(hr:Row w w A n 4 (Cp l))(K:Nat)(p:Rec->Bool)(hK:∀args wx,(callFunc K args).run prog wx= .ok (.enter K args) wx)
 (hp:∀wx r,Calls prog K #[Rec.val r] wx fun e w'=>e= .returned (.bool (p r))/\Below wx wx w'):
 Calls prog 164 #[.slice A n c, .func (.func K) #[] #[]] w fun e w'=>∃z:Int,e= .returned (.int .i64 z)/\decide (0<=z)=l.any p/\Below w w w':=by
 have HP:=hid hp;have HL:=hid hl;clear hp hl;go_enter func164,ntmps164;go_wp2_with fail;go_loopw [8] (fun i wx=>∃k:Nat,k<=n/\i= .int .i64 k/\Hid ((l.drop k).any p=l.any p)/\Hid (Below w w wx)) (fun i _=>n-(intOf i).toNat)
 case atStart=>exact⟨0,nB,rfl,rfl,Ak _ _⟩
 case round=>
  obtain⟨k,hk,rfl,hA,HB⟩:=hrel;by_cases E:k<n
  ·obtain⟨b,J,r,rfl,G,hg,c0,c1,c2,c3⟩:=Row.rec (hr.below HB.out) HL.out E;have ha:=hA.out;rw[Re hg]at ha;have D:=HP.out wr r;unfold Rec.val at D;have x0:(0:Int)<=(k:Int):=nB;have x1:(k:Int)<(n:Int):=nB;cases hb:p r
   ·rw[hb]at D ha;rw[Bool.false_or]at ha;have D:=hid D;have HA:=hid ha;clear hA ha hb hg;go_wp2_with fail;refine D.out.mono ?_;rintro e w1 ⟨rfl,h⟩;have j:Hid (Below w w w1):=dZ h HB.out;clear h D c0 c1 c2 c3;go_wp2_with fail;go_roundw
    case measure=>exact ld
    case rel=>go_light;exact⟨k+1,nB,lj,HA.out,j.out⟩
   ·rw[hb]at D ha;rw[Bool.true_or]at ha;have D:=hid D;have HA:=hid ha;clear hA ha hb hg;go_wp2_with fail;refine D.out.mono ?_;rintro e w1 ⟨rfl,h⟩;have j:Hid (Below w w w1):=dZ h HB.out;clear h D c0 c1 c2 c3;go_wp2_with fail;go_ret;exact⟨k,rfl,by rw[<-HA.out];simp,j.out⟩
  ·obtain rfl:k=n:=by omega
   have ha:=hA.out;rw[CF ox]at ha;have HA:=hid ha;clear ha hA;go_wp2_with fail;go_ret;exact⟨-1,rfl,by rw[<-HA.out];rfl,HB.out⟩
theorem d8(w:World)(A:Option Addr)(n c:Nat)(l:List Rec)(hl:l.length=n)(hn:n<=9223372036854775807)(hr:Row w w A n 4 (Cp l)):
 Calls prog 94 #[.slice A n c, .func (.func 95) #[] #[]] w fun e w'=>e= .returned (.bool (l.any Cc))/\Below w w w':=by
 have D:=hid (V9 w A n c l hl hn hr 95 Cc (by intro h wx;simp[callFunc,go_sem,func95];rfl) lW);clear hl hr;go_enter func94,ntmps94;go_wp2_with fail;refine D.out.mono ?_;rintro e w1 ⟨z,rfl,hz,hb⟩;have HZ:=hid hz;clear hz D;go_wp2_with fail;go_ret;exact⟨Ff HZ.out,hb⟩
theorem XO(w:World)(A:Option Addr)(n c:Nat)(l:List Rec)(hl:l.length=n)(hn:n<=20000)(hs:∀r∈l,Cc r=false)(hr:Row w w A n 4 (Cp l)):
 Calls prog 96 #[.slice A n c] w fun e w'=>e= .returned (.int .i64 (Bq l))/\Below w w w':=by
 have HL:=hid hl;have HS:=hid hs
 have HT:Hid (∀k,k<=n->0<=Bq (l.take k)/\Bq (l.take k)<=160320000):=fun k hk=>by
  have h:=YX (l:=l.take k) (fun r hr=>hs r (CN hr));have N:(l.take k).length<=n:=nY
  omega
 clear hl hs;go_enter func96,ntmps96;go_wp2_with fail;go_loopw [3,8] (fun s i wx=>∃ (k:Nat) (x:Int),k<=n/\i= .int .i64 k/\s= .int .i64 x/\Hid (Bq (l.take k)=x)/\Hid (Below w w wx)) (fun _ i _=>n-(intOf i).toNat)
 case atStart=>exact⟨0,0,nB,rfl,rfl,rfl,Ak _ _⟩
 case round=>
  obtain⟨k,x,hk,rfl,rfl,hx,HB⟩:=hrel;by_cases E:k<n
  ·obtain⟨b,M,r,rfl,Q,hg,c0,c1,c2,c3⟩:=Row.rec (hr.below HB.out) HL.out E;have G:=HT.out k hk;rw[hx.out]at G;have L:=Hp (HS.out r (AY hg));have HW:Hid (Bq (l.take (k+1))=x+weigh r):=(by show _=_;rw[RU hg,hx.out]);unfold weigh at HW;have x0:(0:Int)<=(k:Int):=nB;have x1:(k:Int)<(n:Int):=nB;have s1:IntKind.i64.wrap (16+(r.source.size:Int))=16+(r.source.size:Int):=Az _ nB;have s2:IntKind.i64.wrap (16+(r.source.size:Int)+(r.text.size:Int))=16+(r.source.size:Int)+(r.text.size:Int):=Az _ nB;have s3:IntKind.i64.wrap (x+(16+(r.source.size:Int)+(r.text.size:Int)))=x+(16+(r.source.size:Int)+(r.text.size:Int)):=Az _ nB;have J:=HB.out.size;clear hg hx;go_wp2_with fail;go_roundw
   case measure=>exact ld
   case rel=>go_light;exact⟨k+1,x+(16+(r.source.size:Int)+(r.text.size:Int)),nB,jk,jk,HW.out,by have h:=HB.out;show Below w w _;(repeat (with_reducible first|exact Ak _ _|assumption|refine Aw ?_ |refine below_drewN ?_ _|refine oZ ?_ |refine cZ ?_ |refine dZ jf ?_ |refine belA ?_ |refine pZ jf ?_))⟩
  ·obtain rfl:k=n:=by omega
   have j:=hx.out;rw[Bp ox]at j;have HX:=hid j;clear j hx;go_wp2_with fail;go_ret;exact⟨by rw[HX.out];rfl,HB.out⟩
theorem Sl(w:World)(A:Option Addr)(n c:Nat)(l:List Rec)(hl:l.length=n)(hn:n<=9223372036854775807)(hr:Row w w A n 4 (Cp l)):
 Calls prog 45 #[.slice A n c] w fun e w'=>e= .returned (.int .i64 (DQ l))/\Below w w w':=by
 have D1:=hid (d8 w A n c l hl hn hr);unfold DQ;rw[hl];by_cases h1:20000<n
 ·rw[Ag h1];have g1:=ja ((20000:Int)<n)
  have j:=ja (20000<n)
  clear h1 hl hr D1;go_enter func45,ntmps45;go_wp2_with fail;go_ret;exact⟨rfl,Ak _ _⟩
 ·rw[Ae h1];have g1:=jb ((20000:Int)<n)
  have j:=jb (20000<n)
  cases hlo:l.any Cc with
  |true=>rw[Ag rfl];rw[hlo]at D1;clear h1 hl hr hlo;go_enter func45,ntmps45;go_wp2_with fail;refine D1.out.mono ?_;rintro e w1 ⟨rfl,hb⟩;go_wp2_with fail;go_ret;exact⟨rfl,hb⟩
  |false=>
   rw[Ae pR];rw[hlo]at D1;have hs:∀r∈l,Cc r=false:=fun r h=>by have:=List.any_eq_false.1 hlo r h;simpa using this
   have D2:=hid (fun wx (hb:Below w w wx)=>XO wx A n c l hl nB hs ((hr.below hb).mono hb.size));generalize Bq l=x at *;by_cases h2:1048576<x
   ·rw[Ag h2];have g2:decide (1048576<x)=true:=qi;clear h1 hl hr hlo hs h2;go_enter func45,ntmps45;go_wp2_with fail;refine D1.out.mono ?_;rintro e w1 ⟨rfl,hb⟩;have E2:=hid (D2.out w1 hb);clear D1 D2;go_wp2_with fail;refine E2.out.mono ?_;rintro e w2 ⟨rfl,i⟩;go_wp2_with fail;go_ret;exact⟨rfl,dZ i hb⟩
   ·rw[Ae h2];have g2:decide (1048576<x)=false:=qi;clear h1 hl hr hlo hs h2;go_enter func45,ntmps45;go_wp2_with fail;refine D1.out.mono ?_;rintro e w1 ⟨rfl,hb⟩;have E2:=hid (D2.out w1 hb);clear D1 D2;go_wp2_with fail;refine E2.out.mono ?_;rintro e w2 ⟨rfl,i⟩;go_wp2_with fail;go_ret;exact⟨rfl,dZ i hb⟩
theorem refcheck_any(w:World)(A:Option Addr)(n c:Nat)(l:List Rec)(hl:l.length=n)(hn:n<=9223372036854775807)(hr:Row w w A n 4 (Cp l)):
 Calls prog 24 #[.slice A n c] w fun e w'=>e= .returned (.int .i64 (DQ l))/\Below w w w':=by
 obtain⟨E,hE⟩:=jc (DQ l);rw[<-hE];unfold DQ at hE;rw[hl]at hE;by_cases h1:20000<n
 ·rw[Ag h1]at hE;have g1:=ja ((20000:Int)<n)
  have L:=ja (20000<n)
  subst hE;clear h1 hl hr;go_enter func24,ntmps24;go_wp2_with fail;go_ret;exact⟨rfl,Ak _ _⟩
 ·rw[Ae h1]at hE;have g1:=jb ((20000:Int)<n)
  have L:=jb (20000<n)
  have HE:=hid hE;have HL:=hid hl;have ab:n<=20000:=nB
  clear h1 hl hE;go_enter func24,ntmps24;go_wp2_with fail;go_loopw [3,4] (fun s i wx=>∃ (k:Nat) (x:Int),k<=n/\i= .int .i64 k/\s= .int .i64 x/\0<=x/\x<=8016*(k:Int)/\Hid (Bq (l.take k)=x)/\Hid ((l.drop k).any Cc=l.any Cc)/\Hid (Below w w wx)) (fun _ i _=>n-(intOf i).toNat)
  case atStart=>exact⟨0,0,nB,rfl,rfl,nB,nB,rfl,rfl,Ak _ _⟩
  case round=>
   obtain⟨k,x,hk,rfl,rfl,ac,Y,hx,hA,HB⟩:=hrel;by_cases Q:k<n
   ·obtain⟨b,Z,r,rfl,aa,hg,c0,c1,c2,c3⟩:=Row.rec (hr.below HB.out) HL.out Q;have ha:=hA.out;rw[Re hg]at ha;have HW:Hid (Bq (l.take (k+1))=x+weigh r):=(by show _=_;rw[RU hg,hx.out]);have x0:(0:Int)<=(k:Int):=nB;have x1:(k:Int)<(n:Int):=nB;by_cases h2:4000<r.source.size
    ·have j:Cc r=true:=(by unfold Cc;simp[h2]);rw[j,Bool.true_or]at ha;have G:Hid (E=6):=(by have h:=HE.out;rw[<-ha,Ag rfl]at h;exact h);have g2:=ja ((4000:Int)<r.source.size);have N:=ja (4000<r.source.size);clear ha j h2 hg hA hx HE;go_wp2_with fail;go_ret;exact⟨by rw[G.out];rfl,HB.out⟩
    ·have g2:=jb ((4000:Int)<r.source.size);have N:=jb (4000<r.source.size);by_cases h3:4000<r.text.size
     ·have j:Cc r=true:=(by unfold Cc;simp[h3]);rw[j,Bool.true_or]at ha;have G:Hid (E=6):=(by have h:=HE.out;rw[<-ha,Ag rfl]at h;exact h);have g3:=ja ((4000:Int)<r.text.size);have U:=ja (4000<r.text.size);clear ha j h2 h3 hg hA hx HE;go_wp2_with fail;go_ret;exact⟨by rw[G.out];rfl,HB.out⟩
     ·have j:Cc r=false:=(by unfold Cc;simp;omega);rw[j,Bool.false_or]at ha;have M:=hid ha;have g3:=jb ((4000:Int)<r.text.size);have U:=jb (4000<r.text.size);unfold weigh at HW;have s1:IntKind.i64.wrap (x+16)=x+16:=Az _ nB;have s2:IntKind.i64.wrap (x+16+(r.source.size:Int))=x+16+(r.source.size:Int):=Az _ nB;have s3:IntKind.i64.wrap (x+16+(r.source.size:Int)+(r.text.size:Int))=x+16+(r.source.size:Int)+(r.text.size:Int):=Az _ nB;clear ha j hg hA hx;go_wp2_with fail;go_quiet (fail);go_wp2_with fail;go_roundw
      case measure=>exact ld
      case rel=>go_light;exact⟨k+1,x+16+(r.source.size:Int)+(r.text.size:Int),nB,jk,jk,nB,nB,by have h:=HW.out;show _=_;omega,M.out,below_drewN HB.out _⟩
   ·obtain rfl:k=n:=by omega
    have J:=hx.out;rw[Bp ox]at J;have ha:=hA.out;rw[CF ox]at ha;have he:=HE.out;rw[<-ha,J,Ae pR]at he;by_cases h4:1048576<x
    ·rw[Ag h4]at he;have g4:decide (1048576<x)=true:=(by simpa using h4);have G:=hid he;clear J hx ha hA he HE h4;go_wp2_with fail;go_ret;exact⟨by rw[G.out];rfl,HB.out⟩
    ·rw[Ae h4]at he;have g4:decide (1048576<x)=false:=(by simpa using h4);have G:=hid he;clear J hx ha hA he HE h4;go_wp2_with fail;go_ret;exact⟨by rw[G.out];rfl,HB.out⟩
end Recs
namespace NumPut
open Go.RowKit Mem Own Canon
theorem M9{X:Nat}(h:X*2 ^ (7*k)<18446744073709551616)(i:128<=X):k+1<=9/\X / 128*2 ^ (7*(k+1))<18446744073709551616:=by
 have e:2 ^ (7*(k+1))=128*2 ^ (7*k):=by rw[show 7*(k+1)=7*k+7 by omega,Nat.pow_add];omega
 constructor
 ·by_cases hk:k+1<=9
  ·exact hk
  ·exfalso;have h1:2 ^ 63<=2 ^ (7*k):=Cf nB nB;have h2:128*2 ^ 63<=X*2 ^ (7*k):=Hh i h1;omega
 ·rw[e,<-Nat.mul_assoc];have:X / 128*128*2 ^ (7*k)<=X*2 ^ (7*k):=GG _ (Nat.div_mul_le_self _ _);omega
theorem mC:∀ (x k:Nat),x*2 ^ (7*k)<18446744073709551616->k<=9->(gZ x).length+k<=10:=by
 intro x
 induction x using Nat.strongRecOn with
 |_ x ih=>
  intro k h hk;by_cases h1:x<128
  ·rw[Fe h1];simp;omega
  ·obtain⟨s1,s2⟩:=M9 h nB;have:=ih (x / 128) nB (k+1) s2 s1;rw[Gd h1,AI];omega
theorem sZ(h:x<18446744073709551616):(gZ x).length<=10:=by have:=mC x 0 qh nB;omega
theorem Kw(w:World)(x:Nat)(hx:x<18446744073709551616):
 Calls prog 99 #[.int .u64 x] w fun e w'=>∃v,e= .returned v/\w'.ownsRow w 5 1 v (gZ x).length (bZ .u8 (gZ x))/\Below w w w':=by
 obtain⟨j0,aa,Z,Q,Y⟩:=info_parts CW;obtain⟨R,hR⟩:=jc (gZ x);have M:Hid ([]++gZ x=R):=hR.symm;have N:Hid (x*2 ^ (7*0)<18446744073709551616):=by show _<_;simpa using hx
 rw[<-hR];clear hR;go_enter func99,ntmps99;go_wp2_with fail;go_loopw [0,3] (fun u v wr=>∃ (X k:Nat) (done:List Nat),u= .int .u64 X/\k<=9/\X<18446744073709551616/\Hid (X*2 ^ (7*k)<18446744073709551616)/\Hid (done.length=k)/\Hid (done++gZ X=R)/\Hid (wr.ownsRow w 5 1 v k (bZ .u8 done))/\Hid (Below w w wr)) (fun u _ _=>(intOf u).toNat)
 case atStart=>exact⟨x,0,[],rfl,nB,hx,N.out,rfl,M.out,AE _ _ _ _,Ak _ _⟩
 case round=>
  obtain⟨X,k,done,rfl,hk,hX,HX,HL,HR,HO,HB⟩:=hrel;clear M N;have zb:=HB.out.size;by_cases E:X<128
  ·have g1:=jb ((128:Int)<=X);have ac:=jb (128<=X);have c1:IntKind.u8.wrap (X:Int)=(X:Int):=oj;have j:Hid (done++ [X]=R):=md;go_wp2_with(at_builtin;refine fZ rfl (.tmp 14) (.tmp 17) 28 rfl w 5 j0 _ 1 1 underlying28 aa Z Q Y rfl ji _ _ _ nC (HO.out.alloc _) _ 1 1 [.int .u8 (X:Nat)] nC (Src.of_blk (g:=wr.heap.size) (Blk.made _ _ _) 1 1 1 rfl) mY qn nB p5 ?_;intro v4 w4 i L U);have J:Hid (w4.ownsRow w 5 1 v4 R.length (bZ .u8 R)):=nJ;have G:Hid (Below w w w4):=(cZ HB.out).grown L p5 (fun y hy=>(Ai HO.out y hy).1);go_ret;exact⟨_,rfl,J.out,G.out⟩
  ·have g1:=ja ((128:Int)<=X);have ac:=ja (128<=X);have c1:IntKind.u8.wrap (X:Int)=((X % 256:Nat):Int):=oj;have o1:bits .or .u8 ((X % 256:Nat):Int) 128=((X % 128+128:Nat):Int):=py;have j:Hid ((done++ [X % 128+128])++gZ (X / 128)=R):=mf;obtain⟨ag,ab⟩:=M9 HX.out nB;have af:=hid ab;obtain⟨b,hb⟩:=jc (X % 128+128);obtain⟨a,ha⟩:=jc (X % 256);rw[<-hb]at o1 j;rw[<-ha]at o1 c1;clear hb ha ab;go_wp2_with(at_builtin;refine fZ rfl (.tmp 6) (.tmp 10) 28 rfl w 5 j0 _ 1 1 underlying28 aa Z Q Y rfl ji _ _ _ nC (HO.out.alloc _) _ 1 1 [.int .u8 (b:Nat)] nC (Src.of_blk (g:=wr.heap.size) (Blk.made _ _ _) 1 1 1 rfl) mY qn nB p5 ?_;intro v4 w4 i L U);have ae:Hid (w4.ownsRow w 5 1 v4 (k+1) (bZ .u8 (done++ [b]))):=(by rw[He];exact i);have G:Hid (Below w w w4):=(cZ HB.out).grown L p5 (fun y hy=>(Ai HO.out y hy).1);exact⟨⟨X / 128,k+1,done++ [b],AM _ nB,nB,nB,af.out,pJ,j.out,ae.out,G.out⟩,qc⟩
theorem Fx(w:World)(x:Nat)(hx:x<18446744073709551616):
 Calls prog 77 #[.int .u64 x] w fun e w'=>∃v,e= .returned v/\w'.ownsRow w 5 1 v (gZ x).length (bZ .u8 (gZ x))/\Below w w w':=by
 obtain⟨j0,aa,Z,Q,Y⟩:=info_parts CW;obtain⟨R,hR⟩:=jc (gZ x);have M:Hid ([]++gZ x=R):=hR.symm;have N:Hid (x*2 ^ (7*0)<18446744073709551616):=by show _<_;simpa using hx
 rw[<-hR];clear hR;go_enter func77,ntmps77;go_wp2_with fail;go_loopw [0,3] (fun u v wr=>∃ (X k:Nat) (done:List Nat),u= .int .u64 X/\k<=9/\X<18446744073709551616/\Hid (X*2 ^ (7*k)<18446744073709551616)/\Hid (done.length=k)/\Hid (done++gZ X=R)/\Hid (wr.ownsRow w 5 1 v k (bZ .u8 done))/\Hid (Below w w wr)) (fun u _ _=>(intOf u).toNat)
 case atStart=>exact⟨x,0,[],rfl,nB,hx,N.out,rfl,M.out,AE _ _ _ _,Ak _ _⟩
 case round=>
  obtain⟨X,k,done,rfl,hk,hX,HX,HL,HR,HO,HB⟩:=hrel;clear M N;have zb:=HB.out.size;by_cases E:X<128
  ·have g1:=jb ((128:Int)<=X);have ac:=jb (128<=X);have c1:IntKind.u8.wrap (X:Int)=(X:Int):=oj;have j:Hid (done++ [X]=R):=md;go_wp2_with(at_builtin;refine fZ rfl (.tmp 15) (.tmp 18) 28 rfl w 5 j0 _ 1 1 underlying28 aa Z Q Y rfl ji _ _ _ nC (HO.out.alloc _) _ 1 1 [.int .u8 (X:Nat)] nC (Src.of_blk (g:=wr.heap.size) (Blk.made _ _ _) 1 1 1 rfl) mY qn nB p5 ?_;intro v4 w4 i L U);have J:Hid (w4.ownsRow w 5 1 v4 R.length (bZ .u8 R)):=nJ;have G:Hid (Below w w w4):=(cZ HB.out).grown L p5 (fun y hy=>(Ai HO.out y hy).1);go_ret;exact⟨_,rfl,J.out,G.out⟩
  ·have g1:=ja ((128:Int)<=X);have ac:=ja (128<=X);have c1:IntKind.u64.wrap (128+(X:Int) % 128)=((X % 128+128:Nat):Int):=pn;have c2:IntKind.u8.wrap ((X % 128+128:Nat):Int)=((X % 128+128:Nat):Int):=oj;have j:Hid ((done++ [X % 128+128])++gZ (X / 128)=R):=mf;obtain⟨ag,ab⟩:=M9 HX.out nB;have af:=hid ab;obtain⟨b,hb⟩:=jc (X % 128+128);rw[<-hb]at c1 c2 j;clear hb ab;go_wp2_with(at_builtin;refine fZ rfl (.tmp 6) (.tmp 11) 28 rfl w 5 j0 _ 1 1 underlying28 aa Z Q Y rfl ji _ _ _ nC (HO.out.alloc _) _ 1 1 [.int .u8 (b:Nat)] nC (Src.of_blk (g:=wr.heap.size) (Blk.made _ _ _) 1 1 1 rfl) mY qn nB p5 ?_;intro v4 w4 i L U);have ae:Hid (w4.ownsRow w 5 1 v4 (k+1) (bZ .u8 (done++ [b]))):=(by rw[He];exact i);have G:Hid (Below w w w4):=(cZ HB.out).grown L p5 (fun y hy=>(Ai HO.out y hy).1);exact⟨⟨X / 128,k+1,done++ [b],AM _ nB,nB,nB,af.out,pJ,j.out,ae.out,G.out⟩,qc⟩
def sB(s:ByteArray):List Nat:=s.data.toList.map UInt8.toNat
theorem LH(s:ByteArray):(sB s).length=s.size:=by unfold sB;rw[Bk,Array.length_toList];rfl
theorem We(s:ByteArray):∀x∈sB s,x<=255:=fun x hx=>by obtain⟨c,_,rfl⟩:=Cl.1 hx;have:=c.toNat_lt;omega
theorem lC(s:ByteArray):bZ .u8 (sB s)=Lib.strCells s:=by unfold bZ sB Lib.strCells;rw[List.map_map];rfl
def BY(s:ByteArray):List Nat:=gZ s.size++sB s
theorem QZ(s:ByteArray):∀x∈BY s,x<=255:=fun x hx=>by
 rcases Bx.1 hx with hx|hx
 ·exact Ev _ x hx
 ·exact We s x hx
theorem LF{s:ByteArray}(h:s.size<=100000):(BY s).length<=3+s.size/\s.size<(BY s).length:=by
 have h1:(gZ s.size).length<=3:=by
  by_cases h1:s.size<128
  ·rw[Fe h1];simp
  ·rw[Gd h1,AI];by_cases h2:s.size / 128<128
   ·rw[Fe h2];simp
   ·rw[Gd h2,Fe nB];simp
 have h2:1<=(gZ s.size).length:=by
  by_cases h1:s.size<128
  ·rw[Fe h1];simp
  ·rw[Gd h1,AI];omega
 unfold BY;rw[Aj,LH];omega
theorem kF:(prog.info? 5).map (fun i=>(i.zero,i.size,i.bytes))=some (some (.int .u8 0),1,1):=ni
theorem Mb(w:World)(s:ByteArray)(hs:s.size<=100000):
 Calls prog 131 #[.string s] w fun e w'=>∃v,e= .returned v/\w'.ownsRow w 5 1 v (BY s).length (bZ .u8 (BY s))/\Below w w w':=by
 obtain⟨j0,M,J,E,G⟩:=info_parts kF;have D:=hid (Fx w s.size nB);have hl:=sZ (x:=s.size) nB;have u1:IntKind.u64.wrap (s.size:Int)=(s.size:Int):=n4
 have HT:Hid (bZ .u8 (BY s)=bZ .u8 (gZ s.size)++Lib.strCells s/\(BY s).length=(gZ s.size).length+s.size):=⟨by rw[<-lC];simp[BY,bZ],by unfold BY;rw[Aj,LH]⟩;generalize BY s=T at *;generalize gZ s.size=X at *;obtain⟨k,hk⟩:=jc X.length;rw[<-hk]at D hl HT;clear hk;go_enter func131,ntmps131;go_wp2_with fail;refine D.out.mono ?_;rintro e w1 ⟨v,rfl,ho,hb⟩;have HO:=hid ho;have HB:=hid hb;have hz:=hb.size;clear ho hb D;go_wp2_with(at_builtin;refine Lib.wpList_append_own_string w1 rfl (.tmp 6) (.tmp 7) 28 9 rfl w 5 j0 underlying28 underlying9 M J E G _ k _ nC HO.out s nC qn nB hz ?_;intro v4 w4 h j i;have L:Hid (Below w w w4):=HB.out.grown j hz (fun y hy=>(Ai HO.out y hy).1);have N:Hid (w4.ownsRow w 5 1 v4 T.length (bZ .u8 T)):=(by rw[HT.out.1,HT.out.2];exact h);clear h j i);go_ret;exact⟨_,rfl,N.out,L.out⟩
end NumPut
namespace Recs
open Go.RowKit Mem Own Canon NumPut
open Nums (Uc)
open Block (wZ)
def CA(r:Rec):Prop:=0<=r.time/\r.time<18446744073709551616/\0<=r.level/\r.level<=255
def Ia(wh:Bool)(r:Rec):List Nat:=if wh=true then gZ r.time.toNat++ [r.level.toNat]else []
def CT(wh:Bool)(r:Rec):List Nat:=Ia wh r++(BY r.source++BY r.text)
theorem YE(wh:Bool){r:Rec}(h:CA r):(Ia wh r).length<=11:=by
 unfold Ia;split
 ·have:=sZ (x:=r.time.toNat) (by have:=h.1;have:=h.2.1;omega);rw[Aj];simp;omega
 ·simp
theorem jO(wh:Bool){r:Rec}(h:CA r):∀x∈Ia wh r,x<=255:=by
 unfold Ia;split
 ·intro x hx;rcases Bx.1 hx with hx|hx
  ·exact Ev _ x hx
  ·simp at hx;have:=h.2.2;omega
 ·intro x hx;cases hx
theorem jK(wh:Bool){r:Rec}(h:CA r):∀x∈CT wh r,x<=255:=fun x hx=>by
 unfold CT at hx;simp only[List.mem_append]at hx;rcases hx with hx|hx|hx
 ·exact jO wh h x hx
 ·exact QZ _ x hx
 ·exact QZ _ x hx
theorem QN(wh:Bool){r:Rec}(h:CA r)(hl:Cc r=false):(CT wh r).length<=17+r.source.size+r.text.size/\2<=(CT wh r).length:=by obtain⟨h1,h2⟩:=Hp hl;have a:=YE wh h;have b:=LF (s:=r.source) nB;have c:=LF (s:=r.text) nB;unfold CT;rw[Aj,Aj];omega
def Mj(wh:Bool)(r:Rec)(w:World)(e:Ending)(w':World):Prop:=
 ∃v,e= .returned v/\w'.ownsRow w 5 1 v (CT wh r).length (bZ .u8 (CT wh r))/\Below w w w'
theorem Ck{xs:List Value}(h:w.ownsRow base 5 1 (.slice A n c) n xs):Src w A n c 1 xs:=by
 obtain⟨h0,h1⟩:=h;refine⟨h0,?_⟩;rcases h1 with ⟨hv,_⟩|⟨g,E,cur,hv,_,hh,_,_,_,i⟩
 ·injection hv with e1 e2 e3;exact .inl ⟨e1,e2,e3⟩
 ·injection hv with e1 e2 e3;refine .inr ⟨⟨g,0,none⟩,e1,fun j u hu=> ?_⟩;rw[add_none,B0,Blk.cell hh];rw[<-i,Gn]at hu;split at hu
  ·simpa using hu
  ·cases hu
theorem QB(w:World)(wh:Bool)(r:Rec)(hr:CA r)(hl:Cc r=false):
 Calls prog 137 #[wh,r.val] w (Mj wh r w):=by
 obtain⟨j0,am,aj,ak,al⟩:=info_parts CW;obtain⟨h1,h2⟩:=Hp hl;obtain⟨t1,t2,l1,l2⟩:=hr;have b1:=LF (s:=r.source) nB;have b2:=LF (s:=r.text) nB;unfold Mj CT;obtain⟨tm,lv,j,i⟩:=r;obtain⟨t,rfl⟩:=If t1;obtain⟨l,rfl⟩:=If l1;unfold Rec.val;simp only at *;clear hl;have D1:=hid (fun wx=>Fx wx t nB);have D2:=hid (fun wx=>Mb wx j nB);have D3:=hid (fun wx=>Mb wx i nB);generalize BY j=T1 at *;generalize BY i=T2 at *;cases wh with
 |true=>
  have HH:Hid (Ia true ⟨(t:Nat),(l:Nat),j,i⟩=gZ t++ [l]):=rfl;have bq:=sZ (x:=t) nB;generalize Ia true ⟨(t:Nat),(l:Nat),j,i⟩=H at *;generalize gZ t=N1 at *;go_enter func137,ntmps137;go_wp2_with fail;have az:Blk (w.alloc (.cells #[.int .u64 t, .int .u8 l, .string j, .string i] 43)) w 43 #[.int .u64 t, .int .u8 l, .string j, .string i]:=Blk.made _ _ _;have ay:Below w w (w.alloc (.cells #[.int .u64 t, .int .u8 l, .string j, .string i] 43)):=cZ (Ak _ _);generalize w.alloc (.cells #[.int .u64 t, .int .u8 l, .string j, .string i] 43)=wa at *;have ax:=hid az;have ah:=hid ay;clear az ay;refine(D1.out _).mono ?_;rintro e w1 ⟨v1,rfl,a9,bc⟩;obtain⟨A1,c1,rfl⟩:=aZ a9;have bi:=hid bc;have bg:Hid (Src w1 A1 N1.length c1 1 (bZ .u8 N1)):=Ck a9;have be:Hid (w1.ownsRow wa 5 1 (.slice none 0 0) 0 []):=AE _ _ _ _;have bb:=bc.size;clear a9 bc D1;go_wp2_with(first|(at_builtin;refine fZ rfl (.tmp 7) (.tmp 10) 28 rfl wa 5 j0 _ 1 1 underlying28 am aj ak al rfl ji _ _ _ nC be.out _ _ _ _ nC bg.out (qZ _ _) qn nB bb ?_;intro v2 w2 av bn bh;have a3:Hid (Below wa wa w2):=bi.out.grown bn bb (fun y hy=>(Ai be.out y hy).1);have ba:Hid (w2.ownsRow wa 5 1 v2 N1.length (bZ .u8 N1)):=(by have h:=av;rw[B0]at h;exact h);have bj:=a3.out.size;have k1:w2.cell? ⟨w,1,none⟩=some (.int .u8 l):=(ax.out.step a3.out).cell 1;clear av bn bh be bg bi bb)|(at_builtin;refine fZ rfl (.tmp 12) (.tmp 15) 28 rfl wa 5 j0 _ 1 1 underlying28 am aj ak al rfl ji _ _ _ nC (ba.out.alloc _) _ 1 1 [.int .u8 l] nC (Src.of_blk (g:=w2.heap.size) (Blk.made _ _ _) 1 1 1 rfl) mY qn nB p5 ?_;intro V4 w4 a1 bk bm;have L:Hid (Below wa wa w4):=(a3.out.alloc bj _).grown bk p5 (fun y hy=>(Ai ba.out y hy).1);have a4:Hid (w4.ownsRow wa 5 1 V4 (N1.length+1) (bZ .u8 N1++ [.int .u8 l])):=a1;have k2:w4.cell? ⟨w,2,none⟩=some (.string j):=(ax.out.step L.out).cell 2;clear a1 bk bm ba a3 bj k1));obtain⟨h0,Q⟩:=jc (N1.length+1);have bl:h0<=11:=nB
  have a5:Hid (H.length=h0):=by show _=_;rw[Q,HH.out,Aj];rfl
  have Y:Hid (w4.ownsRow wa 5 1 V4 h0 (bZ .u8 H)):=by rw[Q,HH.out,He];exact a4.out
  clear Q a4 HH;refine(D2.out _).mono ?_;rintro e w5 ⟨v5,rfl,M,N⟩;obtain⟨A5,c5,rfl⟩:=aZ M;have au:Hid (Src w5 A5 T1.length c5 1 (bZ .u8 T1)):=Ck M;have U:Hid (Below wa wa w5):=zZ N L.out.size L.out;have Z:Hid (w5.ownsRow wa 5 1 V4 h0 (bZ .u8 H)):=eZ Y.out (fun y hy=>N.block y (Ai Y.out y hy).2);have aa:=U.out.size;clear M N Y L k2;go_wp2_with(at_builtin;refine fZ rfl (.tmp 17) (.tmp 20) 28 rfl wa 5 j0 _ 1 1 underlying28 am aj ak al rfl ji _ _ _ nC Z.out _ _ _ _ nC au.out (qZ _ _) qn nB aa ?_;intro v6 w6 E aq an;have J:Hid (Below wa wa w6):=U.out.grown aq aa (fun y hy=>(Ai Z.out y hy).1);have af:Hid (w6.ownsRow wa 5 1 v6 (h0+T1.length) (bZ .u8 H++bZ .u8 T1)):=E;have k3:w6.cell? ⟨w,3,none⟩=some (.string i):=(ax.out.step J.out).cell 3;clear E aq an Z au U aa);refine(D3.out _).mono ?_;rintro e w7 ⟨v7,rfl,ag,ai⟩;obtain⟨A7,c7,rfl⟩:=aZ ag;have ar:Hid (Src w7 A7 T2.length c7 1 (bZ .u8 T2)):=Ck ag;have ac:Hid (Below wa wa w7):=zZ ai J.out.size J.out;have ab:Hid (w7.ownsRow wa 5 1 v6 (h0+T1.length) (bZ .u8 H++bZ .u8 T1)):=eZ af.out (fun y hy=>ai.block y (Ai af.out y hy).2);have ae:=ac.out.size;clear ag ai af J k3;go_wp2_with(at_builtin;refine fZ rfl (.tmp 22) (.tmp 25) 28 rfl wa 5 j0 _ 1 1 underlying28 am aj ak al rfl ji _ _ _ nC ab.out _ _ _ _ nC ar.out (qZ _ _) qn nB ae ?_;intro v8 w8 G a0 aw;have bd:Hid (Below wa wa w8):=ac.out.grown a0 ae (fun y hy=>(Ai ab.out y hy).1);have a6:Hid (w8.ownsRow wa 5 1 v8 (h0+T1.length+T2.length) (bZ .u8 H++bZ .u8 T1++bZ .u8 T2)):=G;clear G a0 aw ab ar ac ae);go_ret;refine⟨_,rfl,?_,ah.out.trans (bd.out.mono ah.out.size)⟩;have h:=lZ a6.out ah.out.size;have e1:(H++(T1++T2)).length=h0+T1.length+T2.length:=by rw[Aj,Aj,a5.out];omega
  have e2:bZ .u8 (H++(T1++T2))=bZ .u8 H++bZ .u8 T1++bZ .u8 T2:=p7
  rw[e1,e2];exact h
 |false=>
  have bf:Ia false ⟨(t:Nat),(l:Nat),j,i⟩= []:=rfl;rw[bf];obtain⟨H,hH⟩:∃H:List Nat,H= []:=⟨_,rfl⟩;obtain⟨h0,Q⟩:∃h0:Nat,h0=0:=⟨_,rfl⟩;have a5:Hid (H.length=h0):=by show _=_;rw[hH,Q];rfl
  have bl:h0<=11:=nB
  have bp:Hid (∀wx B,World.ownsRow wx B 5 1 (.slice none 0 0) h0 (bZ .u8 H)):=fun wx B=>by rw[hH,Q];exact AE _ _ _ _
  rw[<-hH];clear bf D1 hH Q;go_enter func137,ntmps137;go_wp2_with fail;have az:Blk (w.alloc (.cells #[.int .u64 t, .int .u8 l, .string j, .string i] 43)) w 43 #[.int .u64 t, .int .u8 l, .string j, .string i]:=Blk.made _ _ _;have ay:Below w w (w.alloc (.cells #[.int .u64 t, .int .u8 l, .string j, .string i] 43)):=cZ (Ak _ _);generalize w.alloc (.cells #[.int .u64 t, .int .u8 l, .string j, .string i] 43)=wa at *;have ax:=hid az;have ah:=hid ay;clear az ay;have Y:Hid (wa.ownsRow wa 5 1 (.slice none 0 0) h0 (bZ .u8 H)):=bp.out _ _;have L:Hid (Below wa wa wa):=Ak _ _;have k2:True:=trivial;refine(D2.out _).mono ?_;rintro e w5 ⟨v5,rfl,M,N⟩;obtain⟨A5,c5,rfl⟩:=aZ M;have au:Hid (Src w5 A5 T1.length c5 1 (bZ .u8 T1)):=Ck M;have U:Hid (Below wa wa w5):=zZ N L.out.size L.out;have Z:Hid (w5.ownsRow wa 5 1 (.slice none 0 0) h0 (bZ .u8 H)):=eZ Y.out (fun y hy=>N.block y (Ai Y.out y hy).2);have aa:=U.out.size;clear M N Y L k2;go_wp2_with(at_builtin;refine fZ rfl (.tmp 17) (.tmp 20) 28 rfl wa 5 j0 _ 1 1 underlying28 am aj ak al rfl ji _ _ _ nC Z.out _ _ _ _ nC au.out (qZ _ _) qn nB aa ?_;intro v6 w6 E aq an;have J:Hid (Below wa wa w6):=U.out.grown aq aa (fun y hy=>(Ai Z.out y hy).1);have af:Hid (w6.ownsRow wa 5 1 v6 (h0+T1.length) (bZ .u8 H++bZ .u8 T1)):=E;have k3:w6.cell? ⟨w,3,none⟩=some (.string i):=(ax.out.step J.out).cell 3;clear E aq an Z au U aa);refine(D3.out _).mono ?_;rintro e w7 ⟨v7,rfl,ag,ai⟩;obtain⟨A7,c7,rfl⟩:=aZ ag;have ar:Hid (Src w7 A7 T2.length c7 1 (bZ .u8 T2)):=Ck ag;have ac:Hid (Below wa wa w7):=zZ ai J.out.size J.out;have ab:Hid (w7.ownsRow wa 5 1 v6 (h0+T1.length) (bZ .u8 H++bZ .u8 T1)):=eZ af.out (fun y hy=>ai.block y (Ai af.out y hy).2);have ae:=ac.out.size;clear ag ai af J k3;go_wp2_with(at_builtin;refine fZ rfl (.tmp 22) (.tmp 25) 28 rfl wa 5 j0 _ 1 1 underlying28 am aj ak al rfl ji _ _ _ nC ab.out _ _ _ _ nC ar.out (qZ _ _) qn nB ae ?_;intro v8 w8 G a0 aw;have bd:Hid (Below wa wa w8):=ac.out.grown a0 ae (fun y hy=>(Ai ab.out y hy).1);have a6:Hid (w8.ownsRow wa 5 1 v8 (h0+T1.length+T2.length) (bZ .u8 H++bZ .u8 T1++bZ .u8 T2)):=G;clear G a0 aw ab ar ac ae);go_ret;refine⟨_,rfl,?_,ah.out.trans (bd.out.mono ah.out.size)⟩;have h:=lZ a6.out ah.out.size;have e1:(H++(T1++T2)).length=h0+T1.length+T2.length:=by rw[Aj,Aj,a5.out];omega
  have e2:bZ .u8 (H++(T1++T2))=bZ .u8 H++bZ .u8 T1++bZ .u8 T2:=p7
  rw[e1,e2];exact h
end Recs
namespace Recs
open Go.RowKit Mem Own Canon NumPut
open Block (wZ)
def Bi(wh:Bool)(l:List Rec):List Nat:=l.flatMap (CT wh)
theorem Xw{l:List Rec}{r:Rec}(hr:l[k]? =some r):Bi wh (l.take (k+1))=Bi wh (l.take k)++CT wh r:=by unfold Bi;rw[Ca,hr,I9];simp
theorem Pv(wh:Bool){l:List Rec}(h:∀r∈l,CA r):∀x∈Bi wh l,x<=255:=fun x hx=>by obtain⟨r,hr,hx⟩:=List.mem_flatMap.1 hx;exact jK wh (h r hr) x hx
theorem Xd(wh:Bool)(l:List Rec)(k:Nat):(Bi wh (l.take k)).length<=(Bi wh l).length:=by
 conv=>rhs;rw[<-EX k l]
 unfold Bi;rw[I9,Aj];omega
def BytesPost(wh:Bool)(l:List Rec)(w:World)(e:Ending)(w':World):Prop:=
 ∃v,e= .returned v/\w'.ownsRow w 5 1 v (Bi wh l).length (bZ .u8 (Bi wh l))/\Below w w w'
theorem rbytes_any(w:World)(wh:Bool)(A:Option Addr)(n c:Nat)(l:List Rec)(hn:l.length=n)(hN:n<=9223372036854775807)(N:∀r∈l,CA r)(hl:∀r∈l,Cc r=false)(hb:(Bi wh l).length<=1000000000)(ha:Row w w A n 4 (Cp l)):
 Calls prog 76 #[wh, .slice A n c] w (BytesPost wh l w):=by
 obtain⟨j0,ai,ac,aa,ab⟩:=info_parts CW;have HN:=hid hn;have HM:=hid (fun k=>Bm (Xd wh l k) hb);have HD:=hid (fun wx r (h:r∈l)=>QB wx wh r (N r h) (hl r h));unfold Mj at HD;unfold BytesPost;clear hn N hl hb;go_enter func76,ntmps76;go_wp2_with fail;go_loopw [5,6] (fun u i wr=>∃ (k q:Nat),k<=n/\q<=1000000000/\i= .int .i64 k/\Hid ((Bi wh (l.take k)).length=q)/\Hid (wr.ownsRow w 5 1 u q (bZ .u8 (Bi wh (l.take k))))/\Hid (Below w w wr)) (fun _ i _=>n-(intOf i).toNat)
 case atStart=>exact⟨0,0,nB,nB,rfl,rfl,AE _ _ _ _,Ak _ _⟩
 case round=>
  obtain⟨k,q,hk,hq,rfl,HQ,HO,HB⟩:=hrel;have hz:=HB.out.size;by_cases ag:k<n
  ·obtain⟨b,al,r,rfl,ak,hg,c0,c1,c2,c3⟩:=Row.rec (ha.below HB.out) HN.out ag;have D:=hid (fun wx=>HD.out wx r (AY hg));have HT:=hid (Xw (wh:=wh) hg);have Y:q+(CT wh r).length<=1000000000:=(by have h:=HM.out (k+1);rw[HT.out,Aj,HQ.out]at h;exact h);have Z:(CT wh r).length<=1000000000:=nB;unfold Rec.val at D;have x0:(0:Int)<=(k:Int):=nB;have x1:(k:Int)<(n:Int):=nB;generalize CT wh r=O at *;obtain⟨m,hm⟩:=jc O.length;rw[<-hm]at D Y Z;have ae:=hid hm;clear hg hm;go_wp2_with fail;refine(D.out _).mono ?_;rintro e w1 ⟨v1,rfl,E,G⟩;obtain⟨A1,d1,rfl⟩:=aZ E;have ah:Hid (Src w1 A1 m d1 1 (bZ .u8 O)):=Ck E;have J:Hid (Below w w w1):=dZ G HB.out;have Q:Hid (w1.ownsRow w 5 1 u5 q (bZ .u8 (Bi wh (l.take k)))):=eZ HO.out (fun y hy=>G.block y (Ai HO.out y hy).2);have M:=J.out.size;clear E G D c0 c1 c2 c3 HO HB;go_wp2_with(at_builtin;refine fZ rfl (.tmp 13) (.tmp 19) 28 rfl w 5 j0 _ 1 1 underlying28 ai ac aa ab rfl ji _ _ _ nC Q.out _ _ _ _ nC ah.out (qZ _ _) qn nB M ?_;intro v4 w4 j U L);have af:Hid (Below w w w4):=J.out.grown U M (fun y hy=>(Ai Q.out y hy).1);have aj:Hid (w4.ownsRow w 5 1 v4 (q+m) (bZ .u8 (Bi wh (l.take (k+1))))):=(by rw[HT.out,show bZ .u8 (Bi wh (l.take k)++O)=bZ .u8 (Bi wh (l.take k))++bZ .u8 O by simp[bZ]];exact j);clear j U L;go_roundw
   case measure=>exact ld
   case rel=>go_light;exact⟨k+1,q+m,nB,Y,jk,by show _=_;rw[HT.out,Aj,HQ.out,ae.out],aj.out,af.out⟩
  ·obtain rfl:k=n:=by omega
   have h1:l.take k=l:=Bp oz;rw[h1]at HQ HO;clear h1;go_wp2_with fail;go_ret;exact⟨_,rfl,by rw[HQ.out];exact HO.out,HB.out⟩
end Recs
namespace Recs
open Go.RowKit Mem Own Canon NumPut
def goG(S:Nat):Nat->Nat->List Nat->List Nat
 |_,c,[]=> [c]
 |h,c,x :: t=>if S<h+x then c :: goG S x 1 t else goG S (h+x) (c+1) t
def Fo(S:Nat):List Nat->List Nat
 | []=> []
 |x :: t=>goG S x 1 t
def Eb(wh:Bool)(l:List Rec):List Nat:=l.map fun r=>(CT wh r).length
theorem Pp{l:List Rec}{r:Rec}(hr:l[k]? =some r):(Eb wh l).drop k=(CT wh r).length :: (Eb wh l).drop (k+1):=by
 obtain⟨hk,e⟩:=BS.1 hr;have h:k<(Eb wh l).length:=by unfold Eb;rw[Bk];exact hk
 rw[Dx h];congr 1;simp[Eb,e]
theorem Yn{l:List Rec}(hn:l.length=n):(Eb wh l).drop n= []:=CF (by unfold Eb;rw[Bk];omega)
theorem X4:(prog.info? 3).map (fun i=>(i.zero,i.size,i.bytes))=some (some (.int .i64 0),1,8):=ni
def JL(S:Nat)(wh:Bool)(l:List Rec)(w:World)(e:Ending)(w':World):Prop:=
 ∃v,e= .returned v/\w'.ownsRow w 3 1 v (Fo S (Eb wh l)).length (bZ .i64 (Fo S (Eb wh l)))/\Below w w w'
theorem WQ(w:World)(S:Nat)(wh:Bool)(A:Option Addr)(n c:Nat)(l:List Rec)(hS:1<=S)(bl:S<=1000000)(hn:l.length=n)(hN:n<=1000000)(an:∀r∈l,CA r)(hl:∀r∈l,Cc r=false)(ha:Row w w A n 4 (Cp l)):
 Calls prog 74 #[S,wh, .slice A n c] w (JL S wh l w):=by
 obtain⟨j0,a6,az,a4,a5⟩:=info_parts X4;have HN:=hid hn;have HX:=hid (fun r (h:r∈l)=>(QN wh (an r h) (hl r h)).1);have a9:=hid (fun r (h:r∈l)=>Hp (hl r h));have HD:=hid (fun wx r (h:r∈l)=>QB wx wh r (an r h) (hl r h));have HE:=hid (Yn (wh:=wh) hn);unfold Mj at HD;unfold JL;obtain⟨R,hR⟩:=jc (Fo S (Eb wh l));have HR:=hid hR;rw[<-hR];have g0:=jb ((S:Int)<1)
 have bj:=jb (S<1)
 clear hn an hl hR;go_enter func74,ntmps74;go_wp2_with fail;go_loopw [7,8] (fun u i wr=>∃ (k:Nat) (done:List Nat),k<=n/\done.length<=k/\i= .int .i64 k/\Hid (done++Fo S ((Eb wh l).drop k)=R)/\Hid (wr.ownsRow w 3 1 u done.length (bZ .i64 done))/\Hid (Below w w wr)) (fun _ i _=>n-(intOf i).toNat)
 case atStart=>exact⟨0,[],nB,pR,rfl,HR.out.symm,AE _ _ _ _,Ak _ _⟩
 case round=>
  obtain⟨k,done,hk,bp,rfl,HG,HO,HB⟩:=hrel;obtain⟨w0,rfl⟩:=jc wr;have hz:=HB.out.size;by_cases be:k<n
  ·obtain⟨b,E,r,rfl,J,hg,c0,c1,c2,c3⟩:=Row.rec (ha.below HB.out) HN.out be;have D:=hid (fun wx=>HD.out wx r (AY hg));unfold Rec.val at D;have hx:=HX.out r (AY hg);have ah:=a9.out r (AY hg);have ak:Hid (done++goG S (CT wh r).length 1 ((Eb wh l).drop (k+1))=R):=(by have h:=HG.out;rw[Pp hg,Fo]at h;exact h);have x0:(0:Int)<=(k:Int):=nB;have x1:(k:Int)<(n:Int):=nB;have ai:(CT wh r).length<=8017:=nB;generalize CT wh r=O at *;obtain⟨s0,a3⟩:=jc O.length;rw[<-a3]at D ai ak;clear hg hx ah a3 HG;go_wp2_with fail;refine(D.out _).mono ?_;rintro e w1 ⟨v1,rfl,aw,am⟩;obtain⟨A1,d1,rfl⟩:=aZ aw;have ax:Hid (Below w w w1):=dZ am HB.out;have a1:Hid (w1.ownsRow w 3 1 u7 done.length (bZ .i64 done)):=eZ HO.out (fun y hy=>am.block y (Ai HO.out y hy).2);clear aw am D c0 c1 c2 c3 HO HB hz;go_wp2_with fail;go_loopw [9,10] (fun mv sv wx=>∃ (m s:Nat),1<=m/\k+m<=n/\s<=1010000/\mv= .int .i64 m/\sv= .int .i64 s/\Hid (done++goG S s m ((Eb wh l).drop (k+m))=R)/\Hid (wx.ownsRow w 3 1 u7 done.length (bZ .i64 done))/\Hid (Below w w wx)) (fun mv _ _=>n-(intOf mv).toNat)
   case atStart=>exact⟨1,s0,nB,nB,nB,rfl,rfl,ak.out,a1.out,ax.out⟩
   case round=>
    clear a1 ax ak;obtain⟨m,s,bk,bm,hs,rfl,rfl,HG,HO,HB⟩:=hrel;obtain⟨km,N⟩:=jc (k+m);rw[<-N]at HG;have t1:IntKind.i64.wrap ((k:Int)+(m:Int))=(km:Int):=nX;have hz:=HB.out.size;by_cases a0:km<n
    ·obtain⟨b2,bi,r2,aq,bh,hg,c0,c1,c2,c3⟩:=Row.rec (ha.below HB.out) HN.out a0;injection aq with aq;injection aq with e1 e2;subst e1 e2;have gk:=ja ((km:Int)<n);have bf:=ja (km<n);have D:=hid (fun wx=>HD.out wx r2 (AY hg));unfold Rec.val at D;have hx:=HX.out r2 (AY hg);have ah:=a9.out r2 (AY hg);have hG:=HG.out;rw[Pp hg,goG]at hG;have y0:(0:Int)<=(km:Int):=nB;have y1:(km:Int)<(n:Int):=nB;have ai:(CT wh r2).length<=8017:=nB;have ae:Hid (Fo S ((Eb wh l).drop km)=goG S (CT wh r2).length 1 ((Eb wh l).drop (km+1))):=by show _=_;rw[Pp hg,Fo]
     have HC:Hid (∀wx,Below w w wx->wx.cell? ⟨b,E+km*4,none⟩=some (.int .u64 r2.time)/\wx.cell? ⟨b,E+km*4+1,none⟩=some (.int .u8 r2.level)/\wx.cell? ⟨b,E+km*4+2,none⟩=some (.string r2.source)/\wx.cell? ⟨b,E+km*4+3,none⟩=some (.string r2.text)):=fun wx h=>by have e0:=HB.out.cell (p:=⟨b,E+km*4,none⟩) J;have e1:=HB.out.cell (p:=⟨b,E+km*4+1,none⟩) J;have e2:=HB.out.cell (p:=⟨b,E+km*4+2,none⟩) J;have e3:=HB.out.cell (p:=⟨b,E+km*4+3,none⟩) J;exact⟨(h.cell (p:=⟨b,_,none⟩) J).trans (e0.symm.trans c0),(h.cell (p:=⟨b,_,none⟩) J).trans (e1.symm.trans c1),(h.cell (p:=⟨b,_,none⟩) J).trans (e2.symm.trans c2),(h.cell (p:=⟨b,_,none⟩) J).trans (e3.symm.trans c3)⟩
     generalize CT wh r2=O2 at *;obtain⟨x,av⟩:=jc O2.length;rw[<-av]at D ai hG ae;have t2:IntKind.i64.wrap ((s:Int)+(x:Int))=((s+x:Nat):Int):=nX;clear hg hx ah av;by_cases hf:S<s+x
     ·rw[Ag hf]at hG;rw[<-ae.out]at hG;have G:=hid hG;have gs:=jb (((s+x:Nat):Int)<=(S:Int));obtain⟨sx,aa⟩:=jc (s+x);rw[<-aa]at t2 gs;have ba:decide (sx<=S)=false:=(by simpa using gs);have t3:IntKind.i64.wrap ((k:Int)+(m:Int))=(km:Int):=t1;have ab:km<=n:=nB;have M:=hid N;clear hG HG hf aa ae N;go_wp2_with fail;refine(D.out _).mono ?_;rintro e w2 ⟨v2,rfl,Z,L⟩;obtain⟨A2,d2,rfl⟩:=aZ Z;have Q:Hid (Below w w w2):=dZ L HB.out;have U:Hid (w2.ownsRow w 3 1 u7 done.length (bZ .i64 done)):=eZ HO.out (fun y hy=>L.block y (Ai HO.out y hy).2);have bn:=Q.out.size;clear Z L D c0 c1 c2 c3 HO HB hz HC;go_wp2_with(at_builtin;refine fZ rfl (.tmp 58) (.tmp 60) 37 rfl w 3 j0 _ 1 8 underlying37 a6 az a4 a5 rfl ji _ _ _ nC (U.out.alloc _) _ 1 1 [.int .i64 (m:Nat)] nC (Src.of_blk (g:=w2.heap.size) (Blk.made _ _ _) 1 1 1 rfl) mY qn nB p5 ?_;intro v4 w4 j Y ac);have au:Hid (Below w w w4):=(cZ Q.out).grown Y p5 (fun y hy=>(Ai U.out y hy).1);have aj:Hid (w4.ownsRow w 3 1 v4 (done++ [m]).length (bZ .i64 (done++ [m]))):=(by rw[Aj,He];exact j);clear j Y ac;go_roundw
      case measure=>go_light;have:=M.out;simp[intOf];omega
      case rel=>go_light;exact⟨km,done++ [m],ab,by rw[Aj];simp;have:=M.out;omega,jk,by show _=_;rw[AK];exact G.out,aj.out,au.out⟩
     ·rw[Ae hf]at hG;have G:=hid hG;have gs:=ja (((s+x:Nat):Int)<=(S:Int));have ag:s+x<=1010000:=nB;obtain⟨sx,aa⟩:=jc (s+x);rw[<-aa]at t2 gs G ag;have ba:decide (sx<=S)=true:=(by simpa using gs);have t4:IntKind.i64.wrap ((m:Int)+1)=((m+1:Nat):Int):=nX;have M:=hid N;have bd:k+(m+1)<=n:=nB;clear hG HG hf aa ae N;go_wp2_with fail;refine(D.out _).mono ?_;rintro e w2 ⟨v2,rfl,Z,L⟩;obtain⟨A2,d2,rfl⟩:=aZ Z;have Q:Hid (Below w w w2):=dZ L HB.out;have U:Hid (w2.ownsRow w 3 1 u7 done.length (bZ .i64 done)):=eZ HO.out (fun y hy=>L.block y (Ai HO.out y hy).2);obtain⟨k0,k1,k2,k3⟩:=HC.out w2 Q.out;clear Z L c0 c1 c2 c3 HO HB hz;go_wp2_with fail;refine(D.out _).mono ?_;rintro e w3 ⟨v3,rfl,ay,ar⟩;obtain⟨A3,d3,rfl⟩:=aZ ay;have bc:Hid (Below w w w3):=dZ ar Q.out;have bb:Hid (w3.ownsRow w 3 1 u7 done.length (bZ .i64 done)):=eZ U.out (fun y hy=>ar.block y (Ai U.out y hy).2);clear ay ar D k0 k1 k2 k3 U Q HC;go_wp2_with fail;go_roundw
      case measure=>exact ld
      case rel=>go_light;exact⟨m+1,sx,nB,bd,ag,jk,jk,by show _=_;rw[show k+(m+1)=km+1 by have:=M.out;omega];exact G.out,bb.out,bc.out⟩
    ·have al:km=n:=nB;have gk:=jb ((km:Int)<n);have bf:=jb (km<n);have hG:=HG.out;rw[al,HE.out,goG]at hG;have G:Hid (done++ [m]=R):=hG;have af:k+m=n:=nB;have bq:=hid af;have ab:km<=n:=nB;have M:=hid N;have bg:=hid al;clear hG HG N al af;go_wp2_with(at_builtin;refine fZ rfl (.tmp 58) (.tmp 60) 37 rfl w 3 j0 _ 1 8 underlying37 a6 az a4 a5 rfl ji _ _ _ nC (HO.out.alloc _) _ 1 1 [.int .i64 (m:Nat)] nC (Src.of_blk (g:=wr.heap.size) (Blk.made _ _ _) 1 1 1 rfl) mY qn nB p5 ?_;intro v4 w4 j Y ac);have au:Hid (Below w w w4):=(cZ HB.out).grown Y p5 (fun y hy=>(Ai HO.out y hy).1);have aj:Hid (w4.ownsRow w 3 1 v4 (done++ [m]).length (bZ .i64 (done++ [m]))):=(by rw[Aj,He];exact j);clear j Y ac;go_roundw
     case measure=>go_light;have:=M.out;simp[intOf];omega
     case rel=>go_light;exact⟨km,done++ [m],ab,by rw[Aj];simp;have:=M.out;omega,jk,by show _=_;rw[bg.out,HE.out,Fo,Cx];exact G.out,aj.out,au.out⟩
  ·obtain rfl:k=n:=by omega
   have hG:=HG.out;rw[HE.out,Fo,Cx]at hG;have G:=hid hG;clear hG HG;go_wp2_with fail;go_ret;exact⟨_,rfl,by rw[<-G.out];exact HO.out,HB.out⟩
end Recs
namespace Nums
open Go.RowKit Mem Own Canon NumPut
open Crc (Fy GO FB)
def FY(ls:List Nat):ByteArray:=⟨(ls.map UInt8.ofNat).toArray⟩
theorem iW(s:ByteArray):FY (sB s)=s:=by
 unfold sB FY;simp only[List.map_map];have:(UInt8.ofNat ∘ UInt8.toNat)=id:=by funext x;simp
 rw[this];simp
theorem iA(hr:Row w B A n 1 (kZ .u8 ls))(hn:ls.length=n):
 (convert 28 9 (.slice A n c)).run prog w= .ok (.string (FY ls)) w:=by
 have e:FY ls=strOfNums (ls.map Int.ofNat):=by unfold FY strOfNums;rw[List.map_map];rfl
 rcases Nat.eq_zero_or_pos n with h0|h0
 ·subst h0;obtain rfl:=LL.1 hn;cases A with
  |none=>exact run_convert_bytes_nil w _ _ underlying28 underlying5 _ _ _ underlying9
  |some a=>rw[run_convert_bytes_string w _ _ _ _ _ _ underlying28 underlying5 underlying9];rw[run_bytesToString w a 0 c [] (run_loadCells_list (P:=prog) w a [] (fun j v hj=>by cases hj))];rfl
 ·obtain⟨b,h,rfl,_,hc⟩:=hr h0;rw[e];refine run_convert_bytes_arg w _ _ underlying28 underlying5 b h n c (ls.map Int.ofNat) (by simpa using hn) (fun i hi=> ?_) _ underlying9;have:=hc i 0 hi nB;rw[EK,Cw]at this;rw[this];unfold kZ;congr 2;simp[List.getD_eq_getElem?_getD,List.getElem?_map,List.getElem?_eq_getElem (show i<ls.length by omega)]
theorem left_any(w:World)(g base:Nat)(bs:List Nat)(A:Option Addr)(c at_:Nat)(er:Int)(h:Cur w g base bs A c at_ er):
 Calls prog 191 #[.pointer (some ⟨g,0,none⟩)] w fun e w'=>e= .returned (.int .i64 (bs.length-at_:Nat))/\∃q,w'=w.drewN q:=by
 have D:=hid (rest_any w g base bs A c at_ er h);clear h;generalize bs.length-at_=m at *;go_enter func191,ntmps191;go_wp2_with fail;refine D.out.mono ?_;rintro e w2 ⟨rfl,q,rfl⟩;go_wp2_with fail;go_ret;exact⟨rfl,q,rfl⟩
theorem Wx(w:World)(g base ob:Nat)(bs:List Nat)(A:Option Addr)(c at_:Nat)(M:bs.length<=100000)(h8:∀x∈bs,x<=255)(h:Cur w g base bs A c at_ 0)(i:Blk w ob 41 #[.int .u64 0]):
 Calls prog 292 #[.slice (Ba A at_ c 1) (bs.length-at_) (c-at_), .pointer (some ⟨ob,0,none⟩)] w fun e w'=>∃ (k:Nat) (e2:Int),e= .returned (.tuple #[.int .i64 k,e2])/\k<=100000/\Cur w' g base bs A c at_ 0/\
  (Kept (fun x=>x≠ob) w w'/\k=(Bt (bs.drop at_) 0 0).2.1/\e2=(Bt (bs.drop at_) 0 0).2.2/\Blk w' ob 41 #[.int .u64 (Bt (bs.drop at_) 0 0).1]):=by
 have f1:=i.frozen 0;have d1:=i.iy 0;have G:=Ew h.own;have j:=Fy (own_row h.own) h.le G.2;have E:∀x∈bs.drop at_,x<=255:=fun x hx=>h8 x (Cg hx);have D:=U1 w (Ba A at_ c 1) (bs.length-at_) (c-at_) (bs.drop at_) (by rw[AZ]) nB E j;have J:=JP (bs.drop at_) 0 0 E nB pR;have hk:(Bt (bs.drop at_) 0 0).2.1<=100000:=by have:=J.2.1;rw[AZ]at this;omega
 generalize Bt (bs.drop at_) 0 0=R at *;have L:=Blk.apart i h.blk ji;have D:=hid D;have H:=hid h;have HO:=hid i;generalize Ba A at_ c 1=A1 at *;clear j E J h i G;go_enter func292,ntmps292;go_wp2_with fail;refine D.out.mono ?_;rintro e w1 ⟨rfl,rfl⟩;go_wp2_with fail;go_ret2;refine⟨R.2.1,R.2.2,rfl,hk,?_,(Kept.refl _ _).set (fun h=>h rfl) _,rfl,rfl,HO.out.set 0 _⟩;exact⟨H.out.blk.far (fun e=>L e.symm) _,Cb H.out.own (iZ H.out.own HO.out ji) _,H.out.le,H.out.lo⟩
theorem num_any(w:World)(g base:Nat)(bs:List Nat)(A:Option Addr)(c at_:Nat)(er:Int)(ab:bs.length<=100000)(h8:∀x∈bs,x<=255)(h:Cur w g base bs A c at_ er):
 Calls prog 243 #[.pointer (some ⟨g,0,none⟩)] w fun e w'=>e= .returned (.int .u64 (H5 bs at_ er:Nat))/\Cur w' g base bs A c (IJ bs at_ er) (II bs at_ er)/\Kept (BL g w) w w':=by
 have aj:=h.blk.lt;have h2:Cur (w.alloc (.cells #[.int .u64 0] 41)) g base bs A c at_ er:=(h.step (cZ (Ak _ _)));have M:Blk (w.alloc (.cells #[.int .u64 0] 41)) w 41 #[.int .u64 0]:=Blk.made _ _ _;have U:Kept (fun x=>x<w.heap.size/\x≠g) w (w.alloc (.cells #[.int .u64 0] 41)):=Kept.of_below (by(repeat (with_reducible first|exact Ak _ _|assumption|refine Aw ?_ |refine below_drewN ?_ _|refine oZ ?_ |refine cZ ?_ |refine dZ jf ?_ |refine belA ?_ |refine pZ jf ?_)):Below w w _) (fun x hx=>hx.1);have ai:=h.le;unfold BL;by_cases he:er=0
 ·subst he;have af:∀N wx,(callFunc 292 N).run prog wx= .ok (.enter 292 N) wx:=by intro N wx;simp[callFunc,go_sem,func292];rfl
  have D:=fun w2 (hc2:Cur w2 g base bs A c at_ 0) (M:Blk w2 w 41 #[.int .u64 0])=>MW w2 g base bs A c at_ hc2 ab 292 #[.pointer (some ⟨w,0,none⟩)]
   (fun k e2 w'=>Kept (fun x=>x≠w.heap.size) w2 w'/\k=(Bt (bs.drop at_) 0 0).2.1/\e2=(Bt (bs.drop at_) 0 0).2.2/\Blk w' w 41 #[.int .u64 (Bt (bs.drop at_) 0 0).1]) af
   (fun q=>(Wx (w2.drewN q) g base w bs A c at_ ab h8 (hc2.drewN q) (M.drewN q)).mono fun e w' ⟨k,e2,h1,h2,h3,h4⟩=>⟨k,e2,h1,h2,h3,⟨⟨h4.1.os,h4.1.tape,h4.1.output,h4.1.size,h4.1.block⟩,h4.2⟩⟩)
  have D:=hid (D _ h2 M);have ac:∀x∈bs.drop at_,x<=255:=fun x hx=>h8 x (Cg hx);have Z:=JP (bs.drop at_) 0 0 ac nB pR;rw[AZ]at Z;have eV:H5 bs at_ 0=(Bt (bs.drop at_) 0 0).1:=Ae pR;have eA:IJ bs at_ 0=at_+(Bt (bs.drop at_) 0 0).2.1:=Ae pR;have eE:II bs at_ 0=(Bt (bs.drop at_) 0 0).2.2:=Ae pR;rw[eV,eA,eE];generalize Bt (bs.drop at_) 0 0=R at *;have HK:=hid U;have ag:w.heap.size≠g:=nB
  have ae:=hid Z;clear af h2 M U ac Z eV eA eE;by_cases hR:R.2.2=0
  ·have ah:at_+R.2.1<=bs.length:=(by have:=ae.out.2.1;omega);go_enter func243,ntmps243;go_wp2_with fail;refine D.out.mono ?_;rintro e w4 ⟨k,e2,w3,⟨i,G,J,E⟩,L,j⟩;rcases j with ⟨h0,_,_⟩|⟨_,rfl,rfl⟩
   ·exact absurd (J.trans hR) h0
   ·have Q:Hid (Kept (fun x=>x<w.heap.size/\x≠g) w w3):=HK.out.trans ⟨i.os,i.tape,i.output,i.size,fun x hx=>i.block x nB⟩;have hB:=E.far (fun e=>ag e) (p:=⟨g,1,none⟩) (.int .i64 (at_+k:Nat));have d0:=hB.iy 0;have HC:=hid (L.setAt (at_+k) nB);rw[G]at HC;have Y:Hid (Kept (fun x=>x<w.heap.size/\x≠g) w (w3.setCell ⟨g,1,none⟩ (.int .i64 (at_+k:Nat)))):=Q.out.set (fun h=>h.2 rfl) _;rw[<-G]at HC;have aa:Hid (Cur (w3.setCell ⟨g,1,none⟩ (.int .i64 (at_+k:Nat))) g base bs A c (at_+R.2.1) R.2.2):=o7;generalize w3.setCell ⟨g,1,none⟩ (.int .i64 (at_+k:Nat))=w5 at *;clear hB E L i D Q HK G J HC hR;go_wp2_with fail;go_ret;exact⟨rfl,aa.out,Y.out⟩
  ·have hz:=ae.out.2.2.2.1 hR;go_enter func243,ntmps243;go_wp2_with fail;refine D.out.mono ?_;rintro e w4 ⟨k,e2,w3,⟨i,G,J,E⟩,L,j⟩;rcases j with ⟨_,rfl,rfl⟩|⟨h0,_,_⟩
   ·have Q:Hid (Kept (fun x=>x<w.heap.size/\x≠g) w w3):=HK.out.trans ⟨i.os,i.tape,i.output,i.size,fun x hx=>i.block x nB⟩;have aa:Hid (Cur (w3.setCell ⟨g,2,none⟩ (.int .i64 e2)) g base bs A c (at_+R.2.1) R.2.2):=pk;have Y:Hid (Kept (fun x=>x<w.heap.size/\x≠g) w (w3.setCell ⟨g,2,none⟩ (.int .i64 e2))):=Q.out.set (fun h=>h.2 rfl) _;generalize w3.setCell ⟨g,2,none⟩ (.int .i64 e2)=w5 at *;have HZ:=hid hz.1;clear E L i D Q HK G J hR hz;go_wp2_with fail;go_ret;exact⟨by rw[HZ.out];rfl,aa.out,Y.out⟩
   ·exact absurd (J.symm.trans h0) hR
 ·have D:=hid (Ma _ g base bs A c at_ er h2 he (.func (.func 292) #[] #[.pointer (some ⟨w,0,none⟩)]));have eV:H5 bs at_ er=0:=Ag he;have eA:IJ bs at_ er=at_:=Ag he;have eE:II bs at_ er=er:=Ag he;rw[eV,eA,eE];have HK:=hid U;have HC:=hid h2;clear h2 M U he eV eA eE;go_enter func243,ntmps243;go_wp2_with fail;refine D.out.mono ?_;rintro e w4 ⟨rfl,rfl⟩;go_wp2_with fail;go_ret;exact⟨rfl,HC.out,HK.out⟩
end Nums
namespace Nums
open Go.RowKit Mem Own Canon NumPut
open Crc (Fy GO FB)
def Cz(most:Nat)(ls:List Nat):List Nat×Nat×Int:=
 if(BM most ls).2.2≠0 then([],0,(BM most ls).2.2)else if ls.length-(BM most ls).2.1<(BM most ls).1 then([],0,1)else((ls.drop (BM most ls).2.1).take (BM most ls).1,(BM most ls).2.1+(BM most ls).1,0)
theorem L6(most:Nat)(ls:List Nat)(h8:∀c∈ls,c<=255):(Cz most ls).1.length<=most/\(Cz most ls).2.1<=ls.length/\((Cz most ls).2.2=0->1<=(Cz most ls).2.1)/\((Cz most ls).2.2≠0->(Cz most ls).1= []/\(Cz most ls).2.1=0)/\(∀x∈(Cz most ls).1,x<=255)/\0<=(Cz most ls).2.2/\(Cz most ls).2.2<=6:=by
 have h:=Hv most ls h8;unfold Cz;split
 ·rename_i he;exact⟨pR,pR,fun h0=>absurd h0 he,fun _=>⟨rfl,rfl⟩,fun x hx=>pT,h.2.2.2.2.1,h.2.2.2.2.2⟩
 ·split
  ·exact⟨pR,pR,fun h0=>absurd h0 ji,fun _=>⟨rfl,rfl⟩,fun x hx=>pT,pR,pR⟩
  ·rename_i he hl;have h1:=h.2.2.1 nB;exact⟨by rw[Bc];have:=h.1;omega,by have:=h.2.1;simp only;omega,fun _=>pU,fun h0=>absurd rfl h0,fun x hx=>h8 x (Cg (CN hx)),pR,pR⟩
def Fc(most:Nat)(bs:List Nat)(at_:Nat)(er:Int):List Nat:=if er≠0 then []else(Cz most (bs.drop at_)).1
def Et(most:Nat)(bs:List Nat)(at_:Nat)(er:Int):Nat:=if er≠0 then at_ else at_+(Cz most (bs.drop at_)).2.1
def Es(most:Nat)(bs:List Nat)(at_:Nat)(er:Int):Int:=if er≠0 then er else(Cz most (bs.drop at_)).2.2
theorem Wd(w:World)(g base mb ob:Nat)(bs:List Nat)(A:Option Addr)(c at_ most:Nat)(ac:bs.length<=100000)(h8:∀x∈bs,x<=255)(U:most<=1000000000)(h:Cur w g base bs A c at_ 0)(ab:Blk w mb 3 #[most])(G:Blk w ob 9 #[.string ⟨#[]⟩]):
 Calls prog 301 #[.slice (Ba A at_ c 1) (bs.length-at_) (c-at_), .pointer (some ⟨mb,0,none⟩), .pointer (some ⟨ob,0,none⟩)] w fun e w'=>∃ (k:Nat) (e2:Int),e= .returned (.tuple #[.int .i64 k,e2])/\k<=100000/\Cur w' g base bs A c at_ 0/\
  (Kept (fun x=>x<w.heap.size/\x≠ob) w w'/\k=(Cz most (bs.drop at_)).2.1/\e2=(Cz most (bs.drop at_)).2.2/\Blk w' ob 9 #[.string (FY (Cz most (bs.drop at_)).1)]):=by
 have d0:=ab.iy 0;have f1:=G.frozen 0;have d1:=G.iy 0;have N:=Ew h.own;have ae:=h.le;have J:=Fy (own_row h.own) h.le N.2;have Q:∀x∈bs.drop at_,x<=255:=fun x hx=>h8 x (Cg hx);have D:=TI w (Ba A at_ c 1) (bs.length-at_) (c-at_) (bs.drop at_) most U (by rw[AZ]) nB Q J;have E:=Hv most (bs.drop at_) Q;rw[AZ]at E;have ar:bs.length-at_<=100000:=nB
 have af:bs.length-at_<=c-at_:=by have:=N.2;omega
 unfold Cz;rw[show(bs.drop at_).length=bs.length-at_ from AZ];have Z:(bs.drop at_).length=bs.length-at_:=AZ;have aa:=Blk.apart G h.blk ji;have ak:mb≠ob:=by intro e;subst e;rw[d0]at d1;cases d1
 have H:=hid h;have HO:=hid G;generalize bs.drop at_=L at *;generalize bs.length-at_=m at *;generalize Ba A at_ c 1=A1 at *;generalize c-at_=cc at *;generalize ag:BM most L=R at *;have HR:=hid J;have HL:=hid Z;have D:=hid D;have al:=E.1;have au:=E.2.1;have am:=E.2.2.2.2.1;have an:=E.2.2.2.2.2;clear J Q h G ab N Z ag E ae ac h8;obtain⟨x,n,er⟩:=R;simp only at *;by_cases he:er=0
 ·subst he;rw[Ae pR];have aj:IntKind.i64.wrap ((m:Int)-(n:Int))=((m-n:Nat):Int):=by rw[Az _ nB];omega
  by_cases M:m-n<x
  ·rw[Ag M];have g1:=ja (((m-n:Nat):Int)<(x:Int));have g2:=ja (m-n<x);clear M;go_enter func301,ntmps301;go_wp2_with fail;refine D.out.mono ?_;rintro e w1 ⟨rfl,rfl⟩;go_wp2_with fail;go_ret2;exact⟨0,1,rfl,nB,H.out,Kept.refl _ _,rfl,rfl,HO.out⟩
  ·rw[Ae M];have g1:=jb (((m-n:Nat):Int)<(x:Int));have g2:=jb (m-n<x);have s2:IntKind.i64.wrap ((n:Int)+(x:Int))=((n:Int)+(x:Int)):=nW;have ks:=fun wx=>NR (P:=prog) (t:=28) (s:=1) underlying28 (fun _=>by kernel_rfl) A1 m cc .i64 .i64 (n:Int) ((n:Int)+(x:Int)) n (n+x) rfl nB nB nB wx;rw[IE]at ks;have ai:((L.drop n).take x).length=x:=by rw[Bc,AZ,HL.out];omega
   have Y:Hid (∀wx,Below w w wx->(convert 28 9 (.slice (Ba A1 n cc 1) x (cc-n))).run prog wx= .ok (.string (FY ((L.drop n).take x))) wx):=fun wx hb=>
    iA ((HR.out.below hb).cut n x nB af (fun i j hi hj=>by
     obtain rfl:j=0:=nB
     simp only[kZ,List.getD_eq_getElem?_getD,List.getElem?_take,List.getElem?_drop];rw[Ag hi])) ai
   have ah:n+x<=100000:=nB;generalize (L.drop n).take x=T at *;have cv:=Y.out w (Ak _ _);have aq:=Y.out w.drew qo;clear M HR HL;go_enter func301,ntmps301;go_wp2_with fail;refine D.out.mono ?_;rintro e w1 ⟨rfl,rfl⟩;go_wp2_with fail;go_ret2;refine⟨n+x,0,rfl,ah,?_,(Kept.refl _ _).set (fun h=>h.2 rfl) _,rfl,rfl,HO.out.set 0 _⟩;exact⟨H.out.blk.far (fun e=>aa e.symm) _,Cb H.out.own (iZ H.out.own HO.out ji) _,H.out.le,H.out.lo⟩
 ·rw[Ag he];have g1:(er != 0)=true:=by simpa using he
  clear he HR HL;go_enter func301,ntmps301;go_wp2_with fail;refine D.out.mono ?_;rintro e w1 ⟨rfl,rfl⟩;go_wp2_with fail;go_ret2;exact⟨0,er,rfl,nB,H.out,Kept.refl _ _,rfl,rfl,HO.out⟩
theorem Pn(w:World)(g base:Nat)(bs:List Nat)(A:Option Addr)(c at_:Nat)(er:Int)(most:Nat)(ae:bs.length<=100000)(h8:∀x∈bs,x<=255)(aa:most<=1000000000)(h:Cur w g base bs A c at_ er):
 Calls prog 251 #[.pointer (some ⟨g,0,none⟩),most] w fun e w'=>e= .returned (.string (FY (Fc most bs at_ er)))/\Cur w' g base bs A c (Et most bs at_ er) (Es most bs at_ er)/\Kept (BL g w) w w':=by
 have am:=h.blk.lt;have h2:Cur ((w.alloc (.cells #[most] 3)).alloc (.cells #[.string ⟨#[]⟩] 9)) g base bs A c at_ er:=(h.step (cZ (Ak _ _))).step (cZ (Ak _ _));have U:Blk ((w.alloc (.cells #[most] 3)).alloc (.cells #[.string ⟨#[]⟩] 9)) w 3 #[most]:=(Blk.made _ _ _).alloc _;have M:Blk ((w.alloc (.cells #[most] 3)).alloc (.cells #[.string ⟨#[]⟩] 9)) (w.heap.size+1) 9 #[.string ⟨#[]⟩]:=Blk.made_at _ _ _ pR;have Y:Kept (fun x=>x<w.heap.size/\x≠g) w ((w.alloc (.cells #[most] 3)).alloc (.cells #[.string ⟨#[]⟩] 9)):=Kept.of_below (by(repeat (with_reducible first|exact Ak _ _|assumption|refine Aw ?_ |refine below_drewN ?_ _|refine oZ ?_ |refine cZ ?_ |refine dZ jf ?_ |refine belA ?_ |refine pZ jf ?_)):Below w w _) (fun x hx=>hx.1);have al:=h.le;have af:((w.alloc (.cells #[most] 3)).alloc (.cells #[.string ⟨#[]⟩] 9)).heap.size=w.heap.size+2:=pR
 unfold BL;by_cases he:er=0
 ·subst he;have aj:∀N wx,(callFunc 301 N).run prog wx= .ok (.enter 301 N) wx:=by intro N wx;simp[callFunc,go_sem,func301];rfl
  have D:=fun w2 (hc2:Cur w2 g base bs A c at_ 0) (U:Blk w2 w 3 #[most]) (M:Blk w2 (w.heap.size+1) 9 #[.string ⟨#[]⟩])=>MW w2 g base bs A c at_ hc2 ae 301 #[.pointer (some ⟨w,0,none⟩), .pointer (some ⟨w.heap.size+1,0,none⟩)]
   (fun k e2 w'=>Kept (fun x=>x<w2.heap.size/\x≠w.heap.size+1) w2 w'/\k=(Cz most (bs.drop at_)).2.1/\e2=(Cz most (bs.drop at_)).2.2/\Blk w' (w.heap.size+1) 9 #[.string (FY (Cz most (bs.drop at_)).1)]) aj
   (fun q=>(Wd (w2.drewN q) g base w (w.heap.size+1) bs A c at_ most ae h8 aa (hc2.drewN q) (U.drewN q) (M.drewN q)).mono fun e w' ⟨k,e2,h1,h2,h3,h4⟩=>⟨k,e2,h1,h2,h3,⟨⟨h4.1.os,h4.1.tape,h4.1.output,h4.1.size,h4.1.block⟩,h4.2⟩⟩)
  have D:=hid (D _ h2 U M);have ah:∀x∈bs.drop at_,x<=255:=fun x hx=>h8 x (Cg hx);have ab:=L6 most (bs.drop at_) ah;rw[AZ]at ab;have eV:Fc most bs at_ 0=(Cz most (bs.drop at_)).1:=Ae pR;have eA:Et most bs at_ 0=at_+(Cz most (bs.drop at_)).2.1:=Ae pR;have eE:Es most bs at_ 0=(Cz most (bs.drop at_)).2.2:=Ae pR;rw[eV,eA,eE];generalize Cz most (bs.drop at_)=R at *;have HK:=hid Y;have ag:w.heap.size+1≠g:=nB
  have ai:=hid ab;clear aj h2 U M Y ah ab eV eA eE;by_cases hR:R.2.2=0
  ·have ak:at_+R.2.1<=bs.length:=(by have:=ai.out.2.1;omega);go_enter func251,ntmps251;go_wp2_with fail;refine D.out.mono ?_;rintro e w4 ⟨k,e2,w3,⟨i,G,J,j⟩,L,E⟩;rcases E with ⟨h0,_,_⟩|⟨_,rfl,rfl⟩
   ·exact absurd (J.trans hR) h0
   ·have Q:Hid (Kept (fun x=>x<w.heap.size/\x≠g) w w3):=HK.out.trans ⟨i.os,i.tape,i.output,i.size,fun x hx=>i.block x ⟨by have:=hx.1;rw[af];omega,mW⟩⟩;have hB:=j.far (fun e=>ag e) (p:=⟨g,1,none⟩) (.int .i64 (at_+k:Nat));have d0:=hB.iy 0;have HC:=hid (L.setAt (at_+k) nB);rw[G]at HC;have Z:Hid (Kept (fun x=>x<w.heap.size/\x≠g) w (w3.setCell ⟨g,1,none⟩ (.int .i64 (at_+k:Nat)))):=Q.out.set (fun h=>h.2 rfl) _;rw[<-G]at HC;have ac:Hid (Cur (w3.setCell ⟨g,1,none⟩ (.int .i64 (at_+k:Nat))) g base bs A c (at_+R.2.1) R.2.2):=o7;generalize w3.setCell ⟨g,1,none⟩ (.int .i64 (at_+k:Nat))=w5 at *;clear hB j L i D Q HK G J HC hR;go_wp2_with fail;go_ret;exact⟨rfl,ac.out,Z.out⟩
  ·have hz:=ai.out.2.2.2.1 hR;go_enter func251,ntmps251;go_wp2_with fail;refine D.out.mono ?_;rintro e w4 ⟨k,e2,w3,⟨i,G,J,j⟩,L,E⟩;rcases E with ⟨_,rfl,rfl⟩|⟨h0,_,_⟩
   ·have Q:Hid (Kept (fun x=>x<w.heap.size/\x≠g) w w3):=HK.out.trans ⟨i.os,i.tape,i.output,i.size,fun x hx=>i.block x ⟨by have:=hx.1;rw[af];omega,mW⟩⟩;have ac:Hid (Cur (w3.setCell ⟨g,2,none⟩ (.int .i64 e2)) g base bs A c (at_+R.2.1) R.2.2):=pk;have Z:Hid (Kept (fun x=>x<w.heap.size/\x≠g) w (w3.setCell ⟨g,2,none⟩ (.int .i64 e2))):=Q.out.set (fun h=>h.2 rfl) _;have hB:=j.far (fun e=>ag e) (p:=⟨g,2,none⟩) (.int .i64 e2);have d0:=hB.iy 0;generalize w3.setCell ⟨g,2,none⟩ (.int .i64 e2)=w5 at *;clear hB j L i D Q HK G J hR hz;go_wp2_with fail;go_ret;exact⟨rfl,ac.out,Z.out⟩
   ·exact absurd (J.symm.trans h0) hR
 ·have D:=hid (Ma _ g base bs A c at_ er h2 he (.func (.func 301) #[] #[.pointer (some ⟨w,0,none⟩), .pointer (some ⟨w.heap.size+1,0,none⟩)]));have eV:Fc most bs at_ er= []:=Ag he;have eA:Et most bs at_ er=at_:=Ag he;have eE:Es most bs at_ er=er:=Ag he;rw[eV,eA,eE];have HK:=hid Y;have HC:=hid h2;clear h2 U M Y he eV eA eE;go_enter func251,ntmps251;go_wp2_with fail;refine D.out.mono ?_;rintro e w4 ⟨rfl,rfl⟩;go_wp2_with fail;go_ret;exact⟨rfl,HC.out,HK.out⟩
end Nums
namespace Nums
open Go.RowKit Mem Own Canon NumPut
theorem intA_le{bs:List Nat}(h8:∀x∈bs,x<=255){at_:Nat}(er:Int)(h:at_<=bs.length):AR most bs at_ er<=bs.length:=by
 unfold AR;split
 ·exact h
 ·have:=(Hv most (bs.drop at_) (fun x hx=>h8 x (Cg hx))).2.1;rw[AZ]at this;omega
theorem Gr{bs:List Nat}(h8:∀x∈bs,x<=255)(at_:Nat)(er:Int):Bh most bs at_ er<=most:=by
 unfold Bh;split
 ·omega
 ·exact(Hv most (bs.drop at_) (fun x hx=>h8 x (Cg hx))).1
end Nums
namespace Nums
open Go.RowKit Mem Own Canon
def GV(bs:List Nat)(at_:Nat)(er:Int):Int:=if at_<bs.length then Gq er 2 else er
theorem Va(w:World)(g base:Nat)(bs:List Nat)(A:Option Addr)(c at_:Nat)(er:Int)(h:Cur w g base bs A c at_ er):
 Calls prog 114 #[.pointer (some ⟨g,0,none⟩)] w fun e w'=>e= .returned (.int .i64 (GV bs at_ er))/\Cur w' g base bs A c at_ (GV bs at_ er)/\Kept (fun x=>x≠g) w w':=by
 have DL:=hid (left_any w g base bs A c at_ er h);have H:=hid h;obtain⟨R,hR⟩:=jc (GV bs at_ er);rw[<-hR];unfold GV at hR;by_cases i:at_<bs.length
 ·rw[Ag i]at hR;have gl:=ja ((0:Int)<((bs.length-at_:Nat):Int))
  have M:=ja (0<bs.length-at_)
  have U:=ja (at_<bs.length)
  have HR:=hid hR;obtain⟨m,hm⟩:=jc (bs.length-at_);rw[<-hm]at DL gl M;clear h hR i hm;go_enter func114,ntmps114;go_wp2_with fail;refine DL.out.mono ?_;rintro e w1 ⟨rfl,q,hq⟩;have E:Hid (Cur w1 g base bs A c at_ er):=by rw[hq];exact H.out.drewN q
  have G:Hid (Kept (fun x=>x≠g) w w1):=pi
  clear hq;go_wp2_with fail;refine(Hf w1 g base bs A c at_ er 2 E.out).mono ?_;rintro e w2 ⟨rfl,j,L⟩;rw[<-HR.out]at j;have Q:=hid j;have N:Hid (Kept (fun x=>x≠g) w w2):=G.out.trans L;have DE:=hid (Ej w2 g base bs A c at_ R j);clear j L HR;go_wp2_with fail;refine DE.out.mono ?_;rintro e w3 ⟨rfl,rfl⟩;go_wp2_with fail;go_ret;exact⟨rfl,Q.out,N.out⟩
 ·rw[Ae i]at hR;subst hR;have J:bs.length-at_=0:=by omega
  rw[J]at DL;have gl:=jb ((0:Int)<((0:Nat):Int))
  clear h i J;go_enter func114,ntmps114;go_wp2_with fail;refine DL.out.mono ?_;rintro e w1 ⟨rfl,q,hq⟩;have E:Hid (Cur w1 g base bs A c at_ R):=by rw[hq];exact H.out.drewN q
  have G:Hid (Kept (fun x=>x≠g) w w1):=pi
  have DE:=hid (Ej w1 g base bs A c at_ R E.out);clear hq;go_wp2_with fail;refine DE.out.mono ?_;rintro e w3 ⟨rfl,rfl⟩;go_wp2_with fail;go_ret;exact⟨rfl,E.out,G.out⟩
end Nums
namespace Ef
open Go.RowKit Mem Own Canon Huff
theorem i4:(prog.info? 5).map (fun i=>(i.zero,i.size,i.bytes))=some (some (.int .u8 0),1,1):=ni
theorem lL(K:Nat->Prop)(w:World)(g base:Nat)(v:Value)(bs:List Bool)(n:Nat)(hn:n<=100000)(N:bs.length+n<=4000000)(hW:RW K w base g bs v):
 Calls prog 135 #[.pointer (some ⟨g,0,none⟩), .int .i64 (n:Nat)] w fun e w'=>e= .returned (.int .i64 0)/\∃v',RW K w' base g (bs++unary n) v'/\Kept K w w':=by
 obtain⟨j0,Z,Y,Q,U⟩:=info_parts i4;have ab:=hid N;have aa:Hid (RW K w base g (bs++List.replicate 0 false) v):=by show RW _ _ _ _ _ _;rw[List.replicate_zero,Cx];exact hW
 have y1:=jb ((n:Int)<0)
 have y2:=jb ((100000:Int)<n)
 have ai:=jb (100000<n)
 clear hW N;go_enter func135,ntmps135;go_wp2_with fail;go_loopw [5] (fun i wr=>∃ (j:Nat) (v':Value),j<=n/\i= .int .i64 j/\Hid (RW K wr base g (bs++List.replicate j false) v')/\Hid (Kept K w wr)) (fun i _=>n-(intOf i).toNat)
 case atStart=>exact⟨0,v,nB,rfl,aa.out,Kept.refl _ _⟩
 case round=>
  obtain⟨j,v',hj,rfl,E,HK⟩:=hrel;obtain⟨wi,rfl⟩:=jc wr;clear aa;have J:=hid E.out.own;have ac:(bs++List.replicate j false).length<=4000000:=by rw[Aj,Ez];have:=ab.out;omega
  obtain⟨q,hq⟩:=jc ((bs++List.replicate j false).length);rw[<-hq]at J ac;obtain⟨AS,cS,rfl⟩:=aZ J.out;have HQ:=hid hq;have aj:=E.out.base;have d0:=E.out.blk.iy 0;have f0:=E.out.blk.frozen 0;clear hq;by_cases ah:j<n
  ·have gk:=ja ((j:Int)<n);have af:=ja (j<n);go_wp2_with(at_builtin;refine fZ rfl (.tmp 21) (.tmp 22) 28 rfl base 5 j0 _ 1 1 underlying28 Z Y Q U rfl ji _ _ _ nC (J.out.alloc _) _ 1 1 [.int .u8 0] nC (Src.of_blk (Blk.made_at _ _ _ pR) 1 1 1 rfl) mY qn nB p5 ?_;intro v6 w6 G L M;obtain⟨g3,c3,rfl⟩:=Ms G;have p3:=((E.out.blk.alloc _).grown L (By E.out.ne)).iy 0;have p4:=((E.out.blk.alloc _).grown L (By E.out.ne)).frozen 0);have hq:q=(bs++List.replicate j false).length:=HQ.out;subst hq
   have hP:=E.out.push false (y:=0) (cZ (Ak _ wi)) nC G L (by
    rcases M with e|e
    ·exact .inl e.symm
    ·exact .inr (Option.some.inj e))
   have ae:Hid (RW K (w6.setCell ⟨g,0,none⟩ (.slice (some ⟨g3,0,none⟩) ((bs++List.replicate j false).length+1) c3)) base g (bs++List.replicate (j+1) false) (.slice (some ⟨g3,0,none⟩) ((bs++List.replicate j false).length+1) c3)):=(by show RW _ _ _ _ _ _;have h:=hP.1;rw[AK,<-List.replicate_succ']at h;exact h);have ag:Hid (Kept K w (w6.setCell ⟨g,0,none⟩ (.slice (some ⟨g3,0,none⟩) ((bs++List.replicate j false).length+1) c3))):=HK.out.trans hP.2;clear hP G L M HK E J;go_roundw
   case measure=>exact ld
   case rel=>go_light;exact⟨j+1,_,nB,jk,ae.out,ag.out⟩
  ·obtain rfl:j=n:=by omega
   have gk:=jb ((j:Int)<j);have af:=jb (j<j);go_wp2_with(at_builtin;refine fZ rfl (.tmp 30) (.tmp 31) 28 rfl base 5 j0 _ 1 1 underlying28 Z Y Q U rfl ji _ _ _ nC (J.out.alloc _) _ 1 1 [.int .u8 1] nC (Src.of_blk (Blk.made_at _ _ _ pR) 1 1 1 rfl) mY qn nB p5 ?_;intro v6 w6 G L M;obtain⟨g3,c3,rfl⟩:=Ms G;have p3:=((E.out.blk.alloc _).grown L (By E.out.ne)).iy 0;have p4:=((E.out.blk.alloc _).grown L (By E.out.ne)).frozen 0);have hq:q=(bs++List.replicate j false).length:=HQ.out;subst hq
   have hP:=E.out.push true (y:=1) (cZ (Ak _ wi)) nC G L (by
    rcases M with e|e
    ·exact .inl e.symm
    ·exact .inr (Option.some.inj e))
   go_ret;have h1:RW K (w6.setCell ⟨g,0,none⟩ (.slice (some ⟨g3,0,none⟩) ((bs++List.replicate j false).length+1) c3)) base g (bs++unary j) (.slice (some ⟨g3,0,none⟩) ((bs++List.replicate j false).length+1) c3):=(by unfold unary;rw[<-AK];exact hP.1);exact⟨rfl,_,h1,HK.out.trans hP.2⟩
end Ef
namespace Recs
open NumPut
def Gz(d:Nat):Nat:=if d<9223372036854775808 then 2*d else 36893488147419103231-2*d
def IT(a b:Nat):Nat:=(a+18446744073709551616-b) % 18446744073709551616
theorem Me{d:Nat}(h:d<18446744073709551616):Gz d<18446744073709551616:=by unfold Gz;split<;>omega
theorem L8(a b:Nat):IT a b<18446744073709551616:=Nat.mod_lt _ nB
def Cr(g:Nat->Nat->List Nat):Nat->List Nat->List Nat
 |_,[]=> []
 |was,t :: l=>g was t++Cr g t l
theorem Rz(g:Nat->Nat->List Nat):∀ (l:List Nat) (h t:Nat),Cr g h (l++ [t])=Cr g h l++g (l.getLast?.getD h) t
 | [],h,t=>by simp[Cr]
 |x :: l,h,t=>by
  rw[En,Cr,Rz g l x t,Cr,AK]
  have e:(x :: l).getLast?.getD h=l.getLast?.getD x:=by
   cases l with
   |nil=>rfl
   |cons z s=>simp[List.getLast?_cons]
  rw[e]
theorem R7{g:Nat->Nat->List Nat}(h:∀a b,(g a b).length<=10):∀ (l:List Nat) (i:Nat),(Cr g i l).length<=10*l.length
 | [],_=>by simp[Cr]
 |t :: l,i=>by have:=R7 h l t;have:=h i t;rw[Cr,Aj,AI];omega
theorem Tq{g:Nat->Nat->List Nat}(h:∀a b,∀y∈g a b,y<=255):∀ (l:List Nat) (i:Nat),∀y∈Cr g i l,y<=255
 | [],_,y,hy=>by simp[Cr]at hy
 |t :: l,i,y,hy=>by
  rw[Cr]at hy;rcases Bx.1 hy with hy|hy
  ·exact h i t y hy
  ·exact Tq h l t y hy
def stepT(was t:Nat):List Nat:=gZ (Gz (IT t was))
theorem XI(a b:Nat):(stepT a b).length<=10:=sZ (Me (L8 b a))
theorem iE(a b:Nat):∀y∈stepT a b,y<=255:=fun y hy=>Ev _ y hy
def lead(x:Nat):List Nat->Nat
 | []=>0
 |y :: t=>if y=x then lead x t+1 else 0
theorem N7(x:Nat):∀l,lead x l<=l.length
 | []=>by simp[lead]
 |y :: t=>by have:=N7 x t;rw[lead];split<;>simp<;>omega
theorem KA(x:Nat):∀ (l:List Nat) (j:Nat),(∀i,i<j->l[i]? =some x)->l[j]? ≠some x->lead x l=j
 | [],0,_,_=>rfl
 | [],j+1,h,_=>by have:=h 0 nB;simp at this
 |y :: t,0,_,h=>by rw[lead,Ae];intro e;exact h (by rw[e];rfl)
 |y :: t,j+1,h,h2=>by have:=h 0 nB;rw[lead,Ag (by simpa using this),KA x t j (fun i hi=>by have:=h (i+1) nB;simpa using this) qi]
def lvB:List Nat->List Nat
 | []=> []
 |x :: t=>x :: (gZ (lead x t+1)++lvB (t.drop (lead x t)))
termination_by l=>l.length
decreasing_by simp only[List.length_drop,List.length_cons];omega
def lvP:Option Nat->List Nat->List Nat
 |none,l=>lvB l
 |some p,l=>lvB (l.drop (lead p l))
theorem gL(x:Nat)(t:List Nat):lvP (some x) (x :: t)=lvP (some x) t:=by show lvB ((x :: t).drop (lead x (x :: t)))=lvB (t.drop (lead x t));rw[lead,Ag rfl,List.drop_succ_cons]
theorem UX{p:Option Nat}(t:List Nat)(h:p≠some x):lvP p (x :: t)=x :: (gZ (lead x t+1)++lvP (some x) t):=by
 cases p with
 |none=>unfold lvP;simp only;rw[lvB]
 |some q=>unfold lvP;simp only;rw[lead,Ae (fun e=>h (by rw[e])),Ie,lvB]
theorem UN:∀ (n:Nat) (l:List Nat),l.length<=n->(∀x∈l,x<=255)->l.length<18446744073709551616->(lvB l).length<=11*l.length
 |_,[],_,_,_=>by rw[lvB];simp
 |n+1,x :: t,h,h8,h64=>by have hl:=N7 x t;simp only[List.length_cons]at h h64;have:=sZ (x:=lead x t+1) nB;have ih:=UN n (t.drop (lead x t)) nM (fun y hy=>h8 y (Cm _ (Cg hy))) nM;rw[AZ]at ih;rw[lvB];simp only[List.length_cons,List.length_append];omega
theorem Q7:∀ (n:Nat) (l:List Nat),l.length<=n->(∀x∈l,x<=255)->∀y∈lvB l,y<=255
 |_,[],_,_,y,hy=>by rw[lvB]at hy;cases hy
 |n+1,x :: t,h,h8,y,hy=>by
  rw[lvB]at hy;simp only[List.length_cons]at h;rcases BK.1 hy with rfl|hy
  ·exact h8 _ pR
  ·rcases Bx.1 hy with hy|hy
   ·exact Ev _ y hy
   ·exact Q7 n (t.drop (lead x t)) nM (fun y hy=>h8 y (Cm _ (Cg hy))) y hy
def Bo(l:List Rec):List Nat:=l.map fun r=>r.time.toNat
def xZ(l:List Rec):List Nat:=l.map fun r=>r.level.toNat
def BW(l:List Rec):List Nat:=Cr stepT 0 (Bo l)++lvB (xZ l)
theorem RR{l:List Rec}(h:∀r∈l,CA r):∀x∈xZ l,x<=255:=fun x hx=>by obtain⟨r,hr,rfl⟩:=Cl.1 hx;have:=h r hr;obtain⟨_,_,h1,h2⟩:=this;omega
theorem N9{l:List Rec}(h:∀r∈l,CA r):∀x∈BW l,x<=255:=fun x hx=>by
 rcases Bx.1 hx with hx|hx
 ·exact Tq iE _ _ x hx
 ·exact Q7 _ _ (Am _) (RR h) x hx
theorem J9{l:List Rec}(h:∀r∈l,CA r)(hn:l.length<=1000000):(BW l).length<=21*l.length:=by have h1:=R7 XI (Bo l) 0;have h2:=UN _ (xZ l) (Am _) (RR h) (by unfold xZ;rw[Bk];omega);unfold Bo at h1;unfold xZ at h2;rw[Bk]at h1 h2;unfold BW;rw[Aj];unfold Bo xZ;omega
end Recs
namespace Opts
open Go.RowKit Mem
def GP(o:Opt):Int:=if(16<=o.block/\o.block<=32768)/\(1<=o.bucket/\o.bucket<=64)/\(o.data=0/\o.parity=0/\o.chunk=0)then 0 else 9
theorem kQ{o:Opt}(h:GP o≠0):GP o=9:=by
 unfold GP at h ⊢;split
 ·rename_i hc;rw[Ag hc]at h;exact absurd rfl h
 ·rfl
def Opt.body(o:Opt):Opt:=⟨o.block,o.plain,o.bucket,0,0,0⟩
def De(o:Opt):Int:=GP o.body
theorem Wb(w:World)(o:Opt):
 Calls prog 92 #[.int .i64 2,o.val] w fun e w'=>e= .returned (.int .i64 (GP o))/\Below w w w':=by
 obtain⟨bl,pl,bu,da,pa,ch⟩:=o;unfold Opt.val GP;simp only;have D:=hid (fun wx=>SA wx bl 16 32768);have DB:=hid (fun wx=>SA wx bu 1 64);have HE:=j9 pl pl bl bl 0 0 da 0 pa 0 ch 0;by_cases hb:16<=bl/\bl<=32768
 ·rw[AQ hb]at D;by_cases hu:1<=bu/\bu<=64
  ·rw[AQ hu]at DB;by_cases hz:da=0/\pa=0/\ch=0
   ·rw[Ag ⟨hb,hu,hz⟩];have hd:decide (bl=bl/\pl=pl/\(0:Int)=0/\da=0/\pa=0/\ch=0)=true:=AQ ⟨rfl,rfl,rfl,hz⟩;rw[hd]at HE;clear hb hz hd hu;go_enter func92,ntmps92;go_wp2_with fail;refine(D.out _).mono ?_;rintro e w1 ⟨rfl,rfl⟩;go_wp2_with fail;refine(DB.out _).mono ?_;rintro e w1 ⟨rfl,rfl⟩;go_wp2_with fail;go_ret;exact⟨rfl,qo⟩
   ·rw[Ae (fun h=>hz h.2.2)];have hd:decide (bl=bl/\pl=pl/\(0:Int)=0/\da=0/\pa=0/\ch=0)=false:=AV (fun h=>hz h.2.2.2);rw[hd]at HE;clear hb hz hd hu;go_enter func92,ntmps92;go_wp2_with fail;refine(D.out _).mono ?_;rintro e w1 ⟨rfl,rfl⟩;go_wp2_with fail;refine(DB.out _).mono ?_;rintro e w1 ⟨rfl,rfl⟩;go_wp2_with fail;go_ret;exact⟨rfl,qo⟩
  ·rw[AV hu]at DB;rw[Ae (fun h=>hu h.2.1)];clear hb hu HE;go_enter func92,ntmps92;go_wp2_with fail;refine(D.out _).mono ?_;rintro e w1 ⟨rfl,rfl⟩;go_wp2_with fail;refine(DB.out _).mono ?_;rintro e w1 ⟨rfl,rfl⟩;go_wp2_with fail;go_ret;exact⟨rfl,qo⟩
 ·rw[AV hb]at D;rw[Ae (fun h=>hb h.1)];clear hb HE DB;go_enter func92,ntmps92;go_wp2_with fail;refine(D.out _).mono ?_;rintro e w1 ⟨rfl,rfl⟩;go_wp2_with fail;go_ret;exact⟨rfl,qo⟩
theorem mF(w:World)(o:Opt):
 Calls prog 41 #[.int .i64 2,o.val] w fun e w'=>e= .returned (.int .i64 (GP o))/\Below w w w':=by
 obtain⟨bl,pl,bu,da,pa,ch⟩:=o;unfold Opt.val GP;simp only;by_cases h1:bl<16
 ·rw[Ae nB];have g1:decide (bl<16)=true:=by simpa using h1
  go_enter func41,ntmps41;go_wp2_with fail;go_ret;exact⟨rfl,qo⟩
 have g1:decide (bl<16)=false:=by simpa using h1
 by_cases h2:32768<bl
 ·rw[Ae nB];have g2:decide (32768<bl)=true:=by simpa using h2
  clear h1;go_enter func41,ntmps41;go_wp2_with fail;go_ret;exact⟨rfl,qo⟩
 have g2:decide (32768<bl)=false:=qi
 by_cases h3:bu<1
 ·rw[Ae nB];have g3:decide (bu<1)=true:=by simpa using h3
  clear h1 h2;go_enter func41,ntmps41;go_wp2_with fail;go_ret;exact⟨rfl,qo⟩
 have g3:decide (bu<1)=false:=by simpa using h3
 by_cases h4:64<bu
 ·rw[Ae nB];have g4:decide (64<bu)=true:=by simpa using h4
  clear h1 h2 h3;go_enter func41,ntmps41;go_wp2_with fail;go_ret;exact⟨rfl,qo⟩
 have g4:decide (64<bu)=false:=by simpa using h4
 by_cases h5:da=0
 ·by_cases h6:pa=0
  ·by_cases h7:ch=0
   ·rw[Ag ⟨nB,nB,h5,h6,h7⟩];subst h5 h6 h7;clear h1 h2 h3 h4;go_enter func41,ntmps41;go_wp2_with fail;go_ret;exact⟨rfl,qo⟩
   ·rw[Ae nB];have g7:(ch != 0)=true:=(by simpa using h7);subst h5 h6;clear h1 h2 h3 h4 h7;go_enter func41,ntmps41;go_wp2_with fail;go_ret;exact⟨rfl,qo⟩
  ·rw[Ae nB];have g6:(pa != 0)=true:=(by simpa using h6);subst h5;clear h1 h2 h3 h4 h6;go_enter func41,ntmps41;go_wp2_with fail;go_ret;exact⟨rfl,qo⟩
 ·rw[Ae nB];have g5:(da != 0)=true:=by simpa using h5
  clear h1 h2 h3 h4 h5;go_enter func41,ntmps41;go_wp2_with fail;go_ret;exact⟨rfl,qo⟩
theorem Ry(w:World)(o:Opt):
 Calls prog 44 #[o.val] w fun e w'=>e= .returned (.int .i64 (De o))/\Below w w w':=by
 have D:=hid (fun wx=>Wb wx o.body);unfold De;obtain⟨bl,pl,bu,da,pa,ch⟩:=o;unfold Opt.body Opt.val at D;unfold Opt.val Opt.body;simp only at D ⊢;generalize GP ⟨bl,pl,bu,0,0,0⟩=E at *;go_enter func44,ntmps44;go_wp2_with fail;refine(D.out _).mono ?_;rintro e w1 ⟨rfl,hb⟩;have HB:=hid hb;clear hb D;go_wp2_with fail;go_ret;exact⟨rfl,dZ HB.out (cZ (Ak _ _))⟩
theorem mE(w:World)(o:Opt):
 Calls prog 17 #[o.val] w fun e w'=>e= .returned (.int .i64 (De o))/\Below w w w':=by
 have D:=hid (fun wx=>mF wx o.body);unfold De;obtain⟨bl,pl,bu,da,pa,ch⟩:=o;unfold Opt.body Opt.val at D;unfold Opt.val Opt.body;simp only at D ⊢;generalize GP ⟨bl,pl,bu,0,0,0⟩=E at *;go_enter func17,ntmps17;go_wp2_with fail;refine(D.out _).mono ?_;rintro e w1 ⟨rfl,hb⟩;have HB:=hid hb;clear hb D;go_wp2_with fail;go_ret;exact⟨rfl,dZ HB.out (cZ (Ak _ _))⟩
end Opts
namespace Nums
open Go.RowKit Mem Own Canon
def FP(bs:List Nat):Nat:=bs.getD 0 0+256*bs.getD 1 0+65536*bs.getD 2 0+16777216*bs.getD 3 0
theorem Md{y i:Nat}(hx:x<2 ^ i)(h:x+y*2 ^ i<18446744073709551616):bits .or .u64 (x:Int) ((y*2 ^ i:Nat):Int)=((x+y*2 ^ i:Nat):Int):=Ve hx h
theorem jX(w:World)(g base:Nat)(bs:List Nat)(A:Option Addr)(c:Nat)(h4:bs.length=4)(h8:∀x∈bs,x<=255)(h:Cur w g base bs A c 0 0):
 Calls prog 111 #[.pointer (some ⟨g,0,none⟩), .int .i64 4] w fun e w'=>e= .returned (.int .u64 (FP bs:Nat))/\Cur w' g base bs A c 4 0/\Kept (BL g w) w w':=by
 have D:=JY w g base bs A c 0 0 4 nB nB h;unfold JZ at D;rw[JW,Kt,Kr,Ae nB,Ae nB,Ae nB,Ie,Bp nB,h4]at D
 obtain⟨b0,b1,b2,b3,rfl⟩:∃b0 b1 b2 b3,bs= [b0,b1,b2,b3]:=by
  match bs,h4 with
  | [b0,b1,b2,b3],_=>exact⟨b0,b1,b2,b3,rfl⟩
 have l0:=h8 b0 pR;have l1:=h8 b1 pR;have l2:=h8 b2 pR;have l3:=h8 b3 pR;have hV:FP [b0,b1,b2,b3]=b0+256*b1+65536*b2+16777216*b3:=rfl;rw[hV];have D:=hid D;have G:=h.blk.lt;clear h h8 h4 hV;go_enter func111,ntmps111;go_wp2_with fail;refine D.out.mono ?_;rintro e w1 ⟨v,rfl,j,hc,hk⟩;obtain⟨gv,cv,hv,_⟩:=j.form nB;subst hv;have c0:=j.cellAt 0 nB;have c1:=j.cellAt 1 nB;have c2:=j.cellAt 2 nB;have c3:=j.cellAt 3 nB;simp only[bZ,List.map_cons,List.map_nil,List.getElem?_cons_zero,List.getElem?_cons_succ]at c0 c1 c2 c3;have HC:=hid hc;have HK:=hid hk;clear j hc hk D;have E0:Hid (bits .or .u64 (0:Int) (b0:Int)=((b0:Nat):Int)):=by have h:=Md (x:=0) (y:=b0) (i:=0) nB nB;show _=_;simpa using h
 have E1:Hid (bits .or .u64 (b0:Int) ((b1:Int)*256)=((b0+256*b1:Nat):Int)):=by have h:=Md (x:=b0) (y:=b1) (i:=8) nB nB;rw[show((b1*2 ^ 8:Nat):Int)=(b1:Int)*256 by omega]at h;show _=_;rw[h];omega
 have E2:Hid (bits .or .u64 ((b0+256*b1:Nat):Int) ((b2:Int)*65536)=((b0+256*b1+65536*b2:Nat):Int)):=by have h:=Md (x:=b0+256*b1) (y:=b2) (i:=16) nB nB;rw[show((b2*2 ^ 16:Nat):Int)=(b2:Int)*65536 by omega]at h;show _=_;rw[h];omega
 have E3:Hid (bits .or .u64 ((b0+256*b1+65536*b2:Nat):Int) ((b3:Int)*16777216)=((b0+256*b1+65536*b2+16777216*b3:Nat):Int)):=by have h:=Md (x:=b0+256*b1+65536*b2) (y:=b3) (i:=24) nB nB;rw[show((b3*2 ^ 24:Nat):Int)=(b3:Int)*16777216 by omega]at h;show _=_;rw[h];omega
 go_wp2_with fail;go_loopw [5,20] (fun xv iv wr=>Hid (wr=w1)/\((xv= .int .u64 0/\iv= .int .i64 0)∨(xv= .int .u64 (b0:Nat)/\iv= .int .i64 1)∨(xv= .int .u64 (b0+256*b1:Nat)/\iv= .int .i64 2)∨(xv= .int .u64 (b0+256*b1+65536*b2:Nat)/\iv= .int .i64 3)∨(xv= .int .u64 (b0+256*b1+65536*b2+16777216*b3:Nat)/\iv= .int .i64 4))) (fun _ iv _=>4-(intOf iv).toNat)
 case atStart=>exact⟨jn, .inl ⟨rfl,rfl⟩⟩
 case round=>
  obtain⟨hw,E⟩:=hrel;have hw:=hw.out;subst hw;rcases E with ⟨rfl,rfl⟩|⟨rfl,rfl⟩|⟨rfl,rfl⟩|⟨rfl,rfl⟩|⟨rfl,rfl⟩
  ·have e0:=E0.out;go_wp2_with fail;exact⟨⟨trivial, .inr (.inl ⟨rfl,rfl⟩)⟩,qb⟩
  ·have e1:=E1.out;have s1:IntKind.u64.wrap ((b1:Int)*256)=(b1:Int)*256:=n4;go_wp2_with fail;exact⟨⟨trivial, .inr (.inr (.inl ⟨rfl,rfl⟩))⟩,qb⟩
  ·have s2:IntKind.u64.wrap ((b2:Int)*65536)=(b2:Int)*65536:=n4;go_wp2_with fail;exact⟨⟨trivial, .inr (.inr (.inr (.inl ⟨by rw[show((b0:Int)+256*(b1:Int))=((b0+256*b1:Nat):Int) by omega,E2.out],rfl⟩)))⟩,qb⟩
  ·have s3:IntKind.u64.wrap ((b3:Int)*16777216)=(b3:Int)*16777216:=n4;go_wp2_with fail;exact⟨⟨trivial, .inr (.inr (.inr (.inr ⟨by rw[show((b0:Int)+256*(b1:Int)+65536*(b2:Int))=((b0+256*b1+65536*b2:Nat):Int) by omega,E3.out],rfl⟩)))⟩,qb⟩
  ·go_wp2_with fail;go_ret;exact⟨rfl,HC.out,HK.out⟩
end Nums
namespace Body
open Go.RowKit Mem Own Canon Nums Crc
def FT(ls:List Nat):List Nat:=(ls.drop (ls.length-4-FP (ls.drop (ls.length-4)))).take (FP (ls.drop (ls.length-4)))
def Hc(ls:List Nat):Prop:=ls.length<4∨ls.length-4<FP (ls.drop (ls.length-4))
def VF(ls:List Nat)(A:Option Addr)(c:Nat)(w:World)(e:Ending)(w':World):Prop:=
 Below w w w'/\(Hc ls->e= .returned (.tuple #[(),(), .int .i64 1]))/\
  (¬Hc ls->∃v,e= .returned (.tuple #[.slice A (ls.length-4-FP (ls.drop (ls.length-4))) c,v, .int .i64 (C7 (FT ls))])/\w'.ownsRow w 5 1 v (Bu (FT ls)).length (bZ .u8 (Bu (FT ls))))
theorem gH{bs:List Nat}(h8:∀x∈bs,x<=255)(h4:bs.length=4):FP bs<4294967296:=by
 match bs,h4 with
 | [b0,b1,b2,b3],_=>have l0:=h8 b0 pR;have l1:=h8 b1 pR;have l2:=h8 b2 pR;have l3:=h8 b3 pR;have hV:FP [b0,b1,b2,b3]=b0+256*b1+65536*b2+16777216*b3:=rfl;omega
theorem fN(w:World)(A:Option Addr)(n c:Nat)(ls:List Nat)(hn:ls.length=n)(aa:n<=100000)(hc:n<=c)(h8:∀x∈ls,x<=255)(ht:TabAt w)(hh:∀a,A=some a->a.add 0=a)(ha:Row w w A n 1 (kZ .u8 ls)):
 Calls prog 56 #[.slice A n c] w (VF ls A c w):=by
 unfold VF;by_cases h4:n<4
 ·have i:Hc ls:= .inl nB;have HB:=hid i;have s1:decide (IntKind.i64.wrap ((n:Int)-4)<0)=true:=by rw[Az _ nB];simp;omega
  have s2:=ja ((n:Int)-4<0)
  have s3:IntKind.i64.wrap ((n:Int)-4)=(n:Int)-4:=Az _ nB;clear hn aa hc h8 ht hh ha i;go_enter func56,ntmps56;go_wp2_with fail
  go_ret3
  exact⟨Ak _ _,fun _=>rfl,fun h=>absurd HB.out h⟩
 ·obtain⟨m,rfl⟩:∃m,n=m+4:=⟨n-4,nB⟩;have J:ls.length-4=m:=by omega
  have N:(ls.drop m).length=4:=nM
  have Q:∀x∈ls.drop m,x<=255:=fun x hx=>h8 x (Cg hx);have ay:=gH Q N;have U:A=none->m+4=0/\c=0:=fun e=>by obtain⟨b,an,e2,_⟩:=ha nB;rw[e]at e2;cases e2
  have hd:=Fy ha (show m<=m+4 by omega) hc;rw[show m+4-m=4 by omega]at hd;have ae:Ba A m c 1=none->4=0/\c-m=0:=fun h=>by obtain⟨b,an,e2,_⟩:=hd nB;rw[h]at e2;cases e2
  have D0:=hid (new_any w (Ba A m c 1) 4 (c-m) (ls.drop m) N nB ae hd);have ag:=fun wx=>Gg (P:=prog) (t:=28) (s:=1) underlying28 (fun _=>by kernel_rfl) A (m+4) c .i64 (m:Int) m rfl nB wx;have Y:=ag;rw[show m+4-m=4 by omega]at ag;have D1:=hid (fun wx g B d h=>jX wx g w (ls.drop m) B d N Q h);have s1:IntKind.i64.wrap (((m+4:Nat):Int)-4)=(m:Int):=nX
  have wm:IntKind.i64.wrap (m:Int)=(m:Int):=Az _ nB;have g1:=jb ((m:Int)<0)
  obtain⟨k,hk⟩:=jc (FP (ls.drop m));rw[<-hk]at D1 ay;have wk:IntKind.i64.wrap (k:Int)=(k:Int):=Az _ nB;by_cases av:m<k
  ·have i:Hc ls:= .inr (by rw[J,<-hk];exact av);have ah:=hid i;have g2:=ja ((m:Int)<k);have aq:=ja (m<k);generalize Ba A m c 1=A1 at *;generalize c-m=c1 at *;clear hd ha h8 Q ht hh U ae hn aa hc i hk N J h4 Y;go_enter func56,ntmps56;go_wp2_with fail;refine D0.out.mono ?_;rintro e w1 ⟨g,B,d,rfl,j,M⟩;have G:=hid M;have D2:=hid (D1.out w1 g B d j);have af:=j.lo;clear j M D0 D1;go_wp2_with fail;refine D2.out.mono ?_;rintro e w2 ⟨rfl,ac,L⟩;have E:Hid (Below w w w2):=G.out.trans (L.below fun b h=>⟨by have:=G.out.size;omega,nB⟩);clear ac L;go_wp2_with fail
   go_ret3
   exact⟨E.out,fun _=>rfl,fun h=>absurd ah.out h⟩
  ·have ai:¬Hc ls:=fun h=>h.elim (fun h=>by omega) (fun h=>by rw[J,<-hk]at h;omega);have au:=hid ai;have g2:=jb ((m:Int)<k);have aq:=jb (m<k);obtain⟨r,hr⟩:=jc (m-k);have s2:IntKind.i64.wrap ((m:Int)-(k:Int))=(r:Int):=nX;have al:FT ls=(ls.drop r).take k:=(by unfold FT;rw[J,<-hk,<-hr]);have aj:=GO (Fy ha (show r<=m+4 by omega) hc) (show k<=m+4-r by omega);have DC:=hid (fun wx (hb:Below w w wx)=>LU wx (Ba A r c 1) k (c-r) ((ls.drop r).take k) (by rw[Bc,AZ];omega) nB nB (fun x hx=>h8 x (Cg (CN hx))) (ht.step hb) ((aj.below hb).mono hb.size));rw[<-al]at DC;have aw:=fun wx=>NR (P:=prog) (t:=28) (s:=1) underlying28 (fun _=>by kernel_rfl) A (m+4) c .i64 .i64 (r:Int) (m:Int) r m rfl rfl nB nB wx;rw[show m-r=k by omega]at aw;have az:=fun wx=>FB (P:=prog) (t:=28) (s:=1) underlying28 (fun _=>by kernel_rfl) A (m+4) c .i64 (r:Int) r rfl nB hh wx;have ax:Hid (ls.length-4-FP (ls.drop (ls.length-4))=r):=(by show _=_;rw[J,<-hk,hr]);generalize Ba A m c 1=A1 at *;generalize c-m=c1 at *;generalize Ba A r c 1=A2 at *;generalize c-r=c2 at *;clear hd ha h8 Q ht hh U ae hn aa hc ai hk N J h4 Y aj al hr;go_enter func56,ntmps56;go_wp2_with fail;refine D0.out.mono ?_;rintro e w1 ⟨g,B,d,rfl,j,M⟩;have G:=hid M;have D2:=hid (D1.out w1 g B d j);have af:=j.lo;clear j M D0 D1;go_wp2_with fail;refine D2.out.mono ?_;rintro e w2 ⟨rfl,ac,L⟩;have E:Hid (Below w w w2):=G.out.trans (L.below fun b h=>⟨by have:=G.out.size;omega,nB⟩);have ab:=hid (DC.out w2 E.out);unfold Jb at ab;clear ac L DC G;go_wp2_with fail;refine ab.out.mono ?_;rintro e w3 ⟨v,rfl,Z,ak⟩;have ar:Hid (Below w w w3):=E.out.trans (ak.mono E.out.size);have am:Hid (w3.ownsRow w 5 1 v (Bu (FT ls)).length (bZ .u8 (Bu (FT ls)))):=lZ Z E.out.size;clear Z ak ab;go_wp2_with fail
   go_ret3
   rw[ax.out];exact⟨ar.out,fun h=>absurd h au.out,fun _=>⟨v,rfl,am.out⟩⟩
end Body
namespace Recs
open Go.RowKit Mem Own Canon NumPut Nums
theorem Jo{g ob:Nat}{bs:List Nat}{at_:Nat}{er:Int}{t:TypeId}{cs:Array Value}(h:Cur w g base bs A c at_ er)(i:Blk w ob t cs)(ht:t≠5)(hg:t≠243)(k:Nat)(u:Value):Cur (w.setCell ⟨ob,k,none⟩ u) g base bs A c at_ er:=
 ⟨h.blk.far (fun e=>Blk.apart i h.blk hg e.symm) _,Cb h.own (iZ h.own i ht.symm) _,h.le,h.lo⟩
end Recs
namespace Recs
open Go.RowKit Mem Own Canon NumPut Nums
theorem Vr{bs:List Nat}(h8:∀x∈bs,x<=255){at_:Nat}(er:Int)(h:at_<=bs.length):Et most bs at_ er<=bs.length:=by
 unfold Et;split
 ·exact h
 ·have:=(L6 most (bs.drop at_) (fun x hx=>h8 x (Cg hx))).2.1;rw[AZ]at this;omega
theorem eK(most:Nat)(bs:List Nat)(at_:Nat)(er:Int):at_<=Et most bs at_ er:=by unfold Et;split<;>omega
def BX(l:List Rec):List Value:=l.flatMap fun r=> [.int .u64 r.time, .int .u8 r.level, .string r.source, .string r.text]
theorem W8(l:List Rec)(r:Rec):BX (l++ [r])=BX l++ [.int .u64 r.time, .int .u8 r.level, .string r.source, .string r.text]:=by simp[BX]
theorem M3(l m:List Rec):BX (l++m)=BX l++BX m:=by simp[BX]
theorem Vd:(prog.info? 43).map (fun i=>(i.zero,i.size,i.bytes))=some (some (.agg #[.int .u64 0, .int .u8 0, .string ⟨#[]⟩, .string ⟨#[]⟩]),4,48):=ni
theorem M0:∀ (l:List Rec) (i j:Nat),i<l.length->j<4->(BX l)[i*4+j]? =some (Cp l i j)
 | [],i,j,h,_=>pS
 |t :: ts,0,j,_,hj=>by
  obtain rfl|rfl|rfl|rfl:j=0∨j=1∨j=2∨j=3:=nB
  all_goals rfl
 |t :: ts,i+1,j,h,hj=>by have:=M0 ts i j qh hj;show(_ :: _ :: _ :: _ :: BX ts)[(i+1)*4+j]? =_;rw[show(i+1)*4+j=(i*4+j)+1+1+1+1 by omega,List.getElem?_cons_succ,List.getElem?_cons_succ,List.getElem?_cons_succ,List.getElem?_cons_succ,this];rfl
theorem N4{l:List Rec}(h:w.ownsRow base 43 4 (.slice A l.length c) l.length (BX l)):Row w w A l.length 4 (Cp l):=
 Row.of_own h rfl fun i j hi hj=>M0 l i j hi hj
def U0(w:World)(R:List Rec×Int)(e:Ending)(w':World):Prop:=
 ∃v,e= .returned (.tuple #[v,R.2])/\w'.ownsRow w 43 4 v R.1.length (BX R.1)/\Below w w w'
def atOf(w:World)(g:Nat):Nat:=(intOf ((w.cell? ⟨g,1,none⟩).getD (.int .i64 0))).toNat
end Recs
namespace Recs
open Go.RowKit Mem Own Canon NumPut Nums
def Fq(bs:List Nat)(at_:Nat)(er:Int):Rec×Nat×Int:=
 let a3:=Et 4000 bs at_ er;let e3:=Es 4000 bs at_ er
 (⟨0,0,FY (Fc 4000 bs at_ er),FY (Fc 4000 bs a3 e3)⟩,Et 4000 bs a3 e3,Es 4000 bs a3 e3)
theorem jD{bs:List Nat}(h8:∀x∈bs,x<=255){at_:Nat}(h:at_<=bs.length)(er:Int):(Fq bs at_ er).2.1<=bs.length/\((Fq bs at_ er).2.2=0->at_<(Fq bs at_ er).2.1)/\CA (Fq bs at_ er).1:=by
 have hA3:=Vr (most:=4000) h8 er h;refine⟨Vr h8 _ hA3,fun he=> ?_,?_⟩
 ·have e0:er=0:=by refine Kv fun hn=> ?_;have e3:∀a,Es 4000 bs a er=er:=fun a=>Ag hn;unfold Fq at he;simp only[e3]at he;exact hn he
  have e1:Es 4000 bs at_ er=0:=by refine Kv fun hn=> ?_;have e3:∀a,Es 4000 bs a (Es 4000 bs at_ er)=Es 4000 bs at_ er:=fun a=>Ag hn;unfold Fq at he;simp only[e3]at he;exact hn he
  have hs:=(L6 4000 (bs.drop at_) (fun x hx=>h8 x (Cg hx))).2.2.1;have h1:Et 4000 bs at_ er=at_+(Cz 4000 (bs.drop at_)).2.1:=Ae (by simp[e0]);have h2:Es 4000 bs at_ er=(Cz 4000 (bs.drop at_)).2.2:=Ae (by simp[e0]);have h3:=hs (h2.symm.trans e1);have h4:=eK 4000 bs (Et 4000 bs at_ er) (Es 4000 bs at_ er);show at_<Et 4000 bs _ _;omega
 ·unfold CA Fq;simp only;omega
theorem lN(w:World)(g base:Nat)(bs:List Nat)(A:Option Addr)(c at_:Nat)(er:Int)(M:bs.length<=100000)(h8:∀x∈bs,x<=255)(h:Cur w g base bs A c at_ er):
 Calls prog 201 #[.agg #[.pointer (some ⟨g,0,none⟩)],false] w fun e w'=>e= .returned (Fq bs at_ er).1.val/\Cur w' g base bs A c (Fq bs at_ er).2.1 (Fq bs at_ er).2.2/\Kept (BL g w) w w':=by
 have ai:=h.blk.lt;unfold Fq Rec.val;simp only;have D3:=hid (fun wx hx=>Pn wx g base bs A c at_ er 4000 M h8 nB hx);generalize FY (Fc 4000 bs at_ er)=v3 at *;generalize Et 4000 bs at_ er=a3 at *;generalize Es 4000 bs at_ er=e3 at *;have D4:=hid (fun wx hx=>Pn wx g base bs A c a3 e3 4000 M h8 nB hx);generalize FY (Fc 4000 bs a3 e3)=v4 at *;generalize Et 4000 bs a3 e3=a4 at *;generalize Es 4000 bs a3 e3=e4 at *;have H:=hid h;clear h h8 M;go_enter func201,ntmps201;go_wp2_with fail;refine(D3.out _ (H.out.step qo)).mono ?_;rintro e w3 ⟨rfl,Y,E⟩;have N:Blk w3 w 249 #[.pointer (some ⟨g,0,none⟩)]:=(E.block _ ⟨p5,nB⟩).trans ((Blk.made _ _ _).alloc _);have L:Blk w3 (w.heap.size+1) 43 #[.int .u64 0, .int .u8 0, .string ⟨#[]⟩, .string ⟨#[]⟩]:=(E.block _ ⟨pR,nB⟩).trans (Blk.made_at _ _ _ pR);have aa:Hid (Kept (BL g w) w w3):=(Kept.of_below (B:=w.heap.size) qo (fun x hx=>hx.1)).trans ⟨E.os,E.tape,E.output,E.size,fun x hx=>E.block x ⟨by have:=hx.1;simp;omega,hx.2⟩⟩;have ae:=hid Y;have x3:=N.iy 0;have y3:=L.iy 2;have f3:=L.frozen 2;have af:=E.size;have ab:=hid N;have U:=hid L;clear Y E N L D3;go_wp2_with fail;refine(D4.out _ (Jo ae.out U.out ji ji 2 (.string v3))).mono ?_;rintro e w4 ⟨rfl,Z,j⟩;have Q:Blk w4 w 249 #[.pointer (some ⟨g,0,none⟩)]:=(j.block _ ⟨(ab.out.far (p:=⟨w.heap.size+1,2,none⟩) pR (.string v3)).lt,nB⟩).trans (ab.out.far (p:=⟨w.heap.size+1,2,none⟩) pR (.string v3));have J:Blk w4 (w.heap.size+1) 43 #[.int .u64 0, .int .u8 0, .string v3, .string ⟨#[]⟩]:=(j.block _ ⟨(U.out.set 2 (.string v3)).lt,nB⟩).trans (U.out.set 2 (.string v3));have ac:Hid (Kept (BL g w) w w4):=(aa.out.set (p:=⟨w.heap.size+1,2,none⟩) (fun h=>absurd h.1 pR) (.string v3)).trans ⟨j.os,j.tape,j.output,j.size,fun x hx=>j.block x ⟨by have:=hx.1;have:=aa.out.size;simp;omega,hx.2⟩⟩;have ag:=hid Z;have x4:=Q.iy 0;have y4:=J.iy 3;have f4:=J.frozen 3;have ah:=j.size;have aj:=hid Q;have i:=hid J;clear Z j Q J D4;have p0:=i.out.iy 0;have p1:=i.out.iy 1;have p2:=i.out.iy 2;have q0:=i.out.frozen 0;have q1:=i.out.frozen 1;have q2:=i.out.frozen 2;clear af x3 y3 f3;go_wp2_with fail;have B5:=((((i.out.set 3 (.string v4)).set 0 (.int .u64 0)).set 1 (.int .u8 0)).set 2 (.string v3)).set 3 (.string v4);have C5:=Jo (Jo (Jo (Jo (Jo ag.out i.out ji ji 3 (.string v4)) (i.out.set 3 (.string v4)) ji ji 0 (.int .u64 0)) ((i.out.set 3 (.string v4)).set 0 (.int .u64 0)) ji ji 1 (.int .u8 0)) (((i.out.set 3 (.string v4)).set 0 (.int .u64 0)).set 1 (.int .u8 0)) ji ji 2 (.string v3)) ((((i.out.set 3 (.string v4)).set 0 (.int .u64 0)).set 1 (.int .u8 0)).set 2 (.string v3)) ji ji 3 (.string v4);have G:∀k,¬BL g w (⟨w.heap.size+1,k,none⟩:Addr).block:=fun k h=>absurd h.1 pR;have K5:=((((ac.out.set (G 3) (.string v4)).set (G 0) (.int .u64 0)).set (G 1) (.int .u8 0)).set (G 2) (.string v3)).set (G 3) (.string v4);generalize ((((w4.setCell ⟨w.heap.size+1,3,none⟩ (.string v4)).setCell ⟨w.heap.size+1,0,none⟩ (.int .u64 0)).setCell ⟨w.heap.size+1,1,none⟩ (.int .u8 0)).setCell ⟨w.heap.size+1,2,none⟩ (.string v3)).setCell ⟨w.heap.size+1,3,none⟩ (.string v4)=w5 at *;have z0:=B5.cell 0;have z1:=B5.cell 1;have z2:=B5.cell 2;have z3:=B5.cell 3;simp at z0 z1 z2 z3;refine Df (v:= .agg #[.int .u64 0, .int .u8 0, .string v3, .string v4]) ?_ rfl ⟨rfl,C5,K5⟩;simp[results,results201,go_sem,z0,z1,z2,z3]
def I3:Nat->List Nat->Nat->List Rec->List Rec×Int
 |0,_,_,acc=>(acc,0)
 |f+1,bs,at_,acc=>if bs.length<=at_ then(acc,0)else if(Fq bs at_ 0).2.2≠0 then([],(Fq bs at_ 0).2.2)else I3 f bs (Fq bs at_ 0).2.1 (acc++ [(Fq bs at_ 0).1])
theorem Q5{f:Nat}{bs:List Nat}{at_:Nat}{i:List Rec}(h:bs.length<=at_):I3 f bs at_ i=(i,0):=by
 cases f with
 |zero=>rfl
 |succ f=>exact Ag h
def Gy(bs:List Nat):List Rec×Int:=I3 bs.length bs 0 []
theorem dD(w:World)(A:Option Addr)(n c:Nat)(bs:List Nat)(hn:bs.length=n)(ah:n<=100000)(h8:∀x∈bs,x<=255)(U:A=none->n=0/\c=0)(ha:Row w w A n 1 (kZ .u8 bs)):
 Calls prog 123 #[false, .slice A n c] w (U0 w (Gy bs)):=by
 obtain⟨j0,bc,a0,a6,ba⟩:=info_parts Vd;have D0:=hid (new_any w A n c bs hn ah U ha);have av:bs.length<=100000:=nB
 obtain⟨R,hR⟩:=jc (Gy bs);have ai:Hid (I3 bs.length bs 0 []=R):=hR.symm;rw[<-hR];have H8:=hid h8;clear hn U ha hR h8 ah;go_enter func123,ntmps123;go_wp2_with fail;refine D0.out.mono ?_;rintro e w1 ⟨g,B,d,rfl,N,ag⟩;have z1:=ag.size;have bj:=N.blk.lt;have be:=N.lo;have ar:=hid N;have an:=hid ag;clear N ag D0;go_wp2_with fail;have ak:=ar.out.step (w':=w1.alloc (.cells #[.pointer (some ⟨g,0,none⟩)] 249)) qo;have aa:Blk (w1.alloc (.cells #[.pointer (some ⟨g,0,none⟩)] 249)) w1 249 #[.pointer (some ⟨g,0,none⟩)]:=Blk.made _ _ _;have ac:Below w w (w1.alloc (.cells #[.pointer (some ⟨g,0,none⟩)] 249)):=mZ z1 an.out;generalize w1.alloc (.cells #[.pointer (some ⟨g,0,none⟩)] 249)=w2 at *;have z2:=ac.size;have ay:=aa.lt;have au:=hid ak;have bd:=hid aa;have am:=hid ac;clear ak aa ac ar an;go_loopw [7] (fun v wr=>∃ (f at_:Nat) (j:List Rec),at_<=bs.length/\j.length<=at_/\Hid (bs.length<=f+at_)/\Hid (I3 f bs at_ j=R)/\Hid (wr.ownsRow w2 43 4 v j.length (BX j))/\Hid (Cur wr g w bs B d at_ 0)/\Hid (Kept (fun x=>x<w2.heap.size/\x≠g) w2 wr)) (fun _ wr=>bs.length-atOf wr g)
 case atStart=>exact⟨bs.length,0,[],nB,pR,Am _,ai.out,AE _ _ _ _,au.out,Kept.refl _ _⟩
 case round=>
  obtain⟨f,at_,j,ax,bh,HF,HG,HO,HC,HK⟩:=hrel;have af:w1.heap.size≠g:=nB
  have zk:=HK.out.size;have xb:Blk wr w1 249 #[.pointer (some ⟨g,0,none⟩)]:=(HK.out.block _ ⟨ay,af⟩).trans bd.out;have x0:=xb.iy 0;have XB:=hid xb;have DL:=hid (left_any wr g w bs B d at_ 0 HC.out);have Y:=HO.out;obtain⟨va,vc,rfl⟩:=aZ Y;have aw:atOf wr g=at_:=by have h1:=HC.out.cells.2.1;unfold atOf;rw[h1];exact Br _
  have az:=hid aw;have bb:Hid (Below w w wr):=am.out.trans (HK.out.below (fun b h=>⟨nB,by have:=HC.out.lo;omega⟩));clear xb Y aw ai;by_cases M:bs.length<=at_
  ·have aj:bs.length-at_=0:=nB;have a1:Hid (R=(j,0)):=HG.out.symm.trans (Q5 M);rw[aj]at DL;clear M aj HG;go_wp2_with fail;refine DL.out.mono ?_;rintro e w3 ⟨rfl,q,rfl⟩;go_wp2_with fail;go_ret2;rw[a1.out];exact⟨_,rfl,lZ (eZ HO.out (fun x hx=>rfl)) z2,below_drewN bb.out q⟩
  ·obtain⟨f,rfl⟩:∃f',f=f'+1:=⟨f-1,mP⟩;have bg:0<bs.length-at_:=nB;have gl:=ja ((0:Int)<((bs.length-at_:Nat):Int));have bl:=ja (0<bs.length-at_);have bk:=ja (at_<bs.length);have hG:=HG.out;unfold I3 at hG;rw[Ae M]at hG;have Q:=jD H8.out ax 0;have DR:=hid (fun wx hx=>lN wx g w bs B d at_ 0 av H8.out hx);generalize Fq bs at_ 0=T at *;obtain⟨⟨rt,rl,rs,rx⟩,a2,e2⟩:=T;simp only at hG Q DR;unfold Rec.val at DR;simp only at DR;have a9:=Q.1;have a4:=hid Q.2.1;generalize al:bs.length-at_=m at *;have bi:=hid al;clear al HG Q;by_cases he:e2=0
   ·subst he;rw[Ae pR]at hG;have HG:=hid hG;clear hG;go_wp2_with fail;refine DL.out.mono ?_;rintro e w3 ⟨rfl,q,rfl⟩;go_wp2_with fail;refine(DR.out _ (HC.out.drewN q)).mono ?_;rintro e w4 ⟨rfl,J,i⟩;have z4:=i.size;simp at z4;have a3:w1.heap.size<w4.heap.size:=nB;have L:Blk w4 w1 249 #[.pointer (some ⟨g,0,none⟩)]:=(i.block _ ⟨(XB.out.drewN q).lt,af⟩).trans (XB.out.drewN q);have x4:=L.iy 0;have E:Hid (w4.ownsRow w2 43 4 (.slice va j.length vc) j.length (BX j)):=eZ HO.out (fun x hx=>i.block x ⟨(Ai HO.out x hx).2,by have:=(Ai HO.out x hx).1;omega⟩);have Z:Hid (Kept (fun x=>x<w2.heap.size/\x≠g) w2 w4):=HK.out.trans ⟨i.os,i.tape,i.output,i.size,fun x hx=>i.block x ⟨by have:=hx.1;simp;omega,hx.2⟩⟩;have G:=hid J;clear J i L x0 DL DR HO HK HC XB;go_wp2_with fail;refine(Ej _ g w bs B d a2 0 (G.out.step qo)).mono ?_;rintro e w5 ⟨rfl,rfl⟩;have bm:=a4.out trivial;have a5:j.length<=100000:=nB;go_wp2_with(at_builtin;refine fZ rfl (.tmp 26) (.tmp 28) 24 rfl w2 43 j0 _ 4 48 underlying24 bc a0 a6 ba rfl ji _ _ _ nC ((E.out.alloc _).alloc _) _ 1 1 [.int .u64 rt, .int .u8 rl, .string rs, .string rx] nC (Src.of_blk (g:=w4.heap.size+1) (Blk.made_at _ _ _ pR) 1 1 4 rfl) m9 qn nB p5 ?_;intro v5 w5 ae ab bf);have aq:Cur w5 g w bs B d a2 0:=(by have h1:=(G.out.step (w':=(w4.alloc (.cells #[.int .u64 rt, .int .u8 rl, .string rs, .string rx] 43)).alloc (.cells #[.int .u64 rt, .int .u8 rl, .string rs, .string rx] 43)) qo);exact⟨h1.blk.grown ab (fun e=>by have:=(Ai E.out g e.symm).1;omega),eZ h1.own (fun x hx=>ab.block x (Ai h1.own x hx).2 (fun e=>by have:=(Ai au.out.own x hx).2;have:=(Ai E.out x e.symm).1;omega)),h1.le,h1.lo⟩);go_roundw
    case measure=>go_light;have h1:=aq.cells.2.1;have h2:atOf w5 g=a2:=(by unfold atOf;rw[h1];exact Br _);rw[h2,az.out];omega
    case rel=>
     go_light;refine⟨f,a2,j++ [⟨rt,rl,rs,rx⟩],a9,by rw[Aj];simp;omega,?_,HG,?_,aq,?_⟩
     ·show _<=_;have:=HF.out;omega
     ·rw[W8,Aj];exact ae
     ·exact((Z.out.alloc (fun b h=>by have:=h.1;omega) _).alloc (fun b h=>by have:=h.1;simp;omega) _).grown ab (fun b h=>by have:=h.1;simp;omega) (fun b hb hh=>by have:=(Ai E.out b hb).1;have:=hh.1;omega)
   ·rw[Ag he]at hG;have HG:=hid hG;have g1:(e2 != 0)=true:=qj;clear hG he;go_wp2_with fail;refine DL.out.mono ?_;rintro e w3 ⟨rfl,q,rfl⟩;go_wp2_with fail;refine(DR.out _ (HC.out.drewN q)).mono ?_;rintro e w4 ⟨rfl,J,i⟩;have z4:=i.size;simp at z4;have a3:w1.heap.size<w4.heap.size:=nB;have L:Blk w4 w1 249 #[.pointer (some ⟨g,0,none⟩)]:=(i.block _ ⟨(XB.out.drewN q).lt,af⟩).trans (XB.out.drewN q);have x4:=L.iy 0;have E:Hid (w4.ownsRow w2 43 4 (.slice va j.length vc) j.length (BX j)):=eZ HO.out (fun x hx=>i.block x ⟨(Ai HO.out x hx).2,by have:=(Ai HO.out x hx).1;omega⟩);have Z:Hid (Kept (fun x=>x<w2.heap.size/\x≠g) w2 w4):=HK.out.trans ⟨i.os,i.tape,i.output,i.size,fun x hx=>i.block x ⟨by have:=hx.1;simp;omega,hx.2⟩⟩;have G:=hid J;clear J i L x0 DL DR HO HK HC XB;go_wp2_with fail;refine(Ej _ g w bs B d a2 e2 (G.out.step qo)).mono ?_;rintro e w5 ⟨rfl,rfl⟩;go_wp2_with fail;go_ret2;rw[<-HG.out];exact⟨_,rfl,AE _ _ _ _,mZ nB (am.out.trans (Z.out.below (fun b h=>⟨nB,by have:=G.out.lo;omega⟩)))⟩
end Recs
end Go.Proofs.YtfgdoknipbpfhaaGreatDoor
