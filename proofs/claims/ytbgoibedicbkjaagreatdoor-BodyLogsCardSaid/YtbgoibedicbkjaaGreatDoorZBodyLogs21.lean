/- The walk of the refe -/
import Derived.Test.YtbgoibedicbkjaaGreatDoorZBodyLogs10
import Derived.Test.YtbgoibedicbkjaaGreatDoorZBodyLogs18
import Derived.Test.YtbgoibedicbkjaaGreatDoorZBodyLogs20
import Derived.Test.YtbgoibedicbkjaaGreatDoorZBodyLogs17
import Derived.Laws.BytesArg
import Derived.Laws.Strings
import Derived.KernelRfl
import Derived.Lib.SmallJoins
import Derived.Lib.AppendStr
namespace Go.Proofs.YtbgoibedicbkjaaGreatDoor
open Go.Lib (hid)
set_option maxHeartbeats 2000000
set_option maxRecDepth 100000
namespace Huff
open Go.RowKit Mem Canon
def GD(ls:List Nat):ByteArray:=strOfNums (ls.map fun x=>((x:Nat):Int))
theorem Q4(x y:ByteArray):(x.toList==y.toList)=true↔x=y:=by
 rw[beq_iff_eq,FG,FG];constructor
 ·intro h;exact ByteArray.ext (Array.toList_inj.1 h)
 ·intro h;rw[h]
theorem Xy{a b:List Nat}(ha:∀x∈a,x<=255)(hb:∀x∈b,x<=255)(h:GD a=GD b):a=b:=by
 have h:=AJ (fun s:ByteArray=>s.data.toList) h;simp only[GD,strOfNums_data,List.map_map]at h
 have e:∀l:List Nat,(∀x∈l,x<=255)->(l.map ((fun n:Int=>UInt8.ofNat n.toNat) ∘ fun x:Nat=>(x:Int))).map UInt8.toNat=l:=by
  intro l hl;rw[List.map_map]
  conv=>rhs;rw[<-List.map_id l]
  apply J1
  intro x hx;have:=hl x hx;simp;omega
 rw[<-e a ha,<-e b hb,h]
theorem Xg{a b:List Nat}(ha:∀x∈a,x<=255)(hb:∀x∈b,x<=255):((GD a).toList==(GD b).toList)=decide (a=b):=by
 by_cases h:a=b
 ·subst h;rw[Aw rfl];exact(Q4 _ _).2 rfl
 ·rw[Az h];cases e:(GD a).toList==(GD b).toList
  ·rfl
  ·exact absurd (Xy ha hb ((Q4 _ _).1 e)) h
theorem Qo{w:World}{B:Nat}{A:Option Addr}{n c:Nat}{ls:List Nat}(hn:ls.length=n)(ha:Row w B A n 1 (iZ .u8 ls))(z:A=none->n=0):
 (convert 22 9 (.slice A n c)).run Tryz.prog w= .ok (.string (GD ls)) w:=by
 cases A with
 |none=>obtain rfl:=z rfl;have hl:ls= []:=FF hn;subst hl;exact run_convert_bytes_nil w 22 5 Tryz.underlying22 Tryz.underlying5 0 c 9 Tryz.underlying9
 |some ad=>
  obtain⟨b,y,h⟩:=ad;by_cases h0:n=0
  ·subst h0;have hl:ls= []:=FF hn;subst hl;have h0:(loadCells ⟨b,y,h⟩ 0).run Tryz.prog w= .ok (([]:List Int).map (Value.int .u8)).toArray w:=(by have:=run_loadCells_list (P:=Tryz.prog) w ⟨b,y,h⟩ [] (fun j v hj=>by simp at hj);simpa using this);rw[run_convert_bytes_string w 22 9 5 _ 0 c Tryz.underlying22 Tryz.underlying5 Tryz.underlying9,run_bytesToString w _ 0 c [] h0,List.foldl_nil];have e:GD []=ByteArray.empty:=rfl;rw[e]
  ·obtain⟨b',E,e,hb,hc⟩:=ha (by omega);simp only[Option.some.injEq,Addr.mk.injEq]at e;obtain⟨rfl,rfl,rfl⟩:=e;refine run_convert_bytes_arg w 22 5 Tryz.underlying22 Tryz.underlying5 b y n c _ (by simpa using hn) (fun i hi=> ?_) 9 Tryz.underlying9;have:=hc i 0 hi (by omega);rw[EM,CW]at this;rw[this];unfold iZ;congr 2;simp[List.getD_eq_getElem?_getD,show i<ls.length by omega]
theorem Qd(w:World)(A B:Option Addr)(n m c d:Nat)(la lb:List Nat)(hn:la.length=n)(hm:lb.length=m)(hA:A=none->n=0)(hB:B=none->m=0)
 (h:∀x∈la,x<=255)(i:∀x∈lb,x<=255)(ha:Row w w.heap.size A n 1 (iZ .u8 la))(hb:Row w w.heap.size B m 1 (iZ .u8 lb)):
 Calls Tryz.prog 30 #[.slice A n c, .slice B m d] w fun e w'=>e= .returned (.bool (decide (la=lb)))/\w=w':=by
 have p1:=Qo (c:=c) hn ha hA;have p2:=Qo (c:=d) hm hb hB;have HE:=hid (Xg h i);clear hn hm hA hB h i ha hb;go_enter Tryz.func30,Tryz.ntmps30;go_wp2_with fail;go_ret;exact⟨by simp[HE.out],rfl⟩
end Huff
namespace Block
open Go.RowKit Mem Own Canon
open NumPut Crc
open Go.Proofs.YtbgoibedicbkjaaGreatDoor.Huff (bytesOf Pp)
open Go.Proofs.YtbgoibedicbkjaaGreatDoor.Toks (Tk)
def sqO(bs:List Nat):List Nat:=TW.Xt (Lz.find bs)
def sqE(bs:List Nat):Int:=TW.Ro (Lz.find bs)
def sqz(bs:List Nat):Bool:=sqE bs==0&&decide ((sqO bs).length<bs.length)
def fWay(bs:List Nat)(plain:Bool):Nat:=if !plain&&sqz bs then 1 else 0
def Iq(bs:List Nat)(plain:Bool):List Nat:=if !plain&&sqz bs then sqO bs else bs
def Ns(bs:List Nat)(plain:Bool):List Nat:= [fWay bs plain]++pZ bs.length++pZ (Iq bs plain).length
def fAll(bs:List Nat)(plain:Bool):List Nat:=Ns bs plain++Iq bs plain
def FN(bs:List Nat)(plain:Bool):List Nat:=fAll bs plain++BX (Bx (fAll bs plain))
theorem WJ{w:World}{base c:Nat}{A:Option Addr}{ls:List Nat}(h:w.ownsRow base 5 1 (.slice A ls.length c) ls.length (cZ .u8 ls)):Row w w.heap.size A ls.length 1 (iZ .u8 ls):=
 Row.of_own h rfl fun i j hi hj=>by
  obtain rfl:j=0:=by omega
  simp[cZ,iZ,List.getD_eq_getElem?_getD,hi]
theorem zZ{w:World}{base n c:Nat}{A:Option Addr}{ls:List Nat}(h:w.ownsRow base 5 1 (.slice A n c) n (cZ .u8 ls))(hn:ls.length=n):Part.Ok ⟨A,c,ls⟩ w:=by subst hn;exact⟨WJ h,(CQ h).1⟩
end Block
namespace Block
open Go.RowKit Mem Own Canon
open NumPut Crc
end Block
namespace Opts
open Go.RowKit Mem
structure Opt where
 block:Int
 plain:Bool
 bucket:Int
 data:Int
 parity:Int
 chunk:Int
def Opt.val(o:Opt):Value:= .agg #[.int .i64 o.block, .bool o.plain, .int .i64 o.bucket, .int .i64 o.data, .int .i64 o.parity, .int .i64 o.chunk]
theorem Tx(a b:Bool)(a0 b0 a2 b2 a3 b3 a4 b4 a5 b5:Int)(w:World):(binOp .eql 25 (.agg #[.int .i64 a0, .bool a, .int .i64 a2, .int .i64 a3, .int .i64 a4, .int .i64 a5]) (.agg #[.int .i64 b0, .bool b, .int .i64 b2, .int .i64 b3, .int .i64 b4, .int .i64 b5])).run Tryz.prog w= .ok (.bool (decide (a0=b0/\a=b/\a2=b2/\a3=b3/\a4=b4/\a5=b5))) w:=by
 go_simp
 by_cases h0:a0=b0<;>by_cases h1:a=b<;>by_cases h2:a2=b2<;>by_cases h3:a3=b3<;>by_cases h4:a4=b4<;>by_cases h5:a5=b5<;>simp[h0,h1,h2,h3,h4,h5]
theorem NZ(w:World)(x lo hi:Int):
 Calls Tryz.prog 83 #[.int .i64 x, .int .i64 lo, .int .i64 hi] w fun e w'=>e= .returned (.bool (decide (lo<=x/\x<=hi)))/\w'=w:=by
 by_cases h:lo<=x
 ·have g1:decide (lo<=x)=true:=by simpa using h
  have HD:Hid (decide (lo<=x/\x<=hi)=decide (x<=hi)):=by show _=_;simp[h]
  rw[HD.out];clear h;go_enter Tryz.func83,Tryz.ntmps83;go_wp2_with fail;go_ret;exact⟨rfl,rfl⟩
 ·have g1:decide (lo<=x)=false:=by simpa using h
  have HD:Hid (decide (lo<=x/\x<=hi)=false):=by show _=_;simp[h]
  rw[HD.out];clear h;go_enter Tryz.func83,Tryz.ntmps83;go_wp2_with fail;go_ret;exact⟨rfl,rfl⟩
end Opts
namespace Recs
open Go.RowKit Mem
def Rec.val(r:Rec):Value:= .agg #[.int .u64 r.time, .int .u8 r.level, .string r.source, .string r.text]
def Ch(r:Rec):Bool:=decide (4000<r.source.size) || decide (4000<r.text.size)
def Da(l:List Rec):Int:=if 20000<l.length then 6 else if l.any Ch=true then 6 else if 1048576<Ck l then 6 else 0
theorem PZ{l:List Rec}{p:Rec->Bool}{k:Nat}{r:Rec}(hr:l[k]? =some r):(l.drop k).any p=(p r || (l.drop (k+1)).any p):=by obtain⟨hk,e⟩:=BO.1 hr;rw[CC hk,List.any_cons,e]
theorem MQ{r:Rec}(h:Ch r=false):r.source.size<=4000/\r.text.size<=4000:=by unfold Ch at h;simp at h;exact h
theorem Of{l:List Rec}{k:Nat}{r:Rec}(hr:l[k]? =some r):Ck (l.take (k+1))=Ck (l.take k)+FM r:=by rw[Ed,hr];simp[SI]
theorem XD{l:List Rec}(h:∀r∈l,Ch r=false):0<=Ck l/\Ck l<=8016*(l.length:Int):=by
 induction l with
 |nil=>simp[Nb]
 |cons r l ih=>
  have h1:=MQ (h r (by simp));have h2:=ih (fun x hx=>h x (by simp[hx]));have e:Ck (r :: l)=FM r+Ck l:=by simp only[Ck,List.map_cons,List.foldl_cons];rw[Oc];omega
  rw[e];unfold FM;simp only[List.length_cons]
  push_cast
  omega
theorem Wu(w:World)(r:Rec):
 Calls Tryz.prog 94 #[r.val] w fun e w'=>e= .returned (.bool (Ch r))/\Below w.heap.size w w':=by
 unfold Rec.val;by_cases h1:4000<r.source.size
 ·have hl:Ch r=true:=by unfold Ch;simp[h1]
  rw[hl];have g1:decide ((4000:Int)<(r.source.size:Int))=true:=by simp;omega
  have h:decide (4000<r.source.size)=true:=by simp;omega
  clear hl h1;go_enter Tryz.func94,Tryz.ntmps94;go_wp2_with fail;go_ret;exact⟨rfl,by(repeat (with_reducible first|exact Ag _ _|assumption|refine Aq ?_ |refine below_drewN ?_ _|refine qZ ?_ |refine bZ ?_ |refine eZ (by assumption) ?_ |refine belA ?_ |refine rZ (by assumption) ?_))⟩
 ·have g1:decide ((4000:Int)<(r.source.size:Int))=false:=by simp;omega
  have h:decide (4000<r.source.size)=false:=by simp;omega
  by_cases h2:4000<r.text.size
  ·have hl:Ch r=true:=(by unfold Ch;simp[h2]);rw[hl];have g2:decide ((4000:Int)<(r.text.size:Int))=true:=(by simp;omega);have i:decide (4000<r.text.size)=true:=(by simp;omega);clear hl h1 h2;go_enter Tryz.func94,Tryz.ntmps94;go_wp2_with fail;go_ret;exact⟨rfl,by(repeat (with_reducible first|exact Ag _ _|assumption|refine Aq ?_ |refine below_drewN ?_ _|refine qZ ?_ |refine bZ ?_ |refine eZ (by assumption) ?_ |refine belA ?_ |refine rZ (by assumption) ?_))⟩
  ·have hl:Ch r=false:=(by unfold Ch;simp;omega);rw[hl];have g2:decide ((4000:Int)<(r.text.size:Int))=false:=(by simp;omega);have i:decide (4000<r.text.size)=false:=(by simp;omega);clear hl h1 h2;go_enter Tryz.func94,Tryz.ntmps94;go_wp2_with fail;go_ret;exact⟨rfl,by(repeat (with_reducible first|exact Ag _ _|assumption|refine Aq ?_ |refine below_drewN ?_ _|refine qZ ?_ |refine bZ ?_ |refine eZ (by assumption) ?_ |refine belA ?_ |refine rZ (by assumption) ?_))⟩
theorem XF(w:World)(A:Option Addr)(n c:Nat)(l:List Rec)(hl:l.length=n)(hn:n<=9223372036854775807)(hr:Row w w.heap.size A n 4 (Db l))(K:Nat)(p:Rec->Bool)(hK:∀args wx,(callFunc K args).run Tryz.prog wx= .ok (.enter K args) wx)
 (hp:∀wx r,Calls Tryz.prog K #[Rec.val r] wx fun e w'=>e= .returned (.bool (p r))/\Below wx.heap.size wx w'):
 Calls Tryz.prog 142 #[.slice A n c, .func (.func K) #[] #[]] w fun e w'=>∃z:Int,e= .returned (.int .i64 z)/\decide (0<=z)=l.any p/\Below w.heap.size w w':=by
 have HP:=hid hp;have HL:=hid hl;clear hp hl;go_enter Tryz.func142,Tryz.ntmps142;go_wp2_with fail;go_loopw [8] (fun i wx=>∃k:Nat,k<=n/\i= .int .i64 k/\Hid ((l.drop k).any p=l.any p)/\Hid (Below w.heap.size w wx)) (fun i _=>n-(intOf i).toNat)
 case atStart=>exact⟨0,by omega,rfl,rfl,Ag _ _⟩
 case round=>
  obtain⟨k,hk,rfl,hA,HB⟩:=hrel;by_cases y:k<n
  ·obtain⟨b,G,r,rfl,E,hg,c0,c1,c2,c3⟩:=Row.rec (hr.below HB.out) HL.out y;have ha:=hA.out;rw[PZ hg]at ha;have D:=HP.out wr r;unfold Rec.val at D;have x0:(0:Int)<=(k:Int):=(by omega);have x1:(k:Int)<(n:Int):=(by omega);cases hb:p r
   ·rw[hb]at D ha;rw[Bool.false_or]at ha;have D:=hid D;have HA:=hid ha;clear hA ha hb hg;go_wp2_with fail;refine D.out.mono ?_;rintro e w1 ⟨rfl,h⟩;have j:Hid (Below w.heap.size w w1):=eZ h HB.out;clear h D c0 c1 c2 c3;go_wp2_with fail;go_roundw
    case measure=>go_light;simp[intOf];omega
    case rel=>go_light;exact⟨k+1,by omega,by go_num,HA.out,j.out⟩
   ·rw[hb]at D ha;rw[Bool.true_or]at ha;have D:=hid D;have HA:=hid ha;clear hA ha hb hg;go_wp2_with fail;refine D.out.mono ?_;rintro e w1 ⟨rfl,h⟩;have j:Hid (Below w.heap.size w w1):=eZ h HB.out;clear h D c0 c1 c2 c3;go_wp2_with fail;go_ret;exact⟨k,rfl,by rw[<-HA.out];simp,j.out⟩
  ·obtain rfl:k=n:=by omega
   have ha:=hA.out;rw[Ce (by rw[HL.out];exact Aj _)]at ha;have HA:=hid ha;clear ha hA;go_wp2_with fail;go_ret;exact⟨-1,rfl,by rw[<-HA.out];rfl,HB.out⟩
theorem VS(w:World)(A:Option Addr)(n c:Nat)(l:List Rec)(hl:l.length=n)(hn:n<=9223372036854775807)(hr:Row w w.heap.size A n 4 (Db l)):
 Calls Tryz.prog 93 #[.slice A n c, .func (.func 94) #[] #[]] w fun e w'=>e= .returned (.bool (l.any Ch))/\Below w.heap.size w w':=by
 have D:=hid (XF w A n c l hl hn hr 94 Ch (by intro h wx;simp[callFunc,go_sem,Tryz.func94];rfl) Wu);clear hl hr;go_enter Tryz.func93,Tryz.ntmps93;go_wp2_with fail;refine D.out.mono ?_;rintro e w1 ⟨z,rfl,hz,hb⟩;have HZ:=hid hz;clear hz D;go_wp2_with fail;go_ret;exact⟨Do HZ.out,hb⟩
theorem VB(w:World)(A:Option Addr)(n c:Nat)(l:List Rec)(hl:l.length=n)(hn:n<=20000)(hs:∀r∈l,Ch r=false)(hr:Row w w.heap.size A n 4 (Db l)):
 Calls Tryz.prog 95 #[.slice A n c] w fun e w'=>e= .returned (.int .i64 (Ck l))/\Below w.heap.size w w':=by
 have HL:=hid hl;have HS:=hid hs
 have HT:Hid (∀k,k<=n->0<=Ck (l.take k)/\Ck (l.take k)<=160320000):=fun k hk=>by
  have h:=XD (l:=l.take k) (fun r hr=>hs r (BV hr));have L:(l.take k).length<=n:=by rw[AO];omega
  omega
 clear hl hs;go_enter Tryz.func95,Tryz.ntmps95;go_wp2_with fail;go_loopw [3,8] (fun s i wx=>∃ (k:Nat) (x:Int),k<=n/\i= .int .i64 k/\s= .int .i64 x/\Hid (Ck (l.take k)=x)/\Hid (Below w.heap.size w wx)) (fun _ i _=>n-(intOf i).toNat)
 case atStart=>exact⟨0,0,by omega,rfl,rfl,rfl,Ag _ _⟩
 case round=>
  obtain⟨k,x,hk,rfl,rfl,hx,HB⟩:=hrel;by_cases z:k<n
  ·obtain⟨b,G,r,rfl,E,hg,c0,c1,c2,c3⟩:=Row.rec (hr.below HB.out) HL.out z;have y:=HT.out k hk;rw[hx.out]at y;have M:=MQ (HS.out r (BF hg));have HW:Hid (Ck (l.take (k+1))=x+FM r):=(by show _=_;rw[Of hg,hx.out]);unfold FM at HW;have x0:(0:Int)<=(k:Int):=(by omega);have x1:(k:Int)<(n:Int):=(by omega);have s1:IntKind.i64.wrap (16+(r.source.size:Int))=16+(r.source.size:Int):=Ak _ (by omega);have s2:IntKind.i64.wrap (16+(r.source.size:Int)+(r.text.size:Int))=16+(r.source.size:Int)+(r.text.size:Int):=Ak _ (by omega);have s3:IntKind.i64.wrap (x+(16+(r.source.size:Int)+(r.text.size:Int)))=x+(16+(r.source.size:Int)+(r.text.size:Int)):=Ak _ (by omega);have J:=HB.out.size;clear hg hx;go_wp2_with fail;go_roundw
   case measure=>go_light;simp[intOf];omega
   case rel=>go_light;exact⟨k+1,x+(16+(r.source.size:Int)+(r.text.size:Int)),by omega,by first|rfl|go_num,by first|rfl|go_num,HW.out,by have h:=HB.out;show Below w.heap.size w _;(repeat (with_reducible first|exact Ag _ _|assumption|refine Aq ?_ |refine below_drewN ?_ _|refine qZ ?_ |refine bZ ?_ |refine eZ (by assumption) ?_ |refine belA ?_ |refine rZ (by assumption) ?_))⟩
  ·obtain rfl:k=n:=by omega
   have j:=hx.out;rw[Bv (by rw[HL.out];exact Aj _)]at j;have HX:=hid j;clear j hx;go_wp2_with fail;go_ret;exact⟨by rw[HX.out];rfl,HB.out⟩
theorem NO(w:World)(A:Option Addr)(n c:Nat)(l:List Rec)(hl:l.length=n)(hn:n<=9223372036854775807)(hr:Row w w.heap.size A n 4 (Db l)):
 Calls Tryz.prog 49 #[.slice A n c] w fun e w'=>e= .returned (.int .i64 (Da l))/\Below w.heap.size w w':=by
 have D1:=hid (VS w A n c l hl hn hr);unfold Da;rw[hl];by_cases h1:20000<n
 ·rw[Ab h1];have g1:decide ((20000:Int)<(n:Int))=true:=by simp;omega
  have j:decide (20000<n)=true:=by simp;omega
  clear h1 hl hr D1;go_enter Tryz.func49,Tryz.ntmps49;go_wp2_with fail;go_ret;exact⟨rfl,Ag _ _⟩
 ·rw[Aa h1];have g1:decide ((20000:Int)<(n:Int))=false:=by simp;omega
  have j:decide (20000<n)=false:=by simp;omega
  cases hlo:l.any Ch with
  |true=>rw[Ab rfl];rw[hlo]at D1;clear h1 hl hr hlo;go_enter Tryz.func49,Tryz.ntmps49;go_wp2_with fail;refine D1.out.mono ?_;rintro e w1 ⟨rfl,hb⟩;go_wp2_with fail;go_ret;exact⟨rfl,hb⟩
  |false=>
   rw[Aa (by simp)];rw[hlo]at D1;have hs:∀r∈l,Ch r=false:=fun r h=>by have:=List.any_eq_false.1 hlo r h;simpa using this
   have D2:=hid (fun wx (hb:Below w.heap.size w wx)=>VB wx A n c l hl (by omega) hs ((hr.below hb).mono hb.size));generalize Ck l=x at *;by_cases h2:1048576<x
   ·rw[Ab h2];have g2:decide (1048576<x)=true:=(by simpa using h2);clear h1 hl hr hlo hs h2;go_enter Tryz.func49,Tryz.ntmps49;go_wp2_with fail;refine D1.out.mono ?_;rintro e w1 ⟨rfl,hb⟩;have E2:=hid (D2.out w1 hb);clear D1 D2;go_wp2_with fail;refine E2.out.mono ?_;rintro e w2 ⟨rfl,i⟩;go_wp2_with fail;go_ret;exact⟨rfl,eZ i hb⟩
   ·rw[Aa h2];have g2:decide (1048576<x)=false:=(by simpa using h2);clear h1 hl hr hlo hs h2;go_enter Tryz.func49,Tryz.ntmps49;go_wp2_with fail;refine D1.out.mono ?_;rintro e w1 ⟨rfl,hb⟩;have E2:=hid (D2.out w1 hb);clear D1 D2;go_wp2_with fail;refine E2.out.mono ?_;rintro e w2 ⟨rfl,i⟩;go_wp2_with fail;go_ret;exact⟨rfl,eZ i hb⟩
theorem refcheck_any(w:World)(A:Option Addr)(n c:Nat)(l:List Rec)(hl:l.length=n)(hn:n<=9223372036854775807)(hr:Row w w.heap.size A n 4 (Db l)):
 Calls Tryz.prog 74 #[.slice A n c] w fun e w'=>e= .returned (.int .i64 (Da l))/\Below w.heap.size w w':=by
 obtain⟨E,hE⟩:∃E,E=Da l:=⟨_,rfl⟩;rw[<-hE];unfold Da at hE;rw[hl]at hE;by_cases h1:20000<n
 ·rw[Ab h1]at hE;have g1:decide ((20000:Int)<(n:Int))=true:=by simp;omega
  have J:decide (20000<n)=true:=by simp;omega
  subst hE;clear h1 hl hr;go_enter Tryz.func74,Tryz.ntmps74;go_wp2_with fail;go_ret;exact⟨rfl,Ag _ _⟩
 ·rw[Aa h1]at hE;have g1:decide ((20000:Int)<(n:Int))=false:=by simp;omega
  have J:decide (20000<n)=false:=by simp;omega
  have HE:=hid hE;have HL:=hid hl;have Q:n<=20000:=by omega
  clear h1 hl hE;go_enter Tryz.func74,Tryz.ntmps74;go_wp2_with fail;go_loopw [3,4] (fun s i wx=>∃ (k:Nat) (x:Int),k<=n/\i= .int .i64 k/\s= .int .i64 x/\0<=x/\x<=8016*(k:Int)/\Hid (Ck (l.take k)=x)/\Hid ((l.drop k).any Ch=l.any Ch)/\Hid (Below w.heap.size w wx)) (fun _ i _=>n-(intOf i).toNat)
  case atStart=>exact⟨0,0,by omega,rfl,rfl,by omega,by omega,rfl,rfl,Ag _ _⟩
  case round=>
   obtain⟨k,x,hk,rfl,rfl,aa,U,hx,hA,HB⟩:=hrel;by_cases M:k<n
   ·obtain⟨b,Z,r,rfl,Y,hg,c0,c1,c2,c3⟩:=Row.rec (hr.below HB.out) HL.out M;have ha:=hA.out;rw[PZ hg]at ha;have HW:Hid (Ck (l.take (k+1))=x+FM r):=(by show _=_;rw[Of hg,hx.out]);have x0:(0:Int)<=(k:Int):=(by omega);have x1:(k:Int)<(n:Int):=(by omega);by_cases h2:4000<r.source.size
    ·have j:Ch r=true:=(by unfold Ch;simp[h2]);rw[j,Bool.true_or]at ha;have y:Hid (E=6):=(by have h:=HE.out;rw[<-ha,Ab rfl]at h;exact h);have g2:decide ((4000:Int)<(r.source.size:Int))=true:=(by simp;omega);have G:decide (4000<r.source.size)=true:=(by simp;omega);clear ha j h2 hg hA hx HE;go_wp2_with fail;go_ret;exact⟨by rw[y.out];rfl,HB.out⟩
    ·have g2:decide ((4000:Int)<(r.source.size:Int))=false:=(by simp;omega);have G:decide (4000<r.source.size)=false:=(by simp;omega);by_cases h3:4000<r.text.size
     ·have j:Ch r=true:=(by unfold Ch;simp[h3]);rw[j,Bool.true_or]at ha;have y:Hid (E=6):=(by have h:=HE.out;rw[<-ha,Ab rfl]at h;exact h);have g3:decide ((4000:Int)<(r.text.size:Int))=true:=(by simp;omega);have N:decide (4000<r.text.size)=true:=(by simp;omega);clear ha j h2 h3 hg hA hx HE;go_wp2_with fail;go_ret;exact⟨by rw[y.out];rfl,HB.out⟩
     ·have j:Ch r=false:=(by unfold Ch;simp;omega);rw[j,Bool.false_or]at ha;have L:=hid ha;have g3:decide ((4000:Int)<(r.text.size:Int))=false:=(by simp;omega);have N:decide (4000<r.text.size)=false:=(by simp;omega);unfold FM at HW;have s1:IntKind.i64.wrap (x+16)=x+16:=Ak _ (by omega);have s2:IntKind.i64.wrap (x+16+(r.source.size:Int))=x+16+(r.source.size:Int):=Ak _ (by omega);have s3:IntKind.i64.wrap (x+16+(r.source.size:Int)+(r.text.size:Int))=x+16+(r.source.size:Int)+(r.text.size:Int):=Ak _ (by omega);clear ha j hg hA hx;go_wp2_with fail;go_quiet (fail);go_wp2_with fail;go_roundw
      case measure=>go_light;simp[intOf];omega
      case rel=>go_light;exact⟨k+1,x+16+(r.source.size:Int)+(r.text.size:Int),by omega,by first|rfl|go_num,by first|rfl|go_num,by omega,by omega,by have h:=HW.out;show _=_;omega,L.out,below_drewN HB.out _⟩
   ·obtain rfl:k=n:=by omega
    have z:=hx.out;rw[Bv (by rw[HL.out];exact Aj _)]at z;have ha:=hA.out;rw[Ce (by rw[HL.out];exact Aj _)]at ha;have he:=HE.out;rw[<-ha,z,Aa (by simp)]at he;by_cases h4:1048576<x
    ·rw[Ab h4]at he;have g4:decide (1048576<x)=true:=(by simpa using h4);have y:=hid he;clear z hx ha hA he HE h4;go_wp2_with fail;go_ret;exact⟨by rw[y.out];rfl,HB.out⟩
    ·rw[Aa h4]at he;have g4:decide (1048576<x)=false:=(by simpa using h4);have y:=hid he;clear z hx ha hA he HE h4;go_wp2_with fail;go_ret;exact⟨by rw[y.out];rfl,HB.out⟩
end Recs
namespace NumPut
open Go.RowKit Mem Own Canon
theorem L6{X k:Nat}(h:X*2 ^ (7*k)<18446744073709551616)(i:128<=X):k+1<=9/\X / 128*2 ^ (7*(k+1))<18446744073709551616:=by
 have e:2 ^ (7*(k+1))=128*2 ^ (7*k):=by rw[show 7*(k+1)=7*k+7 by omega,Nat.pow_add];omega
 constructor
 ·by_cases hk:k+1<=9
  ·exact hk
  ·exfalso;have h1:2 ^ 63<=2 ^ (7*k):=Bu (by omega) (by omega);have h2:128*2 ^ 63<=X*2 ^ (7*k):=Gq i h1;omega
 ·rw[e,<-Nat.mul_assoc];have:X / 128*128*2 ^ (7*k)<=X*2 ^ (7*k):=EN _ (Nat.div_mul_le_self _ _);omega
theorem Xl:∀ (x k:Nat),x*2 ^ (7*k)<18446744073709551616->k<=9->(pZ x).length+k<=10:=by
 intro x
 induction x using Nat.strongRecOn with
 |_ x ih=>
  intro k h hk;by_cases h1:x<128
  ·rw[FV h1];simp;omega
  ·obtain⟨s1,s2⟩:=L6 h (by omega);have:=ih (x / 128) (by omega) (k+1) s2 s1;rw[Hh h1,Bh];omega
theorem Cg{x:Nat}(h:x<18446744073709551616):(pZ x).length<=10:=by have:=Xl x 0 (by simpa using h) (by omega);omega
theorem JM(w:World)(x:Nat)(hx:x<18446744073709551616):
 Calls Tryz.prog 98 #[.int .u64 x] w fun e w'=>∃v,e= .returned v/\w'.ownsRow w.heap.size 5 1 v (pZ x).length (cZ .u8 (pZ x))/\Below w.heap.size w w':=by
 obtain⟨j0,aa,Z,N,L⟩:=info_parts Cr;obtain⟨R,hR⟩:∃R,R=pZ x:=⟨_,rfl⟩;have Q:Hid ([]++pZ x=R):=hR.symm;have U:Hid (x*2 ^ (7*0)<18446744073709551616):=by show _<_;simpa using hx
 rw[<-hR];clear hR;go_enter Tryz.func98,Tryz.ntmps98;go_wp2_with fail;go_loopw [0,3] (fun u v wr=>∃ (X k:Nat) (done:List Nat),u= .int .u64 X/\k<=9/\X<18446744073709551616/\Hid (X*2 ^ (7*k)<18446744073709551616)/\Hid (done.length=k)/\Hid (done++pZ X=R)/\Hid (wr.ownsRow w.heap.size 5 1 v k (cZ .u8 done))/\Hid (Below w.heap.size w wr)) (fun u _ _=>(intOf u).toNat)
 case atStart=>exact⟨x,0,[],rfl,by omega,hx,U.out,rfl,Q.out,Am _ _ _ _,Ag _ _⟩
 case round=>
  obtain⟨X,k,done,rfl,hk,hX,HX,HL,HR,HO,HB⟩:=hrel;clear Q U;have zb:=HB.out.size;by_cases z:X<128
  ·have g1:decide ((128:Int)<=(X:Int))=false:=(by simp;omega);have ae:decide (128<=X)=false:=(by simp;omega);have c1:IntKind.u8.wrap (X:Int)=(X:Int):=(by rw[Gs];omega);have j:Hid (done++ [X]=R):=(by have h:=HR.out;rw[FV z]at h;exact h);go_wp2_with(at_builtin;refine gZ rfl (.tmp 14) (.tmp 17) 22 rfl w.heap.size 5 j0 _ 1 1 Tryz.underlying22 aa Z N L rfl (by decide) _ _ _ (by rfl) (HO.out.alloc _) _ 1 1 [.int .u8 (X:Nat)] (by rfl) (Src.of_blk (g:=wr.heap.size) (Blk.made _ _ _) 1 1 1 rfl) (by intro u hu;simp at hu;rcases hu with rfl;rfl) (by unfold maxLen;omega) (by omega) (by simp;omega) ?_;intro v4 w4 i J M);have G:Hid (w4.ownsRow w.heap.size 5 1 v4 R.length (cZ .u8 R)):=(by rw[<-j.out,Ai,HL.out,Je];exact i);have E:Hid (Below w.heap.size w w4):=(bZ HB.out).grown J (by simp;omega) (fun y hy=>(Ae HO.out y hy).1);go_ret;exact⟨_,rfl,G.out,E.out⟩
  ·have g1:decide ((128:Int)<=(X:Int))=true:=(by simp;omega);have ae:decide (128<=X)=true:=(by simp;omega);have c1:IntKind.u8.wrap (X:Int)=((X % 256:Nat):Int):=(by rw[Gs];omega);have o1:bits .or .u8 ((X % 256:Nat):Int) 128=((X % 128+128:Nat):Int):=(by rw[show(128:Int)=((128:Nat):Int) from rfl,u8_or_nat _ _ (by omega) (by omega),Ox _ (by omega)];congr 1;omega);have j:Hid ((done++ [X % 128+128])++pZ (X / 128)=R):=(by have h:=HR.out;rw[Hh z]at h;rw[EX];exact h);obtain⟨af,Y⟩:=L6 HX.out (by omega);have ab:=hid Y;obtain⟨b,hb⟩:∃b,b=X % 128+128:=⟨_,rfl⟩;obtain⟨a,ha⟩:∃a,a=X % 256:=⟨_,rfl⟩;rw[<-hb]at o1 j;rw[<-ha]at o1 c1;clear hb ha Y;go_wp2_with(at_builtin;refine gZ rfl (.tmp 6) (.tmp 10) 22 rfl w.heap.size 5 j0 _ 1 1 Tryz.underlying22 aa Z N L rfl (by decide) _ _ _ (by rfl) (HO.out.alloc _) _ 1 1 [.int .u8 (b:Nat)] (by rfl) (Src.of_blk (g:=wr.heap.size) (Blk.made _ _ _) 1 1 1 rfl) (by intro u hu;simp at hu;rcases hu with rfl;rfl) (by unfold maxLen;omega) (by omega) (by simp;omega) ?_;intro v4 w4 i J M);have ac:Hid (w4.ownsRow w.heap.size 5 1 v4 (k+1) (cZ .u8 (done++ [b]))):=(by rw[Je];exact i);have E:Hid (Below w.heap.size w w4):=(bZ HB.out).grown J (by simp;omega) (fun y hy=>(Ae HO.out y hy).1);exact⟨⟨X / 128,k+1,done++ [b],AJ _ (by omega),by omega,by omega,ab.out,by show _=_;rw[Ai,HL.out];rfl,j.out,ac.out,E.out⟩,by simp[intOf];omega⟩
theorem Ls(w:World)(x:Nat)(hx:x<18446744073709551616):
 Calls Tryz.prog 80 #[.int .u64 x] w fun e w'=>∃v,e= .returned v/\w'.ownsRow w.heap.size 5 1 v (pZ x).length (cZ .u8 (pZ x))/\Below w.heap.size w w':=by
 obtain⟨j0,aa,Z,N,L⟩:=info_parts Cr;obtain⟨R,hR⟩:∃R,R=pZ x:=⟨_,rfl⟩;have Q:Hid ([]++pZ x=R):=hR.symm;have U:Hid (x*2 ^ (7*0)<18446744073709551616):=by show _<_;simpa using hx
 rw[<-hR];clear hR;go_enter Tryz.func80,Tryz.ntmps80;go_wp2_with fail;go_loopw [0,3] (fun u v wr=>∃ (X k:Nat) (done:List Nat),u= .int .u64 X/\k<=9/\X<18446744073709551616/\Hid (X*2 ^ (7*k)<18446744073709551616)/\Hid (done.length=k)/\Hid (done++pZ X=R)/\Hid (wr.ownsRow w.heap.size 5 1 v k (cZ .u8 done))/\Hid (Below w.heap.size w wr)) (fun u _ _=>(intOf u).toNat)
 case atStart=>exact⟨x,0,[],rfl,by omega,hx,U.out,rfl,Q.out,Am _ _ _ _,Ag _ _⟩
 case round=>
  obtain⟨X,k,done,rfl,hk,hX,HX,HL,HR,HO,HB⟩:=hrel;clear Q U;have zb:=HB.out.size;by_cases z:X<128
  ·have g1:decide ((128:Int)<=(X:Int))=false:=(by simp;omega);have ae:decide (128<=X)=false:=(by simp;omega);have c1:IntKind.u8.wrap (X:Int)=(X:Int):=(by rw[Gs];omega);have j:Hid (done++ [X]=R):=(by have h:=HR.out;rw[FV z]at h;exact h);go_wp2_with(at_builtin;refine gZ rfl (.tmp 15) (.tmp 18) 22 rfl w.heap.size 5 j0 _ 1 1 Tryz.underlying22 aa Z N L rfl (by decide) _ _ _ (by rfl) (HO.out.alloc _) _ 1 1 [.int .u8 (X:Nat)] (by rfl) (Src.of_blk (g:=wr.heap.size) (Blk.made _ _ _) 1 1 1 rfl) (by intro u hu;simp at hu;rcases hu with rfl;rfl) (by unfold maxLen;omega) (by omega) (by simp;omega) ?_;intro v4 w4 i J M);have G:Hid (w4.ownsRow w.heap.size 5 1 v4 R.length (cZ .u8 R)):=(by rw[<-j.out,Ai,HL.out,Je];exact i);have E:Hid (Below w.heap.size w w4):=(bZ HB.out).grown J (by simp;omega) (fun y hy=>(Ae HO.out y hy).1);go_ret;exact⟨_,rfl,G.out,E.out⟩
  ·have g1:decide ((128:Int)<=(X:Int))=true:=(by simp;omega);have ae:decide (128<=X)=true:=(by simp;omega);have c1:IntKind.u64.wrap (128+(X:Int) % 128)=((X % 128+128:Nat):Int):=(by rw[show IntKind.u64.wrap (128+(X:Int) % 128)=(128+(X:Int) % 128) % 18446744073709551616 from by simp[IntKind.wrap,IntKind.bits,IntKind.signed]];omega);have c2:IntKind.u8.wrap ((X % 128+128:Nat):Int)=((X % 128+128:Nat):Int):=(by rw[Gs];omega);have j:Hid ((done++ [X % 128+128])++pZ (X / 128)=R):=(by have h:=HR.out;rw[Hh z]at h;rw[EX];exact h);obtain⟨af,Y⟩:=L6 HX.out (by omega);have ab:=hid Y;obtain⟨b,hb⟩:∃b,b=X % 128+128:=⟨_,rfl⟩;rw[<-hb]at c1 c2 j;clear hb Y;go_wp2_with(at_builtin;refine gZ rfl (.tmp 6) (.tmp 11) 22 rfl w.heap.size 5 j0 _ 1 1 Tryz.underlying22 aa Z N L rfl (by decide) _ _ _ (by rfl) (HO.out.alloc _) _ 1 1 [.int .u8 (b:Nat)] (by rfl) (Src.of_blk (g:=wr.heap.size) (Blk.made _ _ _) 1 1 1 rfl) (by intro u hu;simp at hu;rcases hu with rfl;rfl) (by unfold maxLen;omega) (by omega) (by simp;omega) ?_;intro v4 w4 i J M);have ac:Hid (w4.ownsRow w.heap.size 5 1 v4 (k+1) (cZ .u8 (done++ [b]))):=(by rw[Je];exact i);have E:Hid (Below w.heap.size w w4):=(bZ HB.out).grown J (by simp;omega) (fun y hy=>(Ae HO.out y hy).1);exact⟨⟨X / 128,k+1,done++ [b],AJ _ (by omega),by omega,by omega,ab.out,by show _=_;rw[Ai,HL.out];rfl,j.out,ac.out,E.out⟩,by simp[intOf];omega⟩
def sB(s:ByteArray):List Nat:=s.data.toList.map UInt8.toNat
theorem Xj(s:ByteArray):(sB s).length=s.size:=by unfold sB;rw[BN,Array.length_toList];rfl
def Il(s:ByteArray):List Nat:=pZ s.size++sB s
theorem W5{s:ByteArray}(h:s.size<=100000):(Il s).length<=3+s.size/\s.size<(Il s).length:=by
 have h1:(pZ s.size).length<=3:=by
  by_cases h1:s.size<128
  ·rw[FV h1];simp
  ·rw[Hh h1,Bh];by_cases h2:s.size / 128<128
   ·rw[FV h2];simp
   ·rw[Hh h2,FV (by omega)];simp
 have h2:1<=(pZ s.size).length:=by
  by_cases h1:s.size<128
  ·rw[FV h1];simp
  ·rw[Hh h1,Bh];omega
 unfold Il;rw[Ai,Xj];omega
end NumPut
namespace Recs
open Go.RowKit Mem Own Canon NumPut
open Go.Proofs.YtbgoibedicbkjaaGreatDoor.Nums (Mg)
open Go.Proofs.YtbgoibedicbkjaaGreatDoor.Block (zZ)
def Jl(r:Rec):Prop:=0<=r.time/\r.time<18446744073709551616/\0<=r.level/\r.level<=255
def XX(wh:Bool)(r:Rec):List Nat:=if wh=true then pZ r.time.toNat++ [r.level.toNat]else []
def oneB(wh:Bool)(r:Rec):List Nat:=XX wh r++(Il r.source++Il r.text)
theorem Hy{w:World}{base n c:Nat}{A:Option Addr}{xs:List Value}(h:w.ownsRow base 5 1 (.slice A n c) n xs):Src w A n c 1 xs:=by
 obtain⟨h0,h1⟩:=h;refine⟨h0,?_⟩;rcases h1 with ⟨hv,_⟩|⟨g,y,cur,hv,_,hh,_,_,_,i⟩
 ·injection hv with e1 e2 e3;exact .inl ⟨e1,e2,e3⟩
 ·injection hv with e1 e2 e3;refine .inr ⟨⟨g,0,none⟩,e1,fun j u hu=> ?_⟩;rw[add_none,Bq,Blk.cell hh];rw[<-i,Hs]at hu;split at hu
  ·simpa using hu
  ·cases hu
end Recs
namespace Recs
open Go.RowKit Mem Own Canon NumPut
open Go.Proofs.YtbgoibedicbkjaaGreatDoor.Block (zZ)
def Gi(wh:Bool)(l:List Rec):List Nat:=l.flatMap (oneB wh)
end Recs
namespace Recs
open Go.RowKit Mem Own Canon NumPut
def goG(S:Nat):Nat->Nat->List Nat->List Nat
 |_,c,[]=> [c]
 |h,c,x :: t=>if S<h+x then c :: goG S x 1 t else goG S (h+x) (c+1) t
def Gc(S:Nat):List Nat->List Nat
 | []=> []
 |x :: t=>goG S x 1 t
def Gl(wh:Bool)(l:List Rec):List Nat:=l.map fun r=>(oneB wh r).length
def My(S:Nat)(wh:Bool)(l:List Rec)(w:World)(e:Ending)(w':World):Prop:=
 ∃v,e= .returned v/\w'.ownsRow w.heap.size 3 1 v (Gc S (Gl wh l)).length (cZ .i64 (Gc S (Gl wh l)))/\Below w.heap.size w w'
end Recs
namespace Recs
open NumPut
def zigN(d:Nat):Nat:=if d<9223372036854775808 then 2*d else 36893488147419103231-2*d
def subN(a b:Nat):Nat:=(a+18446744073709551616-b) % 18446744073709551616
theorem Tj{d:Nat}(h:d<18446744073709551616):zigN d<18446744073709551616:=by unfold zigN;split<;>omega
theorem S4(a b:Nat):subN a b<18446744073709551616:=Nat.mod_lt _ (by omega)
def Gh(g:Nat->Nat->List Nat):Nat->List Nat->List Nat
 |_,[]=> []
 |was,t :: l=>g was t++Gh g t l
theorem ND{g:Nat->Nat->List Nat}(h:∀a b,(g a b).length<=10):∀ (l:List Nat) (i:Nat),(Gh g i l).length<=10*l.length
 | [],_=>by simp[Gh]
 |t :: l,i=>by have:=ND h l t;have:=h i t;rw[Gh,Ai,Bh];omega
theorem QB{g:Nat->Nat->List Nat}(h:∀a b,∀y∈g a b,y<=255):∀ (l:List Nat) (i:Nat),∀y∈Gh g i l,y<=255
 | [],_,y,hy=>by simp[Gh]at hy
 |t :: l,i,y,hy=>by
  rw[Gh]at hy;rcases BH.1 hy with hy|hy
  ·exact h i t y hy
  ·exact QB h l t y hy
def stepT(was t:Nat):List Nat:=pZ (zigN (subN t was))
theorem WM(a b:Nat):(stepT a b).length<=10:=Cg (Tj (S4 b a))
theorem VY(a b:Nat):∀y∈stepT a b,y<=255:=fun y hy=>EB _ y hy
def lead(x:Nat):List Nat->Nat
 | []=>0
 |y :: t=>if y=x then lead x t+1 else 0
theorem QR(x:Nat):∀l,lead x l<=l.length
 | []=>by simp[lead]
 |y :: t=>by have:=QR x t;rw[lead];split<;>simp<;>omega
def lvB:List Nat->List Nat
 | []=> []
 |x :: t=>x :: (pZ (lead x t+1)++lvB (t.drop (lead x t)))
termination_by l=>l.length
decreasing_by simp only[List.length_drop,List.length_cons];omega
theorem QI:∀ (n:Nat) (l:List Nat),l.length<=n->(∀x∈l,x<=255)->l.length<18446744073709551616->(lvB l).length<=11*l.length
 |_,[],_,_,_=>by rw[lvB];simp
 |n+1,x :: t,h,h8,h64=>by have hl:=QR x t;simp only[List.length_cons]at h h64;have:=Cg (x:=lead x t+1) (by omega);have ih:=QI n (t.drop (lead x t)) (by rw[AQ];omega) (fun y hy=>h8 y (EW _ (Bb hy))) (by rw[AQ];omega);rw[AQ]at ih;rw[lvB];simp only[List.length_cons,List.length_append];omega
theorem Qw:∀ (n:Nat) (l:List Nat),l.length<=n->(∀x∈l,x<=255)->∀y∈lvB l,y<=255
 |_,[],_,_,y,hy=>by rw[lvB]at hy;cases hy
 |n+1,x :: t,h,h8,y,hy=>by
  rw[lvB]at hy;simp only[List.length_cons]at h;rcases BZ.1 hy with rfl|hy
  ·exact h8 _ (by simp)
  ·rcases BH.1 hy with hy|hy
   ·exact EB _ y hy
   ·exact Qw n (t.drop (lead x t)) (by rw[AQ];omega) (fun y hy=>h8 y (EW _ (Bb hy))) y hy
def IQ(l:List Rec):List Nat:=l.map fun r=>r.time.toNat
def Hf(l:List Rec):List Nat:=l.map fun r=>r.level.toNat
def Fq(l:List Rec):List Nat:=Gh stepT 0 (IQ l)++lvB (Hf l)
theorem Nq{l:List Rec}(h:∀r∈l,Jl r):∀x∈Hf l,x<=255:=fun x hx=>by obtain⟨r,hr,rfl⟩:=Ep.1 hx;have:=h r hr;obtain⟨_,_,h1,h2⟩:=this;omega
theorem VI{l:List Rec}(h:∀r∈l,Jl r):∀x∈Fq l,x<=255:=fun x hx=>by
 rcases BH.1 hx with hx|hx
 ·exact QB VY _ _ x hx
 ·exact Qw _ _ (Aj _) (Nq h) x hx
theorem Wi{l:List Rec}(h:∀r∈l,Jl r)(hn:l.length<=1000000):(Fq l).length<=21*l.length:=by have h1:=ND WM (IQ l) 0;have h2:=QI _ (Hf l) (Aj _) (Nq h) (by unfold Hf;rw[BN];omega);unfold IQ at h1;unfold Hf at h2;rw[BN]at h1 h2;unfold Fq;rw[Ai];unfold IQ Hf;omega
end Recs
namespace Lz
open Go.RowKit Go.Maps Mem Own Canon
open Go.Proofs.YtbgoibedicbkjaaGreatDoor.Toks (Tk)
open Go.Proofs.YtbgoibedicbkjaaGreatDoor.Huff (CG Im Kw)
end Lz
namespace Block
open Go.RowKit Mem Own Canon
open NumPut Crc
theorem own_one{w:World}{base:Nat}{x:Value}(hb:base<=w.heap.size):(w.alloc (.cells #[x] 5)).ownsRow base 5 1 (.slice (some ⟨w.heap.size,0,none⟩) 1 1) 1 [x]:=
 ⟨rfl, .inr ⟨w.heap.size,1,#[x],rfl,hb,heap_alloc_new w _,Aj _,by unfold maxLen;omega,rfl,rfl⟩⟩
end Block
namespace One
open Go.RowKit Mem Own Canon NumPut Crc
open Recs Opts
open Go.Proofs.YtbgoibedicbkjaaGreatDoor.Block (FN zZ)
theorem L5(S:Nat):∀ (t:List Nat) (h c:Nat),(goG S h c t).sum=c+t.length
 | [],_,c=>by simp[goG]
 |x :: t,h,c=>by
  rw[goG];split
  ·rw[GR,L5 S t];simp;omega
  ·rw[L5 S t];simp;omega
theorem L0(S:Nat):∀ (t:List Nat) (h c:Nat),1<=c->∀x∈goG S h c t,1<=x
 | [],_,c,hc,x,hx=>by rw[goG,Df]at hx;omega
 |y :: t,h,c,hc,x,hx=>by
  rw[goG]at hx;split at hx
  ·rcases BZ.1 hx with rfl|hx
   ·exact hc
   ·exact L0 S t _ 1 (by omega) x hx
  ·exact L0 S t _ (c+1) (by omega) x hx
theorem Mu(S:Nat)(l:List Nat):(Gc S l).sum=l.length:=by
 cases l with
 |nil=>rfl
 |cons x t=>rw[Gc,L5];simp;omega
theorem Mq(S:Nat)(l:List Nat):∀x∈Gc S l,1<=x:=by
 cases l with
 |nil=>intro x hx;cases hx
 |cons y t=>exact L0 S t y 1 (by omega)
theorem Mn:∀ {l:List Nat},(∀x∈l,1<=x)->l.length<=l.sum
 | [],_=>by simp
 |x :: l,h=>by have h1:=h x (by simp);have h2:=Mn (l:=l) (fun y hy=>h y (by simp[hy]));rw[Bh,GR];omega
theorem Nl(wh:Bool)(l:List Rec):(Gl wh l).length=l.length:=by unfold Gl;rw[BN]
end One
namespace One
open Go.RowKit Mem Own Canon NumPut Crc
open Recs Opts
open Go.Proofs.YtbgoibedicbkjaaGreatDoor.Block (FN zZ)
theorem Lw{l:List Rec}(h:Da l=0):∀r∈l,Ch r=false:=by
 unfold Da at h;split at h
 ·cases h
 ·split at h
  ·cases h
  ·rename_i h1;intro r hr;cases hb:Ch r
   ·rfl
   ·exact absurd (List.any_eq_true.2 ⟨r,hr,hb⟩) h1
theorem V2{bs:List Nat}(plain:Bool)(h:bs.length<=16000):(FN bs plain).length<=bs.length+25:=by
 have hb:(Block.Iq bs plain).length<=bs.length:=by
  unfold Block.Iq;split
  ·rename_i hc;rw[CD]at hc;have h2:=hc.2;unfold Block.sqz at h2;simp at h2;omega
  ·omega
 have h1:=Cg (x:=bs.length) (by omega);have h2:=Cg (x:=(Block.Iq bs plain).length) (by omega);unfold FN Block.fAll Block.Ns;simp only[List.length_append,List.length_singleton];have:(BX (Bx (([Block.fWay bs plain]++pZ bs.length++pZ (Block.Iq bs plain).length)++Block.Iq bs plain))).length=4:=rfl;omega
theorem Ng(wh:Bool)(l:List Rec)(m:Nat):(Gi wh (l.take m)).length+(Gi wh (l.drop m)).length=(Gi wh l).length:=by
 conv=>rhs;rw[<-Ix m l]
 unfold Gi;rw[J4,Ai]
end One
namespace One
open Go.RowKit Mem Own Canon NumPut Crc
open Recs Opts
open Go.Proofs.YtbgoibedicbkjaaGreatDoor.Block (FN zZ own_one)
def FrsAt(w:World)(base:Nat)(ps:List Part):Prop:=∀p∈ps,w.ownsRow base 5 1 p.v p.ls.length (cZ .u8 p.ls)
theorem FrsAt.step{w w':World}{base:Nat}{ps:List Part}(h:FrsAt w base ps)(hb:Below w.heap.size w w'):FrsAt w' base ps:=fun p hp=>dZ (h p hp) (fun y hy=>hb.block y (Ae (h p hp) y hy).2)
theorem Gm{w w':World}{base i s s' n n':Nat}{e e':TypeId}{v v':Value}{xs j:List Value}(h:w.ownsRow base e s v n xs)(ho:w.ownsRow i e' s' v' n' j)(z:e≠e')(hg:w.grownBy w' v'.ownBlock):w'.ownsRow base e s v n xs:=
 dZ h (fun y hy=>hg.block y (Ae h y hy).2 (fun e=>by
  rcases EJ h ho z with h0|h0
  ·rw[h0]at hy;cases hy
  ·exact h0 (hy.trans e)))
theorem FrsAt.grown{w w':World}{base i n:Nat}{v:Value}{xs:List Value}{ps:List Part}(h:FrsAt w base ps)(ho:w.ownsRow i 22 1 v n xs)(hg:w.grownBy w' v.ownBlock):FrsAt w' base ps:=fun p hp=>Gm (h p hp) ho (by decide) hg
theorem I7:(Tryz.prog.info? 22).map (fun i=>(i.zero,i.size,i.bytes))=some (some (.slice none 0 0),1,24):=by kernel_rfl
end One
namespace One
open Go.RowKit Mem Own Canon NumPut Crc
open Recs Opts
open Go.Proofs.YtbgoibedicbkjaaGreatDoor.Block (FN zZ)
theorem SL{fs:List (List Nat)}{x:List Nat}(h:x∈fs):x.length<=fs.flatten.length:=by
 induction fs with
 |nil=>cases h
 |cons y t ih=>
  rw[List.flatten_cons,Ai];rcases BZ.1 h with rfl|h
  ·omega
  ·have:=ih h;omega
end One
namespace One
open Go.RowKit Mem Own Canon NumPut Crc
open Recs Opts
open Go.Proofs.YtbgoibedicbkjaaGreatDoor.Block (FN zZ)
theorem PM{l:List Rec}(h:Da l≠0):Da l=6:=by
 unfold Da at h ⊢;split
 ·rfl
 ·split
  ·rfl
  ·split
   ·rfl
   ·rename_i h1 h2 h3;rw[Aa h1,Aa h2,Aa h3]at h;exact absurd rfl h
end One
namespace Opts
open Go.RowKit Mem
def Fo(o:Opt):Int:=if(16<=o.block/\o.block<=32768)/\(1<=o.bucket/\o.bucket<=64)/\(o.data=0/\o.parity=0/\o.chunk=0)then 0 else 9
theorem W7{o:Opt}(h:Fo o≠0):Fo o=9:=by
 unfold Fo at h ⊢;split
 ·rename_i hc;rw[Ab hc]at h;exact absurd rfl h
 ·rfl
def Opt.body(o:Opt):Opt:=⟨o.block,o.plain,o.bucket,0,0,0⟩
def DY(o:Opt):Int:=Fo o.body
theorem Vk(w:World)(o:Opt):
 Calls Tryz.prog 78 #[.int .i64 2,o.val] w fun e w'=>e= .returned (.int .i64 (Fo o))/\Below w.heap.size w w':=by
 obtain⟨bl,pl,bu,da,pa,ch⟩:=o;unfold Opt.val Fo;simp only;have D:=hid (fun wx=>NZ wx bl 16 32768);have DB:=hid (fun wx=>NZ wx bu 1 64);have HE:=Tx pl pl bl bl 0 0 da 0 pa 0 ch 0;by_cases hb:16<=bl/\bl<=32768
 ·rw[Aw hb]at D;by_cases hu:1<=bu/\bu<=64
  ·rw[Aw hu]at DB;by_cases hz:da=0/\pa=0/\ch=0
   ·rw[Ab ⟨hb,hu,hz⟩];have hd:decide (bl=bl/\pl=pl/\(0:Int)=0/\da=0/\pa=0/\ch=0)=true:=Aw ⟨rfl,rfl,rfl,hz⟩;rw[hd]at HE;clear hb hz hd hu;go_enter Tryz.func78,Tryz.ntmps78;go_wp2_with fail;refine(D.out _).mono ?_;rintro e w1 ⟨rfl,rfl⟩;go_wp2_with fail;refine(DB.out _).mono ?_;rintro e w1 ⟨rfl,rfl⟩;go_wp2_with fail;go_ret;exact⟨rfl,by(repeat (with_reducible first|exact Ag _ _|assumption|refine Aq ?_ |refine below_drewN ?_ _|refine qZ ?_ |refine bZ ?_ |refine eZ (by assumption) ?_ |refine belA ?_ |refine rZ (by assumption) ?_))⟩
   ·rw[Aa (fun h=>hz h.2.2)];have hd:decide (bl=bl/\pl=pl/\(0:Int)=0/\da=0/\pa=0/\ch=0)=false:=Az (fun h=>hz h.2.2.2);rw[hd]at HE;clear hb hz hd hu;go_enter Tryz.func78,Tryz.ntmps78;go_wp2_with fail;refine(D.out _).mono ?_;rintro e w1 ⟨rfl,rfl⟩;go_wp2_with fail;refine(DB.out _).mono ?_;rintro e w1 ⟨rfl,rfl⟩;go_wp2_with fail;go_ret;exact⟨rfl,by(repeat (with_reducible first|exact Ag _ _|assumption|refine Aq ?_ |refine below_drewN ?_ _|refine qZ ?_ |refine bZ ?_ |refine eZ (by assumption) ?_ |refine belA ?_ |refine rZ (by assumption) ?_))⟩
  ·rw[Az hu]at DB;rw[Aa (fun h=>hu h.2.1)];clear hb hu HE;go_enter Tryz.func78,Tryz.ntmps78;go_wp2_with fail;refine(D.out _).mono ?_;rintro e w1 ⟨rfl,rfl⟩;go_wp2_with fail;refine(DB.out _).mono ?_;rintro e w1 ⟨rfl,rfl⟩;go_wp2_with fail;go_ret;exact⟨rfl,by(repeat (with_reducible first|exact Ag _ _|assumption|refine Aq ?_ |refine below_drewN ?_ _|refine qZ ?_ |refine bZ ?_ |refine eZ (by assumption) ?_ |refine belA ?_ |refine rZ (by assumption) ?_))⟩
 ·rw[Az hb]at D;rw[Aa (fun h=>hb h.1)];clear hb HE DB;go_enter Tryz.func78,Tryz.ntmps78;go_wp2_with fail;refine(D.out _).mono ?_;rintro e w1 ⟨rfl,rfl⟩;go_wp2_with fail;go_ret;exact⟨rfl,by(repeat (with_reducible first|exact Ag _ _|assumption|refine Aq ?_ |refine below_drewN ?_ _|refine qZ ?_ |refine bZ ?_ |refine eZ (by assumption) ?_ |refine belA ?_ |refine rZ (by assumption) ?_))⟩
theorem Vm(w:World)(o:Opt):
 Calls Tryz.prog 43 #[.int .i64 2,o.val] w fun e w'=>e= .returned (.int .i64 (Fo o))/\Below w.heap.size w w':=by
 obtain⟨bl,pl,bu,da,pa,ch⟩:=o;unfold Opt.val Fo;simp only;by_cases h1:bl<16
 ·rw[Aa (by omega)];have g1:decide (bl<16)=true:=by simpa using h1
  go_enter Tryz.func43,Tryz.ntmps43;go_wp2_with fail;go_ret;exact⟨rfl,by(repeat (with_reducible first|exact Ag _ _|assumption|refine Aq ?_ |refine below_drewN ?_ _|refine qZ ?_ |refine bZ ?_ |refine eZ (by assumption) ?_ |refine belA ?_ |refine rZ (by assumption) ?_))⟩
 have g1:decide (bl<16)=false:=by simpa using h1
 by_cases h2:32768<bl
 ·rw[Aa (by omega)];have g2:decide (32768<bl)=true:=by simpa using h2
  clear h1;go_enter Tryz.func43,Tryz.ntmps43;go_wp2_with fail;go_ret;exact⟨rfl,by(repeat (with_reducible first|exact Ag _ _|assumption|refine Aq ?_ |refine below_drewN ?_ _|refine qZ ?_ |refine bZ ?_ |refine eZ (by assumption) ?_ |refine belA ?_ |refine rZ (by assumption) ?_))⟩
 have g2:decide (32768<bl)=false:=by simpa using h2
 by_cases h3:bu<1
 ·rw[Aa (by omega)];have g3:decide (bu<1)=true:=by simpa using h3
  clear h1 h2;go_enter Tryz.func43,Tryz.ntmps43;go_wp2_with fail;go_ret;exact⟨rfl,by(repeat (with_reducible first|exact Ag _ _|assumption|refine Aq ?_ |refine below_drewN ?_ _|refine qZ ?_ |refine bZ ?_ |refine eZ (by assumption) ?_ |refine belA ?_ |refine rZ (by assumption) ?_))⟩
 have g3:decide (bu<1)=false:=by simpa using h3
 by_cases h4:64<bu
 ·rw[Aa (by omega)];have g4:decide (64<bu)=true:=by simpa using h4
  clear h1 h2 h3;go_enter Tryz.func43,Tryz.ntmps43;go_wp2_with fail;go_ret;exact⟨rfl,by(repeat (with_reducible first|exact Ag _ _|assumption|refine Aq ?_ |refine below_drewN ?_ _|refine qZ ?_ |refine bZ ?_ |refine eZ (by assumption) ?_ |refine belA ?_ |refine rZ (by assumption) ?_))⟩
 have g4:decide (64<bu)=false:=by simpa using h4
 by_cases h5:da=0
 ·by_cases h6:pa=0
  ·by_cases h7:ch=0
   ·rw[Ab ⟨by omega,by omega,h5,h6,h7⟩];subst h5 h6 h7;clear h1 h2 h3 h4;go_enter Tryz.func43,Tryz.ntmps43;go_wp2_with fail;go_ret;exact⟨rfl,by(repeat (with_reducible first|exact Ag _ _|assumption|refine Aq ?_ |refine below_drewN ?_ _|refine qZ ?_ |refine bZ ?_ |refine eZ (by assumption) ?_ |refine belA ?_ |refine rZ (by assumption) ?_))⟩
   ·rw[Aa (by omega)];have g7:(ch != 0)=true:=(by simpa using h7);subst h5 h6;clear h1 h2 h3 h4 h7;go_enter Tryz.func43,Tryz.ntmps43;go_wp2_with fail;go_ret;exact⟨rfl,by(repeat (with_reducible first|exact Ag _ _|assumption|refine Aq ?_ |refine below_drewN ?_ _|refine qZ ?_ |refine bZ ?_ |refine eZ (by assumption) ?_ |refine belA ?_ |refine rZ (by assumption) ?_))⟩
  ·rw[Aa (by omega)];have g6:(pa != 0)=true:=(by simpa using h6);subst h5;clear h1 h2 h3 h4 h6;go_enter Tryz.func43,Tryz.ntmps43;go_wp2_with fail;go_ret;exact⟨rfl,by(repeat (with_reducible first|exact Ag _ _|assumption|refine Aq ?_ |refine below_drewN ?_ _|refine qZ ?_ |refine bZ ?_ |refine eZ (by assumption) ?_ |refine belA ?_ |refine rZ (by assumption) ?_))⟩
 ·rw[Aa (by omega)];have g5:(da != 0)=true:=by simpa using h5
  clear h1 h2 h3 h4 h5;go_enter Tryz.func43,Tryz.ntmps43;go_wp2_with fail;go_ret;exact⟨rfl,by(repeat (with_reducible first|exact Ag _ _|assumption|refine Aq ?_ |refine below_drewN ?_ _|refine qZ ?_ |refine bZ ?_ |refine eZ (by assumption) ?_ |refine belA ?_ |refine rZ (by assumption) ?_))⟩
theorem Sl(w:World)(o:Opt):
 Calls Tryz.prog 48 #[o.val] w fun e w'=>e= .returned (.int .i64 (DY o))/\Below w.heap.size w w':=by
 have D:=hid (fun wx=>Vk wx o.body);unfold DY;obtain⟨bl,pl,bu,da,pa,ch⟩:=o;unfold Opt.body Opt.val at D;unfold Opt.val Opt.body;simp only at D ⊢;generalize Fo ⟨bl,pl,bu,0,0,0⟩=E at *;go_enter Tryz.func48,Tryz.ntmps48;go_wp2_with fail;refine(D.out _).mono ?_;rintro e w1 ⟨rfl,hb⟩;have HB:=hid hb;clear hb D;go_wp2_with fail;go_ret;exact⟨rfl,eZ HB.out (bZ (Ag _ _))⟩
theorem U2(w:World)(o:Opt):
 Calls Tryz.prog 68 #[o.val] w fun e w'=>e= .returned (.int .i64 (DY o))/\Below w.heap.size w w':=by
 have D:=hid (fun wx=>Vm wx o.body);unfold DY;obtain⟨bl,pl,bu,da,pa,ch⟩:=o;unfold Opt.body Opt.val at D;unfold Opt.val Opt.body;simp only at D ⊢;generalize Fo ⟨bl,pl,bu,0,0,0⟩=E at *;go_enter Tryz.func68,Tryz.ntmps68;go_wp2_with fail;refine(D.out _).mono ?_;rintro e w1 ⟨rfl,hb⟩;have HB:=hid hb;clear hb D;go_wp2_with fail;go_ret;exact⟨rfl,eZ HB.out (bZ (Ag _ _))⟩
end Opts
namespace Nums
open Go.RowKit Mem Own Canon NumPut
open Go.Proofs.YtbgoibedicbkjaaGreatDoor.Crc (Ct Du Dx)
def ED(ls:List Nat):ByteArray:=⟨(ls.map UInt8.ofNat).toArray⟩
theorem Qx{w:World}{B n c:Nat}{A:Option Addr}{ls:List Nat}(hr:Row w B A n 1 (iZ .u8 ls))(hn:ls.length=n):
 (convert 22 9 (.slice A n c)).run Tryz.prog w= .ok (.string (ED ls)) w:=by
 have e:ED ls=strOfNums (ls.map Int.ofNat):=by unfold ED strOfNums;rw[List.map_map];rfl
 rcases Nat.eq_zero_or_pos n with h0|h0
 ·subst h0;obtain rfl:=J3.1 hn;cases A with
  |none=>exact run_convert_bytes_nil w _ _ Tryz.underlying22 Tryz.underlying5 _ _ _ Tryz.underlying9
  |some a=>rw[run_convert_bytes_string w _ _ _ _ _ _ Tryz.underlying22 Tryz.underlying5 Tryz.underlying9];rw[run_bytesToString w a 0 c [] (run_loadCells_list (P:=Tryz.prog) w a [] (fun j v hj=>by cases hj))];rfl
 ·obtain⟨b,h,rfl,_,hc⟩:=hr h0;rw[e];refine run_convert_bytes_arg w _ _ Tryz.underlying22 Tryz.underlying5 b h n c (ls.map Int.ofNat) (by simpa using hn) (fun i hi=> ?_) _ Tryz.underlying9;have:=hc i 0 hi (by omega);rw[EM,CW]at this;rw[this];unfold iZ;congr 2;simp[List.getD_eq_getElem?_getD,List.getElem?_map,List.getElem?_eq_getElem (show i<ls.length by omega)]
theorem left_any(w:World)(g base:Nat)(bs:List Nat)(A:Option Addr)(c at_:Nat)(er:Int)(h:Cur w g base bs A c at_ er):
 Calls Tryz.prog 164 #[.pointer (some ⟨g,0,none⟩)] w fun e w'=>e= .returned (.int .i64 (bs.length-at_:Nat))/\∃q,w'=w.drewN q:=by
 have D:=hid (rest_any w g base bs A c at_ er h);clear h;generalize bs.length-at_=m at *;go_enter Tryz.func164,Tryz.ntmps164;go_wp2_with fail;refine D.out.mono ?_;rintro e w2 ⟨rfl,q,rfl⟩;go_wp2_with fail;go_ret;exact⟨rfl,q,rfl⟩
theorem UJ(w:World)(g base ob:Nat)(bs:List Nat)(A:Option Addr)(c at_:Nat)(J:bs.length<=100000)(h8:∀x∈bs,x<=255)(h:Cur w g base bs A c at_ 0)(i:Blk w ob 57 #[.int .u64 0]):
 Calls Tryz.prog 239 #[.slice (vZ A at_ c 1) (bs.length-at_) (c-at_), .pointer (some ⟨ob,0,none⟩)] w fun e w'=>∃ (k:Nat) (e2:Int),e= .returned (.tuple #[.int .i64 k, .int .i64 e2])/\k<=100000/\Cur w' g base bs A c at_ 0/\
  (Kept (fun x=>x≠ob) w w'/\k=(Ba (bs.drop at_) 0 0).2.1/\e2=(Ba (bs.drop at_) 0 0).2.2/\Blk w' ob 57 #[.int .u64 (Ba (bs.drop at_) 0 0).1]):=by
 have f1:=i.frozen 0;have d1:=i.cell 0;simp only[List.getElem?_toArray,List.getElem?_cons_zero]at d1;have z:=CQ h.own;have j:=Ct (own_row h.own) h.le z.2;have y:∀x∈bs.drop at_,x<=255:=fun x hx=>h8 x (Bb hx);have D:=NV w (vZ A at_ c 1) (bs.length-at_) (c-at_) (bs.drop at_) (by rw[AQ]) (by omega) y j;have G:=Gv (bs.drop at_) 0 0 y (by omega) (by simp);have hk:(Ba (bs.drop at_) 0 0).2.1<=100000:=by have:=G.2.1;rw[AQ]at this;omega
 generalize Ba (bs.drop at_) 0 0=R at *;have E:=Blk.apart i h.blk (by decide);have D:=hid D;have H:=hid h;have HO:=hid i;generalize vZ A at_ c 1=A1 at *;clear j y G h i z;go_enter Tryz.func239,Tryz.ntmps239;go_wp2_with fail;refine D.out.mono ?_;rintro e w1 ⟨rfl,rfl⟩;go_wp2_with fail;go_ret2;refine⟨R.2.1,R.2.2,rfl,hk,?_,(Kept.refl _ _).set (fun h=>h rfl) _,rfl,rfl,HO.out.set 0 _⟩;exact⟨H.out.blk.far (fun e=>E e.symm) _,wZ H.out.own (fZ H.out.own HO.out (by decide)) _,H.out.le,H.out.lo⟩
theorem num_any(w:World)(g base:Nat)(bs:List Nat)(A:Option Addr)(c at_:Nat)(er:Int)(ab:bs.length<=100000)(h8:∀x∈bs,x<=255)(h:Cur w g base bs A c at_ er):
 Calls Tryz.prog 205 #[.pointer (some ⟨g,0,none⟩)] w fun e w'=>e= .returned (.int .u64 (CH bs at_ er:Nat))/\Cur w' g base bs A c (Eb bs at_ er) (Ea bs at_ er)/\Kept (uZ g w) w w':=by
 have ag:=h.blk.lt;have h2:Cur (w.alloc (.cells #[.int .u64 0] 57)) g base bs A c at_ er:=(h.step (bZ (Ag _ _)));have G:Blk (w.alloc (.cells #[.int .u64 0] 57)) w.heap.size 57 #[.int .u64 0]:=Blk.made _ _ _;have N:Kept (fun x=>x<w.heap.size/\x≠g) w (w.alloc (.cells #[.int .u64 0] 57)):=Kept.of_below (by(repeat (with_reducible first|exact Ag _ _|assumption|refine Aq ?_ |refine below_drewN ?_ _|refine qZ ?_ |refine bZ ?_ |refine eZ (by assumption) ?_ |refine belA ?_ |refine rZ (by assumption) ?_)):Below w.heap.size w _) (fun x hx=>hx.1);have ah:=h.le;unfold uZ;by_cases he:er=0
 ·subst he;have aa:∀J wx,(callFunc 239 J).run Tryz.prog wx= .ok (.enter 239 J) wx:=by intro J wx;simp[callFunc,go_sem,Tryz.func239];rfl
  have D:=fun w2 (hc2:Cur w2 g base bs A c at_ 0) (G:Blk w2 w.heap.size 57 #[.int .u64 0])=>Kf w2 g base bs A c at_ hc2 ab 239 #[.pointer (some ⟨w.heap.size,0,none⟩)]
   (fun k e2 w'=>Kept (fun x=>x≠w.heap.size) w2 w'/\k=(Ba (bs.drop at_) 0 0).2.1/\e2=(Ba (bs.drop at_) 0 0).2.2/\Blk w' w.heap.size 57 #[.int .u64 (Ba (bs.drop at_) 0 0).1]) aa
   (fun q=>(UJ (w2.drewN q) g base w.heap.size bs A c at_ ab h8 (hc2.drewN q) (G.drewN q)).mono fun e w' ⟨k,e2,h1,h2,h3,h4⟩=>⟨k,e2,h1,h2,h3,⟨⟨h4.1.os,h4.1.tape,h4.1.output,h4.1.size,h4.1.block⟩,h4.2⟩⟩)
  have D:=hid (D _ h2 G);have ac:∀x∈bs.drop at_,x<=255:=fun x hx=>h8 x (Bb hx);have Y:=Gv (bs.drop at_) 0 0 ac (by omega) (by simp);rw[AQ]at Y;have eV:CH bs at_ 0=(Ba (bs.drop at_) 0 0).1:=Aa (by simp);have eA:Eb bs at_ 0=at_+(Ba (bs.drop at_) 0 0).2.1:=Aa (by simp);have eE:Ea bs at_ 0=(Ba (bs.drop at_) 0 0).2.2:=Aa (by simp);rw[eV,eA,eE];generalize Ba (bs.drop at_) 0 0=R at *;have HK:=hid N;have ae:w.heap.size≠g:=by omega
  have Z:=hid Y;clear aa h2 G N ac Y eV eA eE;by_cases hR:R.2.2=0
  ·have af:at_+R.2.1<=bs.length:=(by have:=Z.out.2.1;omega);go_enter Tryz.func205,Tryz.ntmps205;go_wp2_with fail;refine D.out.mono ?_;rintro e w4 ⟨k,e2,w3,⟨i,E,z,y⟩,L,j⟩;rcases j with ⟨h0,_,_⟩|⟨_,rfl,rfl⟩
   ·exact absurd (z.trans hR) h0
   ·have M:Hid (Kept (fun x=>x<w.heap.size/\x≠g) w w3):=HK.out.trans ⟨i.os,i.tape,i.output,i.size,fun x hx=>i.block x (by omega)⟩;have hB:=y.far (fun e=>ae e) (p:=⟨g,1,none⟩) (.int .i64 (at_+k:Nat));have d0:=hB.cell 0;simp only[List.getElem?_toArray,List.getElem?_cons_zero]at d0;have HC:=hid (L.setAt (at_+k) (by omega));rw[E]at HC;have Q:Hid (Kept (fun x=>x<w.heap.size/\x≠g) w (w3.setCell ⟨g,1,none⟩ (.int .i64 (at_+k:Nat)))):=M.out.set (fun h=>h.2 rfl) _;rw[<-E]at HC;have U:Hid (Cur (w3.setCell ⟨g,1,none⟩ (.int .i64 (at_+k:Nat))) g base bs A c (at_+R.2.1) R.2.2):=(by rw[hR,<-E];exact HC.out);generalize w3.setCell ⟨g,1,none⟩ (.int .i64 (at_+k:Nat))=w5 at *;clear hB y L i D M HK E z HC hR;go_wp2_with fail;go_ret;exact⟨rfl,U.out,Q.out⟩
  ·have hz:=Z.out.2.2.2.1 hR;go_enter Tryz.func205,Tryz.ntmps205;go_wp2_with fail;refine D.out.mono ?_;rintro e w4 ⟨k,e2,w3,⟨i,E,z,y⟩,L,j⟩;rcases j with ⟨_,rfl,rfl⟩|⟨h0,_,_⟩
   ·have M:Hid (Kept (fun x=>x<w.heap.size/\x≠g) w w3):=HK.out.trans ⟨i.os,i.tape,i.output,i.size,fun x hx=>i.block x (by omega)⟩;have U:Hid (Cur (w3.setCell ⟨g,2,none⟩ (.int .i64 e2)) g base bs A c (at_+R.2.1) R.2.2):=(by rw[hz.2,<-z];exact L.setErr e2);have Q:Hid (Kept (fun x=>x<w.heap.size/\x≠g) w (w3.setCell ⟨g,2,none⟩ (.int .i64 e2))):=M.out.set (fun h=>h.2 rfl) _;generalize w3.setCell ⟨g,2,none⟩ (.int .i64 e2)=w5 at *;have HZ:=hid hz.1;clear y L i D M HK E z hR hz;go_wp2_with fail;go_ret;exact⟨by rw[HZ.out];rfl,U.out,Q.out⟩
   ·exact absurd (z.symm.trans h0) hR
 ·have D:=hid (Lf _ g base bs A c at_ er h2 he (.func (.func 239) #[] #[.pointer (some ⟨w.heap.size,0,none⟩)]));have eV:CH bs at_ er=0:=Ab he;have eA:Eb bs at_ er=at_:=Ab he;have eE:Ea bs at_ er=er:=Ab he;rw[eV,eA,eE];have HK:=hid N;have HC:=hid h2;clear h2 G N he eV eA eE;go_enter Tryz.func205,Tryz.ntmps205;go_wp2_with fail;refine D.out.mono ?_;rintro e w4 ⟨rfl,rfl⟩;go_wp2_with fail;go_ret;exact⟨rfl,HC.out,HK.out⟩
end Nums
namespace Nums
open Go.RowKit Mem Own Canon NumPut
open Go.Proofs.YtbgoibedicbkjaaGreatDoor.Crc (Ct Du Dx)
def BT(most:Nat)(ls:List Nat):List Nat×Nat×Int:=
 if(Bf most ls).2.2≠0 then([],0,(Bf most ls).2.2)else if ls.length-(Bf most ls).2.1<(Bf most ls).1 then([],0,1)else((ls.drop (Bf most ls).2.1).take (Bf most ls).1,(Bf most ls).2.1+(Bf most ls).1,0)
theorem Kt(most:Nat)(ls:List Nat)(h8:∀c∈ls,c<=255):(BT most ls).1.length<=most/\(BT most ls).2.1<=ls.length/\((BT most ls).2.2=0->1<=(BT most ls).2.1)/\((BT most ls).2.2≠0->(BT most ls).1= []/\(BT most ls).2.1=0)/\(∀x∈(BT most ls).1,x<=255)/\0<=(BT most ls).2.2/\(BT most ls).2.2<=6:=by
 have h:=EZ most ls h8;unfold BT;split
 ·rename_i he;exact⟨by simp,by simp,fun h0=>absurd h0 he,fun _=>⟨rfl,rfl⟩,fun x hx=>by simp at hx,h.2.2.2.2.1,h.2.2.2.2.2⟩
 ·split
  ·exact⟨by simp,by simp,fun h0=>absurd h0 (by decide),fun _=>⟨rfl,rfl⟩,fun x hx=>by simp at hx,by simp,by simp⟩
  ·rename_i he hl;have h1:=h.2.2.1 (by omega);exact⟨by rw[AO];have:=h.1;omega,by have:=h.2.1;simp only;omega,fun _=>by simp only;omega,fun h0=>absurd rfl h0,fun x hx=>h8 x (Bb (BV hx)),by simp,by simp⟩
def CO(most:Nat)(bs:List Nat)(at_:Nat)(er:Int):List Nat:=if er≠0 then []else(BT most (bs.drop at_)).1
def Cp(most:Nat)(bs:List Nat)(at_:Nat)(er:Int):Nat:=if er≠0 then at_ else at_+(BT most (bs.drop at_)).2.1
def Co(most:Nat)(bs:List Nat)(at_:Nat)(er:Int):Int:=if er≠0 then er else(BT most (bs.drop at_)).2.2
theorem U5(w:World)(g base mb ob:Nat)(bs:List Nat)(A:Option Addr)(c at_ most:Nat)(ac:bs.length<=100000)(h8:∀x∈bs,x<=255)(J:most<=1000000000)(h:Cur w g base bs A c at_ 0)(Z:Blk w mb 3 #[.int .i64 most])(z:Blk w ob 9 #[.string ⟨#[]⟩]):
 Calls Tryz.prog 248 #[.slice (vZ A at_ c 1) (bs.length-at_) (c-at_), .pointer (some ⟨mb,0,none⟩), .pointer (some ⟨ob,0,none⟩)] w fun e w'=>∃ (k:Nat) (e2:Int),e= .returned (.tuple #[.int .i64 k, .int .i64 e2])/\k<=100000/\Cur w' g base bs A c at_ 0/\
  (Kept (fun x=>x<w.heap.size/\x≠ob) w w'/\k=(BT most (bs.drop at_)).2.1/\e2=(BT most (bs.drop at_)).2.2/\Blk w' ob 9 #[.string (ED (BT most (bs.drop at_)).1)]):=by
 have d0:=Z.cell 0;have f1:=z.frozen 0;have d1:=z.cell 0;simp only[List.getElem?_toArray,List.getElem?_cons_zero]at d0 d1;have M:=CQ h.own;have ag:=h.le;have E:=Ct (own_row h.own) h.le M.2;have N:∀x∈bs.drop at_,x<=255:=fun x hx=>h8 x (Bb hx);have D:=OT w (vZ A at_ c 1) (bs.length-at_) (c-at_) (bs.drop at_) most J (by rw[AQ]) (by omega) N E;have y:=EZ most (bs.drop at_) N;rw[AQ]at y;have aq:bs.length-at_<=100000:=by omega
 have aa:bs.length-at_<=c-at_:=by have:=M.2;omega
 unfold BT;rw[show(bs.drop at_).length=bs.length-at_ from AQ];have U:(bs.drop at_).length=bs.length-at_:=AQ;have Y:=Blk.apart z h.blk (by decide);have ah:mb≠ob:=by intro e;subst e;rw[d0]at d1;cases d1
 have H:=hid h;have HO:=hid z;generalize bs.drop at_=L at *;generalize bs.length-at_=m at *;generalize vZ A at_ c 1=A1 at *;generalize c-at_=cc at *;generalize ae:Bf most L=R at *;have HR:=hid E;have HL:=hid U;have D:=hid D;have al:=y.1;have ak:=y.2.1;have an:=y.2.2.2.2.1;have aj:=y.2.2.2.2.2;clear E N h z Z M U ae y ag ac h8;obtain⟨x,n,er⟩:=R;simp only at *;by_cases he:er=0
 ·subst he;rw[Aa (by simp)];have ai:IntKind.i64.wrap ((m:Int)-(n:Int))=((m-n:Nat):Int):=by rw[Ak _ (by omega)];omega
  by_cases G:m-n<x
  ·rw[Ab G];have g1:decide (((m-n:Nat):Int)<(x:Int))=true:=(by simp;omega);have g2:decide (m-n<x)=true:=(by simp;omega);clear G;go_enter Tryz.func248,Tryz.ntmps248;go_wp2_with fail;refine D.out.mono ?_;rintro e w1 ⟨rfl,rfl⟩;go_wp2_with fail;go_ret2;exact⟨0,1,rfl,by omega,H.out,Kept.refl _ _,rfl,rfl,HO.out⟩
  ·rw[Aa G];have g1:decide (((m-n:Nat):Int)<(x:Int))=false:=(by simp;omega);have g2:decide (m-n<x)=false:=(by simp;omega);have s2:IntKind.i64.wrap ((n:Int)+(x:Int))=((n:Int)+(x:Int)):=(by rw[Ak _ (by omega)]);have ks:=fun wx=>G5 (P:=Tryz.prog) (t:=22) (s:=1) Tryz.underlying22 (fun _=>by kernel_rfl) A1 m cc .i64 .i64 (n:Int) ((n:Int)+(x:Int)) n (n+x) rfl (by omega) (by omega) (by omega) wx;rw[LH]at ks;have ab:((L.drop n).take x).length=x:=by rw[AO,AQ,HL.out];omega
   have Q:Hid (∀wx,Below w.heap.size w wx->(convert 22 9 (.slice (vZ A1 n cc 1) x (cc-n))).run Tryz.prog wx= .ok (.string (ED ((L.drop n).take x))) wx):=fun wx hb=>
    Qx ((HR.out.below hb).cut n x (by omega) aa (fun i j hi hj=>by
     obtain rfl:j=0:=by omega
     simp only[iZ,List.getD_eq_getElem?_getD,List.getElem?_take,List.getElem?_drop];rw[Ab hi])) ab
   have af:n+x<=100000:=(by omega);generalize (L.drop n).take x=T at *;have cv:=Q.out w (Ag _ _);have am:=Q.out w.drew (by(repeat (with_reducible first|exact Ag _ _|assumption|refine Aq ?_ |refine below_drewN ?_ _|refine qZ ?_ |refine bZ ?_ |refine eZ (by assumption) ?_ |refine belA ?_ |refine rZ (by assumption) ?_)));clear G HR HL;go_enter Tryz.func248,Tryz.ntmps248;go_wp2_with fail;refine D.out.mono ?_;rintro e w1 ⟨rfl,rfl⟩;go_wp2_with fail;go_ret2;refine⟨n+x,0,rfl,af,?_,(Kept.refl _ _).set (fun h=>h.2 rfl) _,rfl,rfl,HO.out.set 0 _⟩;exact⟨H.out.blk.far (fun e=>Y e.symm) _,wZ H.out.own (fZ H.out.own HO.out (by decide)) _,H.out.le,H.out.lo⟩
 ·rw[Ab he];have g1:(er != 0)=true:=by simpa using he
  clear he HR HL;go_enter Tryz.func248,Tryz.ntmps248;go_wp2_with fail;refine D.out.mono ?_;rintro e w1 ⟨rfl,rfl⟩;go_wp2_with fail;go_ret2;exact⟨0,er,rfl,by omega,H.out,Kept.refl _ _,rfl,rfl,HO.out⟩
theorem M1(w:World)(g base:Nat)(bs:List Nat)(A:Option Addr)(c at_:Nat)(er:Int)(most:Nat)(ag:bs.length<=100000)(h8:∀x∈bs,x<=255)(U:most<=1000000000)(h:Cur w g base bs A c at_ er):
 Calls Tryz.prog 213 #[.pointer (some ⟨g,0,none⟩), .int .i64 most] w fun e w'=>e= .returned (.string (ED (CO most bs at_ er)))/\Cur w' g base bs A c (Cp most bs at_ er) (Co most bs at_ er)/\Kept (uZ g w) w w':=by
 have aj:=h.blk.lt;have h2:Cur ((w.alloc (.cells #[.int .i64 most] 3)).alloc (.cells #[.string ⟨#[]⟩] 9)) g base bs A c at_ er:=(h.step (bZ (Ag _ _))).step (bZ (Ag _ _));have J:Blk ((w.alloc (.cells #[.int .i64 most] 3)).alloc (.cells #[.string ⟨#[]⟩] 9)) w.heap.size 3 #[.int .i64 most]:=(Blk.made _ _ _).alloc _;have G:Blk ((w.alloc (.cells #[.int .i64 most] 3)).alloc (.cells #[.string ⟨#[]⟩] 9)) (w.heap.size+1) 9 #[.string ⟨#[]⟩]:=Blk.made_at _ _ _ (by simp);have Q:Kept (fun x=>x<w.heap.size/\x≠g) w ((w.alloc (.cells #[.int .i64 most] 3)).alloc (.cells #[.string ⟨#[]⟩] 9)):=Kept.of_below (by(repeat (with_reducible first|exact Ag _ _|assumption|refine Aq ?_ |refine below_drewN ?_ _|refine qZ ?_ |refine bZ ?_ |refine eZ (by assumption) ?_ |refine belA ?_ |refine rZ (by assumption) ?_)):Below w.heap.size w _) (fun x hx=>hx.1);have ak:=h.le;have ac:((w.alloc (.cells #[.int .i64 most] 3)).alloc (.cells #[.string ⟨#[]⟩] 9)).heap.size=w.heap.size+2:=by simp
 unfold uZ;by_cases he:er=0
 ·subst he;have ae:∀L wx,(callFunc 248 L).run Tryz.prog wx= .ok (.enter 248 L) wx:=by intro L wx;simp[callFunc,go_sem,Tryz.func248];rfl
  have D:=fun w2 (hc2:Cur w2 g base bs A c at_ 0) (J:Blk w2 w.heap.size 3 #[.int .i64 most]) (G:Blk w2 (w.heap.size+1) 9 #[.string ⟨#[]⟩])=>Kf w2 g base bs A c at_ hc2 ag 248 #[.pointer (some ⟨w.heap.size,0,none⟩), .pointer (some ⟨w.heap.size+1,0,none⟩)]
   (fun k e2 w'=>Kept (fun x=>x<w2.heap.size/\x≠w.heap.size+1) w2 w'/\k=(BT most (bs.drop at_)).2.1/\e2=(BT most (bs.drop at_)).2.2/\Blk w' (w.heap.size+1) 9 #[.string (ED (BT most (bs.drop at_)).1)]) ae
   (fun q=>(U5 (w2.drewN q) g base w.heap.size (w.heap.size+1) bs A c at_ most ag h8 U (hc2.drewN q) (J.drewN q) (G.drewN q)).mono fun e w' ⟨k,e2,h1,h2,h3,h4⟩=>⟨k,e2,h1,h2,h3,⟨⟨h4.1.os,h4.1.tape,h4.1.output,h4.1.size,h4.1.block⟩,h4.2⟩⟩)
  have D:=hid (D _ h2 J G);have ah:∀x∈bs.drop at_,x<=255:=fun x hx=>h8 x (Bb hx);have aa:=Kt most (bs.drop at_) ah;rw[AQ]at aa;have eV:CO most bs at_ 0=(BT most (bs.drop at_)).1:=Aa (by simp);have eA:Cp most bs at_ 0=at_+(BT most (bs.drop at_)).2.1:=Aa (by simp);have eE:Co most bs at_ 0=(BT most (bs.drop at_)).2.2:=Aa (by simp);rw[eV,eA,eE];generalize BT most (bs.drop at_)=R at *;have HK:=hid Q;have af:w.heap.size+1≠g:=by omega
  have ab:=hid aa;clear ae h2 J G Q ah aa eV eA eE;by_cases hR:R.2.2=0
  ·have ai:at_+R.2.1<=bs.length:=(by have:=ab.out.2.1;omega);go_enter Tryz.func213,Tryz.ntmps213;go_wp2_with fail;refine D.out.mono ?_;rintro e w4 ⟨k,e2,w3,⟨i,E,z,j⟩,M,y⟩;rcases y with ⟨h0,_,_⟩|⟨_,rfl,rfl⟩
   ·exact absurd (z.trans hR) h0
   ·have N:Hid (Kept (fun x=>x<w.heap.size/\x≠g) w w3):=HK.out.trans ⟨i.os,i.tape,i.output,i.size,fun x hx=>i.block x ⟨by have:=hx.1;rw[ac];omega,by have:=hx.1;omega⟩⟩;have hB:=j.far (fun e=>af e) (p:=⟨g,1,none⟩) (.int .i64 (at_+k:Nat));have d0:=hB.cell 0;simp only[List.getElem?_toArray,List.getElem?_cons_zero]at d0;have HC:=hid (M.setAt (at_+k) (by omega));rw[E]at HC;have Y:Hid (Kept (fun x=>x<w.heap.size/\x≠g) w (w3.setCell ⟨g,1,none⟩ (.int .i64 (at_+k:Nat)))):=N.out.set (fun h=>h.2 rfl) _;rw[<-E]at HC;have Z:Hid (Cur (w3.setCell ⟨g,1,none⟩ (.int .i64 (at_+k:Nat))) g base bs A c (at_+R.2.1) R.2.2):=(by rw[hR,<-E];exact HC.out);generalize w3.setCell ⟨g,1,none⟩ (.int .i64 (at_+k:Nat))=w5 at *;clear hB j M i D N HK E z HC hR;go_wp2_with fail;go_ret;exact⟨rfl,Z.out,Y.out⟩
  ·have hz:=ab.out.2.2.2.1 hR;go_enter Tryz.func213,Tryz.ntmps213;go_wp2_with fail;refine D.out.mono ?_;rintro e w4 ⟨k,e2,w3,⟨i,E,z,j⟩,M,y⟩;rcases y with ⟨_,rfl,rfl⟩|⟨h0,_,_⟩
   ·have N:Hid (Kept (fun x=>x<w.heap.size/\x≠g) w w3):=HK.out.trans ⟨i.os,i.tape,i.output,i.size,fun x hx=>i.block x ⟨by have:=hx.1;rw[ac];omega,by have:=hx.1;omega⟩⟩;have Z:Hid (Cur (w3.setCell ⟨g,2,none⟩ (.int .i64 e2)) g base bs A c (at_+R.2.1) R.2.2):=(by rw[hz.2,<-z];exact M.setErr e2);have Y:Hid (Kept (fun x=>x<w.heap.size/\x≠g) w (w3.setCell ⟨g,2,none⟩ (.int .i64 e2))):=N.out.set (fun h=>h.2 rfl) _;have hB:=j.far (fun e=>af e) (p:=⟨g,2,none⟩) (.int .i64 e2);have d0:=hB.cell 0;simp only[List.getElem?_toArray,List.getElem?_cons_zero]at d0;generalize w3.setCell ⟨g,2,none⟩ (.int .i64 e2)=w5 at *;clear hB j M i D N HK E z hR hz;go_wp2_with fail;go_ret;exact⟨rfl,Z.out,Y.out⟩
   ·exact absurd (z.symm.trans h0) hR
 ·have D:=hid (Lf _ g base bs A c at_ er h2 he (.func (.func 248) #[] #[.pointer (some ⟨w.heap.size,0,none⟩), .pointer (some ⟨w.heap.size+1,0,none⟩)]));have eV:CO most bs at_ er= []:=Ab he;have eA:Cp most bs at_ er=at_:=Ab he;have eE:Co most bs at_ er=er:=Ab he;rw[eV,eA,eE];have HK:=hid Q;have HC:=hid h2;clear h2 J G Q he eV eA eE;go_enter Tryz.func213,Tryz.ntmps213;go_wp2_with fail;refine D.out.mono ?_;rintro e w4 ⟨rfl,rfl⟩;go_wp2_with fail;go_ret;exact⟨rfl,HC.out,HK.out⟩
end Nums
namespace Nums
open Go.RowKit Mem Own Canon NumPut
theorem intA_le{most:Nat}{bs:List Nat}(h8:∀x∈bs,x<=255){at_:Nat}(er:Int)(h:at_<=bs.length):mZ most bs at_ er<=bs.length:=by
 unfold mZ;split
 ·exact h
 ·have:=(EZ most (bs.drop at_) (fun x hx=>h8 x (Bb hx))).2.1;rw[AQ]at this;omega
theorem Cs{most:Nat}{bs:List Nat}(h8:∀x∈bs,x<=255)(at_:Nat)(er:Int):xZ most bs at_ er<=most:=by
 unfold xZ;split
 ·omega
 ·exact(EZ most (bs.drop at_) (fun x hx=>h8 x (Bb hx))).1
theorem Ur(most:Nat)(bs:List Nat)(at_:Nat)(er:Int)(h8:∀x∈bs,x<=255):
 (oZ most bs at_ er≠0->CO most bs at_ er= []/\Cp most bs at_ er=mZ most bs at_ er/\Co most bs at_ er=oZ most bs at_ er)/\
 (oZ most bs at_ er=0->bs.length-mZ most bs at_ er<xZ most bs at_ er->CO most bs at_ er= []/\Cp most bs at_ er=at_/\Co most bs at_ er=1)/\
 (oZ most bs at_ er=0->¬bs.length-mZ most bs at_ er<xZ most bs at_ er->CO most bs at_ er=(bs.drop (mZ most bs at_ er)).take (xZ most bs at_ er)/\Cp most bs at_ er=mZ most bs at_ er+xZ most bs at_ er/\Co most bs at_ er=0):=by
 by_cases he:er=0
 ·have i1:xZ most bs at_ er=(Bf most (bs.drop at_)).1:=Aa (by simp[he]);have i2:mZ most bs at_ er=at_+(Bf most (bs.drop at_)).2.1:=Aa (by simp[he]);have i3:oZ most bs at_ er=(Bf most (bs.drop at_)).2.2:=Aa (by simp[he]);have e1:CO most bs at_ er=(BT most (bs.drop at_)).1:=Aa (by simp[he]);have e2:Cp most bs at_ er=at_+(BT most (bs.drop at_)).2.1:=Aa (by simp[he]);have e3:Co most bs at_ er=(BT most (bs.drop at_)).2.2:=Aa (by simp[he]);rw[i1,i2,i3,e1,e2,e3];have i:=EZ most (bs.drop at_) (fun x hx=>h8 x (Bb hx));rw[AQ]at i;unfold BT;rw[AQ,List.drop_drop];generalize Bf most (bs.drop at_)=R at *;have j:bs.length-at_-R.2.1=bs.length-(at_+R.2.1):=by omega
  rw[j];refine⟨fun h=> ?_,fun h h2=> ?_,fun h h2=> ?_⟩
  ·rw[Ab h];exact⟨rfl,by have:=i.2.2.2.1 h;simp[this.2],rfl⟩
  ·rw[Aa (by simp[h]),Ab h2];exact⟨rfl,rfl,rfl⟩
  ·rw[Aa (by simp[h]),Aa h2];exact⟨rfl,by simp only;omega,rfl⟩
 ·have e1:CO most bs at_ er= []:=Ab he;have e2:Cp most bs at_ er=at_:=Ab he;have e3:Co most bs at_ er=er:=Ab he;have i2:mZ most bs at_ er=at_:=Ab he;have i3:oZ most bs at_ er=er:=Ab he;rw[e1,e2,e3,i2,i3];exact⟨fun _=>⟨rfl,rfl,rfl⟩,fun h=>absurd h he,fun h=>absurd h he⟩
theorem Mk(w:World)(g base:Nat)(bs:List Nat)(A:Option Addr)(c at_:Nat)(er:Int)(most:Nat)(J:bs.length<=100000)(h8:∀x∈bs,x<=255)(G:most<=1000000000)(h:RCur w g base bs A c at_ er):
 Calls Tryz.prog 133 #[.pointer (some ⟨g,0,none⟩), .int .i64 most] w fun e w'=>e= .returned (.string (ED (CO most bs at_ er)))/\RCur w' g base bs A c (Cp most bs at_ er) (Co most bs at_ er)/\Kept (uZ g w) w w':=by
 obtain⟨d0,d1,d2⟩:=h.cells;have D:=hid (GB w g base bs A c at_ er most J h8 G h);have Z:=h.le;have aa:=h.blk.lt;have hP:=intA_le (most:=most) h8 er h.le;have hV:=Cs (most:=most) h8 at_ er;have j:=Ur most bs at_ er h8;clear h;generalize xZ most bs at_ er=V at *;generalize mZ most bs at_ er=P at *;generalize oZ most bs at_ er=E at *;by_cases hE:E=0
 ·subst hE;have D2:=hid (fun wx hx=>rleft_any wx g base bs A c P 0 J hx);by_cases i:bs.length-P<V
  ·obtain⟨e1,e2,e3⟩:=j.2.1 rfl i;rw[e1,e2,e3];have g1:decide (((bs.length-P:Nat):Int)<(V:Int))=true:=(by simp;omega);have U:decide (bs.length-P<V)=true:=(by simp;omega);have Y:=hid Z;clear e1 e2 e3 j i;generalize bs.length-P=m at *;go_enter Tryz.func133,Tryz.ntmps133;go_wp2_with fail;refine D.out.mono ?_;rintro e w1 ⟨rfl,hc,hk⟩;obtain⟨k0,k1,k2⟩:=hc.cells;have f1:=hc.blk.frozen 1;have f2:=hc.blk.frozen 2;have HC:=hid hc;have HK:=hid hk;clear hc hk D d0 d1 d2;go_wp2_with fail;refine(D2.out _ HC.out).mono ?_;rintro e w2 ⟨rfl,q,rfl⟩;go_wp2_with fail;go_ret;exact⟨rfl,((HC.out.drewN q).setAt at_ Y.out).setErr 1,(HK.out.trans ((Kept.of_below (B:=w1.heap.size) (by(repeat (with_reducible first|exact Ag _ _|assumption|refine Aq ?_ |refine below_drewN ?_ _|refine qZ ?_ |refine bZ ?_ |refine eZ (by assumption) ?_ |refine belA ?_ |refine rZ (by assumption) ?_))) (fun x hx=>De hx.1 HK.out.size)).set (fun h=>h.2 rfl) _)).set (fun h=>h.2 rfl) _⟩
  ·obtain⟨e1,e2,e3⟩:=j.2.2 rfl i;rw[e1,e2,e3];have D3:=hid (fun wx hx=>Jf wx g base bs A c P 0 V J (by omega) hx);have eO:AW bs P 0 V=(bs.drop P).take V:=(Fu _ _ _).trans (Aa i);have eA:takeA bs P 0 V=P+V:=(Gx _ _ _).trans (Aa i);have eE:Be bs P 0 V=0:=(If _ _ _).trans (Aa i);unfold Jh at D3;rw[eO,eA,eE]at D3;have g1:decide (((bs.length-P:Nat):Int)<(V:Int))=false:=(by simp;omega);have U:decide (bs.length-P<V)=false:=(by simp;omega);clear e1 e2 e3 j i eO eA eE;generalize bs.length-P=m at *;generalize (bs.drop P).take V=L at *;go_enter Tryz.func133,Tryz.ntmps133;go_wp2_with fail;refine D.out.mono ?_;rintro e w1 ⟨rfl,hc,hk⟩;obtain⟨k0,k1,k2⟩:=hc.cells;have HC:=hid hc;have HK:=hid hk;clear hc hk D d0 d1 d2;go_wp2_with fail;refine(D2.out _ HC.out).mono ?_;rintro e w2 ⟨rfl,q,rfl⟩;go_wp2_with fail;refine(D3.out _ (HC.out.drewN q)).mono ?_;rintro e w3 ⟨v,rfl,y,M,N⟩;obtain⟨A2,c2,rfl⟩:=aZ y;have cv:=Qx (c:=c2) (own_row y) rfl;have Q:=hid M;have z:=hid N;clear M N y k0 k1 k2 D2 D3;go_wp2_with fail;go_ret;exact⟨rfl,Q.out,HK.out.trans ⟨z.out.os,z.out.tape,z.out.output,z.out.size,fun x hx=>z.out.block x ⟨De hx.1 HK.out.size,hx.2⟩⟩⟩
 ·obtain⟨e1,e2,e3⟩:=j.1 hE;rw[e1,e2,e3];have g1:(E != 0)=true:=by simpa using hE
  clear e1 e2 e3 j hE;go_enter Tryz.func133,Tryz.ntmps133;go_wp2_with fail;refine D.out.mono ?_;rintro e w1 ⟨rfl,hc,hk⟩;obtain⟨k0,k1,k2⟩:=hc.cells;have HC:=hid hc;have HK:=hid hk;clear hc hk D d0 d1 d2;go_wp2_with fail;go_ret;exact⟨rfl,HC.out,HK.out⟩
end Nums
namespace Nums
open Go.RowKit Mem Own Canon
def Ez(bs:List Nat)(at_:Nat)(er:Int):Int:=if at_<bs.length then Dv er 2 else er
theorem Ql(w:World)(g base:Nat)(bs:List Nat)(A:Option Addr)(c at_:Nat)(er:Int)(h:Cur w g base bs A c at_ er):
 Calls Tryz.prog 110 #[.pointer (some ⟨g,0,none⟩)] w fun e w'=>e= .returned (.int .i64 (Ez bs at_ er))/\Cur w' g base bs A c at_ (Ez bs at_ er)/\Kept (fun x=>x≠g) w w':=by
 have DL:=hid (left_any w g base bs A c at_ er h);have H:=hid h;obtain⟨R,hR⟩:∃R,R=Ez bs at_ er:=⟨_,rfl⟩;rw[<-hR];unfold Ez at hR;by_cases y:at_<bs.length
 ·rw[Ab y]at hR;have gl:decide ((0:Int)<((bs.length-at_:Nat):Int))=true:=by simp;omega
  have J:decide (0<bs.length-at_)=true:=by simp;omega
  have N:decide (at_<bs.length)=true:=by simp;omega
  have HR:=hid hR;obtain⟨m,hm⟩:∃m,m=bs.length-at_:=⟨_,rfl⟩;rw[<-hm]at DL gl J;clear h hR y hm;go_enter Tryz.func110,Tryz.ntmps110;go_wp2_with fail;refine DL.out.mono ?_;rintro e w1 ⟨rfl,q,hq⟩;have j:Hid (Cur w1 g base bs A c at_ er):=by rw[hq];exact H.out.drewN q
  have z:Hid (Kept (fun x=>x≠g) w w1):=by rw[hq];exact(Kept.refl _ _).drewN q
  clear hq;go_wp2_with fail;refine(FT w1 g base bs A c at_ er 2 j.out).mono ?_;rintro e w2 ⟨rfl,i,G⟩;rw[<-HR.out]at i;have M:=hid i;have L:Hid (Kept (fun x=>x≠g) w w2):=z.out.trans G;have DE:=hid (CI w2 g base bs A c at_ R i);clear i G HR;go_wp2_with fail;refine DE.out.mono ?_;rintro e w3 ⟨rfl,rfl⟩;go_wp2_with fail;go_ret;exact⟨rfl,M.out,L.out⟩
 ·rw[Aa y]at hR;subst hR;have E:bs.length-at_=0:=by omega
  rw[E]at DL;have gl:decide ((0:Int)<((0:Nat):Int))=false:=by simp
  clear h y E;go_enter Tryz.func110,Tryz.ntmps110;go_wp2_with fail;refine DL.out.mono ?_;rintro e w1 ⟨rfl,q,hq⟩;have j:Hid (Cur w1 g base bs A c at_ R):=by rw[hq];exact H.out.drewN q
  have z:Hid (Kept (fun x=>x≠g) w w1):=by rw[hq];exact(Kept.refl _ _).drewN q
  have DE:=hid (CI w1 g base bs A c at_ R j.out);clear hq;go_wp2_with fail;refine DE.out.mono ?_;rintro e w3 ⟨rfl,rfl⟩;go_wp2_with fail;go_ret;exact⟨rfl,j.out,z.out⟩
theorem Vs(w:World)(g base:Nat)(bs:List Nat)(A:Option Addr)(c at_:Nat)(er:Int)(G:bs.length<=100000)(h:RCur w g base bs A c at_ er):
 Calls Tryz.prog 70 #[.pointer (some ⟨g,0,none⟩)] w fun e w'=>e= .returned (.int .i64 (Ez bs at_ er))/\RCur w' g base bs A c at_ (Ez bs at_ er)/\Kept (fun x=>x≠g) w w':=by
 have DL:=hid (rleft_any w g base bs A c at_ er G h);have H:=hid h;obtain⟨R,hR⟩:∃R,R=Ez bs at_ er:=⟨_,rfl⟩;rw[<-hR];unfold Ez Dv at hR;obtain⟨d0,d1,d2⟩:=h.cells;have f2:=h.blk.frozen 2;by_cases he:er=0
 ·subst he;rw[Ab (rfl:(0:Int)=0)]at hR;by_cases j:at_<bs.length
  ·rw[Ab j]at hR;subst hR;have gl:decide ((0:Int)<((bs.length-at_:Nat):Int))=true:=(by simp;omega);have J:decide (0<bs.length-at_)=true:=(by simp;omega);have M:decide (at_<bs.length)=true:=(by simp;omega);obtain⟨m,hm⟩:∃m,m=bs.length-at_:=⟨_,rfl⟩;rw[<-hm]at DL gl J;clear h j hm d0 d1;go_enter Tryz.func70,Tryz.ntmps70;go_wp2_with fail;refine DL.out.mono ?_;rintro e w1 ⟨rfl,q,hq⟩;have i:Hid (RCur w1 g base bs A c at_ 0):=(by rw[hq];exact H.out.drewN q);have y:Hid (Kept (fun x=>x≠g) w w1):=(by rw[hq];exact(Kept.refl _ _).drewN q);have e2:=i.out.cells.2.2;have k2:=i.out.blk.frozen 2;have z:Hid (RCur (w1.setCell ⟨g,2,none⟩ (.int .i64 2)) g base bs A c at_ 2):=i.out.setErr 2;have p2:=z.out.cells.2.2;clear hq d2 f2;go_wp2_with fail;go_ret;exact⟨rfl,z.out,y.out.set (fun h=>h rfl) _⟩
  ·rw[Aa j]at hR;subst hR;have E:bs.length-at_=0:=(by omega);rw[E]at DL;have gl:decide ((0:Int)<((0:Nat):Int))=false:=(by simp);clear h j E d0 d1;go_enter Tryz.func70,Tryz.ntmps70;go_wp2_with fail;refine DL.out.mono ?_;rintro e w1 ⟨rfl,q,hq⟩;have i:Hid (RCur w1 g base bs A c at_ 0):=(by rw[hq];exact H.out.drewN q);have y:Hid (Kept (fun x=>x≠g) w w1):=(by rw[hq];exact(Kept.refl _ _).drewN q);have e2:=i.out.cells.2.2;clear hq d2 f2;go_wp2_with fail;go_ret;exact⟨rfl,i.out,y.out⟩
 ·rw[Aa he]at hR;have L:R=er:=by rw[hR];split<;>rfl
  subst L;have gE:(R==0)=false:=by simpa using he
  clear h hR he d0 d1 DL;go_enter Tryz.func70,Tryz.ntmps70;go_wp2_with fail;go_ret;exact⟨rfl,H.out,Kept.refl _ _⟩
end Nums
namespace Nums
open Go.RowKit Mem Own Canon
def Ey(bs:List Nat):Nat:=bs.getD 0 0+256*bs.getD 1 0+65536*bs.getD 2 0+16777216*bs.getD 3 0
theorem Lv{x y i:Nat}(hx:x<2 ^ i)(h:x+y*2 ^ i<18446744073709551616):bits .or .u64 (x:Int) ((y*2 ^ i:Nat):Int)=((x+y*2 ^ i:Nat):Int):=Oa hx h
theorem WO(w:World)(g base:Nat)(bs:List Nat)(A:Option Addr)(c:Nat)(h4:bs.length=4)(h8:∀x∈bs,x<=255)(h:Cur w g base bs A c 0 0):
 Calls Tryz.prog 109 #[.pointer (some ⟨g,0,none⟩), .int .i64 4] w fun e w'=>e= .returned (.int .u64 (Ey bs:Nat))/\Cur w' g base bs A c 4 0/\Kept (uZ g w) w w':=by
 have D:=I1 w g base bs A c 0 0 4 (by omega) (by omega) h;unfold I5 at D;rw[Fu,Gx,If,Aa (by omega),Aa (by omega),Aa (by omega),GU,Bv (by omega),h4]at D
 obtain⟨b0,b1,b2,b3,rfl⟩:∃b0 b1 b2 b3,bs= [b0,b1,b2,b3]:=by
  match bs,h4 with
  | [b0,b1,b2,b3],_=>exact⟨b0,b1,b2,b3,rfl⟩
 have l0:=h8 b0 (by simp);have l1:=h8 b1 (by simp);have l2:=h8 b2 (by simp);have l3:=h8 b3 (by simp);have hV:Ey [b0,b1,b2,b3]=b0+256*b1+65536*b2+16777216*b3:=rfl;rw[hV];have D:=hid D;have E:=h.blk.lt;clear h h8 h4 hV;go_enter Tryz.func109,Tryz.ntmps109;go_wp2_with fail;refine D.out.mono ?_;rintro e w1 ⟨v,rfl,j,hc,hk⟩;obtain⟨gv,cv,hv,_⟩:=j.form (by omega);subst hv;have c0:=j.cellAt 0 (by omega);have c1:=j.cellAt 1 (by omega);have c2:=j.cellAt 2 (by omega);have c3:=j.cellAt 3 (by omega);simp only[cZ,List.map_cons,List.map_nil,List.getElem?_cons_zero,List.getElem?_cons_succ]at c0 c1 c2 c3;have HC:=hid hc;have HK:=hid hk;clear j hc hk D;have E0:Hid (bits .or .u64 (0:Int) (b0:Int)=((b0:Nat):Int)):=by have h:=Lv (x:=0) (y:=b0) (i:=0) (by omega) (by omega);show _=_;simpa using h
 have E1:Hid (bits .or .u64 (b0:Int) ((b1:Int)*256)=((b0+256*b1:Nat):Int)):=by have h:=Lv (x:=b0) (y:=b1) (i:=8) (by omega) (by omega);rw[show((b1*2 ^ 8:Nat):Int)=(b1:Int)*256 by omega]at h;show _=_;rw[h];omega
 have E2:Hid (bits .or .u64 ((b0+256*b1:Nat):Int) ((b2:Int)*65536)=((b0+256*b1+65536*b2:Nat):Int)):=by have h:=Lv (x:=b0+256*b1) (y:=b2) (i:=16) (by omega) (by omega);rw[show((b2*2 ^ 16:Nat):Int)=(b2:Int)*65536 by omega]at h;show _=_;rw[h];omega
 have E3:Hid (bits .or .u64 ((b0+256*b1+65536*b2:Nat):Int) ((b3:Int)*16777216)=((b0+256*b1+65536*b2+16777216*b3:Nat):Int)):=by have h:=Lv (x:=b0+256*b1+65536*b2) (y:=b3) (i:=24) (by omega) (by omega);rw[show((b3*2 ^ 24:Nat):Int)=(b3:Int)*16777216 by omega]at h;show _=_;rw[h];omega
 go_wp2_with fail;go_loopw [5,20] (fun xv iv wr=>Hid (wr=w1)/\((xv= .int .u64 0/\iv= .int .i64 0)∨(xv= .int .u64 (b0:Nat)/\iv= .int .i64 1)∨(xv= .int .u64 (b0+256*b1:Nat)/\iv= .int .i64 2)∨(xv= .int .u64 (b0+256*b1+65536*b2:Nat)/\iv= .int .i64 3)∨(xv= .int .u64 (b0+256*b1+65536*b2+16777216*b3:Nat)/\iv= .int .i64 4))) (fun _ iv _=>4-(intOf iv).toNat)
 case atStart=>exact⟨by first|trivial|rfl, .inl ⟨rfl,rfl⟩⟩
 case round=>
  obtain⟨hw,z⟩:=hrel;have hw:=hw.out;subst hw;rcases z with ⟨rfl,rfl⟩|⟨rfl,rfl⟩|⟨rfl,rfl⟩|⟨rfl,rfl⟩|⟨rfl,rfl⟩
  ·have e0:=E0.out;go_wp2_with fail;exact⟨⟨trivial, .inr (.inl ⟨rfl,rfl⟩)⟩,by simp[intOf]⟩
  ·have e1:=E1.out;have s1:IntKind.u64.wrap ((b1:Int)*256)=(b1:Int)*256:=(by rw[Br];omega);go_wp2_with fail;exact⟨⟨trivial, .inr (.inr (.inl ⟨rfl,rfl⟩))⟩,by simp[intOf]⟩
  ·have s2:IntKind.u64.wrap ((b2:Int)*65536)=(b2:Int)*65536:=(by rw[Br];omega);go_wp2_with fail;exact⟨⟨trivial, .inr (.inr (.inr (.inl ⟨by rw[show((b0:Int)+256*(b1:Int))=((b0+256*b1:Nat):Int) by omega,E2.out],rfl⟩)))⟩,by simp[intOf]⟩
  ·have s3:IntKind.u64.wrap ((b3:Int)*16777216)=(b3:Int)*16777216:=(by rw[Br];omega);go_wp2_with fail;exact⟨⟨trivial, .inr (.inr (.inr (.inr ⟨by rw[show((b0:Int)+256*(b1:Int)+65536*(b2:Int))=((b0+256*b1+65536*b2:Nat):Int) by omega,E3.out],rfl⟩)))⟩,by simp[intOf]⟩
  ·go_wp2_with fail;go_ret;exact⟨rfl,HC.out,HK.out⟩
theorem Ua(w:World)(g base:Nat)(bs:List Nat)(A:Option Addr)(c:Nat)(h4:bs.length=4)(h8:∀x∈bs,x<=255)(h:RCur w g base bs A c 0 0):
 Calls Tryz.prog 69 #[.pointer (some ⟨g,0,none⟩), .int .i64 4] w fun e w'=>e= .returned (.int .u64 (Ey bs:Nat))/\RCur w' g base bs A c 4 0/\Kept (uZ g w) w w':=by
 have D:=Jf w g base bs A c 0 0 4 (by omega) (by omega) h;unfold Jh at D;rw[Fu,Gx,If,Aa (by omega),Aa (by omega),Aa (by omega),GU,Bv (by omega),h4]at D;obtain⟨d0,d1,d2⟩:=h.cells
 obtain⟨b0,b1,b2,b3,rfl⟩:∃b0 b1 b2 b3,bs= [b0,b1,b2,b3]:=by
  match bs,h4 with
  | [b0,b1,b2,b3],_=>exact⟨b0,b1,b2,b3,rfl⟩
 have l0:=h8 b0 (by simp);have l1:=h8 b1 (by simp);have l2:=h8 b2 (by simp);have l3:=h8 b3 (by simp);have hV:Ey [b0,b1,b2,b3]=b0+256*b1+65536*b2+16777216*b3:=rfl;obtain⟨V,j⟩:∃V,V=Ey [b0,b1,b2,b3]:=⟨_,rfl⟩;rw[<-j];rw[hV]at j;have N:=hid j;have D:=hid D;have ab:=h.blk.lt;clear h h8 h4 hV j d0 d1;go_enter Tryz.func69,Tryz.ntmps69;go_wp2_with fail;refine D.out.mono ?_;rintro e w1 ⟨v,rfl,i,hc,hk⟩;obtain⟨gv,cv,hv,_⟩:=i.form (by omega);subst hv;have c0:=i.cellAt 0 (by omega);have c1:=i.cellAt 1 (by omega);have c2:=i.cellAt 2 (by omega);have c3:=i.cellAt 3 (by omega);simp only[cZ,List.map_cons,List.map_nil,List.getElem?_cons_zero,List.getElem?_cons_succ]at c0 c1 c2 c3;have HC:=hid hc;have HK:=hid hk;clear i hc hk D d2;obtain⟨x3,G⟩:∃x,x=b3:=⟨_,rfl⟩;obtain⟨x2,J⟩:∃x,x=256*x3+b2:=⟨_,rfl⟩;obtain⟨x1,E⟩:∃x,x=256*x2+b1:=⟨_,rfl⟩;obtain⟨x0,L⟩:∃x,x=256*x1+b0:=⟨_,rfl⟩;have HX:Hid (x0=V):=by have h:=N.out;show _=_;omega
 have ac:x3<=255:=by omega
 have aa:x2<=65535:=by omega
 have Z:x1<=16777215:=by omega
 have Y:x0<=4294967295:=by omega
 obtain⟨y2,M⟩:∃y,y=256*x3:=⟨_,rfl⟩;have m2:IntKind.u64.wrap ((x3:Int)*256)=(y2:Int):=by rw[Br];omega
 have s2:IntKind.u64.wrap ((y2:Int)+(b2:Int))=(x2:Int):=by rw[Br];omega
 obtain⟨y1,Q⟩:∃y,y=256*x2:=⟨_,rfl⟩;have m1:IntKind.u64.wrap ((x2:Int)*256)=(y1:Int):=by rw[Br];omega
 have s1:IntKind.u64.wrap ((y1:Int)+(b1:Int))=(x1:Int):=by rw[Br];omega
 obtain⟨y0,U⟩:∃y,y=256*x1:=⟨_,rfl⟩;have m0:IntKind.u64.wrap ((x1:Int)*256)=(y0:Int):=by rw[Br];omega
 have s0:IntKind.u64.wrap ((y0:Int)+(b0:Int))=(x0:Int):=by rw[Br];omega
 have H3:=hid G;have H2:=hid J;have H1:=hid E;have H0:=hid L;clear G J E L M Q U;go_wp2_with fail;go_loopw [6,7] (fun xv iv wr=>Hid (wr=w1)/\((xv= .int .u64 0/\iv= .int .i64 3)∨(xv= .int .u64 (x3:Nat)/\iv= .int .i64 2)∨(xv= .int .u64 (x2:Nat)/\iv= .int .i64 1)∨(xv= .int .u64 (x1:Nat)/\iv= .int .i64 0)∨(xv= .int .u64 (x0:Nat)/\iv= .int .i64 (-1)))) (fun _ iv _=>(intOf iv+1).toNat)
 case atStart=>exact⟨by first|trivial|rfl, .inl ⟨rfl,rfl⟩⟩
 case round=>
  obtain⟨hw,z⟩:=hrel;have hw:=hw.out;subst hw;rcases z with ⟨rfl,rfl⟩|⟨rfl,rfl⟩|⟨rfl,rfl⟩|⟨rfl,rfl⟩|⟨rfl,rfl⟩
  ·go_wp2_with fail;exact⟨⟨trivial, .inr (.inl ⟨by rw[H3.out],rfl⟩)⟩,by simp[intOf]⟩
  ·go_wp2_with fail;exact⟨⟨trivial, .inr (.inr (.inl ⟨rfl,rfl⟩))⟩,by simp[intOf]⟩
  ·go_wp2_with fail;exact⟨⟨trivial, .inr (.inr (.inr (.inl ⟨rfl,rfl⟩)))⟩,by simp[intOf]⟩
  ·go_wp2_with fail;exact⟨⟨trivial, .inr (.inr (.inr (.inr ⟨rfl,rfl⟩)))⟩,by simp[intOf]⟩
  ·go_wp2_with fail;go_ret;rw[<-HX.out];exact⟨rfl,HC.out,HK.out⟩
end Nums
namespace Body
open Go.RowKit Mem Own Canon Nums Crc
def Di(ls:List Nat):List Nat:=(ls.drop (ls.length-4-Ey (ls.drop (ls.length-4)))).take (Ey (ls.drop (ls.length-4)))
def GO(ls:List Nat):Prop:=ls.length<4∨ls.length-4<Ey (ls.drop (ls.length-4))
def Pa(ls:List Nat)(A:Option Addr)(c:Nat)(w:World)(e:Ending)(w':World):Prop:=
 Below w.heap.size w w'/\(GO ls->e= .returned (.tuple #[.slice none 0 0, .slice none 0 0, .int .i64 1]))/\
  (¬GO ls->∃v,e= .returned (.tuple #[.slice A (ls.length-4-Ey (ls.drop (ls.length-4))) c,v, .int .i64 (BS (Di ls))])/\w'.ownsRow w.heap.size 5 1 v (AI (Di ls)).length (cZ .u8 (AI (Di ls))))
theorem Qa{bs:List Nat}(h8:∀x∈bs,x<=255)(h4:bs.length=4):Ey bs<4294967296:=by
 match bs,h4 with
 | [b0,b1,b2,b3],_=>have l0:=h8 b0 (by simp);have l1:=h8 b1 (by simp);have l2:=h8 b2 (by simp);have l3:=h8 b3 (by simp);have hV:Ey [b0,b1,b2,b3]=b0+256*b1+65536*b2+16777216*b3:=rfl;omega
theorem Vc(w:World)(A:Option Addr)(n c:Nat)(ls:List Nat)(hn:ls.length=n)(aa:n<=100000)(hc:n<=c)(h8:∀x∈ls,x<=255)(ht:TabAt w)(hh:∀a,A=some a->a.add 0=a)(ha:Row w w.heap.size A n 1 (iZ .u8 ls)):
 Calls Tryz.prog 60 #[.slice A n c] w (Pa ls A c w):=by
 unfold Pa;by_cases h4:n<4
 ·have i:GO ls:= .inl (by omega);have HB:=hid i;have s1:decide (IntKind.i64.wrap ((n:Int)-4)<0)=true:=by rw[Ak _ (by omega)];simp;omega
  have s2:decide ((n:Int)-4<0)=true:=by simp;omega
  have s3:IntKind.i64.wrap ((n:Int)-4)=(n:Int)-4:=Ak _ (by omega);clear hn aa hc h8 ht hh ha i;go_enter Tryz.func60,Tryz.ntmps60;go_wp2_with fail
  go_ret3
  exact⟨Ag _ _,fun _=>rfl,fun h=>absurd HB.out h⟩
 ·obtain⟨m,rfl⟩:∃m,n=m+4:=⟨n-4,by omega⟩;have E:ls.length-4=m:=by omega
  have J:(ls.drop m).length=4:=by rw[AQ];omega
  have M:∀x∈ls.drop m,x<=255:=fun x hx=>h8 x (Bb hx);have av:=Qa M J;have Q:A=none->m+4=0/\c=0:=fun e=>by obtain⟨b,al,e2,_⟩:=ha (by omega);rw[e]at e2;cases e2
  have hd:=Ct ha (show m<=m+4 by omega) hc;rw[show m+4-m=4 by omega]at hd;have Y:vZ A m c 1=none->4=0/\c-m=0:=fun h=>by obtain⟨b,al,e2,_⟩:=hd (by omega);rw[h]at e2;cases e2
  have D0:=hid (new_any w (vZ A m c 1) 4 (c-m) (ls.drop m) J (by omega) Y hd);have ai:=fun wx=>EG (P:=Tryz.prog) (t:=22) (s:=1) Tryz.underlying22 (fun _=>by kernel_rfl) A (m+4) c .i64 (m:Int) m rfl (by omega) wx;have U:=ai;rw[show m+4-m=4 by omega]at ai;have D1:=hid (fun wx g B d h=>WO wx g w.heap.size (ls.drop m) B d J M h);have s1:IntKind.i64.wrap (((m+4:Nat):Int)-4)=(m:Int):=by rw[Ak _ (by omega)];omega
  have wm:IntKind.i64.wrap (m:Int)=(m:Int):=Ak _ (by omega);have g1:decide ((m:Int)<0)=false:=by simp
  obtain⟨k,hk⟩:∃k,k=Ey (ls.drop m):=⟨_,rfl⟩;rw[<-hk]at D1 av;have wk:IntKind.i64.wrap (k:Int)=(k:Int):=Ak _ (by omega);by_cases aw:m<k
  ·have i:GO ls:= .inr (by rw[E,<-hk];exact aw);have aj:=hid i;have g2:decide ((m:Int)<(k:Int))=true:=(by simp;omega);have ak:decide (m<k)=true:=(by simp;omega);generalize vZ A m c 1=A1 at *;generalize c-m=c1 at *;clear hd ha h8 M ht hh Q Y hn aa hc i hk J E h4 U;go_enter Tryz.func60,Tryz.ntmps60;go_wp2_with fail;refine D0.out.mono ?_;rintro e w1 ⟨g,B,d,rfl,j,L⟩;have y:=hid L;have D2:=hid (D1.out w1 g B d j);have ag:=j.lo;clear j L D0 D1;go_wp2_with fail;refine D2.out.mono ?_;rintro e w2 ⟨rfl,Z,G⟩;have z:Hid (Below w.heap.size w w2):=y.out.trans (G.below fun b h=>⟨by have:=y.out.size;omega,by omega⟩);clear Z G;go_wp2_with fail
   go_ret3
   exact⟨z.out,fun _=>rfl,fun h=>absurd aj.out h⟩
  ·have ac:¬GO ls:=fun h=>h.elim (fun h=>by omega) (fun h=>by rw[E,<-hk]at h;omega);have ar:=hid ac;have g2:decide ((m:Int)<(k:Int))=false:=(by simp;omega);have ak:decide (m<k)=false:=(by simp;omega);obtain⟨r,hr⟩:∃r,r=m-k:=⟨_,rfl⟩;have s2:IntKind.i64.wrap ((m:Int)-(k:Int))=(r:Int):=(by rw[Ak _ (by omega)];omega);have ah:Di ls=(ls.drop r).take k:=(by unfold Di;rw[E,<-hk,<-hr]);have ae:=Du (Ct ha (show r<=m+4 by omega) hc) (show k<=m+4-r by omega);have DC:=hid (fun wx (hb:Below w.heap.size w wx)=>Lc wx (vZ A r c 1) k (c-r) ((ls.drop r).take k) (by rw[AO,AQ];omega) (by omega) (by omega) (fun x hx=>h8 x (Bb (BV hx))) (ht.step hb) ((ae.below hb).mono hb.size));rw[<-ah]at DC;have an:=fun wx=>G5 (P:=Tryz.prog) (t:=22) (s:=1) Tryz.underlying22 (fun _=>by kernel_rfl) A (m+4) c .i64 .i64 (r:Int) (m:Int) r m rfl rfl (by omega) (by omega) wx;rw[show m-r=k by omega]at an;have ax:=fun wx=>Dx (P:=Tryz.prog) (t:=22) (s:=1) Tryz.underlying22 (fun _=>by kernel_rfl) A (m+4) c .i64 (r:Int) r rfl (by omega) hh wx;have aq:Hid (ls.length-4-Ey (ls.drop (ls.length-4))=r):=(by show _=_;rw[E,<-hk,hr]);generalize vZ A m c 1=A1 at *;generalize c-m=c1 at *;generalize vZ A r c 1=A2 at *;generalize c-r=c2 at *;clear hd ha h8 M ht hh Q Y hn aa hc ac hk J E h4 U ae ah hr;go_enter Tryz.func60,Tryz.ntmps60;go_wp2_with fail;refine D0.out.mono ?_;rintro e w1 ⟨g,B,d,rfl,j,L⟩;have y:=hid L;have D2:=hid (D1.out w1 g B d j);have ag:=j.lo;clear j L D0 D1;go_wp2_with fail;refine D2.out.mono ?_;rintro e w2 ⟨rfl,Z,G⟩;have z:Hid (Below w.heap.size w w2):=y.out.trans (G.below fun b h=>⟨by have:=y.out.size;omega,by omega⟩);have ab:=hid (DC.out w2 z.out);unfold ER at ab;clear Z G DC y;go_wp2_with fail;refine ab.out.mono ?_;rintro e w3 ⟨v,rfl,N,af⟩;have am:Hid (Below w.heap.size w w3):=z.out.trans (af.mono z.out.size);have au:Hid (w3.ownsRow w.heap.size 5 1 v (AI (Di ls)).length (cZ .u8 (AI (Di ls)))):=jZ N z.out.size;clear N af ab;go_wp2_with fail
   go_ret3
   rw[aq.out];exact⟨am.out,fun h=>absurd h ar.out,fun _=>⟨v,rfl,au.out⟩⟩
end Body
namespace Recs
open Go.RowKit Mem Own Canon NumPut Nums
theorem Ih{w:World}{g base ob:Nat}{bs:List Nat}{A:Option Addr}{c at_:Nat}{er:Int}{t:TypeId}{cs:Array Value}(h:Cur w g base bs A c at_ er)(i:Blk w ob t cs)(ht:t≠5)(hg:t≠136)(k:Nat)(u:Value):Cur (w.setCell ⟨ob,k,none⟩ u) g base bs A c at_ er:=
 ⟨h.blk.far (fun e=>Blk.apart i h.blk hg e.symm) _,wZ h.own (fZ h.own i ht.symm) _,h.le,h.lo⟩
end Recs
namespace Recs
open Go.RowKit Mem Own Canon NumPut Nums
theorem O1{most:Nat}{bs:List Nat}(h8:∀x∈bs,x<=255){at_:Nat}(er:Int)(h:at_<=bs.length):Cp most bs at_ er<=bs.length:=by
 unfold Cp;split
 ·exact h
 ·have:=(Kt most (bs.drop at_) (fun x hx=>h8 x (Bb hx))).2.1;rw[AQ]at this;omega
theorem US(most:Nat)(bs:List Nat)(at_:Nat)(er:Int):at_<=Cp most bs at_ er:=by unfold Cp;split<;>omega
def Bc(l:List Rec):List Value:=l.flatMap fun r=> [.int .u64 r.time, .int .u8 r.level, .string r.source, .string r.text]
theorem Qr(l:List Rec)(r:Rec):Bc (l++ [r])=Bc l++ [.int .u64 r.time, .int .u8 r.level, .string r.source, .string r.text]:=by simp[Bc]
theorem J0(l m:List Rec):Bc (l++m)=Bc l++Bc m:=by simp[Bc]
theorem KA:(Tryz.prog.info? 59).map (fun i=>(i.zero,i.size,i.bytes))=some (some (.agg #[.int .u64 0, .int .u8 0, .string ⟨#[]⟩, .string ⟨#[]⟩]),4,48):=by kernel_rfl
theorem IR:∀ (l:List Rec) (i j:Nat),i<l.length->j<4->(Bc l)[i*4+j]? =some (Db l i j)
 | [],i,j,h,_=>by simp at h
 |t :: ts,0,j,_,hj=>by
  obtain rfl|rfl|rfl|rfl:j=0∨j=1∨j=2∨j=3:=by omega
  all_goals rfl
 |t :: ts,i+1,j,h,hj=>by have:=IR ts i j (by simpa using h) hj;show(_ :: _ :: _ :: _ :: Bc ts)[(i+1)*4+j]? =_;rw[show(i+1)*4+j=(i*4+j)+1+1+1+1 by omega,List.getElem?_cons_succ,List.getElem?_cons_succ,List.getElem?_cons_succ,List.getElem?_cons_succ,this];rfl
theorem JZ{w:World}{base c:Nat}{A:Option Addr}{l:List Rec}(h:w.ownsRow base 59 4 (.slice A l.length c) l.length (Bc l)):Row w w.heap.size A l.length 4 (Db l):=
 Row.of_own h rfl fun i j hi hj=>IR l i j hi hj
def Kz(w:World)(R:List Rec×Int)(e:Ending)(w':World):Prop:=
 ∃v,e= .returned (.tuple #[v, .int .i64 R.2])/\w'.ownsRow w.heap.size 59 4 v R.1.length (Bc R.1)/\Below w.heap.size w w'
def Gj(w:World)(g:Nat):Nat:=(intOf ((w.cell? ⟨g,1,none⟩).getD (.int .i64 0))).toNat
end Recs
namespace Recs
open Go.RowKit Mem Own Canon NumPut Nums
def Ei(bs:List Nat)(at_:Nat)(er:Int):Rec×Nat×Int:=
 let a3:=Cp 4000 bs at_ er;let e3:=Co 4000 bs at_ er
 (⟨0,0,ED (CO 4000 bs at_ er),ED (CO 4000 bs a3 e3)⟩,Cp 4000 bs a3 e3,Co 4000 bs a3 e3)
theorem RX{bs:List Nat}(h8:∀x∈bs,x<=255){at_:Nat}(h:at_<=bs.length)(er:Int):(Ei bs at_ er).2.1<=bs.length/\((Ei bs at_ er).2.2=0->at_<(Ei bs at_ er).2.1)/\Jl (Ei bs at_ er).1:=by
 have hA3:=O1 (most:=4000) h8 er h;refine⟨O1 h8 _ hA3,fun he=> ?_,?_⟩
 ·have e0:er=0:=by refine Jq fun hn=> ?_;have e3:∀a,Co 4000 bs a er=er:=fun a=>Ab hn;unfold Ei at he;simp only[e3]at he;exact hn he
  have e1:Co 4000 bs at_ er=0:=by refine Jq fun hn=> ?_;have e3:∀a,Co 4000 bs a (Co 4000 bs at_ er)=Co 4000 bs at_ er:=fun a=>Ab hn;unfold Ei at he;simp only[e3]at he;exact hn he
  have hs:=(Kt 4000 (bs.drop at_) (fun x hx=>h8 x (Bb hx))).2.2.1;have h1:Cp 4000 bs at_ er=at_+(BT 4000 (bs.drop at_)).2.1:=Aa (by simp[e0]);have h2:Co 4000 bs at_ er=(BT 4000 (bs.drop at_)).2.2:=Aa (by simp[e0]);have h3:=hs (h2.symm.trans e1);have h4:=US 4000 bs (Cp 4000 bs at_ er) (Co 4000 bs at_ er);show at_<Cp 4000 bs _ _;omega
 ·unfold Jl Ei;simp only;omega
theorem TU(w:World)(g base:Nat)(bs:List Nat)(A:Option Addr)(c at_:Nat)(er:Int)(J:bs.length<=100000)(h8:∀x∈bs,x<=255)(h:Cur w g base bs A c at_ er):
 Calls Tryz.prog 173 #[.agg #[.pointer (some ⟨g,0,none⟩)], .bool false] w fun e w'=>e= .returned (Ei bs at_ er).1.val/\Cur w' g base bs A c (Ei bs at_ er).2.1 (Ei bs at_ er).2.2/\Kept (uZ g w) w w':=by
 have ah:=h.blk.lt;unfold Ei Rec.val;simp only;have D3:=hid (fun wx hx=>M1 wx g base bs A c at_ er 4000 J h8 (by omega) hx);generalize ED (CO 4000 bs at_ er)=v3 at *;generalize Cp 4000 bs at_ er=a3 at *;generalize Co 4000 bs at_ er=e3 at *;have D4:=hid (fun wx hx=>M1 wx g base bs A c a3 e3 4000 J h8 (by omega) hx);generalize ED (CO 4000 bs a3 e3)=v4 at *;generalize Cp 4000 bs a3 e3=a4 at *;generalize Co 4000 bs a3 e3=e4 at *;have H:=hid h;clear h h8 J;go_enter Tryz.func173,Tryz.ntmps173;go_wp2_with fail;refine(D3.out _ (H.out.step (by(repeat (with_reducible first|exact Ag _ _|assumption|refine Aq ?_ |refine below_drewN ?_ _|refine qZ ?_ |refine bZ ?_ |refine eZ (by assumption) ?_ |refine belA ?_ |refine rZ (by assumption) ?_))))).mono ?_;rintro e w3 ⟨rfl,U,y⟩;have L:Blk w3 w.heap.size 217 #[.pointer (some ⟨g,0,none⟩)]:=(y.block _ ⟨by simp;omega,by omega⟩).trans ((Blk.made _ _ _).alloc _);have E:Blk w3 (w.heap.size+1) 59 #[.int .u64 0, .int .u8 0, .string ⟨#[]⟩, .string ⟨#[]⟩]:=(y.block _ ⟨by simp,by omega⟩).trans (Blk.made_at _ _ _ (by simp));have Z:Hid (Kept (uZ g w) w w3):=(Kept.of_below (B:=w.heap.size) (by(repeat (with_reducible first|exact Ag _ _|assumption|refine Aq ?_ |refine below_drewN ?_ _|refine qZ ?_ |refine bZ ?_ |refine eZ (by assumption) ?_ |refine belA ?_ |refine rZ (by assumption) ?_))) (fun x hx=>hx.1)).trans ⟨y.os,y.tape,y.output,y.size,fun x hx=>y.block x ⟨by have:=hx.1;simp;omega,hx.2⟩⟩;have aa:=hid U;have x3:=L.cell 0;have y3:=E.cell 2;have f3:=E.frozen 2;simp only[List.getElem?_toArray,List.getElem?_cons_zero,List.getElem?_cons_succ]at x3 y3;have ae:=y.size;have Q:=hid L;have M:=hid E;clear U y L E D3;go_wp2_with fail;refine(D4.out _ (Ih aa.out M.out (by decide) (by decide) 2 (.string v3))).mono ?_;rintro e w4 ⟨rfl,Y,j⟩;have N:Blk w4 w.heap.size 217 #[.pointer (some ⟨g,0,none⟩)]:=(j.block _ ⟨(Q.out.far (p:=⟨w.heap.size+1,2,none⟩) (by simp) (.string v3)).lt,by omega⟩).trans (Q.out.far (p:=⟨w.heap.size+1,2,none⟩) (by simp) (.string v3));have G:Blk w4 (w.heap.size+1) 59 #[.int .u64 0, .int .u8 0, .string v3, .string ⟨#[]⟩]:=(j.block _ ⟨(M.out.set 2 (.string v3)).lt,by omega⟩).trans (M.out.set 2 (.string v3));have ac:Hid (Kept (uZ g w) w w4):=(Z.out.set (p:=⟨w.heap.size+1,2,none⟩) (fun h=>absurd h.1 (by simp)) (.string v3)).trans ⟨j.os,j.tape,j.output,j.size,fun x hx=>j.block x ⟨by have:=hx.1;have:=Z.out.size;simp;omega,hx.2⟩⟩;have ab:=hid Y;have x4:=N.cell 0;have y4:=G.cell 3;have f4:=G.frozen 3;simp only[List.getElem?_toArray,List.getElem?_cons_zero,List.getElem?_cons_succ]at x4 y4;have ag:=j.size;have af:=hid N;have i:=hid G;clear Y j N G D4;have p0:=i.out.cell 0;have p1:=i.out.cell 1;have p2:=i.out.cell 2;have q0:=i.out.frozen 0;have q1:=i.out.frozen 1;have q2:=i.out.frozen 2;simp only[List.getElem?_toArray,List.getElem?_cons_zero,List.getElem?_cons_succ]at p0 p1 p2;clear ae x3 y3 f3;go_wp2_with fail;have B5:=((((i.out.set 3 (.string v4)).set 0 (.int .u64 0)).set 1 (.int .u8 0)).set 2 (.string v3)).set 3 (.string v4);have C5:=Ih (Ih (Ih (Ih (Ih ab.out i.out (by decide) (by decide) 3 (.string v4)) (i.out.set 3 (.string v4)) (by decide) (by decide) 0 (.int .u64 0)) ((i.out.set 3 (.string v4)).set 0 (.int .u64 0)) (by decide) (by decide) 1 (.int .u8 0)) (((i.out.set 3 (.string v4)).set 0 (.int .u64 0)).set 1 (.int .u8 0)) (by decide) (by decide) 2 (.string v3)) ((((i.out.set 3 (.string v4)).set 0 (.int .u64 0)).set 1 (.int .u8 0)).set 2 (.string v3)) (by decide) (by decide) 3 (.string v4);have z:∀k,¬uZ g w (⟨w.heap.size+1,k,none⟩:Addr).block:=fun k h=>absurd h.1 (by simp);have K5:=((((ac.out.set (z 3) (.string v4)).set (z 0) (.int .u64 0)).set (z 1) (.int .u8 0)).set (z 2) (.string v3)).set (z 3) (.string v4);generalize ((((w4.setCell ⟨w.heap.size+1,3,none⟩ (.string v4)).setCell ⟨w.heap.size+1,0,none⟩ (.int .u64 0)).setCell ⟨w.heap.size+1,1,none⟩ (.int .u8 0)).setCell ⟨w.heap.size+1,2,none⟩ (.string v3)).setCell ⟨w.heap.size+1,3,none⟩ (.string v4)=w5 at *;have z0:=B5.cell 0;have z1:=B5.cell 1;have z2:=B5.cell 2;have z3:=B5.cell 3;simp at z0 z1 z2 z3;refine AN (v:= .agg #[.int .u64 0, .int .u8 0, .string v3, .string v4]) ?_ rfl ⟨rfl,C5,K5⟩;simp[results,Tryz.results173,go_sem,z0,z1,z2,z3]
def Gf:Nat->List Nat->Nat->List Rec->List Rec×Int
 |0,_,_,acc=>(acc,0)
 |f+1,bs,at_,acc=>if bs.length<=at_ then(acc,0)else if(Ei bs at_ 0).2.2≠0 then([],(Ei bs at_ 0).2.2)else Gf f bs (Ei bs at_ 0).2.1 (acc++ [(Ei bs at_ 0).1])
theorem RJ{f:Nat}{bs:List Nat}{at_:Nat}{i:List Rec}(h:bs.length<=at_):Gf f bs at_ i=(i,0):=by
 cases f with
 |zero=>rfl
 |succ f=>exact Ab h
def Dz(bs:List Nat):List Rec×Int:=Gf bs.length bs 0 []
theorem VC(w:World)(A:Option Addr)(n c:Nat)(bs:List Nat)(hn:bs.length=n)(al:n<=100000)(h8:∀x∈bs,x<=255)(Q:A=none->n=0/\c=0)(ha:Row w w.heap.size A n 1 (iZ .u8 bs)):
 Calls Tryz.prog 119 #[.bool false, .slice A n c] w (Kz w (Dz bs)):=by
 obtain⟨j0,aF,aC,az,av⟩:=info_parts KA;have D0:=hid (new_any w A n c bs hn al Q ha);have aj:bs.length<=100000:=by omega
 obtain⟨R,hR⟩:∃R,R=Dz bs:=⟨_,rfl⟩;have ar:Hid (Gf bs.length bs 0 []=R):=hR.symm;rw[<-hR];have H8:=hid h8;clear hn Q ha hR h8 al;go_enter Tryz.func119,Tryz.ntmps119;go_wp2_with fail;refine D0.out.mono ?_;rintro e w1 ⟨g,B,d,rfl,M,ab⟩;have z1:=ab.size;have aQ:=M.blk.lt;have aK:=M.lo;have ak:=hid M;have ag:=hid ab;clear M ab D0;go_wp2_with fail;have af:=ak.out.step (w':=w1.alloc (.cells #[.pointer (some ⟨g,0,none⟩)] 217)) (by(repeat (with_reducible first|exact Ag _ _|assumption|refine Aq ?_ |refine below_drewN ?_ _|refine qZ ?_ |refine bZ ?_ |refine eZ (by assumption) ?_ |refine belA ?_ |refine rZ (by assumption) ?_)));have ae:Blk (w1.alloc (.cells #[.pointer (some ⟨g,0,none⟩)] 217)) w1.heap.size 217 #[.pointer (some ⟨g,0,none⟩)]:=Blk.made _ _ _;have U:Below w.heap.size w (w1.alloc (.cells #[.pointer (some ⟨g,0,none⟩)] 217)):=kZ z1 ag.out;generalize w1.alloc (.cells #[.pointer (some ⟨g,0,none⟩)] 217)=w2 at *;have z2:=U.size;have aD:=ae.lt;have ah:=hid af;have ay:=hid ae;have am:=hid U;clear af ae U ak ag;go_loopw [7] (fun v wr=>∃ (f at_:Nat) (j:List Rec),at_<=bs.length/\j.length<=at_/\Hid (bs.length<=f+at_)/\Hid (Gf f bs at_ j=R)/\Hid (wr.ownsRow w2.heap.size 59 4 v j.length (Bc j))/\Hid (Cur wr g w.heap.size bs B d at_ 0)/\Hid (Kept (fun x=>x<w2.heap.size/\x≠g) w2 wr)) (fun _ wr=>bs.length-Gj wr g)
 case atStart=>exact⟨bs.length,0,[],by omega,by simp,Aj _,ar.out,Am _ _ _ _,ah.out,Kept.refl _ _⟩
 case round=>
  obtain⟨f,at_,j,aH,aL,HF,HG,HO,HC,HK⟩:=hrel;have ac:w1.heap.size≠g:=by omega
  have zk:=HK.out.size;have xb:Blk wr w1.heap.size 217 #[.pointer (some ⟨g,0,none⟩)]:=(HK.out.block _ ⟨aD,ac⟩).trans ay.out;have x0:=xb.cell 0;simp only[List.getElem?_toArray,List.getElem?_cons_zero]at x0;have XB:=hid xb;have DL:=hid (left_any wr g w.heap.size bs B d at_ 0 HC.out);have N:=HO.out;obtain⟨va,vc,rfl⟩:=aZ N;have an:Gj wr g=at_:=by have h1:=HC.out.cells.2.1;unfold Gj;rw[h1];exact Cl _
  have aG:=hid an;have aE:Hid (Below w.heap.size w wr):=am.out.trans (HK.out.below (fun b h=>⟨by omega,by have:=HC.out.lo;omega⟩));clear xb N an ar;by_cases G:bs.length<=at_
  ·have ai:bs.length-at_=0:=(by omega);have aI:Hid (R=(j,0)):=HG.out.symm.trans (RJ G);rw[ai]at DL;clear G ai HG;go_wp2_with fail;refine DL.out.mono ?_;rintro e w3 ⟨rfl,q,rfl⟩;go_wp2_with fail;go_ret2;rw[aI.out];exact⟨_,rfl,jZ (dZ HO.out (fun x hx=>rfl)) z2,below_drewN aE.out q⟩
  ·obtain⟨f,rfl⟩:∃f',f=f'+1:=⟨f-1,by have:=HF.out;omega⟩;have aJ:0<bs.length-at_:=(by omega);have gl:decide ((0:Int)<((bs.length-at_:Nat):Int))=true:=(by simp;omega);have aN:decide (0<bs.length-at_)=true:=(by simp;omega);have aP:decide (at_<bs.length)=true:=(by simp;omega);have hG:=HG.out;unfold Gf at hG;rw[Aa G]at hG;have L:=RX H8.out aH 0;have DR:=hid (fun wx hx=>TU wx g w.heap.size bs B d at_ 0 aj H8.out hx);generalize Ei bs at_ 0=T at *;obtain⟨⟨rt,rl,rs,rx⟩,a2,e2⟩:=T;simp only at hG L DR;unfold Rec.val at DR;simp only at DR;have ax:=L.1;have aw:=hid L.2.1;generalize aq:bs.length-at_=m at *;have aR:=hid aq;clear aq HG L;by_cases he:e2=0
   ·subst he;rw[Aa (by simp)]at hG;have HG:=hid hG;clear hG;go_wp2_with fail;refine DL.out.mono ?_;rintro e w3 ⟨rfl,q,rfl⟩;go_wp2_with fail;refine(DR.out _ (HC.out.drewN q)).mono ?_;rintro e w4 ⟨rfl,E,i⟩;have z4:=i.size;simp at z4;have aB:w1.heap.size<w4.heap.size:=(by omega);have y:Blk w4 w1.heap.size 217 #[.pointer (some ⟨g,0,none⟩)]:=(i.block _ ⟨(XB.out.drewN q).lt,ac⟩).trans (XB.out.drewN q);have x4:=y.cell 0;simp only[List.getElem?_toArray,List.getElem?_cons_zero]at x4;have J:Hid (w4.ownsRow w2.heap.size 59 4 (.slice va j.length vc) j.length (Bc j)):=dZ HO.out (fun x hx=>i.block x ⟨(Ae HO.out x hx).2,by have:=(Ae HO.out x hx).1;omega⟩);have Y:Hid (Kept (fun x=>x<w2.heap.size/\x≠g) w2 w4):=HK.out.trans ⟨i.os,i.tape,i.output,i.size,fun x hx=>i.block x ⟨by have:=hx.1;simp;omega,hx.2⟩⟩;have z:=hid E;clear E i y x0 DL DR HO HK HC XB;go_wp2_with fail;refine(CI _ g w.heap.size bs B d a2 0 (z.out.step (by(repeat (with_reducible first|exact Ag _ _|assumption|refine Aq ?_ |refine below_drewN ?_ _|refine qZ ?_ |refine bZ ?_ |refine eZ (by assumption) ?_ |refine belA ?_ |refine rZ (by assumption) ?_))))).mono ?_;rintro e w5 ⟨rfl,rfl⟩;have aO:=aw.out trivial;have aA:j.length<=100000:=(by omega);go_wp2_with(at_builtin;refine gZ rfl (.tmp 26) (.tmp 28) 46 rfl w2.heap.size 59 j0 _ 4 48 Tryz.underlying46 aF aC az av rfl (by decide) _ _ _ (by rfl) ((J.out.alloc _).alloc _) _ 1 1 [.int .u64 rt, .int .u8 rl, .string rs, .string rx] (by rfl) (Src.of_blk (g:=w4.heap.size+1) (Blk.made_at _ _ _ (by simp)) 1 1 4 rfl) (by intro u hu;simp at hu;rcases hu with rfl|rfl|rfl|rfl<;>rfl) (by unfold maxLen;omega) (by omega) (by simp;omega) ?_;intro v5 w5 Z aa aM);have au:Cur w5 g w.heap.size bs B d a2 0:=(by have h1:=(z.out.step (w':=(w4.alloc (.cells #[.int .u64 rt, .int .u8 rl, .string rs, .string rx] 59)).alloc (.cells #[.int .u64 rt, .int .u8 rl, .string rs, .string rx] 59)) (by(repeat (with_reducible first|exact Ag _ _|assumption|refine Aq ?_ |refine below_drewN ?_ _|refine qZ ?_ |refine bZ ?_ |refine eZ (by assumption) ?_ |refine belA ?_ |refine rZ (by assumption) ?_))));exact⟨h1.blk.grown aa (fun e=>by have:=(Ae J.out g e.symm).1;omega),dZ h1.own (fun x hx=>aa.block x (Ae h1.own x hx).2 (fun e=>by have:=(Ae ah.out.own x hx).2;have:=(Ae J.out x e.symm).1;omega)),h1.le,h1.lo⟩);go_roundw
    case measure=>go_light;have h1:=au.cells.2.1;have h2:Gj w5 g=a2:=(by unfold Gj;rw[h1];exact Cl _);rw[h2,aG.out];omega
    case rel=>
     go_light;refine⟨f,a2,j++ [⟨rt,rl,rs,rx⟩],ax,by rw[Ai];simp;omega,?_,HG,?_,au,?_⟩
     ·show _<=_;have:=HF.out;omega
     ·rw[Qr,Ai];exact Z
     ·exact((Y.out.alloc (fun b h=>by have:=h.1;omega) _).alloc (fun b h=>by have:=h.1;simp;omega) _).grown aa (fun b h=>by have:=h.1;simp;omega) (fun b hb hh=>by have:=(Ae J.out b hb).1;have:=hh.1;omega)
   ·rw[Ab he]at hG;have HG:=hid hG;have g1:(e2 != 0)=true:=(by simpa using he);clear hG he;go_wp2_with fail;refine DL.out.mono ?_;rintro e w3 ⟨rfl,q,rfl⟩;go_wp2_with fail;refine(DR.out _ (HC.out.drewN q)).mono ?_;rintro e w4 ⟨rfl,E,i⟩;have z4:=i.size;simp at z4;have aB:w1.heap.size<w4.heap.size:=(by omega);have y:Blk w4 w1.heap.size 217 #[.pointer (some ⟨g,0,none⟩)]:=(i.block _ ⟨(XB.out.drewN q).lt,ac⟩).trans (XB.out.drewN q);have x4:=y.cell 0;simp only[List.getElem?_toArray,List.getElem?_cons_zero]at x4;have J:Hid (w4.ownsRow w2.heap.size 59 4 (.slice va j.length vc) j.length (Bc j)):=dZ HO.out (fun x hx=>i.block x ⟨(Ae HO.out x hx).2,by have:=(Ae HO.out x hx).1;omega⟩);have Y:Hid (Kept (fun x=>x<w2.heap.size/\x≠g) w2 w4):=HK.out.trans ⟨i.os,i.tape,i.output,i.size,fun x hx=>i.block x ⟨by have:=hx.1;simp;omega,hx.2⟩⟩;have z:=hid E;clear E i y x0 DL DR HO HK HC XB;go_wp2_with fail;refine(CI _ g w.heap.size bs B d a2 e2 (z.out.step (by(repeat (with_reducible first|exact Ag _ _|assumption|refine Aq ?_ |refine below_drewN ?_ _|refine qZ ?_ |refine bZ ?_ |refine eZ (by assumption) ?_ |refine belA ?_ |refine rZ (by assumption) ?_))))).mono ?_;rintro e w5 ⟨rfl,rfl⟩;go_wp2_with fail;go_ret2;rw[<-HG.out];exact⟨_,rfl,Am _ _ _ _,kZ (by omega) (am.out.trans (Y.out.below (fun b h=>⟨by omega,by have:=z.out.lo;omega⟩)))⟩
end Recs
namespace Recs
open Go.RowKit Mem Own Canon NumPut Nums
theorem Jk{w:World}{g base ob:Nat}{bs:List Nat}{A:Option Addr}{c at_:Nat}{er:Int}{t:TypeId}{cs:Array Value}(h:RCur w g base bs A c at_ er)(i:Blk w ob t cs)(ht:t≠5)(hg:t≠87)(k:Nat)(u:Value):RCur (w.setCell ⟨ob,k,none⟩ u) g base bs A c at_ er:=
 ⟨h.blk.far (fun e=>Blk.apart i h.blk hg e.symm) _,wZ h.own (fZ h.own i ht.symm) _,h.le,h.lo⟩
end Recs
namespace Recs
open Go.RowKit Mem Own Canon NumPut Nums
theorem Tg(w:World)(A:Option Addr)(n c:Nat)(bs:List Nat)(hn:bs.length=n)(ax:n<=100000)(h8:∀x∈bs,x<=255)(ac:A=none->n=0/\c=0)(ha:Row w w.heap.size A n 1 (iZ .u8 bs)):
 Calls Tryz.prog 77 #[.bool false, .slice A n c] w (Kz w (Dz bs)):=by
 obtain⟨j0,aL,aJ,aF,aD⟩:=info_parts KA;have D0:=hid (rnew_any w A n c bs hn ax ac ha);have J:bs.length<=100000:=by omega
 obtain⟨R,hR⟩:∃R,R=Dz bs:=⟨_,rfl⟩;have aB:Hid (Gf bs.length bs 0 []=R):=hR.symm;rw[<-hR];have H8:=hid h8;clear hn ac ha hR h8 ax;go_enter Tryz.func77,Tryz.ntmps77;go_wp2_with fail;refine D0.out.mono ?_;rintro e w2 ⟨g,B,d,rfl,G,af⟩;have z2:=af.size;have aV:=G.blk.lt;have aO:=G.lo;have aE:=hid G;have aH:=hid (fun x hx=>(Ae G.own x hx).2);have ay:=hid af;clear G af D0;go_wp2_with fail;go_loopw [7] (fun v wr=>∃ (f at_:Nat) (i:List Rec),at_<=bs.length/\i.length<=at_/\Hid (bs.length<=f+at_)/\Hid (Gf f bs at_ i=R)/\Hid (wr.ownsRow w2.heap.size 59 4 v i.length (Bc i))/\Hid (RCur wr g w.heap.size bs B d at_ 0)/\Hid (Kept (fun x=>x<w2.heap.size/\x≠g) w2 wr)) (fun _ wr=>bs.length-Gj wr g)
 case atStart=>exact⟨bs.length,0,[],by omega,by simp,Aj _,aB.out,Am _ _ _ _,aE.out,Kept.refl _ _⟩
 case round=>
  obtain⟨f,at_,i,aI,aP,HF,HG,HO,HC,HK⟩:=hrel;have zk:=HK.out.size;have DL:=hid (rleft_any wr g w.heap.size bs B d at_ 0 J HC.out);have ab:=HO.out;obtain⟨va,vc,rfl⟩:=aZ ab;have az:Gj wr g=at_:=by have h1:=HC.out.cells.2.1;unfold Gj;rw[h1];exact Cl _
  have aM:=hid az;have aK:Hid (Below w.heap.size w wr):=ay.out.trans (HK.out.below (fun b h=>⟨by omega,by have:=HC.out.lo;omega⟩));clear ab az aB;by_cases L:bs.length<=at_
  ·have al:bs.length-at_=0:=(by omega);have M:Hid (R=(i,0)):=HG.out.symm.trans (RJ L);rw[al]at DL;clear L al HG;go_wp2_with fail;refine DL.out.mono ?_;rintro e w3 ⟨rfl,q,rfl⟩;go_wp2_with fail;go_ret2;rw[M.out];exact⟨_,rfl,jZ (dZ HO.out (fun x hx=>rfl)) z2,below_drewN aK.out q⟩
  ·obtain⟨f,rfl⟩:∃f',f=f'+1:=⟨f-1,by have:=HF.out;omega⟩;have aN:0<bs.length-at_:=(by omega);have gl:decide ((0:Int)<((bs.length-at_:Nat):Int))=true:=(by simp;omega);have aR:decide (0<bs.length-at_)=true:=(by simp;omega);have aU:decide (at_<bs.length)=true:=(by simp;omega);have hG:=HG.out;unfold Gf at hG;rw[Aa L]at hG;have ae:=RX H8.out aI 0;have ag:=ae.1;have N:=ae.2.1;clear ae;unfold Ei at hG ag N;simp only at hG ag N;have D3:=hid (fun wx hx=>Mk wx g w.heap.size bs B d at_ 0 4000 J H8.out (by omega) hx);generalize ED (CO 4000 bs at_ 0)=v3 at *;generalize Cp 4000 bs at_ 0=a3 at *;generalize Co 4000 bs at_ 0=e3 at *;have D4:=hid (fun wx hx=>Mk wx g w.heap.size bs B d a3 e3 4000 J H8.out (by omega) hx);generalize ED (CO 4000 bs a3 e3)=v4 at *;generalize Cp 4000 bs a3 e3=a4 at *;generalize Co 4000 bs a3 e3=e4 at *;have HG:=hid hG;have an:=hid N;generalize aA:bs.length-at_=m at *;have aW:=hid aA;clear aA hG N;go_wp2_with fail;refine DL.out.mono ?_;rintro e w3 ⟨rfl,q,rfl⟩;have b0:Blk ((wr.drewN q).alloc (.cells #[.int .u64 0, .int .u8 0, .string ⟨#[]⟩, .string ⟨#[]⟩] 59)) wr.heap.size 59 #[.int .u64 0, .int .u8 0, .string ⟨#[]⟩, .string ⟨#[]⟩]:=Blk.made _ _ _;have c0:=b0.cell 0;have c1:=b0.cell 1;have c2:=b0.cell 2;have c3:=b0.cell 3;have f0:=b0.frozen 0;have f1:=b0.frozen 1;have f2:=b0.frozen 2;have f3:=b0.frozen 3;simp only[List.getElem?_toArray,List.getElem?_cons_zero,List.getElem?_cons_succ]at c0 c1 c2 c3;go_wp2_with fail;have b3:Blk ((((((wr.drewN q).alloc (.cells #[.int .u64 0, .int .u8 0, .string ⟨#[]⟩, .string ⟨#[]⟩] 59)).setCell ⟨wr.heap.size,0,none⟩ (.int .u64 0)).setCell ⟨wr.heap.size,1,none⟩ (.int .u8 0)).setCell ⟨wr.heap.size,2,none⟩ (.string ⟨#[]⟩)).setCell ⟨wr.heap.size,3,none⟩ (.string ⟨#[]⟩)) wr.heap.size 59 #[.int .u64 0, .int .u8 0, .string ⟨#[]⟩, .string ⟨#[]⟩]:=(((b0.set 0 _).set 1 _).set 2 _).set 3 _;have q0:RCur ((wr.drewN q).alloc (.cells #[.int .u64 0, .int .u8 0, .string ⟨#[]⟩, .string ⟨#[]⟩] 59)) g w.heap.size bs B d at_ 0:=(HC.out.drewN q).step (bZ (Ag _ _));have q3:RCur ((((((wr.drewN q).alloc (.cells #[.int .u64 0, .int .u8 0, .string ⟨#[]⟩, .string ⟨#[]⟩] 59)).setCell ⟨wr.heap.size,0,none⟩ (.int .u64 0)).setCell ⟨wr.heap.size,1,none⟩ (.int .u8 0)).setCell ⟨wr.heap.size,2,none⟩ (.string ⟨#[]⟩)).setCell ⟨wr.heap.size,3,none⟩ (.string ⟨#[]⟩)) g w.heap.size bs B d at_ 0:=Jk (Jk (Jk (Jk q0 b0 (by decide) (by decide) 0 _) (b0.set 0 _) (by decide) (by decide) 1 _) ((b0.set 0 _).set 1 _) (by decide) (by decide) 2 _) (((b0.set 0 _).set 1 _).set 2 _) (by decide) (by decide) 3 _;have j:∀k,¬uZ g wr (⟨wr.heap.size,k,none⟩:Addr).block:=fun k h=>absurd h.1 (by simp);have k3:Kept (uZ g wr) wr ((((((wr.drewN q).alloc (.cells #[.int .u64 0, .int .u8 0, .string ⟨#[]⟩, .string ⟨#[]⟩] 59)).setCell ⟨wr.heap.size,0,none⟩ (.int .u64 0)).setCell ⟨wr.heap.size,1,none⟩ (.int .u8 0)).setCell ⟨wr.heap.size,2,none⟩ (.string ⟨#[]⟩)).setCell ⟨wr.heap.size,3,none⟩ (.string ⟨#[]⟩)):=((((Kept.of_below (B:=wr.heap.size) (by(repeat (with_reducible first|exact Ag _ _|assumption|refine Aq ?_ |refine below_drewN ?_ _|refine qZ ?_ |refine bZ ?_ |refine eZ (by assumption) ?_ |refine belA ?_ |refine rZ (by assumption) ?_))) (fun x hx=>hx.1)).set (j 0) _).set (j 1) _).set (j 2) _).set (j 3) _;generalize ((((((wr.drewN q).alloc (.cells #[.int .u64 0, .int .u8 0, .string ⟨#[]⟩, .string ⟨#[]⟩] 59)).setCell ⟨wr.heap.size,0,none⟩ (.int .u64 0)).setCell ⟨wr.heap.size,1,none⟩ (.int .u8 0)).setCell ⟨wr.heap.size,2,none⟩ (.string ⟨#[]⟩)).setCell ⟨wr.heap.size,3,none⟩ (.string ⟨#[]⟩))=w3 at *;clear c0 c1 c2 c3 f0 f1 f2 f3 b0 q0 DL;have zg:g<wr.heap.size:=(by omega);have am:wr.heap.size≠g:=(by omega);refine(D3.out _ q3).mono ?_;rintro e x3 ⟨rfl,av,z⟩;have Q:Blk x3 wr.heap.size 59 #[.int .u64 0, .int .u8 0, .string ⟨#[]⟩, .string ⟨#[]⟩]:=(z.block _ ⟨b3.lt,am⟩).trans b3;have aj:Hid (Kept (uZ g wr) wr x3):=k3.trans ⟨z.os,z.tape,z.output,z.size,fun x hx=>z.block x ⟨by have:=hx.1;have:=k3.size;omega,hx.2⟩⟩;clear b3 q3 k3;have ar:=hid av;have y3:=Q.cell 2;have f3:=Q.frozen 2;simp only[List.getElem?_toArray,List.getElem?_cons_zero,List.getElem?_cons_succ]at y3;have Z:=hid Q;clear av z Q D3;go_wp2_with fail;refine(D4.out _ (Jk ar.out Z.out (by decide) (by decide) 2 (.string v3))).mono ?_;rintro e x4 ⟨rfl,aw,y⟩;have U:Blk x4 wr.heap.size 59 #[.int .u64 0, .int .u8 0, .string v3, .string ⟨#[]⟩]:=(y.block _ ⟨(Z.out.set 2 (.string v3)).lt,am⟩).trans (Z.out.set 2 (.string v3));have E:Hid (Kept (uZ g wr) wr x4):=(aj.out.set (j 2) (.string v3)).trans ⟨y.os,y.tape,y.output,y.size,fun x hx=>y.block x ⟨by have:=hx.1;have:=aj.out.size;simp;omega,hx.2⟩⟩;clear y3 f3;have au:=hid aw;have y4:=U.cell 3;have f4:=U.frozen 3;simp only[List.getElem?_toArray,List.getElem?_cons_zero,List.getElem?_cons_succ]at y4;have aa:=hid U;clear aw y U D4;have p0:=aa.out.cell 0;have p1:=aa.out.cell 1;have p2:=aa.out.cell 2;simp only[List.getElem?_toArray,List.getElem?_cons_zero,List.getElem?_cons_succ]at p0 p1 p2;have pe:=au.out.cells.2.2;have zx:=E.out.size;have Y:Hid ((x4.setCell ⟨wr.heap.size,3,none⟩ (.string v4)).ownsRow w2.heap.size 59 4 (.slice va i.length vc) i.length (Bc i)):=dZ HO.out (fun x hx=>(E.out.set (j 3) (.string v4)).block x ⟨(Ae HO.out x hx).2,by have:=(Ae HO.out x hx).1;omega⟩);have aq:Hid (Kept (fun x=>x<w2.heap.size/\x≠g) w2 (x4.setCell ⟨wr.heap.size,3,none⟩ (.string v4))):=HK.out.trans ⟨(E.out.set (j 3) (.string v4)).os,(E.out.set (j 3) (.string v4)).tape,(E.out.set (j 3) (.string v4)).output,(E.out.set (j 3) (.string v4)).size,fun x hx=>(E.out.set (j 3) (.string v4)).block x ⟨by have:=hx.1;omega,hx.2⟩⟩;have ah:=hid (Jk au.out aa.out (by decide) (by decide) 3 (.string v4));clear ar Z aj HO HK HC;by_cases he:e4=0
   ·subst he;have aS:=an.out rfl;have aG:i.length<=100000:=(by omega);have M:Hid (Gf f bs a4 (i++ [⟨0,0,v3,v4⟩])=R):=(by have h:=HG.out;rw[Aa (by simp)]at h;exact h);clear HG an;go_wp2_with(at_builtin;refine gZ rfl (.tmp 37) (.tmp 39) 46 rfl w2.heap.size 59 j0 _ 4 48 Tryz.underlying46 aL aJ aF aD rfl (by decide) _ _ _ (by rfl) (Y.out.alloc _) _ 1 1 [.int .u64 0, .int .u8 0, .string v3, .string v4] (by rfl) (Src.of_blk (g:=x4.heap.size) (Blk.made_at _ _ _ (by simp)) 1 1 4 rfl) (by intro u hu;simp at hu;rcases hu with rfl|rfl|rfl|rfl<;>rfl) (by unfold maxLen;omega) (by omega) (by simp;omega) ?_;intro v5 w5 ai ak aQ);have aC:RCur w5 g w.heap.size bs B d a4 0:=(by have h1:=ah.out.step (w':=(x4.setCell ⟨wr.heap.size,3,none⟩ (.string v4)).alloc (.cells #[.int .u64 0, .int .u8 0, .string v3, .string v4] 59)) (bZ (Ag _ _));exact⟨h1.blk.grown ak (fun e=>by have:=(Ae Y.out g e.symm).1;omega),dZ h1.own (fun x hx=>ak.block x (Ae h1.own x hx).2 (fun e=>by have:=aH.out x hx;have:=(Ae Y.out x e.symm).1;omega)),h1.le,h1.lo⟩);go_roundw
    case measure=>go_light;have h1:=aC.cells.2.1;have h2:Gj w5 g=a4:=(by unfold Gj;rw[h1];exact Cl _);rw[h2,aM.out];omega
    case rel=>
     go_light;refine⟨f,a4,i++ [⟨0,0,v3,v4⟩],ag,by rw[Ai];simp;omega,?_,M,?_,aC,?_⟩
     ·show _<=_;have:=HF.out;omega
     ·rw[Qr,Ai];exact ai
     ·exact(aq.out.alloc (fun b h=>by have:=h.1;simp;omega) _).grown ak (fun b h=>by have:=h.1;simp;omega) (fun b hb hh=>by have:=(Ae Y.out b hb).1;have:=hh.1;omega)
   ·have g1:(e4 != 0)=true:=(by simpa using he);have M:Hid (R=([],e4)):=(by have h:=HG.out;rw[Ab he]at h;exact h.symm);have aT:=ah.out.cells.2.2;clear HG he;go_wp2_with fail;go_quiet (fail);go_wp2_with fail;go_ret2;rw[M.out];exact⟨_,rfl,Am _ _ _ _,below_drewN (ay.out.trans (aq.out.below (fun b h=>⟨by omega,by have:=ah.out.lo;omega⟩))) _⟩
end Recs
end Go.Proofs.YtbgoibedicbkjaaGreatDoor
