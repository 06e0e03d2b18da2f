/- The walk of the reference's Same: two lists of bytes, held together as -/
import Derived.Test.YtbgoibedicbkjaaGreatDoorZTwoOpens3
import Derived.Test.YtbgoibedicbkjaaGreatDoorZTwoOpens10
import Derived.Test.YtbgoibedicbkjaaGreatDoorZTwoOpens15
import Derived.Test.YtbgoibedicbkjaaGreatDoorZTwoOpens18
import Derived.Test.YtbgoibedicbkjaaGreatDoorZTwoOpens12
import Derived.Test.YtbgoibedicbkjaaGreatDoorZTwoOpens1
import Derived.Test.YtbgoibedicbkjaaGreatDoorZTwoOpens14
import Derived.Test.YtbgoibedicbkjaaGreatDoorZTwoOpens16
import Derived.Test.YtbgoibedicbkjaaGreatDoorZTwoOpens17
import Derived.Test.YtbgoibedicbkjaaGreatDoorZTwoOpens2
import Derived.Laws.BytesArg
import Derived.Laws.Strings
import Derived.KernelRfl
import Derived.Lib.SmallJoins
import Derived.Deep.RegionWith
import Derived.Deep.DeepCutAuto
import Derived.Laws.MakeOwn
import Derived.Test.YtbgoibedicbkjaaGreatDoorProg
import Derived.BigQuiet
import Derived.BigGuardPart
import Derived.Deep.QuietTactic
import Derived.Deep.Light
import Derived.Lib.Hide
import Derived.Lib.AppendStr
import Derived.Lib.MinMax
import Derived.Deep.RegionLaw
import Derived.Deep.AppendLies
import Derived.Deep.RegionHeld3
import Derived.BigRegion
import Derived.Deep.LoopGhost
import Derived.IntWalk
import Derived.Laws.Bits64b
import Derived.Lib.AppendZeros
namespace Go.Proofs.YtbgoibedicbkjaaGreatDoor end Go.Proofs.YtbgoibedicbkjaaGreatDoor open Go.Proofs.YtbgoibedicbkjaaGreatDoor
open Go.Lib (hid)
set_option maxHeartbeats 2000000
set_option maxRecDepth 100000
namespace Go.Proofs.YtbgoibedicbkjaaGreatDoor.Huff
open Go.RowKit Mem Canon
def rlZ(ls:List Nat):ByteArray:=strOfNums (ls.map fun x=>((x:Nat):Int))
theorem vyZ(x y:ByteArray):(x.toList==y.toList)=true↔x=y:=by
 rw[beq_iff_eq,ByteArray.toList_eq,ByteArray.toList_eq]
 constructor
 ·intro h
  exact ByteArray.ext (Array.toList_inj.1 h)
 ·intro h;rw[h]
theorem ogZb{a b:List Nat}(ha:∀x∈a,x<=255)(hb:∀x∈b,x<=255)(h:rlZ a=rlZ b):a=b:=by
 have h:=congrArg (fun s:ByteArray=>s.data.toList) h
 simp only[rlZ,strOfNums_data,List.map_map]at h
 have e:∀l:List Nat,(∀x∈l,x<=255)->(l.map ((fun n:Int=>UInt8.ofNat n.toNat) ∘ fun x:Nat=>(x:Int))).map UInt8.toNat=l:=by
  intro l hl
  rw[List.map_map]
  conv=>rhs;rw[<-List.map_id l]
  apply List.map_congr_left
  intro x hx
  have:=hl x hx
  simp
  omega
 rw[<-e a ha,<-e b hb,h]
theorem pgZb{a b:List Nat}(ha:∀x∈a,x<=255)(hb:∀x∈b,x<=255):((rlZ a).toList==(rlZ b).toList)=decide (a=b):=by
 by_cases h:a=b
 ·subst h
  rw[decide_eq_true rfl]
  exact(vyZ _ _).2 rfl
 ·rw[decide_eq_false h]
  cases e:(rlZ a).toList==(rlZ b).toList
  ·rfl
  ·exact absurd (ogZb ha hb ((vyZ _ _).1 e)) h
theorem dvZ{w:World}{B:Nat}{A:Option Addr}{n c:Nat}{ls:List Nat}(hn:ls.length=n)(ha:Row w B A n 1 (mZ .u8 ls))(hnil:A=none->n=0):
 (convert 22 9 (.slice A n c)).run Tryz.prog w= .ok (.string (rlZ ls)) w:=by
 cases A with
 |none=>
  obtain rfl:=hnil rfl
  have hl:ls= []:=List.eq_nil_of_length_eq_zero hn
  subst hl
  exact run_convert_bytes_nil w 22 5 Tryz.underlying22 Tryz.underlying5 0 c 9 Tryz.underlying9
 |some ad=>
  obtain⟨b,off,spot⟩:=ad
  by_cases h0:n=0
  ·subst h0
   have hl:ls= []:=List.eq_nil_of_length_eq_zero hn
   subst hl
   have h0:(loadCells ⟨b,off,spot⟩ 0).run Tryz.prog w= .ok (([]:List Int).map (Value.int .u8)).toArray w:=by
    have:=run_loadCells_list (P:=Tryz.prog) w ⟨b,off,spot⟩ [] (fun j v hj=>by simp at hj)
    simpa using this
   rw[run_convert_bytes_string w 22 9 5 _ 0 c Tryz.underlying22 Tryz.underlying5 Tryz.underlying9,run_bytesToString w _ 0 c [] h0,List.foldl_nil]
   have e:rlZ []=ByteArray.empty:=rfl
   rw[e]
  ·obtain⟨b',off',e,hb,hc⟩:=ha (by omega)
   simp only[Option.some.injEq,Addr.mk.injEq]at e
   obtain⟨rfl,rfl,rfl⟩:=e
   refine run_convert_bytes_arg w 22 5 Tryz.underlying22 Tryz.underlying5 b off n c _ (by simpa using hn) (fun i hi=> ?_) 9 Tryz.underlying9
   have:=hc i 0 hi (by omega)
   rw[Nat.mul_one,Nat.add_zero]at this
   rw[this]
   unfold mZ
   congr 2
   simp[List.getD_eq_getElem?_getD,show i<ls.length by omega]
theorem evZ(w:World)(A B:Option Addr)(n m c d:Nat)(la lb:List Nat)(hn:la.length=n)(hm:lb.length=m)(hA:A=none->n=0)(hB:B=none->m=0)
 (ha8:∀x∈la,x<=255)(hb8:∀x∈lb,x<=255)(ha:Row w w.heap.size A n 1 (mZ .u8 la))(hb:Row w w.heap.size B m 1 (mZ .u8 lb)):
 Calls Tryz.prog 30 #[.slice A n c, .slice B m d] w fun e w'=>e= .returned (.bool (decide (la=lb)))/\w=w':=by
 have p1:=dvZ (c:=c) hn ha hA
 have p2:=dvZ (c:=d) hm hb hB
 have HE:=hid (pgZb ha8 hb8)
 clear hn hm hA hB ha8 hb8 ha hb
 go_enter Tryz.func30,Tryz.ntmps30
 go_wp2_with fail
 go_ret
 exact⟨by simp[HE.out],rfl⟩
end Go.Proofs.YtbgoibedicbkjaaGreatDoor.Huff
namespace Go.Proofs.YtbgoibedicbkjaaGreatDoor.Block
open Go.RowKit Mem Own Canon
open NumPut Crc
open Go.Proofs.YtbgoibedicbkjaaGreatDoor.Huff (bytesOf ikZ)
open Go.Proofs.YtbgoibedicbkjaaGreatDoor.Toks (Tk)
def sqO(bs:List Nat):List Nat:=TW.xkZb (Lz.find bs)
def sqE(bs:List Nat):Int:=TW.vcZb (Lz.find bs)
def sqz(bs:List Nat):Bool:=sqE bs==0&&decide ((sqO bs).length<bs.length)
def fWay(bs:List Nat)(plain:Bool):Nat:=if !plain&&sqz bs then 1 else 0
def slZ(bs:List Nat)(plain:Bool):List Nat:=if !plain&&sqz bs then sqO bs else bs
def fjZb(bs:List Nat)(plain:Bool):List Nat:= [fWay bs plain]++nZ bs.length++nZ (slZ bs plain).length
def fAll(bs:List Nat)(plain:Bool):List Nat:=fjZb bs plain++slZ bs plain
def igZ(bs:List Nat)(plain:Bool):List Nat:=fAll bs plain++tbZ (bcZ (fAll bs plain))
theorem rgZb{w:World}{base c:Nat}{A:Option Addr}{ls:List Nat}(h:w.ownsRow base 5 1 (.slice A ls.length c) ls.length (cZ .u8 ls)):Row w w.heap.size A ls.length 1 (mZ .u8 ls):=
 Row.of_own h rfl fun i j hi hj=>by
  obtain rfl:j=0:=by omega
  simp[cZ,mZ,List.getD_eq_getElem?_getD,hi]
theorem oZ{w:World}{base n c:Nat}{A:Option Addr}{ls:List Nat}(h:w.ownsRow base 5 1 (.slice A n c) n (cZ .u8 ls))(hn:ls.length=n):Part.Ok ⟨A,c,ls⟩ w:=by
 subst hn
 exact⟨rgZb h,(lfZ h).1⟩
theorem ieZ{w:World}{g x:Nat}(h:Blk w g 5 #[.int .u8 (x:Nat)]):Part.Ok ⟨some ⟨g,0,none⟩,1,[x]⟩ w:=
 ⟨Row.of_blk h h.lt fun i j hi hj=>by
  obtain rfl:i=0:=by simp at hi;omega
  obtain rfl:j=0:=by omega
  rfl,fun e=>by cases e⟩
end Go.Proofs.YtbgoibedicbkjaaGreatDoor.Block
namespace Go.Proofs.YtbgoibedicbkjaaGreatDoor.Block
open Go.RowKit Mem Own Canon
open NumPut Crc
end Go.Proofs.YtbgoibedicbkjaaGreatDoor.Block
namespace Go.Proofs.YtbgoibedicbkjaaGreatDoor.Opts
open Go.RowKit Mem
structure Opt where
 block:Int
 plain:Bool
 bucket:Int
 data:Int
 parity:Int
 chunk:Int
def Opt.val(o:Opt):Value:= .agg #[.int .i64 o.block, .bool o.plain, .int .i64 o.bucket, .int .i64 o.data, .int .i64 o.parity, .int .i64 o.chunk]
theorem hrZ(a b:Bool)(a0 b0 a2 b2 a3 b3 a4 b4 a5 b5:Int)(w:World):(binOp .eql 25 (.agg #[.int .i64 a0, .bool a, .int .i64 a2, .int .i64 a3, .int .i64 a4, .int .i64 a5]) (.agg #[.int .i64 b0, .bool b, .int .i64 b2, .int .i64 b3, .int .i64 b4, .int .i64 b5])).run Tryz.prog w= .ok (.bool (decide (a0=b0/\a=b/\a2=b2/\a3=b3/\a4=b4/\a5=b5))) w:=by
 go_simp
 by_cases h0:a0=b0<;>by_cases h1:a=b<;>by_cases h2:a2=b2<;>by_cases h3:a3=b3<;>by_cases h4:a4=b4<;>by_cases h5:a5=b5<;>simp[h0,h1,h2,h3,h4,h5]
theorem gjZ(w:World)(x lo hi:Int):
 Calls Tryz.prog 83 #[.int .i64 x, .int .i64 lo, .int .i64 hi] w fun e w'=>e= .returned (.bool (decide (lo<=x/\x<=hi)))/\w'=w:=by
 by_cases h:lo<=x
 ·have g1:decide (lo<=x)=true:=by simpa using h
  have HD:Hid (decide (lo<=x/\x<=hi)=decide (x<=hi)):=by show _=_;simp[h]
  rw[HD.out]
  clear h
  go_enter Tryz.func83,Tryz.ntmps83
  go_wp2_with fail
  go_ret
  exact⟨rfl,rfl⟩
 ·have g1:decide (lo<=x)=false:=by simpa using h
  have HD:Hid (decide (lo<=x/\x<=hi)=false):=by show _=_;simp[h]
  rw[HD.out]
  clear h
  go_enter Tryz.func83,Tryz.ntmps83
  go_wp2_with fail
  go_ret
  exact⟨rfl,rfl⟩
end Go.Proofs.YtbgoibedicbkjaaGreatDoor.Opts
namespace Go.Proofs.YtbgoibedicbkjaaGreatDoor.Recs
open Go.RowKit Mem
def Rec.val(r:Rec):Value:= .agg #[.int .u64 r.time, .int .u8 r.level, .string r.source, .string r.text]
def odZ(r:Rec):Bool:=decide (4000<r.source.size) || decide (4000<r.text.size)
def ymZ(l:List Rec):Int:=if 20000<l.length then 6 else if l.any odZ=true then 6 else if 1048576<ocZ l then 6 else 0
theorem sgZb{l:List Rec}{p:Rec->Bool}{k:Nat}{r:Rec}(hr:l[k]? =some r):(l.drop k).any p=(p r || (l.drop (k+1)).any p):=by
 obtain⟨hk,e⟩:=List.getElem?_eq_some_iff.1 hr
 rw[List.drop_eq_getElem_cons hk,List.any_cons,e]
theorem ufZ{r:Rec}(h:odZ r=false):r.source.size<=4000/\r.text.size<=4000:=by
 unfold odZ at h
 simp at h
 exact h
theorem nxZ{l:List Rec}{k:Nat}{r:Rec}(hr:l[k]? =some r):ocZ (l.take (k+1))=ocZ (l.take k)+djZ r:=by
 rw[List.take_add_one,hr]
 simp[fxZ]
theorem wcZb{l:List Rec}(h:∀r∈l,odZ r=false):0<=ocZ l/\ocZ l<=8016*(l.length:Int):=by
 induction l with
 |nil=>simp[jlZ]
 |cons r l ih=>
  have h1:=ufZ (h r (by simp))
  have h2:=ih (fun x hx=>h x (by simp[hx]))
  have e:ocZ (r :: l)=djZ r+ocZ l:=by
   simp only[ocZ,List.map_cons,List.foldl_cons]
   rw[psZ]
   omega
  rw[e]
  unfold djZ
  simp only[List.length_cons]
  push_cast
  omega
theorem tgZb(w:World)(r:Rec):
 Calls Tryz.prog 94 #[r.val] w fun e w'=>e= .returned (.bool (odZ r))/\Below w.heap.size w w':=by
 unfold Rec.val
 by_cases h1:4000<r.source.size
 ·have hl:odZ r=true:=by unfold odZ;simp[h1]
  rw[hl]
  have g1:decide ((4000:Int)<(r.source.size:Int))=true:=by simp;omega
  have g1':decide (4000<r.source.size)=true:=by simp;omega
  clear hl h1
  go_enter Tryz.func94,Tryz.ntmps94
  go_wp2_with fail
  go_ret
  exact⟨rfl,by(repeat(first|(with_reducible first|exact Below.refl _ _|assumption|refine Below.drew ?_|refine below_drewN ?_ _|refine aZ ?_|refine dZ (by assumption) ?_)|((with_reducible first|refine fZ ?_ ?_|refine gZ ?_ ?_|refine iZ (by assumption) ?_ ?_);(focus(first|(simp;done)|(simp;omega)|omega|(simp at *;omega))))))⟩
 ·have g1:decide ((4000:Int)<(r.source.size:Int))=false:=by simp;omega
  have g1':decide (4000<r.source.size)=false:=by simp;omega
  by_cases h2:4000<r.text.size
  ·have hl:odZ r=true:=by unfold odZ;simp[h2]
   rw[hl]
   have g2:decide ((4000:Int)<(r.text.size:Int))=true:=by simp;omega
   have g2':decide (4000<r.text.size)=true:=by simp;omega
   clear hl h1 h2
   go_enter Tryz.func94,Tryz.ntmps94
   go_wp2_with fail
   go_ret
   exact⟨rfl,by(repeat(first|(with_reducible first|exact Below.refl _ _|assumption|refine Below.drew ?_|refine below_drewN ?_ _|refine aZ ?_|refine dZ (by assumption) ?_)|((with_reducible first|refine fZ ?_ ?_|refine gZ ?_ ?_|refine iZ (by assumption) ?_ ?_);(focus(first|(simp;done)|(simp;omega)|omega|(simp at *;omega))))))⟩
  ·have hl:odZ r=false:=by unfold odZ;simp;omega
   rw[hl]
   have g2:decide ((4000:Int)<(r.text.size:Int))=false:=by simp;omega
   have g2':decide (4000<r.text.size)=false:=by simp;omega
   clear hl h1 h2
   go_enter Tryz.func94,Tryz.ntmps94
   go_wp2_with fail
   go_ret
   exact⟨rfl,by(repeat(first|(with_reducible first|exact Below.refl _ _|assumption|refine Below.drew ?_|refine below_drewN ?_ _|refine aZ ?_|refine dZ (by assumption) ?_)|((with_reducible first|refine fZ ?_ ?_|refine gZ ?_ ?_|refine iZ (by assumption) ?_ ?_);(focus(first|(simp;done)|(simp;omega)|omega|(simp at *;omega))))))⟩
theorem gaZb(w:World)(A:Option Addr)(n c:Nat)(l:List Rec)(hl:l.length=n)(hn:n<=9223372036854775807)(hr:Row w w.heap.size A n 4 (veZ l))(K:Nat)(p:Rec->Bool)(hK:∀args wx,(callFunc K args).run Tryz.prog wx= .ok (.enter K args) wx)
 (hp:∀wx r,Calls Tryz.prog K #[Rec.val r] wx fun e w'=>e= .returned (.bool (p r))/\Below wx.heap.size wx w'):
 Calls Tryz.prog 142 #[.slice A n c, .func (.func K) #[] #[]] w fun e w'=>∃z:Int,e= .returned (.int .i64 z)/\decide (0<=z)=l.any p/\Below w.heap.size w w':=by
 have HP:=hid hp
 have HL:=hid hl
 clear hp hl
 go_enter Tryz.func142,Tryz.ntmps142
 go_wp2_with fail
 go_loopw [8] (fun i wx=>∃k:Nat,k<=n/\i= .int .i64 k/\Hid ((l.drop k).any p=l.any p)/\Hid (Below w.heap.size w wx)) (fun i _=>n-(intOf i).toNat)
 case atStart=>exact⟨0,by omega,rfl,rfl,Below.refl _ _⟩
 case round=>
  obtain⟨k,hk,rfl,hA,HB⟩:=hrel
  by_cases hlt:k<n
  ·obtain⟨b,off,r,rfl,hbb,hg,c0,c1,c2,c3⟩:=Row.rec (hr.below HB.out) HL.out hlt
   have ha:=hA.out
   rw[sgZb hg]at ha
   have D:=HP.out wr r
   unfold Rec.val at D
   have x0:(0:Int)<=(k:Int):=by omega
   have x1:(k:Int)<(n:Int):=by omega
   cases hb:p r
   ·rw[hb]at D ha
    rw[Bool.false_or]at ha
    have D:=hid D
    have HA:=hid ha
    clear hA ha hb hg
    go_wp2_with fail
    refine D.out.mono ?_
    rintro e w1 ⟨rfl,hb1⟩
    have HB1:Hid (Below w.heap.size w w1):=dZ hb1 HB.out
    clear hb1 D c0 c1 c2 c3
    go_wp2_with fail
    go_roundw
    case measure=>go_light;simp[intOf];omega
    case rel=>go_light;exact⟨k+1,by omega,by go_num,HA.out,HB1.out⟩
   ·rw[hb]at D ha
    rw[Bool.true_or]at ha
    have D:=hid D
    have HA:=hid ha
    clear hA ha hb hg
    go_wp2_with fail
    refine D.out.mono ?_
    rintro e w1 ⟨rfl,hb1⟩
    have HB1:Hid (Below w.heap.size w w1):=dZ hb1 HB.out
    clear hb1 D c0 c1 c2 c3
    go_wp2_with fail
    go_ret
    exact⟨k,rfl,by rw[<-HA.out];simp,HB1.out⟩
  ·obtain rfl:k=n:=by omega
   have ha:=hA.out
   rw[List.drop_of_length_le (by rw[HL.out];exact Nat.le_refl _)]at ha
   have HA:=hid ha
   clear ha hA
   go_wp2_with fail
   go_ret
   exact⟨-1,rfl,by rw[<-HA.out];rfl,HB.out⟩
theorem xtZ(w:World)(A:Option Addr)(n c:Nat)(l:List Rec)(hl:l.length=n)(hn:n<=9223372036854775807)(hr:Row w w.heap.size A n 4 (veZ l)):
 Calls Tryz.prog 93 #[.slice A n c, .func (.func 94) #[] #[]] w fun e w'=>e= .returned (.bool (l.any odZ))/\Below w.heap.size w w':=by
 have D:=hid (gaZb w A n c l hl hn hr 94 odZ (by intro args wx;simp[callFunc,go_sem,Tryz.func94];rfl) tgZb)
 clear hl hr
 go_enter Tryz.func93,Tryz.ntmps93
 go_wp2_with fail
 refine D.out.mono ?_
 rintro e w1 ⟨z,rfl,hz,hb⟩
 have HZ:=hid hz
 clear hz D
 go_wp2_with fail
 go_ret
 exact⟨bpZ HZ.out,hb⟩
theorem oxZ(w:World)(A:Option Addr)(n c:Nat)(l:List Rec)(hl:l.length=n)(hn:n<=20000)(hs:∀r∈l,odZ r=false)(hr:Row w w.heap.size A n 4 (veZ l)):
 Calls Tryz.prog 95 #[.slice A n c] w fun e w'=>e= .returned (.int .i64 (ocZ l))/\Below w.heap.size w w':=by
 have HL:=hid hl
 have HS:=hid hs
 have HT:Hid (∀k,k<=n->0<=ocZ (l.take k)/\ocZ (l.take k)<=160320000):=fun k hk=>by
  have h:=wcZb (l:=l.take k) (fun r hr=>hs r (List.mem_of_mem_take hr))
  have hk2:(l.take k).length<=n:=by rw[List.length_take];omega
  omega
 clear hl hs
 go_enter Tryz.func95,Tryz.ntmps95
 go_wp2_with fail
 go_loopw [3,8] (fun s i wx=>∃ (k:Nat) (x:Int),k<=n/\i= .int .i64 k/\s= .int .i64 x/\Hid (ocZ (l.take k)=x)/\Hid (Below w.heap.size w wx)) (fun _ i _=>n-(intOf i).toNat)
 case atStart=>exact⟨0,0,by omega,rfl,rfl,rfl,Below.refl _ _⟩
 case round=>
  obtain⟨k,x,hk,rfl,rfl,hx,HB⟩:=hrel
  by_cases hlt:k<n
  ·obtain⟨b,off,r,rfl,hbb,hg,c0,c1,c2,c3⟩:=Row.rec (hr.below HB.out) HL.out hlt
   have hxl:=HT.out k hk
   rw[hx.out]at hxl
   have hlr:=ufZ (HS.out r (List.mem_of_getElem? hg))
   have HW:Hid (ocZ (l.take (k+1))=x+djZ r):=by show _=_;rw[nxZ hg,hx.out]
   unfold djZ at HW
   have x0:(0:Int)<=(k:Int):=by omega
   have x1:(k:Int)<(n:Int):=by omega
   have s1:IntKind.i64.wrap (16+(r.source.size:Int))=16+(r.source.size:Int):=IntWalk.i64_in _ (by omega)
   have s2:IntKind.i64.wrap (16+(r.source.size:Int)+(r.text.size:Int))=16+(r.source.size:Int)+(r.text.size:Int):=IntWalk.i64_in _ (by omega)
   have s3:IntKind.i64.wrap (x+(16+(r.source.size:Int)+(r.text.size:Int)))=x+(16+(r.source.size:Int)+(r.text.size:Int)):=IntWalk.i64_in _ (by omega)
   have HB2:=HB.out.size
   clear hg hx
   go_wp2_with fail
   go_roundw
   case measure=>go_light;simp[intOf];omega
   case rel=>go_light;exact⟨k+1,x+(16+(r.source.size:Int)+(r.text.size:Int)),by omega,by first|rfl|go_num,by first|rfl|go_num,HW.out,by have h:=HB.out;show Below w.heap.size w _;(repeat(first|(with_reducible first|exact Below.refl _ _|assumption|refine Below.drew ?_|refine below_drewN ?_ _|refine aZ ?_|refine dZ (by assumption) ?_)|((with_reducible first|refine fZ ?_ ?_|refine gZ ?_ ?_|refine iZ (by assumption) ?_ ?_);(focus(first|(simp;done)|(simp;omega)|omega|(simp at *;omega))))))⟩
  ·obtain rfl:k=n:=by omega
   have hx2:=hx.out
   rw[List.take_of_length_le (by rw[HL.out];exact Nat.le_refl _)]at hx2
   have HX:=hid hx2
   clear hx2 hx
   go_wp2_with fail
   go_ret
   exact⟨by rw[HX.out];rfl,HB.out⟩
theorem haZb(w:World)(A:Option Addr)(n c:Nat)(l:List Rec)(hl:l.length=n)(hn:n<=9223372036854775807)(hr:Row w w.heap.size A n 4 (veZ l)):
 Calls Tryz.prog 49 #[.slice A n c] w fun e w'=>e= .returned (.int .i64 (ymZ l))/\Below w.heap.size w w':=by
 have D1:=hid (xtZ w A n c l hl hn hr)
 unfold ymZ
 rw[hl]
 by_cases h1:20000<n
 ·rw[if_pos h1]
  have g1:decide ((20000:Int)<(n:Int))=true:=by simp;omega
  have g1':decide (20000<n)=true:=by simp;omega
  clear h1 hl hr D1
  go_enter Tryz.func49,Tryz.ntmps49
  go_wp2_with fail
  go_ret
  exact⟨rfl,Below.refl _ _⟩
 ·rw[if_neg h1]
  have g1:decide ((20000:Int)<(n:Int))=false:=by simp;omega
  have g1':decide (20000<n)=false:=by simp;omega
  cases hlo:l.any odZ with
  |true=>
   rw[if_pos rfl]
   rw[hlo]at D1
   clear h1 hl hr hlo
   go_enter Tryz.func49,Tryz.ntmps49
   go_wp2_with fail
   refine D1.out.mono ?_
   rintro e w1 ⟨rfl,hb⟩
   go_wp2_with fail
   go_ret
   exact⟨rfl,hb⟩
  |false=>
   rw[if_neg (by simp)]
   rw[hlo]at D1
   have hs:∀r∈l,odZ r=false:=fun r h=>by
    have:=List.any_eq_false.1 hlo r h
    simpa using this
   have D2:=hid (fun wx (hb:Below w.heap.size w wx)=>oxZ wx A n c l hl (by omega) hs ((hr.below hb).mono hb.size))
   generalize ocZ l=x at *
   by_cases h2:1048576<x
   ·rw[if_pos h2]
    have g2:decide (1048576<x)=true:=by simpa using h2
    clear h1 hl hr hlo hs h2
    go_enter Tryz.func49,Tryz.ntmps49
    go_wp2_with fail
    refine D1.out.mono ?_
    rintro e w1 ⟨rfl,hb⟩
    have E2:=hid (D2.out w1 hb)
    clear D1 D2
    go_wp2_with fail
    refine E2.out.mono ?_
    rintro e w2 ⟨rfl,hb2⟩
    go_wp2_with fail
    go_ret
    exact⟨rfl,dZ hb2 hb⟩
   ·rw[if_neg h2]
    have g2:decide (1048576<x)=false:=by simpa using h2
    clear h1 hl hr hlo hs h2
    go_enter Tryz.func49,Tryz.ntmps49
    go_wp2_with fail
    refine D1.out.mono ?_
    rintro e w1 ⟨rfl,hb⟩
    have E2:=hid (D2.out w1 hb)
    clear D1 D2
    go_wp2_with fail
    refine E2.out.mono ?_
    rintro e w2 ⟨rfl,hb2⟩
    go_wp2_with fail
    go_ret
    exact⟨rfl,dZ hb2 hb⟩
end Go.Proofs.YtbgoibedicbkjaaGreatDoor.Recs
namespace Go.Proofs.YtbgoibedicbkjaaGreatDoor.NumPut
open Go.RowKit Mem Own Canon
theorem mpZ{X k:Nat}(h:X*2 ^ (7*k)<18446744073709551616)(h128:128<=X):k+1<=9/\X / 128*2 ^ (7*(k+1))<18446744073709551616:=by
 have e:2 ^ (7*(k+1))=128*2 ^ (7*k):=by rw[show 7*(k+1)=7*k+7 by omega,Nat.pow_add];omega
 constructor
 ·by_cases hk:k+1<=9
  ·exact hk
  ·exfalso
   have h1:2 ^ 63<=2 ^ (7*k):=Nat.pow_le_pow_right (by omega) (by omega)
   have h2:128*2 ^ 63<=X*2 ^ (7*k):=Nat.mul_le_mul h128 h1
   omega
 ·rw[e,<-Nat.mul_assoc]
  have:X / 128*128*2 ^ (7*k)<=X*2 ^ (7*k):=Nat.mul_le_mul_right _ (Nat.div_mul_le_self _ _)
  omega
theorem iaZb:∀ (x k:Nat),x*2 ^ (7*k)<18446744073709551616->k<=9->(nZ x).length+k<=10:=by
 intro x
 induction x using Nat.strongRecOn with
 |_ x ih=>
  intro k h hk
  by_cases h1:x<128
  ·rw[feZ h1];simp;omega
  ·obtain⟨s1,s2⟩:=mpZ h (by omega)
   have:=ih (x / 128) (by omega) (k+1) s2 s1
   rw[ofZ h1,List.length_cons]
   omega
theorem rZ{x:Nat}(h:x<18446744073709551616):(nZ x).length<=10:=by
 have:=iaZb x 0 (by simpa using h) (by omega)
 omega
theorem pcZ(w:World)(x:Nat)(hx:x<18446744073709551616):
 Calls Tryz.prog 98 #[.int .u64 x] w fun e w'=>∃v,e= .returned v/\w'.ownsRow w.heap.size 5 1 v (nZ x).length (cZ .u8 (nZ x))/\Below w.heap.size w w':=by
 obtain⟨j0,hj0,hy0,hy1,hy2⟩:=info_parts acZ
 obtain⟨R,hR⟩:∃R,R=nZ x:=⟨_,rfl⟩
 have HR0:Hid ([]++nZ x=R):=hR.symm
 have HX0:Hid (x*2 ^ (7*0)<18446744073709551616):=by show _<_;simpa using hx
 rw[<-hR]
 clear hR
 go_enter Tryz.func98,Tryz.ntmps98
 go_wp2_with fail
 go_loopw [0,3] (fun u v wr=>∃ (X k:Nat) (done:List Nat),u= .int .u64 X/\k<=9/\X<18446744073709551616/\Hid (X*2 ^ (7*k)<18446744073709551616)/\Hid (done.length=k)/\Hid (done++nZ X=R)/\Hid (wr.ownsRow w.heap.size 5 1 v k (cZ .u8 done))/\Hid (Below w.heap.size w wr)) (fun u _ _=>(intOf u).toNat)
 case atStart=>exact⟨x,0,[],rfl,by omega,hx,HX0.out,rfl,HR0.out,World.ownsRow_nil _ _ _ _,Below.refl _ _⟩
 case round=>
  obtain⟨X,k,done,rfl,hk,hX,HX,HL,HR,HO,HB⟩:=hrel
  clear HR0 HX0
  have zb:=HB.out.size
  by_cases h128:X<128
  ·have g1:decide ((128:Int)<=(X:Int))=false:=by simp;omega
   have g1':decide (128<=X)=false:=by simp;omega
   have c1:IntKind.u8.wrap (X:Int)=(X:Int):=by rw[IntKind.wrap_u8'];omega
   have HR2:Hid (done++ [X]=R):=by have h:=HR.out;rw[feZ h128]at h;exact h
   go_wp2_with(at_builtin;refine kZ rfl (.tmp 14) (.tmp 17) 22 rfl w.heap.size 5 j0 _ 1 1 Tryz.underlying22 hj0 hy0 hy1 hy2 rfl (by decide) _ _ _ (by rfl) (HO.out.alloc _) _ 1 1 [.int .u8 (X:Nat)] (by rfl) (Src.of_blk (g:=wr.heap.size) (Blk.made _ _ _) 1 1 1 rfl) (by intro u hu;simp at hu;rcases hu with rfl;rfl) (by unfold maxLen;omega) (by omega) (by simp;omega) ?_;intro v4 w4 hown4 hg4 hat4)
   have hown5:Hid (w4.ownsRow w.heap.size 5 1 v4 R.length (cZ .u8 R)):=by
    rw[<-HR2.out,List.length_append,HL.out,dhZ]
    exact hown4
   have hb5:Hid (Below w.heap.size w w4):=(aZ HB.out).grown hg4 (by simp;omega) (fun y hy=>(World.ownsRow.lt HO.out y hy).1)
   go_ret
   exact⟨_,rfl,hown5.out,hb5.out⟩
  ·have g1:decide ((128:Int)<=(X:Int))=true:=by simp;omega
   have g1':decide (128<=X)=true:=by simp;omega
   have c1:IntKind.u8.wrap (X:Int)=((X % 256:Nat):Int):=by rw[IntKind.wrap_u8'];omega
   have o1:bits .or .u8 ((X % 256:Nat):Int) 128=((X % 128+128:Nat):Int):=by
    rw[show(128:Int)=((128:Nat):Int) from rfl,u8_or_nat _ _ (by omega) (by omega),cjZb _ (by omega)]
    congr 1
    omega
   have HR2:Hid ((done++ [X % 128+128])++nZ (X / 128)=R):=by have h:=HR.out;rw[ofZ h128]at h;rw[List.append_assoc];exact h
   obtain⟨hs1,hs2⟩:=mpZ HX.out (by omega)
   have HX2:=hid hs2
   obtain⟨b,hb⟩:∃b,b=X % 128+128:=⟨_,rfl⟩
   obtain⟨a,ha⟩:∃a,a=X % 256:=⟨_,rfl⟩
   rw[<-hb]at o1 HR2
   rw[<-ha]at o1 c1
   clear hb ha hs2
   go_wp2_with(at_builtin;refine kZ rfl (.tmp 6) (.tmp 10) 22 rfl w.heap.size 5 j0 _ 1 1 Tryz.underlying22 hj0 hy0 hy1 hy2 rfl (by decide) _ _ _ (by rfl) (HO.out.alloc _) _ 1 1 [.int .u8 (b:Nat)] (by rfl) (Src.of_blk (g:=wr.heap.size) (Blk.made _ _ _) 1 1 1 rfl) (by intro u hu;simp at hu;rcases hu with rfl;rfl) (by unfold maxLen;omega) (by omega) (by simp;omega) ?_;intro v4 w4 hown4 hg4 hat4)
   have HO5:Hid (w4.ownsRow w.heap.size 5 1 v4 (k+1) (cZ .u8 (done++ [b]))):=by rw[dhZ];exact hown4
   have hb5:Hid (Below w.heap.size w w4):=(aZ HB.out).grown hg4 (by simp;omega) (fun y hy=>(World.ownsRow.lt HO.out y hy).1)
   exact⟨⟨X / 128,k+1,done++ [b],congrArg _ (by omega),by omega,by omega,HX2.out,by show _=_;rw[List.length_append,HL.out];rfl,HR2.out,HO5.out,hb5.out⟩,by simp[intOf];omega⟩
theorem teZ(w:World)(x:Nat)(hx:x<18446744073709551616):
 Calls Tryz.prog 80 #[.int .u64 x] w fun e w'=>∃v,e= .returned v/\w'.ownsRow w.heap.size 5 1 v (nZ x).length (cZ .u8 (nZ x))/\Below w.heap.size w w':=by
 obtain⟨j0,hj0,hy0,hy1,hy2⟩:=info_parts acZ
 obtain⟨R,hR⟩:∃R,R=nZ x:=⟨_,rfl⟩
 have HR0:Hid ([]++nZ x=R):=hR.symm
 have HX0:Hid (x*2 ^ (7*0)<18446744073709551616):=by show _<_;simpa using hx
 rw[<-hR]
 clear hR
 go_enter Tryz.func80,Tryz.ntmps80
 go_wp2_with fail
 go_loopw [0,3] (fun u v wr=>∃ (X k:Nat) (done:List Nat),u= .int .u64 X/\k<=9/\X<18446744073709551616/\Hid (X*2 ^ (7*k)<18446744073709551616)/\Hid (done.length=k)/\Hid (done++nZ X=R)/\Hid (wr.ownsRow w.heap.size 5 1 v k (cZ .u8 done))/\Hid (Below w.heap.size w wr)) (fun u _ _=>(intOf u).toNat)
 case atStart=>exact⟨x,0,[],rfl,by omega,hx,HX0.out,rfl,HR0.out,World.ownsRow_nil _ _ _ _,Below.refl _ _⟩
 case round=>
  obtain⟨X,k,done,rfl,hk,hX,HX,HL,HR,HO,HB⟩:=hrel
  clear HR0 HX0
  have zb:=HB.out.size
  by_cases h128:X<128
  ·have g1:decide ((128:Int)<=(X:Int))=false:=by simp;omega
   have g1':decide (128<=X)=false:=by simp;omega
   have c1:IntKind.u8.wrap (X:Int)=(X:Int):=by rw[IntKind.wrap_u8'];omega
   have HR2:Hid (done++ [X]=R):=by have h:=HR.out;rw[feZ h128]at h;exact h
   go_wp2_with(at_builtin;refine kZ rfl (.tmp 15) (.tmp 18) 22 rfl w.heap.size 5 j0 _ 1 1 Tryz.underlying22 hj0 hy0 hy1 hy2 rfl (by decide) _ _ _ (by rfl) (HO.out.alloc _) _ 1 1 [.int .u8 (X:Nat)] (by rfl) (Src.of_blk (g:=wr.heap.size) (Blk.made _ _ _) 1 1 1 rfl) (by intro u hu;simp at hu;rcases hu with rfl;rfl) (by unfold maxLen;omega) (by omega) (by simp;omega) ?_;intro v4 w4 hown4 hg4 hat4)
   have hown5:Hid (w4.ownsRow w.heap.size 5 1 v4 R.length (cZ .u8 R)):=by
    rw[<-HR2.out,List.length_append,HL.out,dhZ]
    exact hown4
   have hb5:Hid (Below w.heap.size w w4):=(aZ HB.out).grown hg4 (by simp;omega) (fun y hy=>(World.ownsRow.lt HO.out y hy).1)
   go_ret
   exact⟨_,rfl,hown5.out,hb5.out⟩
  ·have g1:decide ((128:Int)<=(X:Int))=true:=by simp;omega
   have g1':decide (128<=X)=true:=by simp;omega
   have c1:IntKind.u64.wrap (128+(X:Int) % 128)=((X % 128+128:Nat):Int):=by rw[show IntKind.u64.wrap (128+(X:Int) % 128)=(128+(X:Int) % 128) % 18446744073709551616 from by simp[IntKind.wrap,IntKind.bits,IntKind.signed]];omega
   have c2:IntKind.u8.wrap ((X % 128+128:Nat):Int)=((X % 128+128:Nat):Int):=by rw[IntKind.wrap_u8'];omega
   have HR2:Hid ((done++ [X % 128+128])++nZ (X / 128)=R):=by have h:=HR.out;rw[ofZ h128]at h;rw[List.append_assoc];exact h
   obtain⟨hs1,hs2⟩:=mpZ HX.out (by omega)
   have HX2:=hid hs2
   obtain⟨b,hb⟩:∃b,b=X % 128+128:=⟨_,rfl⟩
   rw[<-hb]at c1 c2 HR2
   clear hb hs2
   go_wp2_with(at_builtin;refine kZ rfl (.tmp 6) (.tmp 11) 22 rfl w.heap.size 5 j0 _ 1 1 Tryz.underlying22 hj0 hy0 hy1 hy2 rfl (by decide) _ _ _ (by rfl) (HO.out.alloc _) _ 1 1 [.int .u8 (b:Nat)] (by rfl) (Src.of_blk (g:=wr.heap.size) (Blk.made _ _ _) 1 1 1 rfl) (by intro u hu;simp at hu;rcases hu with rfl;rfl) (by unfold maxLen;omega) (by omega) (by simp;omega) ?_;intro v4 w4 hown4 hg4 hat4)
   have HO5:Hid (w4.ownsRow w.heap.size 5 1 v4 (k+1) (cZ .u8 (done++ [b]))):=by rw[dhZ];exact hown4
   have hb5:Hid (Below w.heap.size w w4):=(aZ HB.out).grown hg4 (by simp;omega) (fun y hy=>(World.ownsRow.lt HO.out y hy).1)
   exact⟨⟨X / 128,k+1,done++ [b],congrArg _ (by omega),by omega,by omega,HX2.out,by show _=_;rw[List.length_append,HL.out];rfl,HR2.out,HO5.out,hb5.out⟩,by simp[intOf];omega⟩
def sB(s:ByteArray):List Nat:=s.data.toList.map UInt8.toNat
theorem vsZ(s:ByteArray):(sB s).length=s.size:=by
 unfold sB
 rw[List.length_map,Array.length_toList]
 rfl
theorem ugZb(s:ByteArray):cZ .u8 (sB s)=Lib.strCells s:=by
 unfold cZ sB Lib.strCells
 rw[List.map_map]
 rfl
def leZ(s:ByteArray):List Nat:=nZ s.size++sB s
theorem yiZ{s:ByteArray}(h:s.size<=100000):(leZ s).length<=3+s.size/\s.size<(leZ s).length:=by
 have h1:(nZ s.size).length<=3:=by
  by_cases h1:s.size<128
  ·rw[feZ h1];simp
  ·rw[ofZ h1,List.length_cons]
   by_cases h2:s.size / 128<128
   ·rw[feZ h2];simp
   ·rw[ofZ h2,feZ (by omega)];simp
 have h2:1<=(nZ s.size).length:=by
  by_cases h1:s.size<128
  ·rw[feZ h1];simp
  ·rw[ofZ h1,List.length_cons];omega
 unfold leZ
 rw[List.length_append,vsZ]
 omega
theorem vgZb:(Tryz.prog.info? 5).map (fun i=>(i.zero,i.size,i.bytes))=some (some (.int .u8 0),1,1):=by kernel_rfl
theorem tlZ(w:World)(s:ByteArray)(hs:s.size<=100000):
 Calls Tryz.prog 143 #[.string s] w fun e w'=>∃v,e= .returned v/\w'.ownsRow w.heap.size 5 1 v (leZ s).length (cZ .u8 (leZ s))/\Below w.heap.size w w':=by
 obtain⟨j0,hj0,hy0,hy1,hy2⟩:=info_parts vgZb
 have D:=hid (pcZ w s.size (by omega))
 have hl:=rZ (x:=s.size) (by omega)
 have u1:IntKind.u64.wrap (s.size:Int)=(s.size:Int):=by rw[IntKind.wrap_u64];omega
 have HT:Hid (cZ .u8 (leZ s)=cZ .u8 (nZ s.size)++Lib.strCells s/\(leZ s).length=(nZ s.size).length+s.size):=⟨by rw[<-ugZb];simp[leZ,cZ],by unfold leZ;rw[List.length_append,vsZ]⟩
 generalize leZ s=T at *
 generalize nZ s.size=X at *
 obtain⟨k,hk⟩:∃k,k=X.length:=⟨_,rfl⟩
 rw[<-hk]at D hl HT
 clear hk
 go_enter Tryz.func143,Tryz.ntmps143
 go_wp2_with fail
 refine D.out.mono ?_
 rintro e w1 ⟨v,rfl,ho,hb⟩
 have HO:=hid ho
 have HB:=hid hb
 have hz:=hb.size
 clear ho hb D
 go_wp2_with(at_builtin;refine Lib.wpList_append_own_string w1 rfl (.tmp 6) (.tmp 7) 22 9 rfl w.heap.size 5 j0 Tryz.underlying22 Tryz.underlying9 hj0 hy0 hy1 hy2 _ k _ (by rfl) HO.out s (by rfl) (by unfold maxLen;omega) (by omega) hz ?_;intro v4 w4 hown4 hg4 hnil4;have HB4:Hid (Below w.heap.size w w4):=HB.out.grown hg4 hz (fun y hy=>(World.ownsRow.lt HO.out y hy).1);have HO4:Hid (w4.ownsRow w.heap.size 5 1 v4 T.length (cZ .u8 T)):=(by rw[HT.out.1,HT.out.2];exact hown4);clear hown4 hg4 hnil4)
 go_ret
 exact⟨_,rfl,HO4.out,HB4.out⟩
end Go.Proofs.YtbgoibedicbkjaaGreatDoor.NumPut
namespace Go.Proofs.YtbgoibedicbkjaaGreatDoor.Recs
open Go.RowKit Mem Own Canon NumPut
open Go.Proofs.YtbgoibedicbkjaaGreatDoor.Nums (qlZ)
open Go.Proofs.YtbgoibedicbkjaaGreatDoor.Block (oZ)
def whZ(r:Rec):Prop:=0<=r.time/\r.time<18446744073709551616/\0<=r.level/\r.level<=255
def rnZ(wh:Bool)(r:Rec):List Nat:=if wh=true then nZ r.time.toNat++ [r.level.toNat]else []
def zjZ(wh:Bool)(r:Rec):List Nat:=rnZ wh r++(leZ r.source++leZ r.text)
theorem wsZ(wh:Bool){r:Rec}(h:whZ r):(rnZ wh r).length<=11:=by
 unfold rnZ
 split
 ·have:=rZ (x:=r.time.toNat) (by have:=h.1;have:=h.2.1;omega)
  rw[List.length_append]
  simp
  omega
 ·simp
theorem wgZb(wh:Bool){r:Rec}(h:whZ r)(hl:odZ r=false):(zjZ wh r).length<=17+r.source.size+r.text.size/\2<=(zjZ wh r).length:=by
 obtain⟨h1,h2⟩:=ufZ hl
 have a:=wsZ wh h
 have b:=yiZ (s:=r.source) (by omega)
 have c:=yiZ (s:=r.text) (by omega)
 unfold zjZ
 rw[List.length_append,List.length_append]
 omega
def irZ(wh:Bool)(r:Rec)(w:World)(e:Ending)(w':World):Prop:=
 ∃v,e= .returned v/\w'.ownsRow w.heap.size 5 1 v (zjZ wh r).length (cZ .u8 (zjZ wh r))/\Below w.heap.size w w'
theorem vjZb(w:World)(wh:Bool)(r:Rec)(hr:whZ r)(hl:odZ r=false):
 Calls Tryz.prog 96 #[.bool wh,r.val] w (irZ wh r w):=by
 obtain⟨j0,hj0,hy0,hy1,hy2⟩:=info_parts acZ
 obtain⟨h1,h2⟩:=ufZ hl
 obtain⟨t1,t2,l1,l2⟩:=hr
 have hhl:=wsZ wh (r:=r) ⟨t1,t2,l1,l2⟩
 have b1:=yiZ (s:=r.source) (by omega)
 have b2:=yiZ (s:=r.text) (by omega)
 unfold irZ zjZ
 obtain⟨tm,lv,src,txt⟩:=r
 obtain⟨t,rfl⟩:=Int.eq_ofNat_of_zero_le t1
 obtain⟨l,rfl⟩:=Int.eq_ofNat_of_zero_le l1
 unfold Rec.val
 simp only at *
 clear hl
 have D1:=hid (fun wx=>pcZ wx t (by omega))
 have D2:=hid (fun wx=>tlZ wx src (by omega))
 have D3:=hid (fun wx=>tlZ wx txt (by omega))
 cases wh with
 |true=>
  have HH:Hid (rnZ true ⟨(t:Nat),(l:Nat),src,txt⟩=nZ t++ [l]):=rfl
  have hnl:=rZ (x:=t) (by omega)
  generalize rnZ true ⟨(t:Nat),(l:Nat),src,txt⟩=H at *
  generalize nZ t=N1 at *
  generalize leZ src=T1 at *
  generalize leZ txt=T2 at *
  go_enter Tryz.func96,Tryz.ntmps96
  go_upto_region 3 with fail
  have hba:Blk (w.alloc (.cells #[.int .u64 t, .int .u8 l, .string src, .string txt] 59)) w.heap.size 59 #[.int .u64 t, .int .u8 l, .string src, .string txt]:=Blk.made _ _ _
  have hbw:Below w.heap.size w (w.alloc (.cells #[.int .u64 t, .int .u8 l, .string src, .string txt] 59)):=aZ (Below.refl _ _)
  have hzw:(w.alloc (.cells #[.int .u64 t, .int .u8 l, .string src, .string txt] 59)).heap.size=w.heap.size+1:=by simp
  generalize w.alloc (.cells #[.int .u64 t, .int .u8 l, .string src, .string txt] 59)=wa at *
  have HBA:=hid hba
  have HBW:=hid hbw
  have hzw2:w.heap.size<wa.heap.size:=by omega
  have HS:Hid (∀wx,Below wa.heap.size wa wx->wx.cell? ⟨w.heap.size,0,none⟩=some (.int .u64 t)/\wx.cell? ⟨w.heap.size,1,none⟩=some (.int .u8 l)):=fun wx h=>⟨(hba.step h).cell 0,(hba.step h).cell 1⟩
  clear hba hbw hzw
  go_region_held3 (fun wx=>wx.cell? ⟨w.heap.size,0,none⟩=some (.int .u64 t)/\wx.cell? ⟨w.heap.size,1,none⟩=some (.int .u8 l)) (first|exact HS.out _ ((Below.refl _ _).drew)|exact HS.out _ HB4|exact HS.out _ HB1|exact HS.out _ (Below.drew (aZ (Below.refl _ _)))|exact HS.out _ (gZ (Below.size HB1) HB1)|(refine HS.out _ ?_;(repeat(first|(with_reducible first|exact Below.refl _ _|assumption|refine Below.drew ?_|refine below_drewN ?_ _|refine aZ ?_|refine dZ (by assumption) ?_)|((with_reducible first|refine fZ ?_ ?_|refine gZ ?_ ?_|refine iZ (by assumption) ?_ ?_);(focus(first|(simp;done)|(simp;omega)|omega|(simp at *;omega))))))))
   (first|(go_at_call 98;(with_reducible refine(D1.out _).mono ?_);rintro e w1 ⟨v,rfl,ho1,hb1⟩;obtain⟨A1,c1,rfl⟩:=bZ ho1;have HB1:Below wa.heap.size wa w1:=iZ hb1 (by simp) (by(repeat(first|(with_reducible first|exact Below.refl _ _|assumption|refine Below.drew ?_|refine below_drewN ?_ _|refine aZ ?_|refine dZ (by assumption) ?_)|((with_reducible first|refine fZ ?_ ?_|refine gZ ?_ ?_|refine iZ (by assumption) ?_ ?_);(focus(first|(simp;done)|(simp;omega)|omega|(simp at *;omega)))))));have hz1:=HB1.size;have HO1:w1.ownsRow wa.heap.size 5 1 (.slice A1 N1.length c1) N1.length (cZ .u8 N1):=lZ ho1 (by simp))|(refine qlZ rfl (.tmp 9) (.tmp 12) 22 rfl wa.heap.size 5 j0 _ 1 1 Tryz.underlying22 hj0 hy0 hy1 hy2 rfl (by decide) (.slice A1 N1.length c1) N1.length (cZ .u8 N1) (by rfl) (by first|exact HO1|exact HO1.alloc _) _ 1 1 [.int .u8 l] (by rfl) (by first|exact Src.of_blk (g:=w1.heap.size) (Blk.made _ _ _) 1 1 1 rfl|exact Src.of_blk (g:=wa.heap.size) ((Blk.drew (Blk.made _ _ _)).step hb1) 1 1 1 rfl|exact Src.of_blk (g:=wa.heap.size) (Blk.step (Blk.made _ _ _) hb1) 1 1 1 rfl) (by intro u hu;simp at hu;rcases hu with rfl;rfl) (by unfold maxLen;omega) (by omega) (by first|omega|(simp;done)|(simp;omega)) ?_;intro A4 c4 w4 hown4 hg4;have HB4:Below wa.heap.size wa w4:=Below.grown (by first|exact HB1|exact HB1.alloc hz1 _) hg4 (by first|omega|(simp;done)|(simp;omega)) (fun y hy=>(World.ownsRow.lt HO1 y hy).1)))
  all_goals
   have P4:Hid (Part.Ok (⟨A4,c4,H⟩:Part) w4):=by
    rw[HH.out]
    have e1:(N1++ [l]).length=N1.length+1:=by rw[List.length_append];rfl
    refine oZ (base:=wa.heap.size) (ls:=N1++ [l]) (n:=(N1++ [l]).length) ?_ rfl
    rw[e1,dhZ]
    exact hown4
   have HB4':Hid (Below w.heap.size w w4):=HBW.out.trans (HB4.mono (by omega))
   have HS2:Hid (∀wx,Below w4.heap.size w4 wx->wx.cell? ⟨w.heap.size,2,none⟩=some (.string src)/\wx.cell? ⟨w.heap.size,3,none⟩=some (.string txt)):=fun wx h=>⟨((HBA.out.step HB4).step h).cell 2,((HBA.out.step HB4).step h).cell 3⟩
   have hs3:∀a1 a2 a3 a4 a5 a6,xcZ [(⟨a1,a2,H⟩:Part),⟨a3,a4,T1⟩,⟨a5,a6,T2⟩]<=1000000:=fun _ _ _ _ _ _=>by simp[xcZ];omega
   have HHL:Hid (H.length=N1.length+1):=by show _=_;rw[HH.out,List.length_append];rfl
   have hH1:H.length=N1.length+1:=HHL.out
   rw[<-hH1]
   clear HS HBA HB4 hown4 hg4 HO1 hb1 ho1 HB1 hz1 HBW D1 hH1 HHL HH
   go_upto_region 4 with fail
   go_region_held3 (fun wx=>wx.cell? ⟨w.heap.size,2,none⟩=some (.string src)/\wx.cell? ⟨w.heap.size,3,none⟩=some (.string txt)) (first|exact HS2.out _ ((Below.refl _ _).drew)|exact HS2.out _ BA|exact HS2.out _ BB|(refine HS2.out _ ?_;(repeat(first|(with_reducible first|exact Below.refl _ _|assumption|refine Below.drew ?_|refine below_drewN ?_ _|refine aZ ?_|refine dZ (by assumption) ?_)|((with_reducible first|refine fZ ?_ ?_|refine gZ ?_ ?_|refine iZ (by assumption) ?_ ?_);(focus(first|(simp;done)|(simp;omega)|omega|(simp at *;omega)))))))) (first|(go_at_call 143;first|((with_reducible refine(D2.out _).mono ?_);rintro e wA ⟨vA,rfl,hoA,hbA⟩;obtain⟨AA,cA,rfl⟩:=bZ hoA;have BA:Below w4.heap.size w4 wA:=iZ hbA (by first|omega|(simp;done)|(simp;omega)) (by(repeat(first|(with_reducible first|exact Below.refl _ _|assumption|refine Below.drew ?_|refine below_drewN ?_ _|refine aZ ?_|refine dZ (by assumption) ?_)|((with_reducible first|refine fZ ?_ ?_|refine gZ ?_ ?_|refine iZ (by assumption) ?_ ?_);(focus(first|(simp;done)|(simp;omega)|omega|(simp at *;omega)))))));have zA:=BA.size;have PA:Part.Ok (⟨AA,cA,T1⟩:Part) wA:=oZ hoA rfl;have kA:=hbA)|((with_reducible refine(D3.out _).mono ?_);rintro e wB ⟨vB,rfl,hoB,hbB⟩;obtain⟨AB,cB,rfl⟩:=bZ hoB;have BB:Below w4.heap.size w4 wB:=iZ hbB (by first|omega|(simp;done)|(simp;omega)) (by(repeat(first|(with_reducible first|exact Below.refl _ _|assumption|refine Below.drew ?_|refine below_drewN ?_ _|refine aZ ?_|refine dZ (by assumption) ?_)|((with_reducible first|refine fZ ?_ ?_|refine gZ ?_ ?_|refine iZ (by assumption) ?_ ?_);(focus(first|(simp;done)|(simp;omega)|omega|(simp at *;omega)))))));have zB:=BB.size;have PB:Part.Ok (⟨AB,cB,T2⟩:Part) wB:=oZ hoB rfl;have kB:=hbB))|(go_at_call 59;(refine(ffZ _ _ 3 [(⟨A4,c4,H⟩:Part),(⟨AA,cA,T1⟩:Part),(⟨AB,cB,T2⟩:Part)] rfl (by omega) (hs3 _ _ _ _ _ _) (fun p hp=>by{rcases List.mem_cons.1 hp with rfl|hp;exact P4.out.step (by(repeat(first|(with_reducible first|exact Below.refl _ _|assumption|refine Below.drew ?_|refine below_drewN ?_ _|refine aZ ?_|refine dZ (by assumption) ?_)|((with_reducible first|refine fZ ?_ ?_|refine gZ ?_ ?_|refine iZ (by assumption) ?_ ?_);(focus(first|(simp;done)|(simp;omega)|omega|(simp at *;omega)))))));rcases List.mem_cons.1 hp with rfl|hp;exact PA.step (by(repeat(first|(with_reducible first|exact Below.refl _ _|assumption|refine Below.drew ?_|refine below_drewN ?_ _|refine aZ ?_|refine dZ (by assumption) ?_)|((with_reducible first|refine fZ ?_ ?_|refine gZ ?_ ?_|refine iZ (by assumption) ?_ ?_);(focus(first|(simp;done)|(simp;omega)|omega|(simp at *;omega)))))));rcases List.mem_cons.1 hp with rfl|hp;exact PB.step (by(repeat(first|(with_reducible first|exact Below.refl _ _|assumption|refine Below.drew ?_|refine below_drewN ?_ _|refine aZ ?_|refine dZ (by assumption) ?_)|((with_reducible first|refine fZ ?_ ?_|refine gZ ?_ ?_|refine iZ (by assumption) ?_ ?_);(focus(first|(simp;done)|(simp;omega)|omega|(simp at *;omega)))))));cases hp}) (by first|exact Blk.made _ _ _|exact Blk.drew (Blk.made _ _ _))).mono ?_);rintro e w7 ⟨v7,rfl,ho7,hb7⟩;obtain⟨A7,c7,rfl⟩:=bZ ho7;have B7:Below w4.heap.size w4 w7:=iZ hb7 (by first|omega|(simp;done)|(simp;omega)) (by(repeat(first|(with_reducible first|exact Below.refl _ _|assumption|refine Below.drew ?_|refine below_drewN ?_ _|refine aZ ?_|refine dZ (by assumption) ?_)|((with_reducible first|refine fZ ?_ ?_|refine gZ ?_ ?_|refine iZ (by assumption) ?_ ?_);(focus(first|(simp;done)|(simp;omega)|omega|(simp at *;omega)))))))))
   have HB7:Hid (Below w.heap.size w w7):=HB4'.out.trans (B7.mono HB4'.out.size)
   have HO7:=hid (lZ ho7 (show w.heap.size<=_ by have:=HB4'.out.size;have:=zA;have:=zB;first|omega|(simp;omega)))
   go_wp2_with fail
   go_ret
   refine⟨_,rfl,?_,HB7.out⟩
   have h:=HO7.out
   simp only[List.flatMap_cons,List.flatMap_nil,List.append_nil]at h
   rw[List.length_append,List.length_append]at h ⊢
   exact h
 |false=>
  have hhf:rnZ false ⟨(t:Nat),(l:Nat),src,txt⟩= []:=rfl
  rw[hhf,List.nil_append]
  clear hhl hhf D1
  generalize leZ src=T1 at *
  generalize leZ txt=T2 at *
  go_enter Tryz.func96,Tryz.ntmps96
  go_upto_region 4 with fail
  have hba:Blk (w.alloc (.cells #[.int .u64 t, .int .u8 l, .string src, .string txt] 59)) w.heap.size 59 #[.int .u64 t, .int .u8 l, .string src, .string txt]:=Blk.made _ _ _
  have hbw:Below w.heap.size w (w.alloc (.cells #[.int .u64 t, .int .u8 l, .string src, .string txt] 59)):=aZ (Below.refl _ _)
  have hzw:(w.alloc (.cells #[.int .u64 t, .int .u8 l, .string src, .string txt] 59)).heap.size=w.heap.size+1:=by simp
  generalize w.alloc (.cells #[.int .u64 t, .int .u8 l, .string src, .string txt] 59)=wa at *
  have hzw2:w.heap.size<wa.heap.size:=by omega
  have HBW:=hid hbw
  have HS2:Hid (∀wx,Below wa.heap.size wa wx->wx.cell? ⟨w.heap.size,2,none⟩=some (.string src)/\wx.cell? ⟨w.heap.size,3,none⟩=some (.string txt)):=fun wx h=>⟨(hba.step h).cell 2,(hba.step h).cell 3⟩
  have P4:Hid (Part.Ok (⟨none,0,([]:List Nat)⟩:Part) wa):=⟨Row.zero,fun _=>⟨rfl,rfl⟩⟩
  have hs3:∀ (a1:Option Addr) (a2:Nat) a3 a4 a5 a6,xcZ [(⟨a1,a2,([]:List Nat)⟩:Part),⟨a3,a4,T1⟩,⟨a5,a6,T2⟩]<=1000000:=fun _ _ _ _ _ _=>by simp[xcZ];omega
  clear hba hbw hzw
  go_region_held3 (fun wx=>wx.cell? ⟨w.heap.size,2,none⟩=some (.string src)/\wx.cell? ⟨w.heap.size,3,none⟩=some (.string txt)) (first|exact HS2.out _ ((Below.refl _ _).drew)|exact HS2.out _ BA|exact HS2.out _ BB|(refine HS2.out _ ?_;(repeat(first|(with_reducible first|exact Below.refl _ _|assumption|refine Below.drew ?_|refine below_drewN ?_ _|refine aZ ?_|refine dZ (by assumption) ?_)|((with_reducible first|refine fZ ?_ ?_|refine gZ ?_ ?_|refine iZ (by assumption) ?_ ?_);(focus(first|(simp;done)|(simp;omega)|omega|(simp at *;omega)))))))) (first|(go_at_call 143;first|((with_reducible refine(D2.out _).mono ?_);rintro e wA ⟨vA,rfl,hoA,hbA⟩;obtain⟨AA,cA,rfl⟩:=bZ hoA;have BA:Below wa.heap.size wa wA:=iZ hbA (by first|omega|(simp;done)|(simp;omega)) (by(repeat(first|(with_reducible first|exact Below.refl _ _|assumption|refine Below.drew ?_|refine below_drewN ?_ _|refine aZ ?_|refine dZ (by assumption) ?_)|((with_reducible first|refine fZ ?_ ?_|refine gZ ?_ ?_|refine iZ (by assumption) ?_ ?_);(focus(first|(simp;done)|(simp;omega)|omega|(simp at *;omega)))))));have zA:=BA.size;have PA:Part.Ok (⟨AA,cA,T1⟩:Part) wA:=oZ hoA rfl;have kA:=hbA)|((with_reducible refine(D3.out _).mono ?_);rintro e wB ⟨vB,rfl,hoB,hbB⟩;obtain⟨AB,cB,rfl⟩:=bZ hoB;have BB:Below wa.heap.size wa wB:=iZ hbB (by first|omega|(simp;done)|(simp;omega)) (by(repeat(first|(with_reducible first|exact Below.refl _ _|assumption|refine Below.drew ?_|refine below_drewN ?_ _|refine aZ ?_|refine dZ (by assumption) ?_)|((with_reducible first|refine fZ ?_ ?_|refine gZ ?_ ?_|refine iZ (by assumption) ?_ ?_);(focus(first|(simp;done)|(simp;omega)|omega|(simp at *;omega)))))));have zB:=BB.size;have PB:Part.Ok (⟨AB,cB,T2⟩:Part) wB:=oZ hoB rfl;have kB:=hbB))|(go_at_call 59;(refine(ffZ _ _ 3 [(⟨none,0,([]:List Nat)⟩:Part),(⟨AA,cA,T1⟩:Part),(⟨AB,cB,T2⟩:Part)] rfl (by omega) (hs3 _ _ _ _ _ _) (fun p hp=>by{rcases List.mem_cons.1 hp with rfl|hp;exact P4.out.step (by(repeat(first|(with_reducible first|exact Below.refl _ _|assumption|refine Below.drew ?_|refine below_drewN ?_ _|refine aZ ?_|refine dZ (by assumption) ?_)|((with_reducible first|refine fZ ?_ ?_|refine gZ ?_ ?_|refine iZ (by assumption) ?_ ?_);(focus(first|(simp;done)|(simp;omega)|omega|(simp at *;omega)))))));rcases List.mem_cons.1 hp with rfl|hp;exact PA.step (by(repeat(first|(with_reducible first|exact Below.refl _ _|assumption|refine Below.drew ?_|refine below_drewN ?_ _|refine aZ ?_|refine dZ (by assumption) ?_)|((with_reducible first|refine fZ ?_ ?_|refine gZ ?_ ?_|refine iZ (by assumption) ?_ ?_);(focus(first|(simp;done)|(simp;omega)|omega|(simp at *;omega)))))));rcases List.mem_cons.1 hp with rfl|hp;exact PB.step (by(repeat(first|(with_reducible first|exact Below.refl _ _|assumption|refine Below.drew ?_|refine below_drewN ?_ _|refine aZ ?_|refine dZ (by assumption) ?_)|((with_reducible first|refine fZ ?_ ?_|refine gZ ?_ ?_|refine iZ (by assumption) ?_ ?_);(focus(first|(simp;done)|(simp;omega)|omega|(simp at *;omega)))))));cases hp}) (by first|exact Blk.made _ _ _|exact Blk.drew (Blk.made _ _ _))).mono ?_);rintro e w7 ⟨v7,rfl,ho7,hb7⟩;obtain⟨A7,c7,rfl⟩:=bZ ho7;have B7:Below wa.heap.size wa w7:=iZ hb7 (by first|omega|(simp;done)|(simp;omega)) (by(repeat(first|(with_reducible first|exact Below.refl _ _|assumption|refine Below.drew ?_|refine below_drewN ?_ _|refine aZ ?_|refine dZ (by assumption) ?_)|((with_reducible first|refine fZ ?_ ?_|refine gZ ?_ ?_|refine iZ (by assumption) ?_ ?_);(focus(first|(simp;done)|(simp;omega)|omega|(simp at *;omega)))))))))
  have HB7:Hid (Below w.heap.size w w7):=HBW.out.trans (B7.mono HBW.out.size)
  have HO7:=hid (lZ ho7 (show w.heap.size<=_ by have:=HBW.out.size;have:=zA;have:=zB;first|omega|(simp;omega)))
  go_wp2_with fail
  go_ret
  refine⟨_,rfl,?_,HB7.out⟩
  have h:=HO7.out
  simp only[List.flatMap_cons,List.flatMap_nil,List.append_nil,List.nil_append]at h
  rw[List.length_append]at h ⊢
  exact h
theorem lbZ{w:World}{base n c:Nat}{A:Option Addr}{xs:List Value}(h:w.ownsRow base 5 1 (.slice A n c) n xs):Src w A n c 1 xs:=by
 obtain⟨h0,h1⟩:=h
 refine⟨h0,?_⟩
 rcases h1 with ⟨hv,_⟩|⟨g,cap,cur,hv,_,hh,_,_,_,htake⟩
 ·injection hv with e1 e2 e3
  exact .inl ⟨e1,e2,e3⟩
 ·injection hv with e1 e2 e3
  refine .inr ⟨⟨g,0,none⟩,e1,fun j u hu=> ?_⟩
  rw[add_none,Nat.zero_add,Blk.cell hh]
  rw[<-htake,List.getElem?_take]at hu
  split at hu
  ·simpa using hu
  ·cases hu
end Go.Proofs.YtbgoibedicbkjaaGreatDoor.Recs
namespace Go.Proofs.YtbgoibedicbkjaaGreatDoor.Recs
open Go.RowKit Mem Own Canon NumPut
open Go.Proofs.YtbgoibedicbkjaaGreatDoor.Block (oZ)
def ifZ(wh:Bool)(l:List Rec):List Nat:=l.flatMap (zjZ wh)
end Go.Proofs.YtbgoibedicbkjaaGreatDoor.Recs
namespace Go.Proofs.YtbgoibedicbkjaaGreatDoor.Recs
open Go.RowKit Mem Own Canon NumPut
def goG(S:Nat):Nat->Nat->List Nat->List Nat
 |_,c,[]=> [c]
 |h,c,x :: t=>if S<h+x then c :: goG S x 1 t else goG S (h+x) (c+1) t
def jfZ(S:Nat):List Nat->List Nat
 | []=> []
 |x :: t=>goG S x 1 t
def vdZ(wh:Bool)(l:List Rec):List Nat:=l.map fun r=>(zjZ wh r).length
theorem jaZb{wh:Bool}{l:List Rec}{k:Nat}{r:Rec}(hr:l[k]? =some r):(vdZ wh l).drop k=(zjZ wh r).length :: (vdZ wh l).drop (k+1):=by
 obtain⟨hk,e⟩:=List.getElem?_eq_some_iff.1 hr
 have hk2:k<(vdZ wh l).length:=by unfold vdZ;rw[List.length_map];exact hk
 rw[List.drop_eq_getElem_cons hk2]
 congr 1
 simp[vdZ,e]
theorem xcZb{wh:Bool}{l:List Rec}{n:Nat}(hn:l.length=n):(vdZ wh l).drop n= []:=List.drop_of_length_le (by unfold vdZ;rw[List.length_map];omega)
theorem ulZ{w:World}{base g cg q z:Nat}{done:List Nat}(h:w.ownsRow base 3 1 (.slice (some ⟨g,0,none⟩) (q+1) cg) (q+1) (cZ .i64 (done++ [z])))(hq:done.length=q):w.cell? ⟨g,q,none⟩=some (.int .i64 (z:Nat)):=by
 rw[(Lz.own_cells h (show q<q+1 by omega)).1]
 simp only[cZ,List.getElem?_map]
 rw[List.getElem?_append_right (by omega),hq]
 simp
theorem zmZ{w:World}{base g cg q z:Nat}{done:List Nat}(h:w.ownsRow base 3 1 (.slice (some ⟨g,0,none⟩) (q+1) cg) (q+1) (cZ .i64 (done++ [z])))(hq:done.length=q):(w.setCell ⟨g,q,none⟩ (.int .i64 (z+1:Nat))).ownsRow base 3 1 (.slice (some ⟨g,0,none⟩) (q+1) cg) (q+1) (cZ .i64 (done++ [z+1])):=by
 have h1:=Lz.rjZb h (.int .i64 (z+1:Nat)) (show q<q+1 by omega)
 have e:(cZ .i64 (done++ [z])).set q (.int .i64 (z+1:Nat))=cZ .i64 (done++ [z+1]):=by
  have hl:q=(cZ .i64 done).length:=by unfold cZ;rw[List.length_map,hq]
  have e1:cZ .i64 (done++ [z])=cZ .i64 done++ [.int .i64 (z:Nat)]:=by simp[cZ]
  rw[e1,hl,List.set_append_right _ _ (Nat.le_refl _),Nat.sub_self]
  simp[cZ]
 rw[e]at h1
 exact h1
theorem ycZb:(Tryz.prog.info? 3).map (fun i=>(i.zero,i.size,i.bytes))=some (some (.int .i64 0),1,8):=by kernel_rfl
def vlZ(S:Nat)(wh:Bool)(l:List Rec)(w:World)(e:Ending)(w':World):Prop:=
 ∃v,e= .returned v/\w'.ownsRow w.heap.size 3 1 v (jfZ S (vdZ wh l)).length (cZ .i64 (jfZ S (vdZ wh l)))/\Below w.heap.size w w'
theorem numL_snoc(k:IntKind)(l:List Nat)(x:Nat):cZ k (l++ [x])=cZ k l++ [.int k (x:Nat)]:=by simp[cZ]
theorem kaZb(w:World)(S:Nat)(wh:Bool)(A:Option Addr)(n c:Nat)(l:List Rec)(hS:1<=S)(hS2:S<=1000000)(hn:l.length=n)(hN:n<=1000000)(hok:∀r∈l,whZ r)(hl:∀r∈l,odZ r=false)(ha:Row w w.heap.size A n 4 (veZ l)):
 Calls Tryz.prog 50 #[.int .i64 S, .bool wh, .slice A n c] w (vlZ S wh l w):=by
 obtain⟨j0,hj0,hy0,hy1,hy2⟩:=info_parts ycZb
 have HN:=hid hn
 have HX:=hid (fun r (h:r∈l)=>(wgZb wh (hok r h) (hl r h)).1)
 have HX2:=hid (fun r (h:r∈l)=>ufZ (hl r h))
 have HD:=hid (fun wx r (h:r∈l)=>vjZb wx wh r (hok r h) (hl r h))
 have HE:=hid (xcZb (wh:=wh) hn)
 unfold irZ at HD
 unfold vlZ
 obtain⟨R,hR⟩:∃R,R=jfZ S (vdZ wh l):=⟨_,rfl⟩
 have HR:=hid hR
 rw[<-hR]
 have hmx:max (1:Int) (S:Int)=(S:Int):=by omega
 clear hn hok hl hR
 go_enter Tryz.func50,Tryz.ntmps50
 go_wp2_with fail
 go_loopw [7,8,14] (fun u hv i wr=>∃ (k q h:Nat) (out:List Nat),k<=n/\q<=k/\h<=1010000/\i= .int .i64 k/\hv= .int .i64 h/\Hid (out.length=q)/\Hid ((k=0/\out= []/\h=0)∨(0<k/\∃done z,out=done++ [z]/\z<=k/\done++goG S h z ((vdZ wh l).drop k)=R))/\Hid (wr.ownsRow w.heap.size 3 1 u q (cZ .i64 out))/\Hid (Below w.heap.size w wr)) (fun _ _ i _=>n-(intOf i).toNat)
 case atStart=>exact⟨0,0,0,[],by omega,by omega,by omega,rfl,rfl,rfl, .inl ⟨rfl,rfl,rfl⟩,World.ownsRow_nil _ _ _ _,Below.refl _ _⟩
 case round=>
  obtain⟨k,q,h,out,hk,hqk,hh,rfl,rfl,HQ,HC,HO,HB⟩:=hrel
  obtain⟨uA,uc,rfl⟩:=bZ HO.out
  have hz:=HB.out.size
  by_cases hlt:k<n
  ·obtain⟨b,off,r,rfl,hbb,hg,c0,c1,c2,c3⟩:=Row.rec (ha.below HB.out) HN.out hlt
   have D:=hid (fun wx=>HD.out wx r (List.mem_of_getElem? hg))
   unfold Rec.val at D
   have hx:=HX.out r (List.mem_of_getElem? hg)
   have hx2:=HX2.out r (List.mem_of_getElem? hg)
   have x0:(0:Int)<=(k:Int):=by omega
   have x1:(k:Int)<(n:Int):=by omega
   have hx3:(zjZ wh r).length<=8017:=by omega
   have HGD:=hid (jaZb (wh:=wh) hg)
   generalize zjZ wh r=O at *
   obtain⟨x,hx0⟩:∃x,x=O.length:=⟨_,rfl⟩
   rw[<-hx0]at D hx3 HGD
   have s1:IntKind.i64.wrap ((h:Int)+(x:Int))=((h+x:Nat):Int):=by rw[IntWalk.i64_in _ (by omega)];omega
   have s2:IntKind.i64.wrap ((0:Int)+(x:Int))=(x:Int):=by rw[IntWalk.i64_in _ (by omega)];omega
   clear hg hx hx2 hx0
   by_cases hnew:k=0∨S<h+x
   ·
    have HNX:Hid (∃done2,out=done2/\done2++goG S x 1 ((vdZ wh l).drop (k+1))=R):=by
     rcases HC.out with ⟨h1,h2,h3⟩|⟨h1,done,z,h2,h3,h4⟩
     ·refine⟨[],h2,?_⟩
      have e:=HR.out
      have e2:=HGD.out
      rw[h1,List.drop_zero]at e2
      rw[e2,jfZ]at e
      rw[h1]
      exact e.symm
     ·refine⟨out,rfl,?_⟩
      have hf:S<h+x:=by rcases hnew with hnew|hnew;omega;exact hnew
      rw[HGD.out,goG,if_pos hf]at h4
      rw[h2,List.append_assoc]
      exact h4
    have HNX2:Hid (out++goG S x 1 ((vdZ wh l).drop (k+1))=R):=by
     obtain⟨d2,h1,h2⟩:=HNX.out
     rw[h1];exact h2
    obtain⟨hx',hhx⟩:∃hx',hx'=h+x:=⟨_,rfl⟩
    rw[<-hhx]at s1 hnew
    by_cases hq0:q=0
    ·have gq:((q:Int)==0)=true:=by simp[hq0]
     clear hnew hhx HNX HC hq0
     go_wp2_with fail
     refine(D.out _).mono ?_
     rintro e w1 ⟨v1,rfl,ho1,hb1⟩
     obtain⟨A1,d1,rfl⟩:=bZ ho1
     have HB1:Hid (Below w.heap.size w w1):=dZ hb1 (aZ HB.out)
     have HO1:Hid (w1.ownsRow w.heap.size 3 1 (.slice uA q uc) q (cZ .i64 out)):=eZ (HO.out.alloc (.cells #[.int .u64 r.time, .int .u8 r.level, .string r.source, .string r.text] 59)) (fun y hy=>hb1.block y (by have:=(World.ownsRow.lt HO.out y hy).2;simp;omega))
     have hz1:=HB1.out.size
     obtain⟨z,hz0⟩:∃z:Nat,z=0:=⟨_,rfl⟩
     have HZ:=hid hz0
     have hz1b:z<=0:=by omega
     obtain⟨done2,hd2⟩:∃done2,done2=out:=⟨_,rfl⟩
     obtain⟨q2,hq2⟩:∃q2,q2=q:=⟨_,rfl⟩
     have HQ4:Hid (done2.length=q2):=by rw[hd2,hq2];exact HQ.out
     have HD2:=hid hd2
     have HQ2:=hid hq2
     have hq2b:q2<=k:=by omega
     clear ho1 hb1 D c0 c1 c2 c3 HO HB hz hz0 hd2 hq2
     go_wp2_with(at_builtin;refine kZ rfl (.tmp 33) (.tmp 34) 30 rfl w.heap.size 3 j0 _ 1 8 Tryz.underlying30 hj0 hy0 hy1 hy2 rfl (by decide) _ _ _ (by rfl) (HO1.out.alloc _) _ 1 1 [.int .i64 0] (by rfl) (Src.of_blk (g:=w1.heap.size) (Blk.made _ _ _) 1 1 1 rfl) (by intro u hu;simp at hu;rcases hu with rfl;rfl) (by unfold maxLen;omega) (by omega) (by simp;omega) ?_;intro v4 w4 hown4 hg4 hat4;have HB4:Hid (Below w.heap.size w w4):=(aZ HB1.out).grown hg4 (by simp;omega) (fun y hy=>(World.ownsRow.lt HO1.out y hy).1);have HO4:Hid (w4.ownsRow w.heap.size 3 1 v4 (q2+1) (cZ .i64 (done2++ [z]))):=(by rw[HD2.out,HQ2.out,numL_snoc,HZ.out];exact hown4);have hqe:=HQ2.out;subst hqe;clear hown4 hg4 hat4 HO1 HB1 hz1;have HZ4:=HB4.out.size;obtain⟨g,cg,rfl,hg0,_⟩:=HO4.out.form (by omega);have hcell:w4.cell? ⟨g,q2,none⟩=some (.int .i64 (z:Nat)):=ulZ HO4.out HQ4.out;have hfz:=(Lz.own_cells HO4.out (show q2<q2+1 by omega)).2.1;have HO5:Hid ((w4.setCell ⟨g,q2,none⟩ (.int .i64 (z+1:Nat))).ownsRow w.heap.size 3 1 (.slice (some ⟨g,0,none⟩) (q2+1) cg) (q2+1) (cZ .i64 (done2++ [z+1]))):=zmZ HO4.out HQ4.out;have HB5:Hid (Below w.heap.size w (w4.setCell ⟨g,q2,none⟩ (.int .i64 (z+1:Nat)))):=fZ hg0 HB4.out;have u1:IntKind.i64.wrap (((q2+1:Nat):Int)-1)=(q2:Int):=(by rw[IntWalk.i64_in _ (by omega)];omega);have u1':IntKind.i64.wrap ((q2:Int)+1-1)=(q2:Int):=(by rw[IntWalk.i64_in _ (by omega)];omega);have u2:IntKind.i64.wrap ((z:Int)+1)=((z+1:Nat):Int):=(by rw[IntWalk.i64_in _ (by omega)];omega);have y0:(0:Int)<=(q2:Int):=(by omega);have y1:(q2:Int)<((q2+1:Nat):Int):=(by omega))
     go_roundw
     case measure=>go_light;simp[intOf];omega
     case rel=>go_light;exact⟨k+1,q2+1,x,done2++ [z+1],by omega,by omega,by omega,by first|rfl|go_num,by first|rfl|go_num,by show _=_;rw[List.length_append,HQ4.out];rfl, .inr ⟨by omega,done2,z+1,rfl,by omega,by have e:=HNX2.out;rw[<-HD2.out]at e;rw[HZ.out];exact e⟩,HO5.out,HB5.out⟩
    ·have gq:((q:Int)==0)=false:=by rw[beq_eq_false_iff_ne];omega
     have hkp:¬k=0:=by omega
     have hf:S<hx':=by rcases hnew with hnew|hnew;exact absurd hnew hkp;exact hnew
     have gs:decide ((S:Int)<(hx':Int))=true:=by simp;omega
     have gs':decide (S<hx')=true:=by simp;omega
     clear hnew hhx HNX HC hf hkp hq0
     go_wp2_with fail
     refine(D.out _).mono ?_
     rintro e w1 ⟨v1,rfl,ho1,hb1⟩
     obtain⟨A1,d1,rfl⟩:=bZ ho1
     have HB1:Hid (Below w.heap.size w w1):=dZ hb1 (aZ HB.out)
     have HO1:Hid (w1.ownsRow w.heap.size 3 1 (.slice uA q uc) q (cZ .i64 out)):=eZ (HO.out.alloc (.cells #[.int .u64 r.time, .int .u8 r.level, .string r.source, .string r.text] 59)) (fun y hy=>hb1.block y (by have:=(World.ownsRow.lt HO.out y hy).2;simp;omega))
     have hz1:=HB1.out.size
     obtain⟨z,hz0⟩:∃z:Nat,z=0:=⟨_,rfl⟩
     have HZ:=hid hz0
     have hz1b:z<=0:=by omega
     obtain⟨done2,hd2⟩:∃done2,done2=out:=⟨_,rfl⟩
     obtain⟨q2,hq2⟩:∃q2,q2=q:=⟨_,rfl⟩
     have HQ4:Hid (done2.length=q2):=by rw[hd2,hq2];exact HQ.out
     have HD2:=hid hd2
     have HQ2:=hid hq2
     have hq2b:q2<=k:=by omega
     clear ho1 hb1 D c0 c1 c2 c3 HO HB hz hz0 hd2 hq2
     go_wp2_with(at_builtin;refine kZ rfl (.tmp 33) (.tmp 34) 30 rfl w.heap.size 3 j0 _ 1 8 Tryz.underlying30 hj0 hy0 hy1 hy2 rfl (by decide) _ _ _ (by rfl) (HO1.out.alloc _) _ 1 1 [.int .i64 0] (by rfl) (Src.of_blk (g:=w1.heap.size) (Blk.made _ _ _) 1 1 1 rfl) (by intro u hu;simp at hu;rcases hu with rfl;rfl) (by unfold maxLen;omega) (by omega) (by simp;omega) ?_;intro v4 w4 hown4 hg4 hat4;have HB4:Hid (Below w.heap.size w w4):=(aZ HB1.out).grown hg4 (by simp;omega) (fun y hy=>(World.ownsRow.lt HO1.out y hy).1);have HO4:Hid (w4.ownsRow w.heap.size 3 1 v4 (q2+1) (cZ .i64 (done2++ [z]))):=(by rw[HD2.out,HQ2.out,numL_snoc,HZ.out];exact hown4);have hqe:=HQ2.out;subst hqe;clear hown4 hg4 hat4 HO1 HB1 hz1;have HZ4:=HB4.out.size;obtain⟨g,cg,rfl,hg0,_⟩:=HO4.out.form (by omega);have hcell:w4.cell? ⟨g,q2,none⟩=some (.int .i64 (z:Nat)):=ulZ HO4.out HQ4.out;have hfz:=(Lz.own_cells HO4.out (show q2<q2+1 by omega)).2.1;have HO5:Hid ((w4.setCell ⟨g,q2,none⟩ (.int .i64 (z+1:Nat))).ownsRow w.heap.size 3 1 (.slice (some ⟨g,0,none⟩) (q2+1) cg) (q2+1) (cZ .i64 (done2++ [z+1]))):=zmZ HO4.out HQ4.out;have HB5:Hid (Below w.heap.size w (w4.setCell ⟨g,q2,none⟩ (.int .i64 (z+1:Nat)))):=fZ hg0 HB4.out;have u1:IntKind.i64.wrap (((q2+1:Nat):Int)-1)=(q2:Int):=(by rw[IntWalk.i64_in _ (by omega)];omega);have u1':IntKind.i64.wrap ((q2:Int)+1-1)=(q2:Int):=(by rw[IntWalk.i64_in _ (by omega)];omega);have u2:IntKind.i64.wrap ((z:Int)+1)=((z+1:Nat):Int):=(by rw[IntWalk.i64_in _ (by omega)];omega);have y0:(0:Int)<=(q2:Int):=(by omega);have y1:(q2:Int)<((q2+1:Nat):Int):=(by omega))
     go_roundw
     case measure=>go_light;simp[intOf];omega
     case rel=>go_light;exact⟨k+1,q2+1,x,done2++ [z+1],by omega,by omega,by omega,by first|rfl|go_num,by first|rfl|go_num,by show _=_;rw[List.length_append,HQ4.out];rfl, .inr ⟨by omega,done2,z+1,rfl,by omega,by have e:=HNX2.out;rw[<-HD2.out]at e;rw[HZ.out];exact e⟩,HO5.out,HB5.out⟩
   ·
    have hk0:¬k=0:=by omega
    have hf:¬S<h+x:=by omega
    obtain⟨done2,z,hout,hzk,hgo⟩:∃done z,out=done++ [z]/\z<=k/\done++goG S h z ((vdZ wh l).drop k)=R:=by
     rcases HC.out with ⟨h1,_,_⟩|⟨_,h2⟩
     ·exact absurd h1 hk0
     ·exact h2
    rw[HGD.out,goG,if_neg hf]at hgo
    have hql:=HQ.out
    rw[hout,List.length_append]at hql
    obtain⟨q2,hq2⟩:∃q2,q2=done2.length:=⟨_,rfl⟩
    have hqq:q=q2+1:=by rw[hq2,<-hql];rfl
    subst hqq
    have gq:(((q2+1:Nat):Int)==0)=false:=by rw[beq_eq_false_iff_ne];omega
    have gq':((q2:Int)+1==0)=false:=by rw[beq_eq_false_iff_ne];omega
    obtain⟨hx',hhx⟩:∃hx',hx'=h+x:=⟨_,rfl⟩
    rw[<-hhx]at s1 hf hgo
    have gs:decide ((S:Int)<(hx':Int))=false:=by simp;omega
    have gs':decide (S<hx')=false:=by simp;omega
    have hxl:hx'<=1010000:=by omega
    have HGO:=hid hgo
    have HOUT:=hid hout
    have HQ4:Hid (done2.length=q2):=hq2.symm
    clear hgo hout hql hq2 hf hnew hk0 hhx HC HGD
    go_wp2_with fail
    refine(D.out _).mono ?_
    rintro e w4 ⟨v1,rfl,ho1,hb1⟩
    obtain⟨A1,d1,rfl⟩:=bZ ho1
    have HB4:Hid (Below w.heap.size w w4):=dZ hb1 (aZ HB.out)
    have HO4:Hid (w4.ownsRow w.heap.size 3 1 (.slice uA (q2+1) uc) (q2+1) (cZ .i64 (done2++ [z]))):=by
     rw[<-HOUT.out]
     exact eZ (HO.out.alloc (.cells #[.int .u64 r.time, .int .u8 r.level, .string r.source, .string r.text] 59)) (fun y hy=>hb1.block y (by have:=(World.ownsRow.lt HO.out y hy).2;simp;omega))
    clear ho1 hb1 D c0 c1 c2 c3 HO HB hz HOUT HQ
    have HZ4:=HB4.out.size
    obtain⟨g,cg,hg9,hg0,_⟩:=HO4.out.form (by omega)
    injection hg9 with hg91 hg92 hg93
    subst hg91 hg93
    have hcell:w4.cell? ⟨g,q2,none⟩=some (.int .i64 (z:Nat)):=ulZ HO4.out HQ4.out
    have hfz:=(Lz.own_cells HO4.out (show q2<q2+1 by omega)).2.1
    have HO5:Hid ((w4.setCell ⟨g,q2,none⟩ (.int .i64 (z+1:Nat))).ownsRow w.heap.size 3 1 (.slice (some ⟨g,0,none⟩) (q2+1) uc) (q2+1) (cZ .i64 (done2++ [z+1]))):=zmZ HO4.out HQ4.out
    have HB5:Hid (Below w.heap.size w (w4.setCell ⟨g,q2,none⟩ (.int .i64 (z+1:Nat)))):=fZ hg0 HB4.out
    have u1:IntKind.i64.wrap (((q2+1:Nat):Int)-1)=(q2:Int):=(by rw[IntWalk.i64_in _ (by omega)];omega)
    have u1':IntKind.i64.wrap ((q2:Int)+1-1)=(q2:Int):=(by rw[IntWalk.i64_in _ (by omega)];omega)
    have u2:IntKind.i64.wrap ((z:Int)+1)=((z+1:Nat):Int):=(by rw[IntWalk.i64_in _ (by omega)];omega)
    have y0:(0:Int)<=(q2:Int):=(by omega)
    have y1:(q2:Int)<((q2+1:Nat):Int):=(by omega)
    go_wp2_with fail
    go_roundw
    case measure=>go_light;simp[intOf];omega
    case rel=>go_light;exact⟨k+1,q2+1,hx',done2++ [z+1],by omega,by omega,hxl,by first|rfl|go_num,by first|rfl|go_num,by show _=_;rw[List.length_append,HQ4.out];rfl, .inr ⟨by omega,done2,z+1,rfl,by omega,HGO.out⟩,HO5.out,HB5.out⟩
  ·obtain rfl:k=n:=by omega
   have HF:Hid (out=R):=by
    rcases HC.out with ⟨h1,h2,_⟩|⟨_,done,z,h2,_,h4⟩
    ·have e:=HR.out
     have e2:=HE.out
     rw[h1,List.drop_zero]at e2
     rw[e2,jfZ]at e
     rw[h2];exact e.symm
    ·rw[HE.out,goG]at h4
     rw[h2];exact h4
   clear HC
   go_wp2_with fail
   go_ret
   exact⟨_,rfl,by rw[<-HF.out,HQ.out];exact HO.out,HB.out⟩
end Go.Proofs.YtbgoibedicbkjaaGreatDoor.Recs
namespace Go.Proofs.YtbgoibedicbkjaaGreatDoor.Recs
open NumPut
def wlZ(d:Nat):Nat:=if d<9223372036854775808 then 2*d else 36893488147419103231-2*d
def fvZ(a b:Nat):Nat:=(a+18446744073709551616-b) % 18446744073709551616
theorem jrZ{d:Nat}(h:d<18446744073709551616):wlZ d<18446744073709551616:=by unfold wlZ;split<;>omega
theorem wyZ(a b:Nat):fvZ a b<18446744073709551616:=Nat.mod_lt _ (by omega)
def ybZ(g:Nat->Nat->List Nat):Nat->List Nat->List Nat
 |_,[]=> []
 |was,t :: l=>g was t++ybZ g t l
theorem hoZ(g:Nat->Nat->List Nat):∀ (l:List Nat) (was t:Nat),ybZ g was (l++ [t])=ybZ g was l++g (l.getLast?.getD was) t
 | [],was,t=>by simp[ybZ]
 |x :: l,was,t=>by
  rw[List.cons_append,ybZ,hoZ g l x t,ybZ,List.append_assoc]
  have e:(x :: l).getLast?.getD was=l.getLast?.getD x:=by
   cases l with
   |nil=>rfl
   |cons z s=>simp[List.getLast?_cons]
  rw[e]
theorem kqZ{g:Nat->Nat->List Nat}(h:∀a b,(g a b).length<=10):∀ (l:List Nat) (was:Nat),(ybZ g was l).length<=10*l.length
 | [],_=>by simp[ybZ]
 |t :: l,was=>by
  have:=kqZ h l t
  have:=h was t
  rw[ybZ,List.length_append,List.length_cons]
  omega
theorem xsZ{g:Nat->Nat->List Nat}(h:∀a b,∀y∈g a b,y<=255):∀ (l:List Nat) (was:Nat),∀y∈ybZ g was l,y<=255
 | [],_,y,hy=>by simp[ybZ]at hy
 |t :: l,was,y,hy=>by
  rw[ybZ]at hy
  rcases List.mem_append.1 hy with hy|hy
  ·exact h was t y hy
  ·exact xsZ h l t y hy
def stepT(was t:Nat):List Nat:=nZ (wlZ (fvZ t was))
theorem zcZb(a b:Nat):(stepT a b).length<=10:=rZ (jrZ (wyZ b a))
theorem xgZb(a b:Nat):∀y∈stepT a b,y<=255:=fun y hy=>ucZ _ y hy
def lead(x:Nat):List Nat->Nat
 | []=>0
 |y :: t=>if y=x then lead x t+1 else 0
theorem xyZ(x:Nat):∀l,lead x l<=l.length
 | []=>by simp[lead]
 |y :: t=>by
  have:=xyZ x t
  rw[lead]
  split<;>simp<;>omega
theorem npZ(x:Nat):∀ (l:List Nat) (j:Nat),(∀i,i<j->l[i]? =some x)->l[j]? ≠some x->lead x l=j
 | [],0,_,_=>rfl
 | [],j+1,h,_=>by have:=h 0 (by omega);simp at this
 |y :: t,0,_,h=>by
  rw[lead,if_neg]
  intro e
  exact h (by rw[e];rfl)
 |y :: t,j+1,h,h2=>by
  have:=h 0 (by omega)
  rw[lead,if_pos (by simpa using this),npZ x t j (fun i hi=>by have:=h (i+1) (by omega);simpa using this) (by simpa using h2)]
def lvB:List Nat->List Nat
 | []=> []
 |x :: t=>x :: (nZ (lead x t+1)++lvB (t.drop (lead x t)))
termination_by l=>l.length
decreasing_by simp only[List.length_drop,List.length_cons];omega
theorem yyZ:∀ (n:Nat) (l:List Nat),l.length<=n->(∀x∈l,x<=255)->l.length<18446744073709551616->(lvB l).length<=11*l.length
 |_,[],_,_,_=>by rw[lvB];simp
 |n+1,x :: t,h,h8,h64=>by
  have hl:=xyZ x t
  simp only[List.length_cons]at h h64
  have:=rZ (x:=lead x t+1) (by omega)
  have ih:=yyZ n (t.drop (lead x t)) (by rw[List.length_drop];omega) (fun y hy=>h8 y (List.mem_cons_of_mem _ (List.mem_of_mem_drop hy))) (by rw[List.length_drop];omega)
  rw[List.length_drop]at ih
  rw[lvB]
  simp only[List.length_cons,List.length_append]
  omega
theorem adZb:∀ (n:Nat) (l:List Nat),l.length<=n->(∀x∈l,x<=255)->∀y∈lvB l,y<=255
 |_,[],_,_,y,hy=>by rw[lvB]at hy;cases hy
 |n+1,x :: t,h,h8,y,hy=>by
  rw[lvB]at hy
  simp only[List.length_cons]at h
  rcases List.mem_cons.1 hy with rfl|hy
  ·exact h8 _ (by simp)
  ·rcases List.mem_append.1 hy with hy|hy
   ·exact ucZ _ y hy
   ·exact adZb n (t.drop (lead x t)) (by rw[List.length_drop];omega) (fun y hy=>h8 y (List.mem_cons_of_mem _ (List.mem_of_mem_drop hy))) y hy
def vbZ(l:List Rec):List Nat:=l.map fun r=>r.time.toNat
def zbZ(l:List Rec):List Nat:=l.map fun r=>r.level.toNat
def bgZ(l:List Rec):List Nat:=ybZ stepT 0 (vbZ l)++lvB (zbZ l)
theorem lqZ{l:List Rec}(h:∀r∈l,whZ r):∀x∈zbZ l,x<=255:=fun x hx=>by
 obtain⟨r,hr,rfl⟩:=List.mem_map.1 hx
 have:=h r hr
 obtain⟨_,_,h1,h2⟩:=this
 omega
theorem ygZb{l:List Rec}(h:∀r∈l,whZ r):∀x∈bgZ l,x<=255:=fun x hx=>by
 rcases List.mem_append.1 hx with hx|hx
 ·exact xsZ xgZb _ _ x hx
 ·exact adZb _ _ (Nat.le_refl _) (lqZ h) x hx
theorem anZ{l:List Rec}(h:∀r∈l,whZ r)(hn:l.length<=1000000):(bgZ l).length<=21*l.length:=by
 have h1:=kqZ zcZb (vbZ l) 0
 have h2:=yyZ _ (zbZ l) (Nat.le_refl _) (lqZ h) (by unfold zbZ;rw[List.length_map];omega)
 unfold vbZ at h1
 unfold zbZ at h2
 rw[List.length_map]at h1 h2
 unfold bgZ
 rw[List.length_append]
 unfold vbZ zbZ
 omega
end Go.Proofs.YtbgoibedicbkjaaGreatDoor.Recs
namespace Go.Proofs.YtbgoibedicbkjaaGreatDoor.Lz
open Go.RowKit Go.Maps Mem Own Canon
open Go.Proofs.YtbgoibedicbkjaaGreatDoor.Toks (Tk)
end Go.Proofs.YtbgoibedicbkjaaGreatDoor.Lz
namespace Go.Proofs.YtbgoibedicbkjaaGreatDoor.Block
open Go.RowKit Mem Own Canon
open NumPut Crc
theorem own_one{w:World}{base:Nat}{x:Value}(hb:base<=w.heap.size):(w.alloc (.cells #[x] 5)).ownsRow base 5 1 (.slice (some ⟨w.heap.size,0,none⟩) 1 1) 1 [x]:=
 ⟨rfl, .inr ⟨w.heap.size,1,#[x],rfl,hb,heap_alloc_new w _,Nat.le_refl _,by unfold maxLen;omega,rfl,rfl⟩⟩
theorem src_part{w:World}{p:Part}{k:Nat}(h:p.Ok w)(hk:p.ls.length=k):Src w p.A k p.c 1 (cZ .u8 p.ls):=by
 subst hk
 exact ugZ h.row rfl h.nil
end Go.Proofs.YtbgoibedicbkjaaGreatDoor.Block
namespace Go.Proofs.YtbgoibedicbkjaaGreatDoor.One
open Go.RowKit Mem Own Canon NumPut Crc
open Recs Opts
open Go.Proofs.YtbgoibedicbkjaaGreatDoor.Block (igZ oZ)
def adZ(v:Nat):List Nat:= [70,73,82,75,v]
def zgZ(b:Bool):Nat:=if b=true then 1 else 0
theorem krZ(S:Nat):∀ (t:List Nat) (h c:Nat),(goG S h c t).sum=c+t.length
 | [],_,c=>by simp[goG]
 |x :: t,h,c=>by
  rw[goG]
  split
  ·rw[List.sum_cons,krZ S t];simp;omega
  ·rw[krZ S t];simp;omega
theorem lrZ(S:Nat):∀ (t:List Nat) (h c:Nat),1<=c->∀x∈goG S h c t,1<=x
 | [],_,c,hc,x,hx=>by rw[goG,List.mem_singleton]at hx;omega
 |y :: t,h,c,hc,x,hx=>by
  rw[goG]at hx
  split at hx
  ·rcases List.mem_cons.1 hx with rfl|hx
   ·exact hc
   ·exact lrZ S t _ 1 (by omega) x hx
  ·exact lrZ S t _ (c+1) (by omega) x hx
theorem xlZ(S:Nat)(l:List Nat):(jfZ S l).sum=l.length:=by
 cases l with
 |nil=>rfl
 |cons x t=>rw[jfZ,krZ];simp;omega
theorem ylZ(S:Nat)(l:List Nat):∀x∈jfZ S l,1<=x:=by
 cases l with
 |nil=>intro x hx;cases hx
 |cons y t=>exact lrZ S t y 1 (by omega)
theorem zlZ:∀ {l:List Nat},(∀x∈l,1<=x)->l.length<=l.sum
 | [],_=>by simp
 |x :: l,h=>by
  have h1:=h x (by simp)
  have h2:=zlZ (l:=l) (fun y hy=>h y (by simp[hy]))
  rw[List.length_cons,List.sum_cons]
  omega
theorem akZ(wh:Bool)(l:List Rec):(vdZ wh l).length=l.length:=by unfold vdZ;rw[List.length_map]
theorem gvZ{P:Program}(w:World)(t ty e:TypeId)(i:TypeInfo)(ht:P.underlying t=some (.slice e))(hi:P.info? e=some i)(hz:i.zero=some (.int .u8 0))(hsize:i.size=1)(hby:i.bytes=1)
 (b:Addr)(n c:Nat)(olds:List Value)(hlo:olds.length=n)(holds:∀j v,olds[j]? =some v->w.cell? (b.add j)=some v)
 (a:Addr)(m c2:Nat)(news:List Value)(hl:news.length=m)(hnews:∀j v,news[j]? =some v->w.cell? (a.add j)=some v)(hg:c<n+m)(h63:n+m<=1000000):
 ∃v' w',(Builtin.append_ #[t,t] ty #[.slice (some b) n c, .slice (some a) m c2]).run P w= .ok v' w'/\w'.ownsRow w.heap.size e 1 v' (n+m) (olds++news)/\Below w.heap.size w w':=by
 have hr:=run_append_grow (P:=P) w t ty e i (.int .u8 0) ht hi hz b n c olds (by rw[hsize];omega) holds a m c2 news (by rw[hsize];omega) hnews hg (by omega) (by rw[hby];exact growslice_fits (by omega) (by omega))
 have hge:=grownCap_ge w (n+m) c e
 have hcm:grownCap w (n+m) c e<=maxLen:=grownCap_le_maxLen w (n+m) c e (by unfold maxLen;omega)
 refine⟨_,_,hr,⟨by rw[List.length_append];omega, .inr ⟨w.heap.size,_,_,rfl,Nat.le_refl _,heap_alloc_new w.drew _,hge,hcm,?_,?_⟩⟩,((Below.refl _ _).drew).alloc (Nat.le_refl _) _⟩
 ·have hz1:(Value.int IntKind.u8 0).cells.size=1:=rfl
  simp only[Array.size_append,List.size_toArray,size_zeroCells,hz1]
  omega
 ·simp only[Array.toList_append,List.append_assoc]
  rw[<-List.append_assoc]
  have hlen:(olds++news).length=(n+m)*1:=by rw[List.length_append];omega
  rw[<-hlen]
  exact List.take_left
theorem mqZ{P:Program}{w:World}{ops:Array Oper}{rest:List Oper}{o:Oper}{a:Act}{Q:Exit->Act->World->Prop}(hgd:o.guard=none)(s x:Operand)(t:TypeId)
 (ho:o.op= .call {callee:= .builtin .append,args:=#[s,x],argTypes:=#[t,t] })(e:TypeId)(i:TypeInfo)(ht:P.underlying t=some (.slice e))(hi:P.info? e=some i)(hz:i.zero=some (.int .u8 0))(hsize:i.size=1)(hby:i.bytes=1)
 (b:Addr)(n c:Nat)(olds:List Value)(hs:a.eval s= .slice (some b) n c)(hlo:olds.length=n)(holds:∀j v,olds[j]? =some v->w.cell? (b.add j)=some v)
 (ad:Addr)(m c2:Nat)(news:List Value)(hx:a.eval x= .slice (some ad) m c2)(hl:news.length=m)(hnews:∀j v,news[j]? =some v->w.cell? (ad.add j)=some v)(hg:c<n+m)(h63:n+m<=1000000)
 (h:∀v' w',w'.ownsRow w.heap.size e 1 v' (n+m) (olds++news)->Below w.heap.size w w'->wpList P ops Q rest (a.put o.dst v') w'):wpList P ops Q (o :: rest) a w:=by
 refine wpList_plain hgd fun K hK=> ?_
 obtain⟨v',w',hr,h2,h3⟩:=gvZ (P:=P) w t o.type e i ht hi hz hsize hby b n c olds hlo holds ad m c2 news hl hnews hg h63
 unfold Oper.wp execOp
 simp only[ho,resolve,invoke,builtin,Sem.run_bind,Sem.run_pure,Result.andThen_ok,List.map_toArray,List.map_cons,List.map_nil,hs,hx,hr]
 exact hK _ _ (h v' w' h2 h3)
end Go.Proofs.YtbgoibedicbkjaaGreatDoor.One
namespace Go.Proofs.YtbgoibedicbkjaaGreatDoor.One
open Go.RowKit Mem Own Canon NumPut Crc
open Recs Opts
open Go.Proofs.YtbgoibedicbkjaaGreatDoor.Block (igZ oZ ieZ)
theorem mrZ{l:List Rec}(h:ymZ l=0):∀r∈l,odZ r=false:=by
 unfold ymZ at h
 split at h
 ·cases h
 ·split at h
  ·cases h
  ·rename_i h1
   intro r hr
   cases hb:odZ r
   ·rfl
   ·exact absurd (List.any_eq_true.2 ⟨r,hr,hb⟩) h1
theorem bdZb{bs:List Nat}(plain:Bool)(h:bs.length<=16000):(igZ bs plain).length<=bs.length+25:=by
 have hb:(Block.slZ bs plain).length<=bs.length:=by
  unfold Block.slZ
  split
  ·rename_i hc
   rw[Bool.and_eq_true]at hc
   have h2:=hc.2
   unfold Block.sqz at h2
   simp at h2
   omega
  ·omega
 have h1:=rZ (x:=bs.length) (by omega)
 have h2:=rZ (x:=(Block.slZ bs plain).length) (by omega)
 unfold igZ Block.fAll Block.fjZb
 simp only[List.length_append,List.length_singleton]
 have:(tbZ (bcZ (([Block.fWay bs plain]++nZ bs.length++nZ (Block.slZ bs plain).length)++Block.slZ bs plain))).length=4:=rfl
 omega
theorem bkZ(wh:Bool)(l:List Rec)(m:Nat):(ifZ wh (l.take m)).length+(ifZ wh (l.drop m)).length=(ifZ wh l).length:=by
 conv=>rhs;rw[<-List.take_append_drop m l]
 unfold ifZ
 rw[List.flatMap_append,List.length_append]
end Go.Proofs.YtbgoibedicbkjaaGreatDoor.One
namespace Go.Proofs.YtbgoibedicbkjaaGreatDoor.One
open Go.RowKit Mem Own Canon NumPut Crc
open Recs Opts
open Go.Proofs.YtbgoibedicbkjaaGreatDoor.Block (igZ oZ ieZ own_one)
def FrsAt(w:World)(base:Nat)(ps:List Part):Prop:=∀p∈ps,w.ownsRow base 5 1 p.v p.ls.length (cZ .u8 p.ls)
theorem FrsAt.step{w w':World}{base:Nat}{ps:List Part}(h:FrsAt w base ps)(hb:Below w.heap.size w w'):FrsAt w' base ps:=fun p hp=>eZ (h p hp) (fun y hy=>hb.block y (World.ownsRow.lt (h p hp) y hy).2)
theorem beZ{w w':World}{base base' s s' n n':Nat}{e e':TypeId}{v v':Value}{xs xs':List Value}(h:w.ownsRow base e s v n xs)(ho:w.ownsRow base' e' s' v' n' xs')(hne:e≠e')(hg:w.grownBy w' v'.ownBlock):w'.ownsRow base e s v n xs:=
 eZ h (fun y hy=>hg.block y (World.ownsRow.lt h y hy).2 (fun e=>by
  rcases ddZ h ho hne with h0|h0
  ·rw[h0]at hy;cases hy
  ·exact h0 (hy.trans e)))
theorem FrsAt.grown{w w':World}{base base' n:Nat}{v:Value}{xs:List Value}{ps:List Part}(h:FrsAt w base ps)(ho:w.ownsRow base' 22 1 v n xs)(hg:w.grownBy w' v.ownBlock):FrsAt w' base ps:=fun p hp=>
 beZ (h p hp) ho (by decide) hg
theorem FrsAt.snoc{w:World}{base:Nat}{ps:List Part}{p:Part}(h:FrsAt w base ps)(hp:w.ownsRow base 5 1 p.v p.ls.length (cZ .u8 p.ls)):FrsAt w base (ps++ [p]):=fun q hq=>by
 rcases List.mem_append.1 hq with hq|hq
 ·exact h q hq
 ·rw[List.mem_singleton.1 hq];exact hp
theorem xkZ:(Tryz.prog.info? 22).map (fun i=>(i.zero,i.size,i.bytes))=some (some (.slice none 0 0),1,24):=by kernel_rfl
end Go.Proofs.YtbgoibedicbkjaaGreatDoor.One
namespace Go.Proofs.YtbgoibedicbkjaaGreatDoor.One
open Go.RowKit Mem Own Canon NumPut Crc
open Recs Opts
open Go.Proofs.YtbgoibedicbkjaaGreatDoor.Block (igZ oZ)
theorem wjZb{w:World}{base n:Nat}{cs:Array Value}(hb:base<=w.heap.size)(hn:cs.size=n)(hm:n<=maxLen):(w.alloc (.cells cs 5)).ownsRow base 5 1 (.slice (some ⟨w.heap.size,0,none⟩) n n) n cs.toList:=
 ⟨by simpa using hn, .inr ⟨w.heap.size,n,cs,rfl,hb,heap_alloc_new w _,Nat.le_refl _,hm,by omega,by rw[Nat.mul_one,<-hn,<-Array.length_toList,List.take_length]⟩⟩
theorem zyZ{fs:List (List Nat)}{x:List Nat}(h:x∈fs):x.length<=fs.flatten.length:=by
 induction fs with
 |nil=>cases h
 |cons y t ih=>
  rw[List.flatten_cons,List.length_append]
  rcases List.mem_cons.1 h with rfl|h
  ·omega
  ·have:=ih h;omega
end Go.Proofs.YtbgoibedicbkjaaGreatDoor.One
namespace Go.Proofs.YtbgoibedicbkjaaGreatDoor.One
open Go.RowKit Mem Own Canon NumPut Crc
open Recs Opts
open Go.Proofs.YtbgoibedicbkjaaGreatDoor.Block (igZ oZ)
end Go.Proofs.YtbgoibedicbkjaaGreatDoor.One
namespace Go.Proofs.YtbgoibedicbkjaaGreatDoor.Opts
open Go.RowKit Mem
def mdZ(o:Opt):Int:=if(16<=o.block/\o.block<=32768)/\(1<=o.bucket/\o.bucket<=64)/\(o.data=0/\o.parity=0/\o.chunk=0)then 0 else 9
theorem laZb{o:Opt}(h:mdZ o≠0):mdZ o=9:=by
 unfold mdZ at h ⊢
 split
 ·rename_i hc;rw[if_pos hc]at h;exact absurd rfl h
 ·rfl
def Opt.body(o:Opt):Opt:=⟨o.block,o.plain,o.bucket,0,0,0⟩
def oeZ(o:Opt):Int:=mdZ o.body
theorem uiZ(w:World)(o:Opt):
 Calls Tryz.prog 78 #[.int .i64 2,o.val] w fun e w'=>e= .returned (.int .i64 (mdZ o))/\Below w.heap.size w w':=by
 obtain⟨bl,pl,bu,da,pa,ch⟩:=o
 unfold Opt.val mdZ
 simp only
 have D:=hid (fun wx=>gjZ wx bl 16 32768)
 have DB:=hid (fun wx=>gjZ wx bu 1 64)
 have HE:=hrZ pl pl bl bl 0 0 da 0 pa 0 ch 0
 by_cases hb:16<=bl/\bl<=32768
 ·rw[decide_eq_true hb]at D
  by_cases hu:1<=bu/\bu<=64
  ·rw[decide_eq_true hu]at DB
   by_cases hz:da=0/\pa=0/\ch=0
   ·rw[if_pos ⟨hb,hu,hz⟩]
    have hd:decide (bl=bl/\pl=pl/\(0:Int)=0/\da=0/\pa=0/\ch=0)=true:=decide_eq_true ⟨rfl,rfl,rfl,hz⟩
    rw[hd]at HE
    clear hb hz hd hu
    go_enter Tryz.func78,Tryz.ntmps78
    go_wp2_with fail
    refine(D.out _).mono ?_
    rintro e w1 ⟨rfl,rfl⟩
    go_wp2_with fail
    refine(DB.out _).mono ?_
    rintro e w1 ⟨rfl,rfl⟩
    go_wp2_with fail
    go_ret
    exact⟨rfl,by(repeat(first|(with_reducible first|exact Below.refl _ _|assumption|refine Below.drew ?_|refine below_drewN ?_ _|refine aZ ?_|refine dZ (by assumption) ?_)|((with_reducible first|refine fZ ?_ ?_|refine gZ ?_ ?_|refine iZ (by assumption) ?_ ?_);(focus(first|(simp;done)|(simp;omega)|omega|(simp at *;omega))))))⟩
   ·rw[if_neg (fun h=>hz h.2.2)]
    have hd:decide (bl=bl/\pl=pl/\(0:Int)=0/\da=0/\pa=0/\ch=0)=false:=decide_eq_false (fun h=>hz h.2.2.2)
    rw[hd]at HE
    clear hb hz hd hu
    go_enter Tryz.func78,Tryz.ntmps78
    go_wp2_with fail
    refine(D.out _).mono ?_
    rintro e w1 ⟨rfl,rfl⟩
    go_wp2_with fail
    refine(DB.out _).mono ?_
    rintro e w1 ⟨rfl,rfl⟩
    go_wp2_with fail
    go_ret
    exact⟨rfl,by(repeat(first|(with_reducible first|exact Below.refl _ _|assumption|refine Below.drew ?_|refine below_drewN ?_ _|refine aZ ?_|refine dZ (by assumption) ?_)|((with_reducible first|refine fZ ?_ ?_|refine gZ ?_ ?_|refine iZ (by assumption) ?_ ?_);(focus(first|(simp;done)|(simp;omega)|omega|(simp at *;omega))))))⟩
  ·rw[decide_eq_false hu]at DB
   rw[if_neg (fun h=>hu h.2.1)]
   clear hb hu HE
   go_enter Tryz.func78,Tryz.ntmps78
   go_wp2_with fail
   refine(D.out _).mono ?_
   rintro e w1 ⟨rfl,rfl⟩
   go_wp2_with fail
   refine(DB.out _).mono ?_
   rintro e w1 ⟨rfl,rfl⟩
   go_wp2_with fail
   go_ret
   exact⟨rfl,by(repeat(first|(with_reducible first|exact Below.refl _ _|assumption|refine Below.drew ?_|refine below_drewN ?_ _|refine aZ ?_|refine dZ (by assumption) ?_)|((with_reducible first|refine fZ ?_ ?_|refine gZ ?_ ?_|refine iZ (by assumption) ?_ ?_);(focus(first|(simp;done)|(simp;omega)|omega|(simp at *;omega))))))⟩
 ·rw[decide_eq_false hb]at D
  rw[if_neg (fun h=>hb h.1)]
  clear hb HE DB
  go_enter Tryz.func78,Tryz.ntmps78
  go_wp2_with fail
  refine(D.out _).mono ?_
  rintro e w1 ⟨rfl,rfl⟩
  go_wp2_with fail
  go_ret
  exact⟨rfl,by(repeat(first|(with_reducible first|exact Below.refl _ _|assumption|refine Below.drew ?_|refine below_drewN ?_ _|refine aZ ?_|refine dZ (by assumption) ?_)|((with_reducible first|refine fZ ?_ ?_|refine gZ ?_ ?_|refine iZ (by assumption) ?_ ?_);(focus(first|(simp;done)|(simp;omega)|omega|(simp at *;omega))))))⟩
theorem bnZ(w:World)(o:Opt):
 Calls Tryz.prog 43 #[.int .i64 2,o.val] w fun e w'=>e= .returned (.int .i64 (mdZ o))/\Below w.heap.size w w':=by
 obtain⟨bl,pl,bu,da,pa,ch⟩:=o
 unfold Opt.val mdZ
 simp only
 by_cases h1:bl<16
 ·rw[if_neg (by omega)]
  have g1:decide (bl<16)=true:=by simpa using h1
  go_enter Tryz.func43,Tryz.ntmps43
  go_wp2_with fail
  go_ret
  exact⟨rfl,by(repeat(first|(with_reducible first|exact Below.refl _ _|assumption|refine Below.drew ?_|refine below_drewN ?_ _|refine aZ ?_|refine dZ (by assumption) ?_)|((with_reducible first|refine fZ ?_ ?_|refine gZ ?_ ?_|refine iZ (by assumption) ?_ ?_);(focus(first|(simp;done)|(simp;omega)|omega|(simp at *;omega))))))⟩
 have g1:decide (bl<16)=false:=by simpa using h1
 by_cases h2:32768<bl
 ·rw[if_neg (by omega)]
  have g2:decide (32768<bl)=true:=by simpa using h2
  clear h1
  go_enter Tryz.func43,Tryz.ntmps43
  go_wp2_with fail
  go_ret
  exact⟨rfl,by(repeat(first|(with_reducible first|exact Below.refl _ _|assumption|refine Below.drew ?_|refine below_drewN ?_ _|refine aZ ?_|refine dZ (by assumption) ?_)|((with_reducible first|refine fZ ?_ ?_|refine gZ ?_ ?_|refine iZ (by assumption) ?_ ?_);(focus(first|(simp;done)|(simp;omega)|omega|(simp at *;omega))))))⟩
 have g2:decide (32768<bl)=false:=by simpa using h2
 by_cases h3:bu<1
 ·rw[if_neg (by omega)]
  have g3:decide (bu<1)=true:=by simpa using h3
  clear h1 h2
  go_enter Tryz.func43,Tryz.ntmps43
  go_wp2_with fail
  go_ret
  exact⟨rfl,by(repeat(first|(with_reducible first|exact Below.refl _ _|assumption|refine Below.drew ?_|refine below_drewN ?_ _|refine aZ ?_|refine dZ (by assumption) ?_)|((with_reducible first|refine fZ ?_ ?_|refine gZ ?_ ?_|refine iZ (by assumption) ?_ ?_);(focus(first|(simp;done)|(simp;omega)|omega|(simp at *;omega))))))⟩
 have g3:decide (bu<1)=false:=by simpa using h3
 by_cases h4:64<bu
 ·rw[if_neg (by omega)]
  have g4:decide (64<bu)=true:=by simpa using h4
  clear h1 h2 h3
  go_enter Tryz.func43,Tryz.ntmps43
  go_wp2_with fail
  go_ret
  exact⟨rfl,by(repeat(first|(with_reducible first|exact Below.refl _ _|assumption|refine Below.drew ?_|refine below_drewN ?_ _|refine aZ ?_|refine dZ (by assumption) ?_)|((with_reducible first|refine fZ ?_ ?_|refine gZ ?_ ?_|refine iZ (by assumption) ?_ ?_);(focus(first|(simp;done)|(simp;omega)|omega|(simp at *;omega))))))⟩
 have g4:decide (64<bu)=false:=by simpa using h4
 by_cases h5:da=0
 ·by_cases h6:pa=0
  ·by_cases h7:ch=0
   ·rw[if_pos ⟨by omega,by omega,h5,h6,h7⟩]
    subst h5 h6 h7
    clear h1 h2 h3 h4
    go_enter Tryz.func43,Tryz.ntmps43
    go_wp2_with fail
    go_ret
    exact⟨rfl,by(repeat(first|(with_reducible first|exact Below.refl _ _|assumption|refine Below.drew ?_|refine below_drewN ?_ _|refine aZ ?_|refine dZ (by assumption) ?_)|((with_reducible first|refine fZ ?_ ?_|refine gZ ?_ ?_|refine iZ (by assumption) ?_ ?_);(focus(first|(simp;done)|(simp;omega)|omega|(simp at *;omega))))))⟩
   ·rw[if_neg (by omega)]
    have g7:(ch != 0)=true:=by simpa using h7
    subst h5 h6
    clear h1 h2 h3 h4 h7
    go_enter Tryz.func43,Tryz.ntmps43
    go_wp2_with fail
    go_ret
    exact⟨rfl,by(repeat(first|(with_reducible first|exact Below.refl _ _|assumption|refine Below.drew ?_|refine below_drewN ?_ _|refine aZ ?_|refine dZ (by assumption) ?_)|((with_reducible first|refine fZ ?_ ?_|refine gZ ?_ ?_|refine iZ (by assumption) ?_ ?_);(focus(first|(simp;done)|(simp;omega)|omega|(simp at *;omega))))))⟩
  ·rw[if_neg (by omega)]
   have g6:(pa != 0)=true:=by simpa using h6
   subst h5
   clear h1 h2 h3 h4 h6
   go_enter Tryz.func43,Tryz.ntmps43
   go_wp2_with fail
   go_ret
   exact⟨rfl,by(repeat(first|(with_reducible first|exact Below.refl _ _|assumption|refine Below.drew ?_|refine below_drewN ?_ _|refine aZ ?_|refine dZ (by assumption) ?_)|((with_reducible first|refine fZ ?_ ?_|refine gZ ?_ ?_|refine iZ (by assumption) ?_ ?_);(focus(first|(simp;done)|(simp;omega)|omega|(simp at *;omega))))))⟩
 ·rw[if_neg (by omega)]
  have g5:(da != 0)=true:=by simpa using h5
  clear h1 h2 h3 h4 h5
  go_enter Tryz.func43,Tryz.ntmps43
  go_wp2_with fail
  go_ret
  exact⟨rfl,by(repeat(first|(with_reducible first|exact Below.refl _ _|assumption|refine Below.drew ?_|refine below_drewN ?_ _|refine aZ ?_|refine dZ (by assumption) ?_)|((with_reducible first|refine fZ ?_ ?_|refine gZ ?_ ?_|refine iZ (by assumption) ?_ ?_);(focus(first|(simp;done)|(simp;omega)|omega|(simp at *;omega))))))⟩
theorem nqZ(w:World)(o:Opt):
 Calls Tryz.prog 48 #[o.val] w fun e w'=>e= .returned (.int .i64 (oeZ o))/\Below w.heap.size w w':=by
 have D:=hid (fun wx=>uiZ wx o.body)
 unfold oeZ
 obtain⟨bl,pl,bu,da,pa,ch⟩:=o
 unfold Opt.body Opt.val at D
 unfold Opt.val Opt.body
 simp only at D ⊢
 generalize mdZ ⟨bl,pl,bu,0,0,0⟩=E at *
 go_enter Tryz.func48,Tryz.ntmps48
 go_wp2_with fail
 refine(D.out _).mono ?_
 rintro e w1 ⟨rfl,hb⟩
 have HB:=hid hb
 clear hb D
 go_wp2_with fail
 go_ret
 exact⟨rfl,dZ HB.out (aZ (Below.refl _ _))⟩
theorem pxZ(w:World)(o:Opt):
 Calls Tryz.prog 68 #[o.val] w fun e w'=>e= .returned (.int .i64 (oeZ o))/\Below w.heap.size w w':=by
 have D:=hid (fun wx=>bnZ wx o.body)
 unfold oeZ
 obtain⟨bl,pl,bu,da,pa,ch⟩:=o
 unfold Opt.body Opt.val at D
 unfold Opt.val Opt.body
 simp only at D ⊢
 generalize mdZ ⟨bl,pl,bu,0,0,0⟩=E at *
 go_enter Tryz.func68,Tryz.ntmps68
 go_wp2_with fail
 refine(D.out _).mono ?_
 rintro e w1 ⟨rfl,hb⟩
 have HB:=hid hb
 clear hb D
 go_wp2_with fail
 go_ret
 exact⟨rfl,dZ HB.out (aZ (Below.refl _ _))⟩
end Go.Proofs.YtbgoibedicbkjaaGreatDoor.Opts
namespace Go.Proofs.YtbgoibedicbkjaaGreatDoor.Ef
open Go.RowKit Mem Own Canon Huff
theorem cdZb(K:Nat->Prop)(w:World)(g base:Nat)(t:TypeId)(rest:List Value)(v:Value)(bs:List Bool)(n:Nat)(hn:n<=100000)(hle:bs.length+n<=5000000)(hW:Wr K w base g t rest bs v):
 Calls Tryz.prog 154 #[.pointer (some ⟨g,0,none⟩), .int .i64 (n:Nat)] w fun e w'=>e= .returned (.int .i64 0)/\∃v',Wr K w' base g t rest (bs++unary n) v'/\Kept K w w':=by
 have HLE:=hid hle
 have HW0:Hid (Wr K w base g t rest (bs++List.replicate 0 false) v):=by show Wr _ _ _ _ _ _ _ _;rw[List.replicate_zero,List.append_nil];exact hW
 have y1:decide ((n:Int)<0)=false:=by simp
 have y2:decide ((100000:Int)<(n:Int))=false:=by simp;omega
 have y2':decide (100000<n)=false:=by simp;omega
 clear hW hle
 go_enter Tryz.func154,Tryz.ntmps154
 go_wp2_with fail
 go_loopw [16] (fun i wr=>∃ (j:Nat) (v':Value),j<=n/\i= .int .i64 j/\Hid (Wr K wr base g t rest (bs++List.replicate j false) v')/\Hid (Kept K w wr)) (fun i _=>n-(intOf i).toNat)
 case atStart=>exact⟨0,v,by omega,rfl,HW0.out,Kept.refl _ _⟩
 case round=>
  obtain⟨j,v',hj,rfl,HWr,HK⟩:=hrel
  clear HW0
  by_cases hlt:j<n
  ·have gk:decide ((j:Int)<(n:Int))=true:=by simp;omega
   have gk':decide (j<n)=true:=by simp;omega
   have C:=hid (frZ K wr g base t rest v' (bs++List.replicate j false) false (by rw[List.length_append,List.length_replicate];have:=HLE.out;omega) HWr.out)
   clear HWr
   go_wp2_with(go_at_call 199;refine C.out.mono ?_;rintro e w2 ⟨rfl,v2,hW2,hk2⟩)
   have HW2:Hid (Wr K w2 base g t rest (bs++List.replicate (j+1) false) v2):=by
    show Wr _ _ _ _ _ _ _ _
    rw[List.replicate_succ',<-List.append_assoc]
    exact hW2
   have HK2:Hid (Kept K w w2):=HK.out.trans hk2
   clear hW2 hk2 HK C
   go_roundw
   case measure=>go_light;simp[intOf];omega
   case rel=>go_light;exact⟨j+1,v2,by omega,by first|rfl|go_num,HW2.out,HK2.out⟩
  ·obtain rfl:j=n:=by omega
   have gk:decide ((j:Int)<(j:Int))=false:=by simp
   have gk':decide (j<j)=false:=by simp
   have C:=hid (frZ K wr g base t rest v' (bs++List.replicate j false) true (by rw[List.length_append,List.length_replicate];have:=HLE.out;omega) HWr.out)
   clear HWr
   go_wp2_with(go_at_call 199;refine C.out.mono ?_;rintro e w2 ⟨rfl,v2,hW2,hk2⟩)
   go_ret
   refine⟨rfl,v2,?_,HK.out.trans hk2⟩
   unfold unary
   rw[<-List.append_assoc]
   exact hW2
end Go.Proofs.YtbgoibedicbkjaaGreatDoor.Ef
namespace Go.Proofs.YtbgoibedicbkjaaGreatDoor.Nums
open Go.RowKit Mem Own Canon NumPut
open Go.Proofs.YtbgoibedicbkjaaGreatDoor.Crc (uZ hbZ fcZ)
def xhZ(ls:List Nat):ByteArray:=⟨(ls.map UInt8.ofNat).toArray⟩
theorem xjZb{ls:List Nat}(h:∀x∈ls,x<=255):sB (xhZ ls)=ls:=by
 unfold sB xhZ
 simp only[List.map_map]
 conv=>rhs;rw[<-List.map_id ls]
 refine List.map_congr_left fun x hx=> ?_
 have:=h x hx
 simp[UInt8.toNat_ofNat']
 omega
theorem nrZ{w:World}{B n c:Nat}{A:Option Addr}{ls:List Nat}(hr:Row w B A n 1 (mZ .u8 ls))(hn:ls.length=n):
 (convert 22 9 (.slice A n c)).run Tryz.prog w= .ok (.string (xhZ ls)) w:=by
 have e:xhZ ls=strOfNums (ls.map Int.ofNat):=by
  unfold xhZ strOfNums
  rw[List.map_map]
  rfl
 rcases Nat.eq_zero_or_pos n with h0|h0
 ·subst h0
  obtain rfl:=List.length_eq_zero_iff.1 hn
  cases A with
  |none=>exact run_convert_bytes_nil w _ _ Tryz.underlying22 Tryz.underlying5 _ _ _ Tryz.underlying9
  |some a=>
   rw[run_convert_bytes_string w _ _ _ _ _ _ Tryz.underlying22 Tryz.underlying5 Tryz.underlying9]
   rw[run_bytesToString w a 0 c [] (run_loadCells_list (P:=Tryz.prog) w a [] (fun j v hj=>by cases hj))]
   rfl
 ·obtain⟨b,off,rfl,_,hc⟩:=hr h0
  rw[e]
  refine run_convert_bytes_arg w _ _ Tryz.underlying22 Tryz.underlying5 b off n c (ls.map Int.ofNat) (by simpa using hn) (fun i hi=> ?_) _ Tryz.underlying9
  have:=hc i 0 hi (by omega)
  rw[Nat.mul_one,Nat.add_zero]at this
  rw[this]
  unfold mZ
  congr 2
  simp[List.getD_eq_getElem?_getD,List.getElem?_map,List.getElem?_eq_getElem (show i<ls.length by omega)]
theorem left_any(w:World)(g base:Nat)(bs:List Nat)(A:Option Addr)(c at_:Nat)(er:Int)(h:Cur w g base bs A c at_ er):
 Calls Tryz.prog 164 #[.pointer (some ⟨g,0,none⟩)] w fun e w'=>e= .returned (.int .i64 (bs.length-at_:Nat))/\∃q,w'=w.drewN q:=by
 have D:=hid (wuZ w g base bs A c at_ er h)
 clear h
 generalize bs.length-at_=m at *
 go_enter Tryz.func164,Tryz.ntmps164
 go_wp2_with fail
 refine D.out.mono ?_
 rintro e w2 ⟨rfl,q,rfl⟩
 go_wp2_with fail
 go_ret
 exact⟨rfl,q,rfl⟩
theorem qxZ(w:World)(g base ob:Nat)(bs:List Nat)(A:Option Addr)(c at_:Nat)(hle:bs.length<=100000)(h8:∀x∈bs,x<=255)(h:Cur w g base bs A c at_ 0)(hob:Blk w ob 57 #[.int .u64 0]):
 Calls Tryz.prog 239 #[.slice (sZ A at_ c 1) (bs.length-at_) (c-at_), .pointer (some ⟨ob,0,none⟩)] w fun e w'=>∃ (k:Nat) (e2:Int),e= .returned (.tuple #[.int .i64 k, .int .i64 e2])/\k<=100000/\Cur w' g base bs A c at_ 0/\
  (Kept (fun x=>x≠ob) w w'/\k=(bbZ (bs.drop at_) 0 0).2.1/\e2=(bbZ (bs.drop at_) 0 0).2.2/\Blk w' ob 57 #[.int .u64 (bbZ (bs.drop at_) 0 0).1]):=by
 have f1:=hob.frozen 0
 have d1:=hob.cell 0
 simp only[List.getElem?_toArray,List.getElem?_cons_zero]at d1
 have hwf:=lfZ h.own
 have hrow:=uZ (own_row h.own) h.le hwf.2
 have h8':∀x∈bs.drop at_,x<=255:=fun x hx=>h8 x (List.mem_of_mem_drop hx)
 have D:=vuZ w (sZ A at_ c 1) (bs.length-at_) (c-at_) (bs.drop at_) (by rw[List.length_drop]) (by omega) h8' hrow
 have hsp:=ydZ (bs.drop at_) 0 0 h8' (by omega) (by simp)
 have hk:(bbZ (bs.drop at_) 0 0).2.1<=100000:=by have:=hsp.2.1;rw[List.length_drop]at this;omega
 generalize bbZ (bs.drop at_) 0 0=R at *
 have hne1:=Blk.apart hob h.blk (by decide)
 have D:=hid D
 have H:=hid h
 have HO:=hid hob
 generalize sZ A at_ c 1=A1 at *
 clear hrow h8' hsp h hob hwf
 go_enter Tryz.func239,Tryz.ntmps239
 go_wp2_with fail
 refine D.out.mono ?_
 rintro e w1 ⟨rfl,rfl⟩
 go_wp2_with fail
 go_ret2
 refine⟨R.2.1,R.2.2,rfl,hk,?_,(Kept.refl _ _).set (fun h=>h rfl) _,rfl,rfl,HO.out.set 0 _⟩
 exact⟨H.out.blk.far (fun e=>hne1 e.symm) _,vZ H.out.own (jZ H.out.own HO.out (by decide)) _,H.out.le,H.out.lo⟩
theorem num_any(w:World)(g base:Nat)(bs:List Nat)(A:Option Addr)(c at_:Nat)(er:Int)(hle:bs.length<=100000)(h8:∀x∈bs,x<=255)(h:Cur w g base bs A c at_ er):
 Calls Tryz.prog 205 #[.pointer (some ⟨g,0,none⟩)] w fun e w'=>e= .returned (.int .u64 (heZ bs at_ er:Nat))/\Cur w' g base bs A c (vfZ bs at_ er) (wfZ bs at_ er)/\Kept (ebZ g w) w w':=by
 have hgl:=h.blk.lt
 have h2:Cur (w.alloc (.cells #[.int .u64 0] 57)) g base bs A c at_ er:=(h.step (aZ (Below.refl _ _)))
 have hob:Blk (w.alloc (.cells #[.int .u64 0] 57)) w.heap.size 57 #[.int .u64 0]:=Blk.made _ _ _
 have hk2:Kept (fun x=>x<w.heap.size/\x≠g) w (w.alloc (.cells #[.int .u64 0] 57)):=Kept.of_below (by(repeat(first|(with_reducible first|exact Below.refl _ _|assumption|refine Below.drew ?_|refine below_drewN ?_ _|refine aZ ?_|refine dZ (by assumption) ?_)|((with_reducible first|refine fZ ?_ ?_|refine gZ ?_ ?_|refine iZ (by assumption) ?_ ?_);(focus(first|(simp;done)|(simp;omega)|omega|(simp at *;omega)))))):Below w.heap.size w _) (fun x hx=>hx.1)
 have hat:=h.le
 unfold ebZ
 by_cases he:er=0
 ·subst he
  have hKf:∀args wx,(callFunc 239 args).run Tryz.prog wx= .ok (.enter 239 args) wx:=by
   intro args wx;simp[callFunc,go_sem,Tryz.func239];rfl
  have D:=fun w2 (hc2:Cur w2 g base bs A c at_ 0) (hob:Blk w2 w.heap.size 57 #[.int .u64 0])=>qnZ w2 g base bs A c at_ hc2 hle 239 #[.pointer (some ⟨w.heap.size,0,none⟩)]
   (fun k e2 w'=>Kept (fun x=>x≠w.heap.size) w2 w'/\k=(bbZ (bs.drop at_) 0 0).2.1/\e2=(bbZ (bs.drop at_) 0 0).2.2/\Blk w' w.heap.size 57 #[.int .u64 (bbZ (bs.drop at_) 0 0).1]) hKf
   (fun q=>(qxZ (w2.drewN q) g base w.heap.size bs A c at_ hle h8 (hc2.drewN q) (hob.drewN q)).mono fun e w' ⟨k,e2,h1,h2,h3,h4⟩=>⟨k,e2,h1,h2,h3,⟨⟨h4.1.os,h4.1.tape,h4.1.output,h4.1.size,h4.1.block⟩,h4.2⟩⟩)
  have D:=hid (D _ h2 hob)
  have h8':∀x∈bs.drop at_,x<=255:=fun x hx=>h8 x (List.mem_of_mem_drop hx)
  have hsp:=ydZ (bs.drop at_) 0 0 h8' (by omega) (by simp)
  rw[List.length_drop]at hsp
  have eV:heZ bs at_ 0=(bbZ (bs.drop at_) 0 0).1:=if_neg (by simp)
  have eA:vfZ bs at_ 0=at_+(bbZ (bs.drop at_) 0 0).2.1:=if_neg (by simp)
  have eE:wfZ bs at_ 0=(bbZ (bs.drop at_) 0 0).2.2:=if_neg (by simp)
  rw[eV,eA,eE]
  generalize bbZ (bs.drop at_) 0 0=R at *
  have HK:=hid hk2
  have hgo:w.heap.size≠g:=by omega
  have HSP:=hid hsp
  clear hKf h2 hob hk2 h8' hsp eV eA eE
  by_cases hR:R.2.2=0
  ·have hfit:at_+R.2.1<=bs.length:=by have:=HSP.out.2.1;omega
   go_enter Tryz.func205,Tryz.ntmps205
   go_wp2_with fail
   refine D.out.mono ?_
   rintro e w4 ⟨k,e2,w3,⟨hk3,hkk,hee,hblk⟩,hc3,hcase⟩
   rcases hcase with ⟨h0,_,_⟩|⟨_,rfl,rfl⟩
   ·exact absurd (hee.trans hR) h0
   ·have HK3:Hid (Kept (fun x=>x<w.heap.size/\x≠g) w w3):=HK.out.trans ⟨hk3.os,hk3.tape,hk3.output,hk3.size,fun x hx=>hk3.block x (by omega)⟩
    have hB:=hblk.far (fun e=>hgo e) (p:=⟨g,1,none⟩) (.int .i64 (at_+k:Nat))
    have d0:=hB.cell 0
    simp only[List.getElem?_toArray,List.getElem?_cons_zero]at d0
    have HC:=hid (hc3.setAt (at_+k) (by omega))
    rw[hkk]at HC
    have HK4:Hid (Kept (fun x=>x<w.heap.size/\x≠g) w (w3.setCell ⟨g,1,none⟩ (.int .i64 (at_+k:Nat)))):=HK3.out.set (fun h=>h.2 rfl) _
    rw[<-hkk]at HC
    have HC2:Hid (Cur (w3.setCell ⟨g,1,none⟩ (.int .i64 (at_+k:Nat))) g base bs A c (at_+R.2.1) R.2.2):=by rw[hR,<-hkk];exact HC.out
    generalize w3.setCell ⟨g,1,none⟩ (.int .i64 (at_+k:Nat))=w5 at *
    clear hB hblk hc3 hk3 D HK3 HK hkk hee HC hR
    go_wp2_with fail
    go_ret
    exact⟨rfl,HC2.out,HK4.out⟩
  ·have hz:=HSP.out.2.2.2.1 hR
   go_enter Tryz.func205,Tryz.ntmps205
   go_wp2_with fail
   refine D.out.mono ?_
   rintro e w4 ⟨k,e2,w3,⟨hk3,hkk,hee,hblk⟩,hc3,hcase⟩
   rcases hcase with ⟨_,rfl,rfl⟩|⟨h0,_,_⟩
   ·have HK3:Hid (Kept (fun x=>x<w.heap.size/\x≠g) w w3):=HK.out.trans ⟨hk3.os,hk3.tape,hk3.output,hk3.size,fun x hx=>hk3.block x (by omega)⟩
    have HC2:Hid (Cur (w3.setCell ⟨g,2,none⟩ (.int .i64 e2)) g base bs A c (at_+R.2.1) R.2.2):=by rw[hz.2,<-hee];exact hc3.setErr e2
    have HK4:Hid (Kept (fun x=>x<w.heap.size/\x≠g) w (w3.setCell ⟨g,2,none⟩ (.int .i64 e2))):=HK3.out.set (fun h=>h.2 rfl) _
    generalize w3.setCell ⟨g,2,none⟩ (.int .i64 e2)=w5 at *
    have HZ:=hid hz.1
    clear hblk hc3 hk3 D HK3 HK hkk hee hR hz
    go_wp2_with fail
    go_ret
    exact⟨by rw[HZ.out];rfl,HC2.out,HK4.out⟩
   ·exact absurd (hee.symm.trans h0) hR
 ·have D:=hid (plZ _ g base bs A c at_ er h2 he (.func (.func 239) #[] #[.pointer (some ⟨w.heap.size,0,none⟩)]))
  have eV:heZ bs at_ er=0:=if_pos he
  have eA:vfZ bs at_ er=at_:=if_pos he
  have eE:wfZ bs at_ er=er:=if_pos he
  rw[eV,eA,eE]
  have HK:=hid hk2
  have HC:=hid h2
  clear h2 hob hk2 he eV eA eE
  go_enter Tryz.func205,Tryz.ntmps205
  go_wp2_with fail
  refine D.out.mono ?_
  rintro e w4 ⟨rfl,rfl⟩
  go_wp2_with fail
  go_ret
  exact⟨rfl,HC.out,HK.out⟩
end Go.Proofs.YtbgoibedicbkjaaGreatDoor.Nums
namespace Go.Proofs.YtbgoibedicbkjaaGreatDoor.Nums
open Go.RowKit Mem Own Canon NumPut
open Go.Proofs.YtbgoibedicbkjaaGreatDoor.Crc (uZ hbZ fcZ)
def edZ(most:Nat)(ls:List Nat):List Nat×Nat×Int:=
 if(mbZ most ls).2.2≠0 then([],0,(mbZ most ls).2.2)else if ls.length-(mbZ most ls).2.1<(mbZ most ls).1 then([],0,1)else((ls.drop (mbZ most ls).2.1).take (mbZ most ls).1,(mbZ most ls).2.1+(mbZ most ls).1,0)
theorem ysZ(most:Nat)(ls:List Nat)(h8:∀c∈ls,c<=255):(edZ most ls).1.length<=most/\(edZ most ls).2.1<=ls.length/\((edZ most ls).2.2=0->1<=(edZ most ls).2.1)/\((edZ most ls).2.2≠0->(edZ most ls).1= []/\(edZ most ls).2.1=0)/\(∀x∈(edZ most ls).1,x<=255)/\0<=(edZ most ls).2.2/\(edZ most ls).2.2<=6:=by
 have h:=tdZ most ls h8
 unfold edZ
 split
 ·rename_i he
  exact⟨by simp,by simp,fun h0=>absurd h0 he,fun _=>⟨rfl,rfl⟩,fun x hx=>by simp at hx,h.2.2.2.2.1,h.2.2.2.2.2⟩
 ·split
  ·exact⟨by simp,by simp,fun h0=>absurd h0 (by decide),fun _=>⟨rfl,rfl⟩,fun x hx=>by simp at hx,by simp,by simp⟩
  ·rename_i he hl
   have h1:=h.2.2.1 (by omega)
   exact⟨by rw[List.length_take];have:=h.1;omega,by have:=h.2.1;simp only;omega,fun _=>by simp only;omega,fun h0=>absurd rfl h0,fun x hx=>h8 x (List.mem_of_mem_drop (List.mem_of_mem_take hx)),by simp,by simp⟩
def afZ(most:Nat)(bs:List Nat)(at_:Nat)(er:Int):List Nat:=if er≠0 then []else(edZ most (bs.drop at_)).1
def ahZ(most:Nat)(bs:List Nat)(at_:Nat)(er:Int):Nat:=if er≠0 then at_ else at_+(edZ most (bs.drop at_)).2.1
def bhZ(most:Nat)(bs:List Nat)(at_:Nat)(er:Int):Int:=if er≠0 then er else(edZ most (bs.drop at_)).2.2
theorem hvZ(w:World)(g base mb ob:Nat)(bs:List Nat)(A:Option Addr)(c at_ most:Nat)(hle:bs.length<=100000)(h8:∀x∈bs,x<=255)(hmost:most<=1000000000)(h:Cur w g base bs A c at_ 0)(hmb:Blk w mb 3 #[.int .i64 most])(hob:Blk w ob 9 #[.string ⟨#[]⟩]):
 Calls Tryz.prog 248 #[.slice (sZ A at_ c 1) (bs.length-at_) (c-at_), .pointer (some ⟨mb,0,none⟩), .pointer (some ⟨ob,0,none⟩)] w fun e w'=>∃ (k:Nat) (e2:Int),e= .returned (.tuple #[.int .i64 k, .int .i64 e2])/\k<=100000/\Cur w' g base bs A c at_ 0/\
  (Kept (fun x=>x<w.heap.size/\x≠ob) w w'/\k=(edZ most (bs.drop at_)).2.1/\e2=(edZ most (bs.drop at_)).2.2/\Blk w' ob 9 #[.string (xhZ (edZ most (bs.drop at_)).1)]):=by
 have d0:=hmb.cell 0
 have f1:=hob.frozen 0
 have d1:=hob.cell 0
 simp only[List.getElem?_toArray,List.getElem?_cons_zero]at d0 d1
 have hwf:=lfZ h.own
 have hat:=h.le
 have hrow:=uZ (own_row h.own) h.le hwf.2
 have h8':∀x∈bs.drop at_,x<=255:=fun x hx=>h8 x (List.mem_of_mem_drop hx)
 have D:=goZ w (sZ A at_ c 1) (bs.length-at_) (c-at_) (bs.drop at_) most hmost (by rw[List.length_drop]) (by omega) h8' hrow
 have hsp:=tdZ most (bs.drop at_) h8'
 rw[List.length_drop]at hsp
 have hmm:bs.length-at_<=100000:=by omega
 have hmc:bs.length-at_<=c-at_:=by have:=hwf.2;omega
 unfold edZ
 rw[show(bs.drop at_).length=bs.length-at_ from List.length_drop]
 have hll:(bs.drop at_).length=bs.length-at_:=List.length_drop
 have hne1:=Blk.apart hob h.blk (by decide)
 have hmob:mb≠ob:=by
  intro e
  subst e
  rw[d0]at d1
  cases d1
 have H:=hid h
 have HO:=hid hob
 generalize bs.drop at_=L at *
 generalize bs.length-at_=m at *
 generalize sZ A at_ c 1=A1 at *
 generalize c-at_=cc at *
 generalize hRR:mbZ most L=R at *
 have HR:=hid hrow
 have HL:=hid hll
 have D:=hid D
 have hR1:=hsp.1
 have hR2:=hsp.2.1
 have hR5:=hsp.2.2.2.2.1
 have hR6:=hsp.2.2.2.2.2
 clear hrow h8' h hob hmb hwf hll hRR hsp hat hle h8
 obtain⟨x,n,er⟩:=R
 simp only at *
 by_cases he:er=0
 ·subst he
  rw[if_neg (by simp)]
  have sub1:IntKind.i64.wrap ((m:Int)-(n:Int))=((m-n:Nat):Int):=by rw[IntWalk.i64_in _ (by omega)];omega
  by_cases hlt:m-n<x
  ·rw[if_pos hlt]
   have g1:decide (((m-n:Nat):Int)<(x:Int))=true:=by simp;omega
   have g2:decide (m-n<x)=true:=by simp;omega
   clear hlt
   go_enter Tryz.func248,Tryz.ntmps248
   go_wp2_with fail
   refine D.out.mono ?_
   rintro e w1 ⟨rfl,rfl⟩
   go_wp2_with fail
   go_ret2
   exact⟨0,1,rfl,by omega,H.out,Kept.refl _ _,rfl,rfl,HO.out⟩
  ·rw[if_neg hlt]
   have g1:decide (((m-n:Nat):Int)<(x:Int))=false:=by simp;omega
   have g2:decide (m-n<x)=false:=by simp;omega
   have s2:IntKind.i64.wrap ((n:Int)+(x:Int))=((n:Int)+(x:Int)):=by rw[IntWalk.i64_in _ (by omega)]
   have ks:=fun wx=>ihZ (P:=Tryz.prog) (t:=22) (s:=1) Tryz.underlying22 (fun _=>by kernel_rfl) A1 m cc .i64 .i64 (n:Int) ((n:Int)+(x:Int)) n (n+x) rfl (by omega) (by omega) (by omega) wx
   rw[Nat.add_sub_cancel_left]at ks
   have hLL:((L.drop n).take x).length=x:=by rw[List.length_take,List.length_drop,HL.out];omega
   have HRC:Hid (∀wx,Below w.heap.size w wx->(convert 22 9 (.slice (sZ A1 n cc 1) x (cc-n))).run Tryz.prog wx= .ok (.string (xhZ ((L.drop n).take x))) wx):=fun wx hb=>
    nrZ ((HR.out.below hb).cut n x (by omega) hmc (fun i j hi hj=>by
     obtain rfl:j=0:=by omega
     simp only[mZ,List.getD_eq_getElem?_getD,List.getElem?_take,List.getElem?_drop]
     rw[if_pos hi])) hLL
   have hnx:n+x<=100000:=by omega
   generalize (L.drop n).take x=T at *
   have cv:=HRC.out w (Below.refl _ _)
   have cv2:=HRC.out w.drew (by(repeat(first|(with_reducible first|exact Below.refl _ _|assumption|refine Below.drew ?_|refine below_drewN ?_ _|refine aZ ?_|refine dZ (by assumption) ?_)|((with_reducible first|refine fZ ?_ ?_|refine gZ ?_ ?_|refine iZ (by assumption) ?_ ?_);(focus(first|(simp;done)|(simp;omega)|omega|(simp at *;omega)))))))
   clear hlt HR HL
   go_enter Tryz.func248,Tryz.ntmps248
   go_wp2_with fail
   refine D.out.mono ?_
   rintro e w1 ⟨rfl,rfl⟩
   go_wp2_with fail
   go_ret2
   refine⟨n+x,0,rfl,hnx,?_,(Kept.refl _ _).set (fun h=>h.2 rfl) _,rfl,rfl,HO.out.set 0 _⟩
   exact⟨H.out.blk.far (fun e=>hne1 e.symm) _,vZ H.out.own (jZ H.out.own HO.out (by decide)) _,H.out.le,H.out.lo⟩
 ·rw[if_pos he]
  have g1:(er != 0)=true:=by simpa using he
  clear he HR HL
  go_enter Tryz.func248,Tryz.ntmps248
  go_wp2_with fail
  refine D.out.mono ?_
  rintro e w1 ⟨rfl,rfl⟩
  go_wp2_with fail
  go_ret2
  exact⟨0,er,rfl,by omega,H.out,Kept.refl _ _,rfl,rfl,HO.out⟩
theorem ddZb(w:World)(g base:Nat)(bs:List Nat)(A:Option Addr)(c at_:Nat)(er:Int)(most:Nat)(hle:bs.length<=100000)(h8:∀x∈bs,x<=255)(hmost:most<=1000000000)(h:Cur w g base bs A c at_ er):
 Calls Tryz.prog 213 #[.pointer (some ⟨g,0,none⟩), .int .i64 most] w fun e w'=>e= .returned (.string (xhZ (afZ most bs at_ er)))/\Cur w' g base bs A c (ahZ most bs at_ er) (bhZ most bs at_ er)/\Kept (ebZ g w) w w':=by
 have hgl:=h.blk.lt
 have h2:Cur ((w.alloc (.cells #[.int .i64 most] 3)).alloc (.cells #[.string ⟨#[]⟩] 9)) g base bs A c at_ er:=(h.step (aZ (Below.refl _ _))).step (aZ (Below.refl _ _))
 have hnb:Blk ((w.alloc (.cells #[.int .i64 most] 3)).alloc (.cells #[.string ⟨#[]⟩] 9)) w.heap.size 3 #[.int .i64 most]:=(Blk.made _ _ _).alloc _
 have hob:Blk ((w.alloc (.cells #[.int .i64 most] 3)).alloc (.cells #[.string ⟨#[]⟩] 9)) (w.heap.size+1) 9 #[.string ⟨#[]⟩]:=Blk.made_at _ _ _ (by simp)
 have hk2:Kept (fun x=>x<w.heap.size/\x≠g) w ((w.alloc (.cells #[.int .i64 most] 3)).alloc (.cells #[.string ⟨#[]⟩] 9)):=Kept.of_below (by(repeat(first|(with_reducible first|exact Below.refl _ _|assumption|refine Below.drew ?_|refine below_drewN ?_ _|refine aZ ?_|refine dZ (by assumption) ?_)|((with_reducible first|refine fZ ?_ ?_|refine gZ ?_ ?_|refine iZ (by assumption) ?_ ?_);(focus(first|(simp;done)|(simp;omega)|omega|(simp at *;omega)))))):Below w.heap.size w _) (fun x hx=>hx.1)
 have hat:=h.le
 have hsz:((w.alloc (.cells #[.int .i64 most] 3)).alloc (.cells #[.string ⟨#[]⟩] 9)).heap.size=w.heap.size+2:=by simp
 unfold ebZ
 by_cases he:er=0
 ·subst he
  have hKf:∀args wx,(callFunc 248 args).run Tryz.prog wx= .ok (.enter 248 args) wx:=by
   intro args wx;simp[callFunc,go_sem,Tryz.func248];rfl
  have D:=fun w2 (hc2:Cur w2 g base bs A c at_ 0) (hnb:Blk w2 w.heap.size 3 #[.int .i64 most]) (hob:Blk w2 (w.heap.size+1) 9 #[.string ⟨#[]⟩])=>qnZ w2 g base bs A c at_ hc2 hle 248 #[.pointer (some ⟨w.heap.size,0,none⟩), .pointer (some ⟨w.heap.size+1,0,none⟩)]
   (fun k e2 w'=>Kept (fun x=>x<w2.heap.size/\x≠w.heap.size+1) w2 w'/\k=(edZ most (bs.drop at_)).2.1/\e2=(edZ most (bs.drop at_)).2.2/\Blk w' (w.heap.size+1) 9 #[.string (xhZ (edZ most (bs.drop at_)).1)]) hKf
   (fun q=>(hvZ (w2.drewN q) g base w.heap.size (w.heap.size+1) bs A c at_ most hle h8 hmost (hc2.drewN q) (hnb.drewN q) (hob.drewN q)).mono fun e w' ⟨k,e2,h1,h2,h3,h4⟩=>⟨k,e2,h1,h2,h3,⟨⟨h4.1.os,h4.1.tape,h4.1.output,h4.1.size,h4.1.block⟩,h4.2⟩⟩)
  have D:=hid (D _ h2 hnb hob)
  have h8':∀x∈bs.drop at_,x<=255:=fun x hx=>h8 x (List.mem_of_mem_drop hx)
  have hsp:=ysZ most (bs.drop at_) h8'
  rw[List.length_drop]at hsp
  have eV:afZ most bs at_ 0=(edZ most (bs.drop at_)).1:=if_neg (by simp)
  have eA:ahZ most bs at_ 0=at_+(edZ most (bs.drop at_)).2.1:=if_neg (by simp)
  have eE:bhZ most bs at_ 0=(edZ most (bs.drop at_)).2.2:=if_neg (by simp)
  rw[eV,eA,eE]
  generalize edZ most (bs.drop at_)=R at *
  have HK:=hid hk2
  have hgo:w.heap.size+1≠g:=by omega
  have HSP:=hid hsp
  clear hKf h2 hnb hob hk2 h8' hsp eV eA eE
  by_cases hR:R.2.2=0
  ·have hfit:at_+R.2.1<=bs.length:=by have:=HSP.out.2.1;omega
   go_enter Tryz.func213,Tryz.ntmps213
   go_wp2_with fail
   refine D.out.mono ?_
   rintro e w4 ⟨k,e2,w3,⟨hk3,hkk,hee,hblk⟩,hc3,hcase⟩
   rcases hcase with ⟨h0,_,_⟩|⟨_,rfl,rfl⟩
   ·exact absurd (hee.trans hR) h0
   ·have HK3:Hid (Kept (fun x=>x<w.heap.size/\x≠g) w w3):=HK.out.trans ⟨hk3.os,hk3.tape,hk3.output,hk3.size,fun x hx=>hk3.block x ⟨by have:=hx.1;rw[hsz];omega,by have:=hx.1;omega⟩⟩
    have hB:=hblk.far (fun e=>hgo e) (p:=⟨g,1,none⟩) (.int .i64 (at_+k:Nat))
    have d0:=hB.cell 0
    simp only[List.getElem?_toArray,List.getElem?_cons_zero]at d0
    have HC:=hid (hc3.setAt (at_+k) (by omega))
    rw[hkk]at HC
    have HK4:Hid (Kept (fun x=>x<w.heap.size/\x≠g) w (w3.setCell ⟨g,1,none⟩ (.int .i64 (at_+k:Nat)))):=HK3.out.set (fun h=>h.2 rfl) _
    rw[<-hkk]at HC
    have HC2:Hid (Cur (w3.setCell ⟨g,1,none⟩ (.int .i64 (at_+k:Nat))) g base bs A c (at_+R.2.1) R.2.2):=by rw[hR,<-hkk];exact HC.out
    generalize w3.setCell ⟨g,1,none⟩ (.int .i64 (at_+k:Nat))=w5 at *
    clear hB hblk hc3 hk3 D HK3 HK hkk hee HC hR
    go_wp2_with fail
    go_ret
    exact⟨rfl,HC2.out,HK4.out⟩
  ·have hz:=HSP.out.2.2.2.1 hR
   go_enter Tryz.func213,Tryz.ntmps213
   go_wp2_with fail
   refine D.out.mono ?_
   rintro e w4 ⟨k,e2,w3,⟨hk3,hkk,hee,hblk⟩,hc3,hcase⟩
   rcases hcase with ⟨_,rfl,rfl⟩|⟨h0,_,_⟩
   ·have HK3:Hid (Kept (fun x=>x<w.heap.size/\x≠g) w w3):=HK.out.trans ⟨hk3.os,hk3.tape,hk3.output,hk3.size,fun x hx=>hk3.block x ⟨by have:=hx.1;rw[hsz];omega,by have:=hx.1;omega⟩⟩
    have HC2:Hid (Cur (w3.setCell ⟨g,2,none⟩ (.int .i64 e2)) g base bs A c (at_+R.2.1) R.2.2):=by rw[hz.2,<-hee];exact hc3.setErr e2
    have HK4:Hid (Kept (fun x=>x<w.heap.size/\x≠g) w (w3.setCell ⟨g,2,none⟩ (.int .i64 e2))):=HK3.out.set (fun h=>h.2 rfl) _
    have hB:=hblk.far (fun e=>hgo e) (p:=⟨g,2,none⟩) (.int .i64 e2)
    have d0:=hB.cell 0
    simp only[List.getElem?_toArray,List.getElem?_cons_zero]at d0
    generalize w3.setCell ⟨g,2,none⟩ (.int .i64 e2)=w5 at *
    clear hB hblk hc3 hk3 D HK3 HK hkk hee hR hz
    go_wp2_with fail
    go_ret
    exact⟨rfl,HC2.out,HK4.out⟩
   ·exact absurd (hee.symm.trans h0) hR
 ·have D:=hid (plZ _ g base bs A c at_ er h2 he (.func (.func 248) #[] #[.pointer (some ⟨w.heap.size,0,none⟩), .pointer (some ⟨w.heap.size+1,0,none⟩)]))
  have eV:afZ most bs at_ er= []:=if_pos he
  have eA:ahZ most bs at_ er=at_:=if_pos he
  have eE:bhZ most bs at_ er=er:=if_pos he
  rw[eV,eA,eE]
  have HK:=hid hk2
  have HC:=hid h2
  clear h2 hnb hob hk2 he eV eA eE
  go_enter Tryz.func213,Tryz.ntmps213
  go_wp2_with fail
  refine D.out.mono ?_
  rintro e w4 ⟨rfl,rfl⟩
  go_wp2_with fail
  go_ret
  exact⟨rfl,HC.out,HK.out⟩
end Go.Proofs.YtbgoibedicbkjaaGreatDoor.Nums
namespace Go.Proofs.YtbgoibedicbkjaaGreatDoor.Nums
open Go.RowKit Mem Own Canon NumPut
theorem kfZ{most:Nat}{bs:List Nat}(h8:∀x∈bs,x<=255){at_:Nat}(er:Int)(h:at_<=bs.length):pZ most bs at_ er<=bs.length:=by
 unfold pZ
 split
 ·exact h
 ·have:=(tdZ most (bs.drop at_) (fun x hx=>h8 x (List.mem_of_mem_drop hx))).2.1
  rw[List.length_drop]at this
  omega
theorem qbZ{most:Nat}{bs:List Nat}(h8:∀x∈bs,x<=255)(at_:Nat)(er:Int):tZ most bs at_ er<=most:=by
 unfold tZ
 split
 ·omega
 ·exact(tdZ most (bs.drop at_) (fun x hx=>h8 x (List.mem_of_mem_drop hx))).1
theorem rxZ(most:Nat)(bs:List Nat)(at_:Nat)(er:Int)(h8:∀x∈bs,x<=255):
 (qZ most bs at_ er≠0->afZ most bs at_ er= []/\ahZ most bs at_ er=pZ most bs at_ er/\bhZ most bs at_ er=qZ most bs at_ er)/\
 (qZ most bs at_ er=0->bs.length-pZ most bs at_ er<tZ most bs at_ er->afZ most bs at_ er= []/\ahZ most bs at_ er=at_/\bhZ most bs at_ er=1)/\
 (qZ most bs at_ er=0->¬bs.length-pZ most bs at_ er<tZ most bs at_ er->afZ most bs at_ er=(bs.drop (pZ most bs at_ er)).take (tZ most bs at_ er)/\ahZ most bs at_ er=pZ most bs at_ er+tZ most bs at_ er/\bhZ most bs at_ er=0):=by
 by_cases he:er=0
 ·have i1:tZ most bs at_ er=(mbZ most (bs.drop at_)).1:=if_neg (by simp[he])
  have i2:pZ most bs at_ er=at_+(mbZ most (bs.drop at_)).2.1:=if_neg (by simp[he])
  have i3:qZ most bs at_ er=(mbZ most (bs.drop at_)).2.2:=if_neg (by simp[he])
  have e1:afZ most bs at_ er=(edZ most (bs.drop at_)).1:=if_neg (by simp[he])
  have e2:ahZ most bs at_ er=at_+(edZ most (bs.drop at_)).2.1:=if_neg (by simp[he])
  have e3:bhZ most bs at_ er=(edZ most (bs.drop at_)).2.2:=if_neg (by simp[he])
  rw[i1,i2,i3,e1,e2,e3]
  have hsp:=tdZ most (bs.drop at_) (fun x hx=>h8 x (List.mem_of_mem_drop hx))
  rw[List.length_drop]at hsp
  unfold edZ
  rw[List.length_drop,List.drop_drop]
  generalize mbZ most (bs.drop at_)=R at *
  have hsub:bs.length-at_-R.2.1=bs.length-(at_+R.2.1):=by omega
  rw[hsub]
  refine⟨fun h=> ?_,fun h h2=> ?_,fun h h2=> ?_⟩
  ·rw[if_pos h];exact⟨rfl,by have:=hsp.2.2.2.1 h;simp[this.2],rfl⟩
  ·rw[if_neg (by simp[h]),if_pos h2];exact⟨rfl,rfl,rfl⟩
  ·rw[if_neg (by simp[h]),if_neg h2];exact⟨rfl,by simp only;omega,rfl⟩
 ·have e1:afZ most bs at_ er= []:=if_pos he
  have e2:ahZ most bs at_ er=at_:=if_pos he
  have e3:bhZ most bs at_ er=er:=if_pos he
  have i2:pZ most bs at_ er=at_:=if_pos he
  have i3:qZ most bs at_ er=er:=if_pos he
  rw[e1,e2,e3,i2,i3]
  exact⟨fun _=>⟨rfl,rfl,rfl⟩,fun h=>absurd h he,fun h=>absurd h he⟩
theorem maZb(w:World)(g base:Nat)(bs:List Nat)(A:Option Addr)(c at_:Nat)(er:Int)(most:Nat)(hle:bs.length<=100000)(h8:∀x∈bs,x<=255)(hmost:most<=1000000000)(h:RCur w g base bs A c at_ er):
 Calls Tryz.prog 133 #[.pointer (some ⟨g,0,none⟩), .int .i64 most] w fun e w'=>e= .returned (.string (xhZ (afZ most bs at_ er)))/\RCur w' g base bs A c (ahZ most bs at_ er) (bhZ most bs at_ er)/\Kept (ebZ g w) w w':=by
 obtain⟨d0,d1,d2⟩:=h.cells
 have D:=hid (qfZ w g base bs A c at_ er most hle h8 hmost h)
 have hat:=h.le
 have hgl:=h.blk.lt
 have hP:=kfZ (most:=most) h8 er h.le
 have hV:=qbZ (most:=most) h8 at_ er
 have key:=rxZ most bs at_ er h8
 clear h
 generalize tZ most bs at_ er=V at *
 generalize pZ most bs at_ er=P at *
 generalize qZ most bs at_ er=E at *
 by_cases hE:E=0
 ·subst hE
  have D2:=hid (fun wx hx=>rleft_any wx g base bs A c P 0 hle hx)
  by_cases hlt:bs.length-P<V
  ·obtain⟨e1,e2,e3⟩:=key.2.1 rfl hlt
   rw[e1,e2,e3]
   have g1:decide (((bs.length-P:Nat):Int)<(V:Int))=true:=by simp;omega
   have g1':decide (bs.length-P<V)=true:=by simp;omega
   have HAT:=hid hat
   clear e1 e2 e3 key hlt
   generalize bs.length-P=m at *
   go_enter Tryz.func133,Tryz.ntmps133
   go_wp2_with fail
   refine D.out.mono ?_
   rintro e w1 ⟨rfl,hc,hk⟩
   obtain⟨k0,k1,k2⟩:=hc.cells
   have f1:=hc.blk.frozen 1
   have f2:=hc.blk.frozen 2
   have HC:=hid hc
   have HK:=hid hk
   clear hc hk D d0 d1 d2
   go_wp2_with fail
   refine(D2.out _ HC.out).mono ?_
   rintro e w2 ⟨rfl,q,rfl⟩
   go_wp2_with fail
   go_ret
   exact⟨rfl,((HC.out.drewN q).setAt at_ HAT.out).setErr 1,(HK.out.trans ((Kept.of_below (B:=w1.heap.size) (by(repeat(first|(with_reducible first|exact Below.refl _ _|assumption|refine Below.drew ?_|refine below_drewN ?_ _|refine aZ ?_|refine dZ (by assumption) ?_)|((with_reducible first|refine fZ ?_ ?_|refine gZ ?_ ?_|refine iZ (by assumption) ?_ ?_);(focus(first|(simp;done)|(simp;omega)|omega|(simp at *;omega))))))) (fun x hx=>Nat.lt_of_lt_of_le hx.1 HK.out.size)).set (fun h=>h.2 rfl) _)).set (fun h=>h.2 rfl) _⟩
  ·obtain⟨e1,e2,e3⟩:=key.2.2 rfl hlt
   rw[e1,e2,e3]
   have D3:=hid (fun wx hx=>nhZ wx g base bs A c P 0 V hle (by omega) hx)
   have eO:fbZ bs P 0 V=(bs.drop P).take V:=(vhZ _ _ _).trans (if_neg hlt)
   have eA:takeA bs P 0 V=P+V:=(vjZ _ _ _).trans (if_neg hlt)
   have eE:gbZ bs P 0 V=0:=(wjZ _ _ _).trans (if_neg hlt)
   unfold ggZ at D3
   rw[eO,eA,eE]at D3
   have g1:decide (((bs.length-P:Nat):Int)<(V:Int))=false:=by simp;omega
   have g1':decide (bs.length-P<V)=false:=by simp;omega
   clear e1 e2 e3 key hlt eO eA eE
   generalize bs.length-P=m at *
   generalize (bs.drop P).take V=L at *
   go_enter Tryz.func133,Tryz.ntmps133
   go_wp2_with fail
   refine D.out.mono ?_
   rintro e w1 ⟨rfl,hc,hk⟩
   obtain⟨k0,k1,k2⟩:=hc.cells
   have HC:=hid hc
   have HK:=hid hk
   clear hc hk D d0 d1 d2
   go_wp2_with fail
   refine(D2.out _ HC.out).mono ?_
   rintro e w2 ⟨rfl,q,rfl⟩
   go_wp2_with fail
   refine(D3.out _ (HC.out.drewN q)).mono ?_
   rintro e w3 ⟨v,rfl,hown,hc3,hk3⟩
   obtain⟨A2,c2,rfl⟩:=bZ hown
   have cv:=nrZ (c:=c2) (own_row hown) rfl
   have HC3:=hid hc3
   have HK3:=hid hk3
   clear hc3 hk3 hown k0 k1 k2 D2 D3
   go_wp2_with fail
   go_ret
   exact⟨rfl,HC3.out,HK.out.trans ⟨HK3.out.os,HK3.out.tape,HK3.out.output,HK3.out.size,fun x hx=>HK3.out.block x ⟨Nat.lt_of_lt_of_le hx.1 HK.out.size,hx.2⟩⟩⟩
 ·obtain⟨e1,e2,e3⟩:=key.1 hE
  rw[e1,e2,e3]
  have g1:(E != 0)=true:=by simpa using hE
  clear e1 e2 e3 key hE
  go_enter Tryz.func133,Tryz.ntmps133
  go_wp2_with fail
  refine D.out.mono ?_
  rintro e w1 ⟨rfl,hc,hk⟩
  obtain⟨k0,k1,k2⟩:=hc.cells
  have HC:=hid hc
  have HK:=hid hk
  clear hc hk D d0 d1 d2
  go_wp2_with fail
  go_ret
  exact⟨rfl,HC.out,HK.out⟩
end Go.Proofs.YtbgoibedicbkjaaGreatDoor.Nums
namespace Go.Proofs.YtbgoibedicbkjaaGreatDoor.Nums
open Go.RowKit Mem Own Canon
def vgZ(bs:List Nat)(at_:Nat)(er:Int):Int:=if at_<bs.length then ygZ er 2 else er
theorem azZ(w:World)(g base:Nat)(bs:List Nat)(A:Option Addr)(c at_:Nat)(er:Int)(h:Cur w g base bs A c at_ er):
 Calls Tryz.prog 110 #[.pointer (some ⟨g,0,none⟩)] w fun e w'=>e= .returned (.int .i64 (vgZ bs at_ er))/\Cur w' g base bs A c at_ (vgZ bs at_ er)/\Kept (fun x=>x≠g) w w':=by
 have DL:=hid (left_any w g base bs A c at_ er h)
 have H:=hid h
 obtain⟨R,hR⟩:∃R,R=vgZ bs at_ er:=⟨_,rfl⟩
 rw[<-hR]
 unfold vgZ at hR
 by_cases hlt:at_<bs.length
 ·rw[if_pos hlt]at hR
  have gl:decide ((0:Int)<((bs.length-at_:Nat):Int))=true:=by simp;omega
  have gl':decide (0<bs.length-at_)=true:=by simp;omega
  have gl2:decide (at_<bs.length)=true:=by simp;omega
  have HR:=hid hR
  obtain⟨m,hm⟩:∃m,m=bs.length-at_:=⟨_,rfl⟩
  rw[<-hm]at DL gl gl'
  clear h hR hlt hm
  go_enter Tryz.func110,Tryz.ntmps110
  go_wp2_with fail
  refine DL.out.mono ?_
  rintro e w1 ⟨rfl,q,hq⟩
  have HC1:Hid (Cur w1 g base bs A c at_ er):=by rw[hq];exact H.out.drewN q
  have HK1:Hid (Kept (fun x=>x≠g) w w1):=by rw[hq];exact(Kept.refl _ _).drewN q
  clear hq
  go_wp2_with fail
  refine(pfZ w1 g base bs A c at_ er 2 HC1.out).mono ?_
  rintro e w2 ⟨rfl,hc2,hk2⟩
  rw[<-HR.out]at hc2
  have HC2:=hid hc2
  have HK2:Hid (Kept (fun x=>x≠g) w w2):=HK1.out.trans hk2
  have DE:=hid (lcZ w2 g base bs A c at_ R hc2)
  clear hc2 hk2 HR
  go_wp2_with fail
  refine DE.out.mono ?_
  rintro e w3 ⟨rfl,rfl⟩
  go_wp2_with fail
  go_ret
  exact⟨rfl,HC2.out,HK2.out⟩
 ·rw[if_neg hlt]at hR
  subst hR
  have hm0:bs.length-at_=0:=by omega
  rw[hm0]at DL
  have gl:decide ((0:Int)<((0:Nat):Int))=false:=by simp
  clear h hlt hm0
  go_enter Tryz.func110,Tryz.ntmps110
  go_wp2_with fail
  refine DL.out.mono ?_
  rintro e w1 ⟨rfl,q,hq⟩
  have HC1:Hid (Cur w1 g base bs A c at_ R):=by rw[hq];exact H.out.drewN q
  have HK1:Hid (Kept (fun x=>x≠g) w w1):=by rw[hq];exact(Kept.refl _ _).drewN q
  have DE:=hid (lcZ w1 g base bs A c at_ R HC1.out)
  clear hq
  go_wp2_with fail
  refine DE.out.mono ?_
  rintro e w3 ⟨rfl,rfl⟩
  go_wp2_with fail
  go_ret
  exact⟨rfl,HC1.out,HK1.out⟩
theorem zgZb(w:World)(g base:Nat)(bs:List Nat)(A:Option Addr)(c at_:Nat)(er:Int)(hle:bs.length<=100000)(h:RCur w g base bs A c at_ er):
 Calls Tryz.prog 70 #[.pointer (some ⟨g,0,none⟩)] w fun e w'=>e= .returned (.int .i64 (vgZ bs at_ er))/\RCur w' g base bs A c at_ (vgZ bs at_ er)/\Kept (fun x=>x≠g) w w':=by
 have DL:=hid (rleft_any w g base bs A c at_ er hle h)
 have H:=hid h
 obtain⟨R,hR⟩:∃R,R=vgZ bs at_ er:=⟨_,rfl⟩
 rw[<-hR]
 unfold vgZ ygZ at hR
 obtain⟨d0,d1,d2⟩:=h.cells
 have f2:=h.blk.frozen 2
 by_cases he:er=0
 ·subst he
  rw[if_pos (rfl:(0:Int)=0)]at hR
  by_cases hlt:at_<bs.length
  ·rw[if_pos hlt]at hR
   subst hR
   have gl:decide ((0:Int)<((bs.length-at_:Nat):Int))=true:=by simp;omega
   have gl':decide (0<bs.length-at_)=true:=by simp;omega
   have gl2:decide (at_<bs.length)=true:=by simp;omega
   obtain⟨m,hm⟩:∃m,m=bs.length-at_:=⟨_,rfl⟩
   rw[<-hm]at DL gl gl'
   clear h hlt hm d0 d1
   go_enter Tryz.func70,Tryz.ntmps70
   go_wp2_with fail
   refine DL.out.mono ?_
   rintro e w1 ⟨rfl,q,hq⟩
   have HC1:Hid (RCur w1 g base bs A c at_ 0):=by rw[hq];exact H.out.drewN q
   have HK1:Hid (Kept (fun x=>x≠g) w w1):=by rw[hq];exact(Kept.refl _ _).drewN q
   have e2:=HC1.out.cells.2.2
   have k2:=HC1.out.blk.frozen 2
   have HC2:Hid (RCur (w1.setCell ⟨g,2,none⟩ (.int .i64 2)) g base bs A c at_ 2):=HC1.out.setErr 2
   have p2:=HC2.out.cells.2.2
   clear hq d2 f2
   go_wp2_with fail
   go_ret
   exact⟨rfl,HC2.out,HK1.out.set (fun h=>h rfl) _⟩
  ·rw[if_neg hlt]at hR
   subst hR
   have hm0:bs.length-at_=0:=by omega
   rw[hm0]at DL
   have gl:decide ((0:Int)<((0:Nat):Int))=false:=by simp
   clear h hlt hm0 d0 d1
   go_enter Tryz.func70,Tryz.ntmps70
   go_wp2_with fail
   refine DL.out.mono ?_
   rintro e w1 ⟨rfl,q,hq⟩
   have HC1:Hid (RCur w1 g base bs A c at_ 0):=by rw[hq];exact H.out.drewN q
   have HK1:Hid (Kept (fun x=>x≠g) w w1):=by rw[hq];exact(Kept.refl _ _).drewN q
   have e2:=HC1.out.cells.2.2
   clear hq d2 f2
   go_wp2_with fail
   go_ret
   exact⟨rfl,HC1.out,HK1.out⟩
 ·rw[if_neg he]at hR
  have hRe:R=er:=by rw[hR];split<;>rfl
  subst hRe
  have gE:(R==0)=false:=by simpa using he
  clear h hR he d0 d1 DL
  go_enter Tryz.func70,Tryz.ntmps70
  go_wp2_with fail
  go_ret
  exact⟨rfl,H.out,Kept.refl _ _⟩
end Go.Proofs.YtbgoibedicbkjaaGreatDoor.Nums
namespace Go.Proofs.YtbgoibedicbkjaaGreatDoor.Nums
open Go.RowKit Mem Own Canon
def wgZ(bs:List Nat):Nat:=bs.getD 0 0+256*bs.getD 1 0+65536*bs.getD 2 0+16777216*bs.getD 3 0
theorem oqZ{x y i:Nat}(hx:x<2 ^ i)(h:x+y*2 ^ i<18446744073709551616):bits .or .u64 (x:Int) ((y*2 ^ i:Nat):Int)=((x+y*2 ^ i:Nat):Int):=uuZ hx h
theorem naZb(w:World)(g base:Nat)(bs:List Nat)(A:Option Addr)(c:Nat)(h4:bs.length=4)(h8:∀x∈bs,x<=255)(h:Cur w g base bs A c 0 0):
 Calls Tryz.prog 109 #[.pointer (some ⟨g,0,none⟩), .int .i64 4] w fun e w'=>e= .returned (.int .u64 (wgZ bs:Nat))/\Cur w' g base bs A c 4 0/\Kept (ebZ g w) w w':=by
 have D:=liZ w g base bs A c 0 0 4 (by omega) (by omega) h
 unfold ghZ at D
 rw[vhZ,vjZ,wjZ,if_neg (by omega),if_neg (by omega),if_neg (by omega),List.drop_zero,List.take_of_length_le (by omega),h4]at D
 obtain⟨b0,b1,b2,b3,rfl⟩:∃b0 b1 b2 b3,bs= [b0,b1,b2,b3]:=by
  match bs,h4 with
  | [b0,b1,b2,b3],_=>exact⟨b0,b1,b2,b3,rfl⟩
 have l0:=h8 b0 (by simp)
 have l1:=h8 b1 (by simp)
 have l2:=h8 b2 (by simp)
 have l3:=h8 b3 (by simp)
 have hV:wgZ [b0,b1,b2,b3]=b0+256*b1+65536*b2+16777216*b3:=rfl
 rw[hV]
 have D:=hid D
 have hgl:=h.blk.lt
 clear h h8 h4 hV
 go_enter Tryz.func109,Tryz.ntmps109
 go_wp2_with fail
 refine D.out.mono ?_
 rintro e w1 ⟨v,rfl,hown,hc,hk⟩
 obtain⟨gv,cv,hv,_⟩:=hown.form (by omega)
 subst hv
 have c0:=hown.cellAt 0 (by omega)
 have c1:=hown.cellAt 1 (by omega)
 have c2:=hown.cellAt 2 (by omega)
 have c3:=hown.cellAt 3 (by omega)
 simp only[cZ,List.map_cons,List.map_nil,List.getElem?_cons_zero,List.getElem?_cons_succ]at c0 c1 c2 c3
 have HC:=hid hc
 have HK:=hid hk
 clear hown hc hk D
 have E0:Hid (bits .or .u64 (0:Int) (b0:Int)=((b0:Nat):Int)):=by
  have h:=oqZ (x:=0) (y:=b0) (i:=0) (by omega) (by omega)
  show _=_
  simpa using h
 have E1:Hid (bits .or .u64 (b0:Int) ((b1:Int)*256)=((b0+256*b1:Nat):Int)):=by
  have h:=oqZ (x:=b0) (y:=b1) (i:=8) (by omega) (by omega)
  rw[show((b1*2 ^ 8:Nat):Int)=(b1:Int)*256 by omega]at h
  show _=_
  rw[h]
  omega
 have E2:Hid (bits .or .u64 ((b0+256*b1:Nat):Int) ((b2:Int)*65536)=((b0+256*b1+65536*b2:Nat):Int)):=by
  have h:=oqZ (x:=b0+256*b1) (y:=b2) (i:=16) (by omega) (by omega)
  rw[show((b2*2 ^ 16:Nat):Int)=(b2:Int)*65536 by omega]at h
  show _=_
  rw[h]
  omega
 have E3:Hid (bits .or .u64 ((b0+256*b1+65536*b2:Nat):Int) ((b3:Int)*16777216)=((b0+256*b1+65536*b2+16777216*b3:Nat):Int)):=by
  have h:=oqZ (x:=b0+256*b1+65536*b2) (y:=b3) (i:=24) (by omega) (by omega)
  rw[show((b3*2 ^ 24:Nat):Int)=(b3:Int)*16777216 by omega]at h
  show _=_
  rw[h]
  omega
 go_wp2_with fail
 go_loopw [5,20] (fun xv iv wr=>Hid (wr=w1)/\((xv= .int .u64 0/\iv= .int .i64 0)∨(xv= .int .u64 (b0:Nat)/\iv= .int .i64 1)∨(xv= .int .u64 (b0+256*b1:Nat)/\iv= .int .i64 2)∨(xv= .int .u64 (b0+256*b1+65536*b2:Nat)/\iv= .int .i64 3)∨(xv= .int .u64 (b0+256*b1+65536*b2+16777216*b3:Nat)/\iv= .int .i64 4))) (fun _ iv _=>4-(intOf iv).toNat)
 case atStart=>exact⟨by first|trivial|rfl, .inl ⟨rfl,rfl⟩⟩
 case round=>
  obtain⟨hw,hcase⟩:=hrel
  have hw:=hw.out
  subst hw
  rcases hcase with ⟨rfl,rfl⟩|⟨rfl,rfl⟩|⟨rfl,rfl⟩|⟨rfl,rfl⟩|⟨rfl,rfl⟩
  ·have e0:=E0.out
   go_wp2_with fail
   exact⟨⟨trivial, .inr (.inl ⟨rfl,rfl⟩)⟩,by simp[intOf]⟩
  ·have e1:=E1.out
   have s1:IntKind.u64.wrap ((b1:Int)*256)=(b1:Int)*256:=by rw[IntKind.wrap_u64];omega
   go_wp2_with fail
   exact⟨⟨trivial, .inr (.inr (.inl ⟨rfl,rfl⟩))⟩,by simp[intOf]⟩
  ·have s2:IntKind.u64.wrap ((b2:Int)*65536)=(b2:Int)*65536:=by rw[IntKind.wrap_u64];omega
   go_wp2_with fail
   exact⟨⟨trivial, .inr (.inr (.inr (.inl ⟨by rw[show((b0:Int)+256*(b1:Int))=((b0+256*b1:Nat):Int) by omega,E2.out],rfl⟩)))⟩,by simp[intOf]⟩
  ·have s3:IntKind.u64.wrap ((b3:Int)*16777216)=(b3:Int)*16777216:=by rw[IntKind.wrap_u64];omega
   go_wp2_with fail
   exact⟨⟨trivial, .inr (.inr (.inr (.inr ⟨by rw[show((b0:Int)+256*(b1:Int)+65536*(b2:Int))=((b0+256*b1+65536*b2:Nat):Int) by omega,E3.out],rfl⟩)))⟩,by simp[intOf]⟩
  ·go_wp2_with fail
   go_ret
   exact⟨rfl,HC.out,HK.out⟩
theorem sxZ(w:World)(g base:Nat)(bs:List Nat)(A:Option Addr)(c:Nat)(h4:bs.length=4)(h8:∀x∈bs,x<=255)(h:RCur w g base bs A c 0 0):
 Calls Tryz.prog 69 #[.pointer (some ⟨g,0,none⟩), .int .i64 4] w fun e w'=>e= .returned (.int .u64 (wgZ bs:Nat))/\RCur w' g base bs A c 4 0/\Kept (ebZ g w) w w':=by
 have D:=nhZ w g base bs A c 0 0 4 (by omega) (by omega) h
 unfold ggZ at D
 rw[vhZ,vjZ,wjZ,if_neg (by omega),if_neg (by omega),if_neg (by omega),List.drop_zero,List.take_of_length_le (by omega),h4]at D
 obtain⟨d0,d1,d2⟩:=h.cells
 obtain⟨b0,b1,b2,b3,rfl⟩:∃b0 b1 b2 b3,bs= [b0,b1,b2,b3]:=by
  match bs,h4 with
  | [b0,b1,b2,b3],_=>exact⟨b0,b1,b2,b3,rfl⟩
 have l0:=h8 b0 (by simp)
 have l1:=h8 b1 (by simp)
 have l2:=h8 b2 (by simp)
 have l3:=h8 b3 (by simp)
 have hV:wgZ [b0,b1,b2,b3]=b0+256*b1+65536*b2+16777216*b3:=rfl
 obtain⟨V,hVV⟩:∃V,V=wgZ [b0,b1,b2,b3]:=⟨_,rfl⟩
 rw[<-hVV]
 rw[hV]at hVV
 have HVV:=hid hVV
 have D:=hid D
 have hgl:=h.blk.lt
 clear h h8 h4 hV hVV d0 d1
 go_enter Tryz.func69,Tryz.ntmps69
 go_wp2_with fail
 refine D.out.mono ?_
 rintro e w1 ⟨v,rfl,hown,hc,hk⟩
 obtain⟨gv,cv,hv,_⟩:=hown.form (by omega)
 subst hv
 have c0:=hown.cellAt 0 (by omega)
 have c1:=hown.cellAt 1 (by omega)
 have c2:=hown.cellAt 2 (by omega)
 have c3:=hown.cellAt 3 (by omega)
 simp only[cZ,List.map_cons,List.map_nil,List.getElem?_cons_zero,List.getElem?_cons_succ]at c0 c1 c2 c3
 have HC:=hid hc
 have HK:=hid hk
 clear hown hc hk D d2
 obtain⟨x3,hx3⟩:∃x,x=b3:=⟨_,rfl⟩
 obtain⟨x2,hx2⟩:∃x,x=256*x3+b2:=⟨_,rfl⟩
 obtain⟨x1,hx1⟩:∃x,x=256*x2+b1:=⟨_,rfl⟩
 obtain⟨x0,hx0⟩:∃x,x=256*x1+b0:=⟨_,rfl⟩
 have HX:Hid (x0=V):=by have h:=HVV.out;show _=_;omega
 have lx3:x3<=255:=by omega
 have lx2:x2<=65535:=by omega
 have lx1:x1<=16777215:=by omega
 have lx0:x0<=4294967295:=by omega
 obtain⟨y2,hy2⟩:∃y,y=256*x3:=⟨_,rfl⟩
 have m2:IntKind.u64.wrap ((x3:Int)*256)=(y2:Int):=by rw[IntKind.wrap_u64];omega
 have s2:IntKind.u64.wrap ((y2:Int)+(b2:Int))=(x2:Int):=by rw[IntKind.wrap_u64];omega
 obtain⟨y1,hy1⟩:∃y,y=256*x2:=⟨_,rfl⟩
 have m1:IntKind.u64.wrap ((x2:Int)*256)=(y1:Int):=by rw[IntKind.wrap_u64];omega
 have s1:IntKind.u64.wrap ((y1:Int)+(b1:Int))=(x1:Int):=by rw[IntKind.wrap_u64];omega
 obtain⟨y0,hy0⟩:∃y,y=256*x1:=⟨_,rfl⟩
 have m0:IntKind.u64.wrap ((x1:Int)*256)=(y0:Int):=by rw[IntKind.wrap_u64];omega
 have s0:IntKind.u64.wrap ((y0:Int)+(b0:Int))=(x0:Int):=by rw[IntKind.wrap_u64];omega
 have H3:=hid hx3
 have H2:=hid hx2
 have H1:=hid hx1
 have H0:=hid hx0
 clear hx3 hx2 hx1 hx0 hy2 hy1 hy0
 go_wp2_with fail
 go_loopw [6,7] (fun xv iv wr=>Hid (wr=w1)/\((xv= .int .u64 0/\iv= .int .i64 3)∨(xv= .int .u64 (x3:Nat)/\iv= .int .i64 2)∨(xv= .int .u64 (x2:Nat)/\iv= .int .i64 1)∨(xv= .int .u64 (x1:Nat)/\iv= .int .i64 0)∨(xv= .int .u64 (x0:Nat)/\iv= .int .i64 (-1)))) (fun _ iv _=>(intOf iv+1).toNat)
 case atStart=>exact⟨by first|trivial|rfl, .inl ⟨rfl,rfl⟩⟩
 case round=>
  obtain⟨hw,hcase⟩:=hrel
  have hw:=hw.out
  subst hw
  rcases hcase with ⟨rfl,rfl⟩|⟨rfl,rfl⟩|⟨rfl,rfl⟩|⟨rfl,rfl⟩|⟨rfl,rfl⟩
  ·go_wp2_with fail
   exact⟨⟨trivial, .inr (.inl ⟨by rw[H3.out],rfl⟩)⟩,by simp[intOf]⟩
  ·go_wp2_with fail
   exact⟨⟨trivial, .inr (.inr (.inl ⟨rfl,rfl⟩))⟩,by simp[intOf]⟩
  ·go_wp2_with fail
   exact⟨⟨trivial, .inr (.inr (.inr (.inl ⟨rfl,rfl⟩)))⟩,by simp[intOf]⟩
  ·go_wp2_with fail
   exact⟨⟨trivial, .inr (.inr (.inr (.inr ⟨rfl,rfl⟩)))⟩,by simp[intOf]⟩
  ·go_wp2_with fail
   go_ret
   rw[<-HX.out]
   exact⟨rfl,HC.out,HK.out⟩
end Go.Proofs.YtbgoibedicbkjaaGreatDoor.Nums
namespace Go.Proofs.YtbgoibedicbkjaaGreatDoor.Body
open Go.RowKit Mem Own Canon Nums Crc
def fdZ(ls:List Nat):List Nat:=(ls.drop (ls.length-4-wgZ (ls.drop (ls.length-4)))).take (wgZ (ls.drop (ls.length-4)))
def qgZ(ls:List Nat):Prop:=ls.length<4∨ls.length-4<wgZ (ls.drop (ls.length-4))
def ivZ(ls:List Nat)(A:Option Addr)(c:Nat)(w:World)(e:Ending)(w':World):Prop:=
 Below w.heap.size w w'/\(qgZ ls->e= .returned (.tuple #[.slice none 0 0, .slice none 0 0, .int .i64 1]))/\
  (¬qgZ ls->∃v,e= .returned (.tuple #[.slice A (ls.length-4-wgZ (ls.drop (ls.length-4))) c,v, .int .i64 (icZ (fdZ ls))])/\w'.ownsRow w.heap.size 5 1 v (xZ (fdZ ls)).length (cZ .u8 (xZ (fdZ ls))))
theorem bzZ{bs:List Nat}(h8:∀x∈bs,x<=255)(h4:bs.length=4):wgZ bs<4294967296:=by
 match bs,h4 with
 | [b0,b1,b2,b3],_=>
  have l0:=h8 b0 (by simp)
  have l1:=h8 b1 (by simp)
  have l2:=h8 b2 (by simp)
  have l3:=h8 b3 (by simp)
  have hV:wgZ [b0,b1,b2,b3]=b0+256*b1+65536*b2+16777216*b3:=rfl
  omega
theorem ahZb(w:World)(A:Option Addr)(n c:Nat)(ls:List Nat)(hn:ls.length=n)(hle:n<=100000)(hc:n<=c)(h8:∀x∈ls,x<=255)(ht:TabAt w)(hh:∀a,A=some a->a.add 0=a)(ha:Row w w.heap.size A n 1 (mZ .u8 ls)):
 Calls Tryz.prog 60 #[.slice A n c] w (ivZ ls A c w):=by
 unfold ivZ
 by_cases h4:n<4
 ·have hbad:qgZ ls:= .inl (by omega)
  have HB:=hid hbad
  have s1:decide (IntKind.i64.wrap ((n:Int)-4)<0)=true:=by rw[IntWalk.i64_in _ (by omega)];simp;omega
  have s2:decide ((n:Int)-4<0)=true:=by simp;omega
  have s3:IntKind.i64.wrap ((n:Int)-4)=(n:Int)-4:=IntWalk.i64_in _ (by omega)
  clear hn hle hc h8 ht hh ha hbad
  go_enter Tryz.func60,Tryz.ntmps60
  go_wp2_with fail
  go_ret3
  exact⟨Below.refl _ _,fun _=>rfl,fun h=>absurd HB.out h⟩
 ·obtain⟨m,rfl⟩:∃m,n=m+4:=⟨n-4,by omega⟩
  have hm4:ls.length-4=m:=by omega
  have hdl:(ls.drop m).length=4:=by rw[List.length_drop];omega
  have h8d:∀x∈ls.drop m,x<=255:=fun x hx=>h8 x (List.mem_of_mem_drop hx)
  have hkl:=bzZ h8d hdl
  have hnil:A=none->m+4=0/\c=0:=fun e=>by
   obtain⟨b,off,e2,_⟩:=ha (by omega)
   rw[e]at e2;cases e2
  have hd:=uZ ha (show m<=m+4 by omega) hc
  rw[show m+4-m=4 by omega]at hd
  have hnl:sZ A m c 1=none->4=0/\c-m=0:=fun h=>by
   obtain⟨b,off,e2,_⟩:=hd (by omega)
   rw[h]at e2;cases e2
  have D0:=hid (new_any w (sZ A m c 1) 4 (c-m) (ls.drop m) hdl (by omega) hnl hd)
  have ks1:=fun wx=>vcZ (P:=Tryz.prog) (t:=22) (s:=1) Tryz.underlying22 (fun _=>by kernel_rfl) A (m+4) c .i64 (m:Int) m rfl (by omega) wx
  have ks1':=ks1
  rw[show m+4-m=4 by omega]at ks1
  have D1:=hid (fun wx g B d h=>naZb wx g w.heap.size (ls.drop m) B d hdl h8d h)
  have s1:IntKind.i64.wrap (((m+4:Nat):Int)-4)=(m:Int):=by rw[IntWalk.i64_in _ (by omega)];omega
  have wm:IntKind.i64.wrap (m:Int)=(m:Int):=IntWalk.i64_in _ (by omega)
  have g1:decide ((m:Int)<0)=false:=by simp
  obtain⟨k,hk⟩:∃k,k=wgZ (ls.drop m):=⟨_,rfl⟩
  rw[<-hk]at D1 hkl
  have wk:IntKind.i64.wrap (k:Int)=(k:Int):=IntWalk.i64_in _ (by omega)
  by_cases hkm:m<k
  ·have hbad:qgZ ls:= .inr (by rw[hm4,<-hk];exact hkm)
   have HBAD:=hid hbad
   have g2:decide ((m:Int)<(k:Int))=true:=by simp;omega
   have g2':decide (m<k)=true:=by simp;omega
   generalize sZ A m c 1=A1 at *
   generalize c-m=c1 at *
   clear hd ha h8 h8d ht hh hnil hnl hn hle hc hbad hk hdl hm4 h4 ks1'
   go_enter Tryz.func60,Tryz.ntmps60
   go_wp2_with fail
   refine D0.out.mono ?_
   rintro e w1 ⟨g,B,d,rfl,hc1,hb1⟩
   have HB1:=hid hb1
   have D2:=hid (D1.out w1 g B d hc1)
   have hglo:=hc1.lo
   clear hc1 hb1 D0 D1
   go_wp2_with fail
   refine D2.out.mono ?_
   rintro e w2 ⟨rfl,hc2,hk2⟩
   have HB2:Hid (Below w.heap.size w w2):=HB1.out.trans (hk2.below fun b h=>⟨by have:=HB1.out.size;omega,by omega⟩)
   clear hc2 hk2
   go_wp2_with fail
   go_ret3
   exact⟨HB2.out,fun _=>rfl,fun h=>absurd HBAD.out h⟩
  ·have hok:¬qgZ ls:=fun h=>h.elim (fun h=>by omega) (fun h=>by rw[hm4,<-hk]at h;omega)
   have HOK:=hid hok
   have g2:decide ((m:Int)<(k:Int))=false:=by simp;omega
   have g2':decide (m<k)=false:=by simp;omega
   obtain⟨r,hr⟩:∃r,r=m-k:=⟨_,rfl⟩
   have s2:IntKind.i64.wrap ((m:Int)-(k:Int))=(r:Int):=by rw[IntWalk.i64_in _ (by omega)];omega
   have hch:fdZ ls=(ls.drop r).take k:=by unfold fdZ;rw[hm4,<-hk,<-hr]
   have hrr:=hbZ (uZ ha (show r<=m+4 by omega) hc) (show k<=m+4-r by omega)
   have DC:=hid (fun wx (hb:Below w.heap.size w wx)=>dlZ wx (sZ A r c 1) k (c-r) ((ls.drop r).take k) (by rw[List.length_take,List.length_drop];omega) (by omega) (by omega) (fun x hx=>h8 x (List.mem_of_mem_drop (List.mem_of_mem_take hx))) (ht.step hb) ((hrr.below hb).mono hb.size))
   rw[<-hch]at DC
   have ks2:=fun wx=>ihZ (P:=Tryz.prog) (t:=22) (s:=1) Tryz.underlying22 (fun _=>by kernel_rfl) A (m+4) c .i64 .i64 (r:Int) (m:Int) r m rfl rfl (by omega) (by omega) wx
   rw[show m-r=k by omega]at ks2
   have ks3:=fun wx=>fcZ (P:=Tryz.prog) (t:=22) (s:=1) Tryz.underlying22 (fun _=>by kernel_rfl) A (m+4) c .i64 (r:Int) r rfl (by omega) hh wx
   have HRR:Hid (ls.length-4-wgZ (ls.drop (ls.length-4))=r):=by show _=_;rw[hm4,<-hk,hr]
   generalize sZ A m c 1=A1 at *
   generalize c-m=c1 at *
   generalize sZ A r c 1=A2 at *
   generalize c-r=c2 at *
   clear hd ha h8 h8d ht hh hnil hnl hn hle hc hok hk hdl hm4 h4 ks1' hrr hch hr
   go_enter Tryz.func60,Tryz.ntmps60
   go_wp2_with fail
   refine D0.out.mono ?_
   rintro e w1 ⟨g,B,d,rfl,hc1,hb1⟩
   have HB1:=hid hb1
   have D2:=hid (D1.out w1 g B d hc1)
   have hglo:=hc1.lo
   clear hc1 hb1 D0 D1
   go_wp2_with fail
   refine D2.out.mono ?_
   rintro e w2 ⟨rfl,hc2,hk2⟩
   have HB2:Hid (Below w.heap.size w w2):=HB1.out.trans (hk2.below fun b h=>⟨by have:=HB1.out.size;omega,by omega⟩)
   have DC2:=hid (DC.out w2 HB2.out)
   unfold deZ at DC2
   clear hc2 hk2 DC HB1
   go_wp2_with fail
   refine DC2.out.mono ?_
   rintro e w3 ⟨v,rfl,hown,hb3⟩
   have HB3:Hid (Below w.heap.size w w3):=HB2.out.trans (hb3.mono HB2.out.size)
   have HO3:Hid (w3.ownsRow w.heap.size 5 1 v (xZ (fdZ ls)).length (cZ .u8 (xZ (fdZ ls)))):=lZ hown HB2.out.size
   clear hown hb3 DC2
   go_wp2_with fail
   go_ret3
   rw[HRR.out]
   exact⟨HB3.out,fun h=>absurd h HOK.out,fun _=>⟨v,rfl,HO3.out⟩⟩
end Go.Proofs.YtbgoibedicbkjaaGreatDoor.Body
namespace Go.Proofs.YtbgoibedicbkjaaGreatDoor.Block
open Go.RowKit Mem Own Canon
open Nums Crc
theorem bhZb{ls:List Nat}{m:Nat}(hn:ls.length=m+4):decide (ls.take m++tbZ (bcZ (ls.take m))=ls)=decide (ls.drop m=tbZ (bcZ (ls.take m))):=by
 have e:ls=ls.take m++ls.drop m:=(List.take_append_drop m ls).symm
 by_cases h:ls.drop m=tbZ (bcZ (ls.take m))
 ·rw[decide_eq_true h]
  refine decide_eq_true ?_
  rw[<-h]
  exact e.symm
 ·rw[decide_eq_false h]
  refine decide_eq_false fun h2=>h ?_
  have h3:=congrArg (List.drop m) h2
  rw[List.drop_append_of_le_length (by rw[List.length_take];omega),List.drop_of_length_le (by rw[List.length_take];omega),List.nil_append]at h3
  exact h3.symm
theorem amZ(w:World)(A:Option Addr)(n c:Nat)(ls:List Nat)(hn:ls.length=n)(hle:n<=100000)(hc:n<=c)(h8:∀x∈ls,x<=255)(ha:Row w w.heap.size A n 1 (mZ .u8 ls)):
 Calls Tryz.prog 42 #[.slice A n c] w (deZ ls w):=by
 unfold deZ
 by_cases h4:n<4
 ·have hE:icZ ls=1:=by unfold icZ;rw[if_pos (by omega)]
  have hO:xZ ls= []:=by unfold xZ;rw[hE];rfl
  rw[hE,hO]
  have g1:decide ((n:Int)<4)=true:=by simp;omega
  have g1':decide (n<4)=true:=by simp;omega
  clear ha h8 hn hE hO
  go_enter Tryz.func42,Tryz.ntmps42
  go_wp2_with fail
  go_ret2
  exact⟨_,rfl,World.ownsRow_nil _ _ _ _,Below.refl _ _⟩
 ·obtain⟨m,rfl⟩:∃m,n=m+4:=⟨n-4,by omega⟩
  obtain⟨ab,ao,rfl,hab,hac⟩:=ha (by omega)
  obtain⟨j0,hj0,hy0,hy1,hy2⟩:=info_parts acZ
  have hm4:ls.length-4=m:=by omega
  have s1:IntKind.i64.wrap ((((m+4:Nat)):Int)-4)=(m:Int):=by rw[IntWalk.i64_in _ (by omega)];omega
  have g1:decide ((((m+4:Nat)):Int)<4)=false:=by simp;omega
  have g1':decide (m+4<4)=false:=by simp
  have hb:=hbZ ha (show m<=m+4 by omega)
  have hlb:(ls.take m).length=m:=by rw[List.length_take];omega
  have h8b:∀x∈ls.take m,x<=255:=fun x hx=>h8 x (List.mem_of_mem_take hx)
  have k2:=fun wx=>fcZ (P:=Tryz.prog) (t:=22) (s:=1) Tryz.underlying22 (fun _=>by kernel_rfl) (some ⟨ab,ao,none⟩) (m+4) c .i64 (m:Int) m rfl (by omega) (fun a ha=>by injection ha with ha;subst ha;exact cdZ ab ao 0) wx
  have D1:=hid (gkZ w (some ⟨ab,ao,none⟩) m c (ls.take m) hlb (by omega) (fun h=>by cases h) h8b hb)
  have hT8:∀x∈ls.take m++tbZ (bcZ (ls.take m)),x<=255:=fun x hx=>by
   rcases List.mem_append.1 hx with hx|hx
   ·exact h8b x hx
   ·have:=kmZ _ x hx;omega
  have hTl:(ls.take m++tbZ (bcZ (ls.take m))).length=m+4:=by rw[List.length_append,hlb];rfl
  have D2:Hid (∀wx A2 c2,Below w.heap.size w wx->wx.ownsRow w.heap.size 5 1 (.slice A2 (m+4) c2) (m+4) (cZ .u8 (ls.take m++tbZ (bcZ (ls.take m))))->Calls Tryz.prog 30 #[.slice A2 (m+4) c2, .slice (some ⟨ab,ao,none⟩) (m+4) c] wx fun e w'=>e= .returned (.bool (decide (ls.drop m=tbZ (bcZ (ls.take m)))))/\wx=w'):=fun wx A2 c2 hbx hox=>by
   rw[<-bhZb hn]
   have hr:Row wx wx.heap.size A2 (m+4) 1 (mZ .u8 (ls.take m++tbZ (bcZ (ls.take m)))):=by
    have h:=hox
    rw[<-hTl]at h
    have:=own_row h
    rw[hTl]at this
    exact this
   exact Huff.evZ wx A2 _ (m+4) (m+4) c2 c _ ls hTl hn (fun e=>((lfZ hox).1 e).1) (fun e=>by cases e) hT8 h8 hr ((ha.below hbx).mono hbx.size)
  have HSR:Hid (∀wx,Below w.heap.size w wx->Src wx (some ⟨ab,ao,none⟩) m c 1 (cZ .u8 (ls.take m))):=fun wx h=>ugZ ((hb.below h).mono h.size) hlb (fun h=>by cases h)
  unfold ceZ at D1
  have hE:icZ ls=if ls.drop m=tbZ (bcZ (ls.take m))then 0 else 5:=by unfold icZ;rw[if_neg (by omega),hm4]
  have hO:xZ ls=if icZ ls=0 then ls.take m else []:=by unfold xZ;rw[hm4]
  rw[hlb]at D1
  generalize hTG:ls.take m++tbZ (bcZ (ls.take m))=T at *
  have HLB:=hid hlb
  clear ha hac hab hb h8 h8b h4 hm4 hn hT8 hTl hTG hlb
  by_cases heq:ls.drop m=tbZ (bcZ (ls.take m))
  ·rw[if_pos heq]at hE
   rw[hE,if_pos rfl]at hO
   rw[hE,hO,HLB.out]
   rw[decide_eq_true heq]at D2
   clear heq hE hO
   generalize ls.take m=M at *
   go_enter Tryz.func42,Tryz.ntmps42
   go_wp2_with fail
   refine D1.out.mono ?_
   rintro e w1 ⟨v1,rfl,ho1,hb1⟩
   obtain⟨A1,c1,rfl⟩:=bZ ho1
   have E2:=hid (D2.out w1 A1 c1 hb1 ho1)
   have HB1:=hid hb1
   clear D1 D2 ho1 hb1
   go_wp2_with fail
   refine E2.out.mono ?_
   rintro e w2 ⟨rfl,rfl⟩
   have HB2:Hid (Below w.heap.size w (w1.alloc (.cells #[] 5))):=aZ HB1.out
   have HO:=hid (xmZ (w:=w1) (base:=w.heap.size) HB1.out.size)
   have HS:=hid (HSR.out _ HB2.out)
   have hz1:=HB2.out.size
   clear E2 HSR
   go_wp2_with(at_builtin;refine kZ rfl (.tmp 16) (.tmp 21) 22 rfl w.heap.size 5 j0 _ 1 1 Tryz.underlying22 hj0 hy0 hy1 hy2 rfl (by decide) _ _ _ (by rfl) HO.out _ _ _ _ (by rfl) HS.out (wZ _ _) (by unfold maxLen;omega) (by omega) hz1 ?_;intro v4 w4 hown4 hg4 hat4;have HB4:Hid (Below w.heap.size w w4):=HB2.out.grown hg4 hz1 (fun y hy=>(World.ownsRow.lt HO.out y hy).1);have HO4:Hid (w4.ownsRow w.heap.size 5 1 v4 m (cZ .u8 M)):=(by have h:=hown4;rw[Nat.zero_add]at h;exact h);clear hown4 hg4 hat4)
   go_ret2
   exact⟨_,rfl,HO4.out,HB4.out⟩
  ·rw[if_neg heq]at hE
   rw[hE,if_neg (by omega)]at hO
   rw[hE,hO]
   rw[decide_eq_false heq]at D2
   clear heq hE hO
   generalize ls.take m=M at *
   go_enter Tryz.func42,Tryz.ntmps42
   go_wp2_with fail
   refine D1.out.mono ?_
   rintro e w1 ⟨v1,rfl,ho1,hb1⟩
   obtain⟨A1,c1,rfl⟩:=bZ ho1
   have E2:=hid (D2.out w1 A1 c1 hb1 ho1)
   have HB1:=hid hb1
   clear D1 D2 ho1 hb1
   go_wp2_with fail
   refine E2.out.mono ?_
   rintro e w2 ⟨rfl,rfl⟩
   go_wp2_with fail
   go_ret2
   exact⟨_,rfl,World.ownsRow_nil _ _ _ _,HB1.out⟩
end Go.Proofs.YtbgoibedicbkjaaGreatDoor.Block
