/- The walk of the reference's Same: two lists of bytes, held together as -/
import Derived.Test.YtmlaajebadfkoaaGreatDoorZTwoPacks3
import Derived.Test.YtmlaajebadfkoaaGreatDoorZTwoPacks10
import Derived.Test.YtmlaajebadfkoaaGreatDoorZTwoPacks20
import Derived.Test.YtmlaajebadfkoaaGreatDoorZTwoPacks26
import Derived.Test.YtmlaajebadfkoaaGreatDoorZTwoPacks19
import Derived.Test.YtmlaajebadfkoaaGreatDoorZTwoPacks21
import Derived.Test.YtmlaajebadfkoaaGreatDoorZTwoPacks22
import Derived.Laws.BytesArg
import Derived.Laws.Strings
import Derived.KernelRfl
import Derived.Lib.SmallJoins
namespace Go.Proofs.YtmlaajebadfkoaaGreatDoor end Go.Proofs.YtmlaajebadfkoaaGreatDoor open Go.Proofs.YtmlaajebadfkoaaGreatDoor
open Go.Lib (hid)
set_option maxHeartbeats 4000000
set_option maxRecDepth 100000
namespace Go.Proofs.YtmlaajebadfkoaaGreatDoor.Huff
open Go.RowKit Mem Canon
def rpZ(ls:List Nat):ByteArray:=strOfNums (ls.map fun x=>((x:Nat):Int))
theorem ufZb(x y:ByteArray):(x.toList==y.toList)=true↔x=y:=by
 rw[beq_iff_eq,ByteArray.toList_eq,ByteArray.toList_eq]
 constructor
 ·intro h
  exact ByteArray.ext (Array.toList_inj.1 h)
 ·intro h;rw[h]
theorem snZb{a b:List Nat}(ha:∀x∈a,x<=255)(hb:∀x∈b,x<=255)(h:rpZ a=rpZ b):a=b:=by
 have h:=congrArg (fun s:ByteArray=>s.data.toList) h
 simp only[rpZ,strOfNums_data,List.map_map]at h
 have e:∀l:List Nat,(∀x∈l,x<=255)->(l.map ((fun n:Int=>UInt8.ofNat n.toNat) ∘ fun x:Nat=>(x:Int))).map UInt8.toNat=l:=by
  intro l hl
  rw[List.map_map]
  conv=>rhs;rw[<-List.map_id l]
  apply List.map_congr_left
  intro x hx
  have:=hl x hx
  simp
  omega
 rw[<-e a ha,<-e b hb,h]
theorem tnZb{a b:List Nat}(ha:∀x∈a,x<=255)(hb:∀x∈b,x<=255):((rpZ a).toList==(rpZ b).toList)=decide (a=b):=by
 by_cases h:a=b
 ·subst h
  rw[decide_eq_true rfl]
  exact(ufZb _ _).2 rfl
 ·rw[decide_eq_false h]
  cases e:(rpZ a).toList==(rpZ b).toList
  ·rfl
  ·exact absurd (snZb ha hb ((ufZb _ _).1 e)) h
theorem tbZb{w:World}{B:Nat}{A:Option Addr}{n c:Nat}{ls:List Nat}(hn:ls.length=n)(ha:Row w B A n 1 (rZ .u8 ls))(hnil:A=none->n=0):
 (convert 29 9 (.slice A n c)).run Tryz.prog w= .ok (.string (rpZ ls)) w:=by
 cases A with
 |none=>
  obtain rfl:=hnil rfl
  have hl:ls= []:=List.eq_nil_of_length_eq_zero hn
  subst hl
  exact run_convert_bytes_nil w 29 5 Tryz.underlying29 Tryz.underlying5 0 c 9 Tryz.underlying9
 |some ad=>
  obtain⟨b,off,spot⟩:=ad
  by_cases h0:n=0
  ·subst h0
   have hl:ls= []:=List.eq_nil_of_length_eq_zero hn
   subst hl
   have h0:(loadCells ⟨b,off,spot⟩ 0).run Tryz.prog w= .ok (([]:List Int).map (Value.int .u8)).toArray w:=by
    have:=run_loadCells_list (P:=Tryz.prog) w ⟨b,off,spot⟩ [] (fun j v hj=>by simp at hj)
    simpa using this
   rw[run_convert_bytes_string w 29 9 5 _ 0 c Tryz.underlying29 Tryz.underlying5 Tryz.underlying9,run_bytesToString w _ 0 c [] h0,List.foldl_nil]
   have e:rpZ []=ByteArray.empty:=rfl
   rw[e]
  ·obtain⟨b',off',e,hb,hc⟩:=ha (by omega)
   simp only[Option.some.injEq,Addr.mk.injEq]at e
   obtain⟨rfl,rfl,rfl⟩:=e
   refine run_convert_bytes_arg w 29 5 Tryz.underlying29 Tryz.underlying5 b off n c _ (by simpa using hn) (fun i hi=> ?_) 9 Tryz.underlying9
   have:=hc i 0 hi (by omega)
   rw[Nat.mul_one,Nat.add_zero]at this
   rw[this]
   unfold rZ
   congr 2
   simp[List.getD_eq_getElem?_getD,show i<ls.length by omega]
theorem ubZb(w:World)(A B:Option Addr)(n m c d:Nat)(la lb:List Nat)(hn:la.length=n)(hm:lb.length=m)(hA:A=none->n=0)(hB:B=none->m=0)
 (ha8:∀x∈la,x<=255)(hb8:∀x∈lb,x<=255)(ha:Row w w.heap.size A n 1 (rZ .u8 la))(hb:Row w w.heap.size B m 1 (rZ .u8 lb)):
 Calls Tryz.prog 12 #[.slice A n c, .slice B m d] w fun e w'=>e= .returned (.bool (decide (la=lb)))/\w=w':=by
 have p1:=tbZb (c:=c) hn ha hA
 have p2:=tbZb (c:=d) hm hb hB
 have HE:=hid (tnZb ha8 hb8)
 clear hn hm hA hB ha8 hb8 ha hb
 go_enter Tryz.func12,Tryz.ntmps12
 go_wp2_with fail
 go_ret
 exact⟨by simp[HE.out],rfl⟩
end Go.Proofs.YtmlaajebadfkoaaGreatDoor.Huff
namespace Go.Proofs.YtmlaajebadfkoaaGreatDoor.Block
open Go.RowKit Mem Own Canon
open NumPut Crc
open Go.Proofs.YtmlaajebadfkoaaGreatDoor.Huff (weZ vvZ bytesOf rkZ)
open Go.Proofs.YtmlaajebadfkoaaGreatDoor.Toks (Tk)
def sqO(bs:List Nat):List Nat:=TW.gfZ (Lz.find bs)
def sqE(bs:List Nat):Int:=TW.rfZ (Lz.find bs)
def sqz(bs:List Nat):Bool:=sqE bs==0&&decide ((sqO bs).length<bs.length)
def dkZ(bs:List Nat)(plain:Bool):Nat:=if !plain&&sqz bs then 1 else 0
def kdZ(bs:List Nat)(plain:Bool):List Nat:=if !plain&&sqz bs then sqO bs else bs
def ilZ(bs:List Nat)(plain:Bool):List Nat:= [dkZ bs plain]++iZ bs.length++iZ (kdZ bs plain).length
def teZ(bs:List Nat)(plain:Bool):List Nat:=ilZ bs plain++kdZ bs plain
def tbZ(bs:List Nat)(plain:Bool):List Nat:=teZ bs plain++zeZ (mfZ (teZ bs plain))
theorem beZb(w:World)(A:Option Addr)(n c:Nat)(bs:List Nat)(hn:bs.length=n)(hN:n<=16000)(h8:∀x∈bs,x<=255)(ha:Row w w.heap.size A n 1 (rZ .u8 bs)):
 Calls Tryz.prog 142 #[.slice A n c] w fun e w'=>∃v,e= .returned (.tuple #[v, .bool (sqz bs)])/\w'.ownsRow w.heap.size 5 1 v (sqO bs).length (dZ .u8 (sqO bs))/\Below w.heap.size w w':=by
 have D1:=hid (Lz.tmZb w A n c bs hn (by omega) h8 ha)
 have hfo:=Lz.find_ok h8 0
 have hfl:(Lz.find bs).length<=n:=by have:=hfo.2;rw[<-hn];exact this
 have D2:Hid (∀wx A c,wx.ownsRow w.heap.size 241 3 (.slice A (Lz.find bs).length c) (Lz.find bs).length (Huff.xeZ (Lz.find bs))->Calls Tryz.prog 192 #[.slice A (Lz.find bs).length c] wx (weZ (Lz.find bs) wx)):=fun wx A c h=>vvZ wx A _ c _ rfl (by omega) (fun t ht=>(hfo.1 t ht).1) (xaZb h)
 have hsq:sqz bs=(sqE bs==0&&decide ((sqO bs).length<n)):=by unfold sqz;rw[hn]
 rw[hsq]
 unfold weZ at D2
 unfold sqE sqO
 generalize TW.rfZ (Lz.find bs)=E at *
 generalize TW.gfZ (Lz.find bs)=O at *
 generalize Lz.find bs=ts at *
 clear hn h8 ha hfo hfl hsq
 by_cases he:E=0
 ·subst he
  have g1:((0:Int)==0)=true:=rfl
  by_cases hl:O.length<n
  ·have g2:decide ((O.length:Int)<(n:Int))=true:=by simp;omega
   have g2':decide (O.length<n)=true:=by simp;omega
   rw[g1,g2']
   go_enter Tryz.func142,Tryz.ntmps142
   go_wp2_with fail
   refine D1.out.mono ?_
   rintro e w1 ⟨v1,rfl,ho1,hb1⟩
   obtain⟨A1,c1,rfl⟩:=bZ ho1
   have D3:=hid (D2.out w1 A1 c1 ho1)
   have HB1:=hid hb1
   clear D2 D1 ho1 hb1
   generalize List.length ts=m at *
   go_wp2_with fail
   refine D3.out.mono ?_
   rintro e w2 ⟨v2,rfl,ho2,hb2⟩
   obtain⟨A2,c2,rfl⟩:=bZ ho2
   have HO2:=hid (nZ ho2 HB1.out.size)
   have HB2:=hid (cZ hb2 HB1.out)
   clear ho2 hb2 D3 HB1
   go_wp2_with fail
   go_ret2
   exact⟨_,rfl,HO2.out,HB2.out⟩
  ·have g2:decide ((O.length:Int)<(n:Int))=false:=by simp;omega
   have g2':decide (O.length<n)=false:=by simp;omega
   rw[g1,g2']
   go_enter Tryz.func142,Tryz.ntmps142
   go_wp2_with fail
   refine D1.out.mono ?_
   rintro e w1 ⟨v1,rfl,ho1,hb1⟩
   obtain⟨A1,c1,rfl⟩:=bZ ho1
   have D3:=hid (D2.out w1 A1 c1 ho1)
   have HB1:=hid hb1
   clear D2 D1 ho1 hb1
   generalize List.length ts=m at *
   go_wp2_with fail
   refine D3.out.mono ?_
   rintro e w2 ⟨v2,rfl,ho2,hb2⟩
   obtain⟨A2,c2,rfl⟩:=bZ ho2
   have HO2:=hid (nZ ho2 HB1.out.size)
   have HB2:=hid (cZ hb2 HB1.out)
   clear ho2 hb2 D3 HB1
   go_wp2_with fail
   go_ret2
   exact⟨_,rfl,HO2.out,HB2.out⟩
 ·have g1:(E==0)=false:=by simpa using he
  rw[g1]
  go_enter Tryz.func142,Tryz.ntmps142
  go_wp2_with fail
  refine D1.out.mono ?_
  rintro e w1 ⟨v1,rfl,ho1,hb1⟩
  obtain⟨A1,c1,rfl⟩:=bZ ho1
  have D3:=hid (D2.out w1 A1 c1 ho1)
  have HB1:=hid hb1
  clear D2 D1 ho1 hb1
  generalize List.length ts=m at *
  go_wp2_with fail
  refine D3.out.mono ?_
  rintro e w2 ⟨v2,rfl,ho2,hb2⟩
  obtain⟨A2,c2,rfl⟩:=bZ ho2
  have HO2:=hid (nZ ho2 HB1.out.size)
  have HB2:=hid (cZ hb2 HB1.out)
  clear ho2 hb2 D3 HB1
  go_wp2_with fail
  go_ret2
  exact⟨_,rfl,HO2.out,HB2.out⟩
theorem spZ(ts:List Tk):∀x∈TW.gfZ ts,x<=255:=by
 intro x hx
 unfold TW.gfZ at hx
 split at hx
 ·unfold bytesOf at hx
  obtain⟨k,_,rfl⟩:=List.mem_map.1 hx
  exact rkZ _ _
 ·cases hx
theorem unZb{w:World}{base c:Nat}{A:Option Addr}{ls:List Nat}(h:w.ownsRow base 5 1 (.slice A ls.length c) ls.length (dZ .u8 ls)):Row w w.heap.size A ls.length 1 (rZ .u8 ls):=
 Row.of_own h rfl fun i j hi hj=>by
  obtain rfl:j=0:=by omega
  simp[dZ,rZ,List.getD_eq_getElem?_getD,hi]
theorem lZ{w:World}{base n c:Nat}{A:Option Addr}{ls:List Nat}(h:w.ownsRow base 5 1 (.slice A n c) n (dZ .u8 ls))(hn:ls.length=n):Part.Ok ⟨A,c,ls⟩ w:=by
 subst hn
 exact⟨unZb h,(mjZ h).1⟩
theorem ueZ{w:World}{g x:Nat}(h:Blk w g 5 #[.int .u8 (x:Nat)]):Part.Ok ⟨some ⟨g,0,none⟩,1,[x]⟩ w:=
 ⟨Row.of_blk h h.lt fun i j hi hj=>by
  obtain rfl:i=0:=by simp at hi;omega
  obtain rfl:j=0:=by omega
  rfl,fun e=>by cases e⟩
theorem ohZ{x:Nat}(h:x<=16383):(iZ x).length<=2:=by
 by_cases h1:x<128
 ·rw[qdZ h1];simp
 ·rw[bfZ h1,qdZ (by omega)];simp
def mkZ(bs:List Nat)(plain:Bool)(w:World)(e:Ending)(w':World):Prop:=
 ∃v,e= .returned (.tuple #[v, .int .i64 0])/\w'.ownsRow w.heap.size 5 1 v (tbZ bs plain).length (dZ .u8 (tbZ bs plain))/\Below w.heap.size w w'
theorem wrap_u64(n:Int):IntKind.u64.wrap n=n % 18446744073709551616:=by simp[IntKind.wrap,IntKind.bits,IntKind.signed]
theorem enZ(w:World)(A:Option Addr)(n c:Nat)(bs:List Nat)(plain:Bool)(hn:bs.length=n)(hN:n<=16000)(hnil:A=none->n=0/\c=0)(h8:∀x∈bs,x<=255)(ht:TabAt w)(ha:Row w w.heap.size A n 1 (rZ .u8 bs)):
 Calls Tryz.prog 84 #[.slice A n c, .bool plain] w (mkZ bs plain w):=by
 subst hn
 have D1:=hid (beZb w A bs.length c bs rfl hN h8 ha)
 have D2:Hid (∀wx x,x<=16000->Calls Tryz.prog 93 #[.int .u64 (x:Nat)] wx fun e w'=>∃v,e= .returned v/\w'.ownsRow wx.heap.size 5 1 v (iZ x).length (dZ .u8 (iZ x))/\Below wx.heap.size wx w'):=fun wx x h=>kpZb wx x (by omega)
 have g0:decide ((32768:Int)<(bs.length:Int))=false:=by simp;omega
 have g0':decide (32768<bs.length)=false:=by simp;omega
 have u1:IntKind.u64.wrap (bs.length:Int)=(bs.length:Int):=by rw[wrap_u64];omega
 have HT0:=hid ht
 have HK0:Hid (Part.Ok (⟨A,c,bs⟩:Part) w):=⟨ha,hnil⟩
 have H80:=hid h8
 clear ht ha hnil h8
 cases plain with
 |true=>
  have HOK:Hid (Part.Ok (⟨A,c,bs⟩:Part) w):=HK0.out
  have HBQ:Hid (Below w.heap.size w w):=Below.refl _ _
  have HTQ:Hid (TabAt w):=HT0.out
  have hbl:bs.length<=16000:=hN
  have HS2:Hid ((iZ bs.length).length<=2/\(iZ bs.length).length<=2/\bs.length<=16000):=⟨ohZ (by omega),ohZ (by omega),hbl⟩
  have HS1:Hid (∀a c3 c4 A3 A4,acZ [⟨a,1,[0]⟩,⟨A3,c3,iZ bs.length⟩,⟨A4,c4,iZ bs.length⟩]<=1000000):=fun _ _ _ _ _=>by have h:=HS2.out;simp[acZ];omega
  have HFR:Hid (([0]++(iZ bs.length++(iZ bs.length++ [])))++(bs++ [])=teZ bs true):=by
   unfold teZ ilZ dkZ kdZ
   simp only[Bool.not_true,Bool.false_and,Bool.false_eq_true,if_false]
   refine hid ?_
   simp
  have H8:Hid (∀x∈([0]++(iZ bs.length++(iZ bs.length++ [])))++(bs++ []),x<=255):=fun x hx=>by
   simp only[List.append_nil,List.mem_append,List.mem_singleton]at hx
   rcases hx with (rfl|hx|hx)|hx
   ·omega
   ·exact mbZ _ x hx
   ·exact mbZ _ x hx
   ·exact H80.out x hx
  have u2:IntKind.u64.wrap (bs.length:Int)=(bs.length:Int):=by rw[wrap_u64];omega
  clear D1 HK0 HT0 H80
  go_enter Tryz.func84,Tryz.ntmps84
  go_wp2_with fail
  refine(D2.out _ bs.length (by omega)).mono ?_
  rintro e w2 ⟨v2,rfl,ho2,hb2⟩
  obtain⟨A3,c3,rfl⟩:=bZ ho2
  have P1:Hid (Part.Ok (⟨some ⟨w.heap.size,0,none⟩,1,[0]⟩:Part) w2):=(ueZ (Blk.made _ _ _)).step hb2
  have P2:Hid (Part.Ok (⟨A3,c3,iZ bs.length⟩:Part) w2):=lZ ho2 rfl
  have P4:Hid (Part.Ok (⟨A,c,bs⟩:Part) w2):=HOK.out.step (cZ hb2 (aZ (Below.refl _ _)))
  have HB2:Hid (Below w.heap.size w w2):=cZ (cZ hb2 (aZ (Below.refl _ _))) HBQ.out
  have HT2:Hid (TabAt w2):=HTQ.out.step (cZ hb2 (aZ (Below.refl _ _)))
  clear ho2 hb2 HOK HBQ HTQ
  go_wp2_with fail
  refine(D2.out _ bs.length (by omega)).mono ?_
  rintro e w3 ⟨v3,rfl,ho3,hb3⟩
  obtain⟨A4,c4,rfl⟩:=bZ ho3
  have Q1:=hid ((P1.out.step hb3).step (aZ (Below.refl w3.heap.size w3) (o:=(.cells #[(⟨some ⟨w.heap.size,0,none⟩,1,[0]⟩:Part).v,(⟨A3,c3,iZ bs.length⟩:Part).v,(⟨A4,c4,iZ bs.length⟩:Part).v] 29))))
  have Q2:=hid ((P2.out.step hb3).step (aZ (Below.refl w3.heap.size w3) (o:=(.cells #[(⟨some ⟨w.heap.size,0,none⟩,1,[0]⟩:Part).v,(⟨A3,c3,iZ bs.length⟩:Part).v,(⟨A4,c4,iZ bs.length⟩:Part).v] 29))))
  have Q3:=hid (Part.Ok.step (p:=(⟨A4,c4,iZ bs.length⟩:Part)) (lZ ho3 rfl) (aZ (Below.refl w3.heap.size w3) (o:=(.cells #[(⟨some ⟨w.heap.size,0,none⟩,1,[0]⟩:Part).v,(⟨A3,c3,iZ bs.length⟩:Part).v,(⟨A4,c4,iZ bs.length⟩:Part).v] 29))))
  have Q4:=hid ((P4.out.step hb3).step (aZ (Below.refl w3.heap.size w3) (o:=(.cells #[(⟨some ⟨w.heap.size,0,none⟩,1,[0]⟩:Part).v,(⟨A3,c3,iZ bs.length⟩:Part).v,(⟨A4,c4,iZ bs.length⟩:Part).v] 29))))
  have HB3:Hid (Below w.heap.size w (w3.alloc (.cells #[(⟨some ⟨w.heap.size,0,none⟩,1,[0]⟩:Part).v,(⟨A3,c3,iZ bs.length⟩:Part).v,(⟨A4,c4,iZ bs.length⟩:Part).v] 29))):=aZ (cZ hb3 HB2.out)
  have HT3:Hid (TabAt (w3.alloc (.cells #[(⟨some ⟨w.heap.size,0,none⟩,1,[0]⟩:Part).v,(⟨A3,c3,iZ bs.length⟩:Part).v,(⟨A4,c4,iZ bs.length⟩:Part).v] 29))):=(HT2.out.step hb3).step (aZ (Below.refl _ _))
  clear ho3 hb3 P1 P2 P4 HB2 HT2
  go_wp2_with fail
  refine(mdZ _ w3.heap.size 3 [(⟨some ⟨w.heap.size,0,none⟩,1,[0]⟩:Part),(⟨A3,c3,iZ bs.length⟩:Part),(⟨A4,c4,iZ bs.length⟩:Part)] rfl (by omega) (HS1.out _ _ _ _ _) (fun p hp=>by
   rcases List.mem_cons.1 hp with rfl|hp
   ·exact Q1.out
   ·rcases List.mem_cons.1 hp with rfl|hp
    ·exact Q2.out
    ·rcases List.mem_cons.1 hp with rfl|hp
     ·exact Q3.out
     ·cases hp) (Blk.made _ _ _)).mono ?_
  rintro e w5 ⟨v5,rfl,ho5,hb5⟩
  have HB5:Hid (Below w.heap.size w w5):=cZ hb5 HB3.out
  have HT5:Hid (TabAt w5):=HT3.out.step hb5
  have P4:=hid (Q4.out.step hb5)
  obtain⟨H,hH⟩:∃H,H= [0]++(iZ bs.length++(iZ bs.length++ [])):=⟨_,rfl⟩
  have ho5':=show w5.ownsRow _ 5 1 v5 H.length (dZ .u8 H) by rw[hH];exact ho5
  obtain⟨A5,c5,rfl⟩:=bZ ho5'
  have P5:Hid (Part.Ok (⟨A5,c5,H⟩:Part) w5):=lZ ho5' rfl
  have HH:=hid hH
  clear ho5 ho5' hb5 HB3 HT3 Q1 Q2 Q3 Q4 hH
  go_wp2_with fail
  have R5:=hid (P5.out.step (aZ (Below.refl w5.heap.size w5) (o:=(.cells #[(⟨A5,c5,H⟩:Part).v,(⟨A,c,bs⟩:Part).v] 29))))
  have R4:=hid (P4.out.step (aZ (Below.refl w5.heap.size w5) (o:=(.cells #[(⟨A5,c5,H⟩:Part).v,(⟨A,c,bs⟩:Part).v] 29))))
  have HS3:acZ [(⟨A5,c5,H⟩:Part),(⟨A,c,bs⟩:Part)]<=1000000:=by
   have:=HH.out
   have h2:=HS2.out
   subst this
   simp[acZ]
   omega
  refine(mdZ _ w5.heap.size 2 [(⟨A5,c5,H⟩:Part),(⟨A,c,bs⟩:Part)] rfl (by omega) HS3 (fun p hp=>by
   rcases List.mem_cons.1 hp with rfl|hp
   ·exact R5.out
   ·rcases List.mem_cons.1 hp with rfl|hp
    ·exact R4.out
    ·cases hp) (Blk.made _ _ _)).mono ?_
  rintro e w6 ⟨v6,rfl,ho6,hb6⟩
  have HB6:Hid (Below w.heap.size w w6):=cZ hb6 (aZ HB5.out)
  have HT6:Hid (TabAt w6):=(HT5.out.step (aZ (Below.refl _ _))).step hb6
  obtain⟨F,hF⟩:∃F,F=H++(bs++ []):=⟨_,rfl⟩
  have ho6':=show w6.ownsRow _ 5 1 v6 F.length (dZ .u8 F) by rw[hF];exact ho6
  obtain⟨A6,c6,rfl⟩:=bZ ho6'
  have P6:Hid (Part.Ok (⟨A6,c6,F⟩:Part) w6):=lZ ho6' rfl
  have HF:Hid (F=teZ bs true):=by rw[hF,HH.out];exact HFR.out
  have hFl:F.length<=100000:=by
   have h2:=HS2.out
   rw[hF,HH.out]
   simp
   omega
  have hF8:Hid (∀x∈F,x<=255):=by rw[hF,HH.out];exact H8.out
  clear ho6 ho6' hb6 hF HS3 R5 R4 P5 P4 HB5 HT5
  go_wp2_with fail
  refine(put_any w6 A6 F.length c6 F rfl hFl P6.out.nil hF8.out HT6.out P6.out.row).mono ?_
  rintro e w7 ⟨v7,rfl,ho7,hb7⟩
  have HO7:Hid (w7.ownsRow w.heap.size 5 1 v7 (tbZ bs true).length (dZ .u8 (tbZ bs true))):=by
   have h:=nZ ho7 HB6.out.size
   have e1:(tbZ bs true).length=F.length+4:=by unfold tbZ;rw[<-HF.out,List.length_append];exact rfl
   rw[e1]
   unfold tbZ
   rw[<-HF.out]
   exact h
  have HB7:=hid (cZ hb7 HB6.out)
  clear ho7 hb7
  go_wp2_with fail
  go_ret2
  exact⟨_,rfl,HO7.out,HB7.out⟩
 |false=>
  cases hq:sqz bs with
  |false=>
   rw[hq]at D1
   have HQ:=hid hq
   clear hq
   go_enter Tryz.func84,Tryz.ntmps84
   go_wp2_with fail
   refine D1.out.mono ?_
   rintro e w1 ⟨v1,rfl,ho1,hb1⟩
   have HOK:Hid (Part.Ok (⟨A,c,bs⟩:Part) w1):=HK0.out.step hb1
   have HBQ:Hid (Below w.heap.size w w1):=hb1
   have HTQ:Hid (TabAt w1):=HT0.out.step hb1
   have hbl:bs.length<=16000:=hN
   have HS2:Hid ((iZ bs.length).length<=2/\(iZ bs.length).length<=2/\bs.length<=16000):=⟨ohZ (by omega),ohZ (by omega),hbl⟩
   have HS1:Hid (∀a c3 c4 A3 A4,acZ [⟨a,1,[0]⟩,⟨A3,c3,iZ bs.length⟩,⟨A4,c4,iZ bs.length⟩]<=1000000):=fun _ _ _ _ _=>by have h:=HS2.out;simp[acZ];omega
   have HFR:Hid (([0]++(iZ bs.length++(iZ bs.length++ [])))++(bs++ [])=teZ bs false):=by
    unfold teZ ilZ dkZ kdZ
    rw[HQ.out];simp only[Bool.and_false,Bool.false_eq_true,if_false]
    refine hid ?_
    simp
   have H8:Hid (∀x∈([0]++(iZ bs.length++(iZ bs.length++ [])))++(bs++ []),x<=255):=fun x hx=>by
    simp only[List.append_nil,List.mem_append,List.mem_singleton]at hx
    rcases hx with (rfl|hx|hx)|hx
    ·omega
    ·exact mbZ _ x hx
    ·exact mbZ _ x hx
    ·exact H80.out x hx
   have u2:IntKind.u64.wrap (bs.length:Int)=(bs.length:Int):=by rw[wrap_u64];omega
   clear D1 HK0 HT0 H80 ho1 hb1
   go_wp2_with fail
   refine(D2.out _ bs.length (by omega)).mono ?_
   rintro e w2 ⟨v2,rfl,ho2,hb2⟩
   obtain⟨A3,c3,rfl⟩:=bZ ho2
   have P1:Hid (Part.Ok (⟨some ⟨w1.heap.size,0,none⟩,1,[0]⟩:Part) w2):=(ueZ (Blk.made _ _ _)).step hb2
   have P2:Hid (Part.Ok (⟨A3,c3,iZ bs.length⟩:Part) w2):=lZ ho2 rfl
   have P4:Hid (Part.Ok (⟨A,c,bs⟩:Part) w2):=HOK.out.step (cZ hb2 (aZ (Below.refl _ _)))
   have HB2:Hid (Below w.heap.size w w2):=cZ (cZ hb2 (aZ (Below.refl _ _))) HBQ.out
   have HT2:Hid (TabAt w2):=HTQ.out.step (cZ hb2 (aZ (Below.refl _ _)))
   clear ho2 hb2 HOK HBQ HTQ
   go_wp2_with fail
   refine(D2.out _ bs.length (by omega)).mono ?_
   rintro e w3 ⟨v3,rfl,ho3,hb3⟩
   obtain⟨A4,c4,rfl⟩:=bZ ho3
   have Q1:=hid ((P1.out.step hb3).step (aZ (Below.refl w3.heap.size w3) (o:=(.cells #[(⟨some ⟨w1.heap.size,0,none⟩,1,[0]⟩:Part).v,(⟨A3,c3,iZ bs.length⟩:Part).v,(⟨A4,c4,iZ bs.length⟩:Part).v] 29))))
   have Q2:=hid ((P2.out.step hb3).step (aZ (Below.refl w3.heap.size w3) (o:=(.cells #[(⟨some ⟨w1.heap.size,0,none⟩,1,[0]⟩:Part).v,(⟨A3,c3,iZ bs.length⟩:Part).v,(⟨A4,c4,iZ bs.length⟩:Part).v] 29))))
   have Q3:=hid (Part.Ok.step (p:=(⟨A4,c4,iZ bs.length⟩:Part)) (lZ ho3 rfl) (aZ (Below.refl w3.heap.size w3) (o:=(.cells #[(⟨some ⟨w1.heap.size,0,none⟩,1,[0]⟩:Part).v,(⟨A3,c3,iZ bs.length⟩:Part).v,(⟨A4,c4,iZ bs.length⟩:Part).v] 29))))
   have Q4:=hid ((P4.out.step hb3).step (aZ (Below.refl w3.heap.size w3) (o:=(.cells #[(⟨some ⟨w1.heap.size,0,none⟩,1,[0]⟩:Part).v,(⟨A3,c3,iZ bs.length⟩:Part).v,(⟨A4,c4,iZ bs.length⟩:Part).v] 29))))
   have HB3:Hid (Below w.heap.size w (w3.alloc (.cells #[(⟨some ⟨w1.heap.size,0,none⟩,1,[0]⟩:Part).v,(⟨A3,c3,iZ bs.length⟩:Part).v,(⟨A4,c4,iZ bs.length⟩:Part).v] 29))):=aZ (cZ hb3 HB2.out)
   have HT3:Hid (TabAt (w3.alloc (.cells #[(⟨some ⟨w1.heap.size,0,none⟩,1,[0]⟩:Part).v,(⟨A3,c3,iZ bs.length⟩:Part).v,(⟨A4,c4,iZ bs.length⟩:Part).v] 29))):=(HT2.out.step hb3).step (aZ (Below.refl _ _))
   clear ho3 hb3 P1 P2 P4 HB2 HT2
   go_wp2_with fail
   refine(mdZ _ w3.heap.size 3 [(⟨some ⟨w1.heap.size,0,none⟩,1,[0]⟩:Part),(⟨A3,c3,iZ bs.length⟩:Part),(⟨A4,c4,iZ bs.length⟩:Part)] rfl (by omega) (HS1.out _ _ _ _ _) (fun p hp=>by
    rcases List.mem_cons.1 hp with rfl|hp
    ·exact Q1.out
    ·rcases List.mem_cons.1 hp with rfl|hp
     ·exact Q2.out
     ·rcases List.mem_cons.1 hp with rfl|hp
      ·exact Q3.out
      ·cases hp) (Blk.made _ _ _)).mono ?_
   rintro e w5 ⟨v5,rfl,ho5,hb5⟩
   have HB5:Hid (Below w.heap.size w w5):=cZ hb5 HB3.out
   have HT5:Hid (TabAt w5):=HT3.out.step hb5
   have P4:=hid (Q4.out.step hb5)
   obtain⟨H,hH⟩:∃H,H= [0]++(iZ bs.length++(iZ bs.length++ [])):=⟨_,rfl⟩
   have ho5':=show w5.ownsRow _ 5 1 v5 H.length (dZ .u8 H) by rw[hH];exact ho5
   obtain⟨A5,c5,rfl⟩:=bZ ho5'
   have P5:Hid (Part.Ok (⟨A5,c5,H⟩:Part) w5):=lZ ho5' rfl
   have HH:=hid hH
   clear ho5 ho5' hb5 HB3 HT3 Q1 Q2 Q3 Q4 hH
   go_wp2_with fail
   have R5:=hid (P5.out.step (aZ (Below.refl w5.heap.size w5) (o:=(.cells #[(⟨A5,c5,H⟩:Part).v,(⟨A,c,bs⟩:Part).v] 29))))
   have R4:=hid (P4.out.step (aZ (Below.refl w5.heap.size w5) (o:=(.cells #[(⟨A5,c5,H⟩:Part).v,(⟨A,c,bs⟩:Part).v] 29))))
   have HS3:acZ [(⟨A5,c5,H⟩:Part),(⟨A,c,bs⟩:Part)]<=1000000:=by
    have:=HH.out
    have h2:=HS2.out
    subst this
    simp[acZ]
    omega
   refine(mdZ _ w5.heap.size 2 [(⟨A5,c5,H⟩:Part),(⟨A,c,bs⟩:Part)] rfl (by omega) HS3 (fun p hp=>by
    rcases List.mem_cons.1 hp with rfl|hp
    ·exact R5.out
    ·rcases List.mem_cons.1 hp with rfl|hp
     ·exact R4.out
     ·cases hp) (Blk.made _ _ _)).mono ?_
   rintro e w6 ⟨v6,rfl,ho6,hb6⟩
   have HB6:Hid (Below w.heap.size w w6):=cZ hb6 (aZ HB5.out)
   have HT6:Hid (TabAt w6):=(HT5.out.step (aZ (Below.refl _ _))).step hb6
   obtain⟨F,hF⟩:∃F,F=H++(bs++ []):=⟨_,rfl⟩
   have ho6':=show w6.ownsRow _ 5 1 v6 F.length (dZ .u8 F) by rw[hF];exact ho6
   obtain⟨A6,c6,rfl⟩:=bZ ho6'
   have P6:Hid (Part.Ok (⟨A6,c6,F⟩:Part) w6):=lZ ho6' rfl
   have HF:Hid (F=teZ bs false):=by rw[hF,HH.out];exact HFR.out
   have hFl:F.length<=100000:=by
    have h2:=HS2.out
    rw[hF,HH.out]
    simp
    omega
   have hF8:Hid (∀x∈F,x<=255):=by rw[hF,HH.out];exact H8.out
   clear ho6 ho6' hb6 hF HS3 R5 R4 P5 P4 HB5 HT5
   go_wp2_with fail
   refine(put_any w6 A6 F.length c6 F rfl hFl P6.out.nil hF8.out HT6.out P6.out.row).mono ?_
   rintro e w7 ⟨v7,rfl,ho7,hb7⟩
   have HO7:Hid (w7.ownsRow w.heap.size 5 1 v7 (tbZ bs false).length (dZ .u8 (tbZ bs false))):=by
    have h:=nZ ho7 HB6.out.size
    have e1:(tbZ bs false).length=F.length+4:=by unfold tbZ;rw[<-HF.out,List.length_append];exact rfl
    rw[e1]
    unfold tbZ
    rw[<-HF.out]
    exact h
   have HB7:=hid (cZ hb7 HB6.out)
   clear ho7 hb7
   go_wp2_with fail
   go_ret2
   exact⟨_,rfl,HO7.out,HB7.out⟩
  |true=>
   rw[hq]at D1
   have HQ:=hid hq
   have hql:(sqO bs).length<bs.length:=by unfold sqz at hq;simp at hq;exact hq.2
   have hO8:∀x∈sqO bs,x<=255:=spZ _
   clear hq
   go_enter Tryz.func84,Tryz.ntmps84
   go_wp2_with fail
   refine D1.out.mono ?_
   rintro e w1 ⟨v1,rfl,ho1,hb1⟩
   obtain⟨A1,c1,rfl⟩:=bZ ho1
   have HOK:Hid (Part.Ok (⟨A1,c1,(sqO bs)⟩:Part) w1):=lZ ho1 rfl
   have HBQ:Hid (Below w.heap.size w w1):=hb1
   have HTQ:Hid (TabAt w1):=HT0.out.step hb1
   have hbl:(sqO bs).length<=16000:=(by omega)
   have HS2:Hid ((iZ bs.length).length<=2/\(iZ (sqO bs).length).length<=2/\(sqO bs).length<=16000):=⟨ohZ (by omega),ohZ (by omega),hbl⟩
   have HS1:Hid (∀a c3 c4 A3 A4,acZ [⟨a,1,[1]⟩,⟨A3,c3,iZ bs.length⟩,⟨A4,c4,iZ (sqO bs).length⟩]<=1000000):=fun _ _ _ _ _=>by have h:=HS2.out;simp[acZ];omega
   have HFR:Hid (([1]++(iZ bs.length++(iZ (sqO bs).length++ [])))++((sqO bs)++ [])=teZ bs false):=by
    unfold teZ ilZ dkZ kdZ
    rw[HQ.out];simp only[Bool.not_false,Bool.true_and,if_true]
    refine hid ?_
    simp
   have H8:Hid (∀x∈([1]++(iZ bs.length++(iZ (sqO bs).length++ [])))++((sqO bs)++ []),x<=255):=fun x hx=>by
    simp only[List.append_nil,List.mem_append,List.mem_singleton]at hx
    rcases hx with (rfl|hx|hx)|hx
    ·omega
    ·exact mbZ _ x hx
    ·exact mbZ _ x hx
    ·exact hO8 x hx
   have u2:IntKind.u64.wrap ((sqO bs).length:Int)=((sqO bs).length:Int):=by rw[wrap_u64];omega
   clear D1 HK0 HT0 H80 ho1 hb1 hO8
   go_wp2_with fail
   refine(D2.out _ bs.length (by omega)).mono ?_
   rintro e w2 ⟨v2,rfl,ho2,hb2⟩
   obtain⟨A3,c3,rfl⟩:=bZ ho2
   have P1:Hid (Part.Ok (⟨some ⟨w1.heap.size,0,none⟩,1,[1]⟩:Part) w2):=(ueZ (Blk.made _ _ _)).step hb2
   have P2:Hid (Part.Ok (⟨A3,c3,iZ bs.length⟩:Part) w2):=lZ ho2 rfl
   have P4:Hid (Part.Ok (⟨A1,c1,(sqO bs)⟩:Part) w2):=HOK.out.step (cZ hb2 (aZ (Below.refl _ _)))
   have HB2:Hid (Below w.heap.size w w2):=cZ (cZ hb2 (aZ (Below.refl _ _))) HBQ.out
   have HT2:Hid (TabAt w2):=HTQ.out.step (cZ hb2 (aZ (Below.refl _ _)))
   clear ho2 hb2 HOK HBQ HTQ
   go_wp2_with fail
   refine(D2.out _ (sqO bs).length (by omega)).mono ?_
   rintro e w3 ⟨v3,rfl,ho3,hb3⟩
   obtain⟨A4,c4,rfl⟩:=bZ ho3
   have Q1:=hid ((P1.out.step hb3).step (aZ (Below.refl w3.heap.size w3) (o:=(.cells #[(⟨some ⟨w1.heap.size,0,none⟩,1,[1]⟩:Part).v,(⟨A3,c3,iZ bs.length⟩:Part).v,(⟨A4,c4,iZ (sqO bs).length⟩:Part).v] 29))))
   have Q2:=hid ((P2.out.step hb3).step (aZ (Below.refl w3.heap.size w3) (o:=(.cells #[(⟨some ⟨w1.heap.size,0,none⟩,1,[1]⟩:Part).v,(⟨A3,c3,iZ bs.length⟩:Part).v,(⟨A4,c4,iZ (sqO bs).length⟩:Part).v] 29))))
   have Q3:=hid (Part.Ok.step (p:=(⟨A4,c4,iZ (sqO bs).length⟩:Part)) (lZ ho3 rfl) (aZ (Below.refl w3.heap.size w3) (o:=(.cells #[(⟨some ⟨w1.heap.size,0,none⟩,1,[1]⟩:Part).v,(⟨A3,c3,iZ bs.length⟩:Part).v,(⟨A4,c4,iZ (sqO bs).length⟩:Part).v] 29))))
   have Q4:=hid ((P4.out.step hb3).step (aZ (Below.refl w3.heap.size w3) (o:=(.cells #[(⟨some ⟨w1.heap.size,0,none⟩,1,[1]⟩:Part).v,(⟨A3,c3,iZ bs.length⟩:Part).v,(⟨A4,c4,iZ (sqO bs).length⟩:Part).v] 29))))
   have HB3:Hid (Below w.heap.size w (w3.alloc (.cells #[(⟨some ⟨w1.heap.size,0,none⟩,1,[1]⟩:Part).v,(⟨A3,c3,iZ bs.length⟩:Part).v,(⟨A4,c4,iZ (sqO bs).length⟩:Part).v] 29))):=aZ (cZ hb3 HB2.out)
   have HT3:Hid (TabAt (w3.alloc (.cells #[(⟨some ⟨w1.heap.size,0,none⟩,1,[1]⟩:Part).v,(⟨A3,c3,iZ bs.length⟩:Part).v,(⟨A4,c4,iZ (sqO bs).length⟩:Part).v] 29))):=(HT2.out.step hb3).step (aZ (Below.refl _ _))
   clear ho3 hb3 P1 P2 P4 HB2 HT2
   go_wp2_with fail
   refine(mdZ _ w3.heap.size 3 [(⟨some ⟨w1.heap.size,0,none⟩,1,[1]⟩:Part),(⟨A3,c3,iZ bs.length⟩:Part),(⟨A4,c4,iZ (sqO bs).length⟩:Part)] rfl (by omega) (HS1.out _ _ _ _ _) (fun p hp=>by
    rcases List.mem_cons.1 hp with rfl|hp
    ·exact Q1.out
    ·rcases List.mem_cons.1 hp with rfl|hp
     ·exact Q2.out
     ·rcases List.mem_cons.1 hp with rfl|hp
      ·exact Q3.out
      ·cases hp) (Blk.made _ _ _)).mono ?_
   rintro e w5 ⟨v5,rfl,ho5,hb5⟩
   have HB5:Hid (Below w.heap.size w w5):=cZ hb5 HB3.out
   have HT5:Hid (TabAt w5):=HT3.out.step hb5
   have P4:=hid (Q4.out.step hb5)
   obtain⟨H,hH⟩:∃H,H= [1]++(iZ bs.length++(iZ (sqO bs).length++ [])):=⟨_,rfl⟩
   have ho5':=show w5.ownsRow _ 5 1 v5 H.length (dZ .u8 H) by rw[hH];exact ho5
   obtain⟨A5,c5,rfl⟩:=bZ ho5'
   have P5:Hid (Part.Ok (⟨A5,c5,H⟩:Part) w5):=lZ ho5' rfl
   have HH:=hid hH
   clear ho5 ho5' hb5 HB3 HT3 Q1 Q2 Q3 Q4 hH
   go_wp2_with fail
   have R5:=hid (P5.out.step (aZ (Below.refl w5.heap.size w5) (o:=(.cells #[(⟨A5,c5,H⟩:Part).v,(⟨A1,c1,(sqO bs)⟩:Part).v] 29))))
   have R4:=hid (P4.out.step (aZ (Below.refl w5.heap.size w5) (o:=(.cells #[(⟨A5,c5,H⟩:Part).v,(⟨A1,c1,(sqO bs)⟩:Part).v] 29))))
   have HS3:acZ [(⟨A5,c5,H⟩:Part),(⟨A1,c1,(sqO bs)⟩:Part)]<=1000000:=by
    have:=HH.out
    have h2:=HS2.out
    subst this
    simp[acZ]
    omega
   refine(mdZ _ w5.heap.size 2 [(⟨A5,c5,H⟩:Part),(⟨A1,c1,(sqO bs)⟩:Part)] rfl (by omega) HS3 (fun p hp=>by
    rcases List.mem_cons.1 hp with rfl|hp
    ·exact R5.out
    ·rcases List.mem_cons.1 hp with rfl|hp
     ·exact R4.out
     ·cases hp) (Blk.made _ _ _)).mono ?_
   rintro e w6 ⟨v6,rfl,ho6,hb6⟩
   have HB6:Hid (Below w.heap.size w w6):=cZ hb6 (aZ HB5.out)
   have HT6:Hid (TabAt w6):=(HT5.out.step (aZ (Below.refl _ _))).step hb6
   obtain⟨F,hF⟩:∃F,F=H++((sqO bs)++ []):=⟨_,rfl⟩
   have ho6':=show w6.ownsRow _ 5 1 v6 F.length (dZ .u8 F) by rw[hF];exact ho6
   obtain⟨A6,c6,rfl⟩:=bZ ho6'
   have P6:Hid (Part.Ok (⟨A6,c6,F⟩:Part) w6):=lZ ho6' rfl
   have HF:Hid (F=teZ bs false):=by rw[hF,HH.out];exact HFR.out
   have hFl:F.length<=100000:=by
    have h2:=HS2.out
    rw[hF,HH.out]
    simp
    omega
   have hF8:Hid (∀x∈F,x<=255):=by rw[hF,HH.out];exact H8.out
   clear ho6 ho6' hb6 hF HS3 R5 R4 P5 P4 HB5 HT5
   go_wp2_with fail
   refine(put_any w6 A6 F.length c6 F rfl hFl P6.out.nil hF8.out HT6.out P6.out.row).mono ?_
   rintro e w7 ⟨v7,rfl,ho7,hb7⟩
   have HO7:Hid (w7.ownsRow w.heap.size 5 1 v7 (tbZ bs false).length (dZ .u8 (tbZ bs false))):=by
    have h:=nZ ho7 HB6.out.size
    have e1:(tbZ bs false).length=F.length+4:=by unfold tbZ;rw[<-HF.out,List.length_append];exact rfl
    rw[e1]
    unfold tbZ
    rw[<-HF.out]
    exact h
   have HB7:=hid (cZ hb7 HB6.out)
   clear ho7 hb7
   go_wp2_with fail
   go_ret2
   exact⟨_,rfl,HO7.out,HB7.out⟩
end Go.Proofs.YtmlaajebadfkoaaGreatDoor.Block
namespace Go.Proofs.YtmlaajebadfkoaaGreatDoor.Block
open Go.RowKit Mem Own Canon
open NumPut Crc
end Go.Proofs.YtmlaajebadfkoaaGreatDoor.Block
namespace Go.Proofs.YtmlaajebadfkoaaGreatDoor.Ef
open Go.RowKit Mem Own Canon Huff
theorem tkZb(K:Nat->Prop)(w:World)(g base:Nat)(t:TypeId)(rest:List Value)(v:Value)(bs:List Bool)(n:Nat)(hn:n<=100000)(hle:bs.length+n<=5000000)(hW:Wr K w base g t rest bs v):
 Calls Tryz.prog 201 #[.pointer (some ⟨g,0,none⟩), .int .i64 (n:Nat)] w fun e w'=>e= .returned (.int .i64 0)/\∃v',Wr K w' base g t rest (bs++unary n) v'/\Kept K w w':=by
 have HLE:=hid hle
 have HW0:Hid (Wr K w base g t rest (bs++List.replicate 0 false) v):=by show Wr _ _ _ _ _ _ _ _;rw[List.replicate_zero,List.append_nil];exact hW
 have y1:decide ((n:Int)<0)=false:=by simp
 have y2:decide ((100000:Int)<(n:Int))=false:=by simp;omega
 have y2':decide (100000<n)=false:=by simp;omega
 clear hW hle
 go_enter Tryz.func201,Tryz.ntmps201
 go_wp2_with fail
 go_loopw [16] (fun i wr=>∃ (j:Nat) (v':Value),j<=n/\i= .int .i64 j/\Hid (Wr K wr base g t rest (bs++List.replicate j false) v')/\Hid (Kept K w wr)) (fun i _=>n-(intOf i).toNat)
 case atStart=>exact⟨0,v,by omega,rfl,HW0.out,Kept.refl _ _⟩
 case round=>
  obtain⟨j,v',hj,rfl,HWr,HK⟩:=hrel
  clear HW0
  by_cases hlt:j<n
  ·have gk:decide ((j:Int)<(n:Int))=true:=by simp;omega
   have gk':decide (j<n)=true:=by simp;omega
   have C:=hid (add_any K wr g base t rest v' (bs++List.replicate j false) false (by rw[List.length_append,List.length_replicate];have:=HLE.out;omega) HWr.out)
   clear HWr
   go_wp2_with(go_at_call 245;refine C.out.mono ?_;rintro e w2 ⟨rfl,v2,hW2,hk2⟩)
   have HW2:Hid (Wr K w2 base g t rest (bs++List.replicate (j+1) false) v2):=by
    show Wr _ _ _ _ _ _ _ _
    rw[List.replicate_succ',<-List.append_assoc]
    exact hW2
   have HK2:Hid (Kept K w w2):=HK.out.trans hk2
   clear hW2 hk2 HK C
   go_roundw
   case measure=>go_light;simp[intOf];omega
   case rel=>go_light;exact⟨j+1,v2,by omega,by first|rfl|go_num,HW2.out,HK2.out⟩
  ·obtain rfl:j=n:=by omega
   have gk:decide ((j:Int)<(j:Int))=false:=by simp
   have gk':decide (j<j)=false:=by simp
   have C:=hid (add_any K wr g base t rest v' (bs++List.replicate j false) true (by rw[List.length_append,List.length_replicate];have:=HLE.out;omega) HWr.out)
   clear HWr
   go_wp2_with(go_at_call 245;refine C.out.mono ?_;rintro e w2 ⟨rfl,v2,hW2,hk2⟩)
   go_ret
   refine⟨rfl,v2,?_,HK.out.trans hk2⟩
   unfold unary
   rw[<-List.append_assoc]
   exact hW2
theorem vnZb:(Tryz.prog.info? 5).map (fun i=>(i.zero,i.size,i.bytes))=some (some (.int .u8 0),1,1):=by kernel_rfl
theorem yhZb(K:Nat->Prop)(w:World)(g base:Nat)(v:Value)(bs:List Bool)(n:Nat)(hn:n<=100000)(hle:bs.length+n<=4000000)(hW:RW K w base g bs v):
 Calls Tryz.prog 210 #[.pointer (some ⟨g,0,none⟩), .int .i64 (n:Nat)] w fun e w'=>e= .returned (.int .i64 0)/\∃v',RW K w' base g (bs++unary n) v'/\Kept K w w':=by
 obtain⟨j0,hj0,hy0,hy1,hy2⟩:=info_parts vnZb
 have HLE:=hid hle
 have HW0:Hid (RW K w base g (bs++List.replicate 0 false) v):=by show RW _ _ _ _ _ _;rw[List.replicate_zero,List.append_nil];exact hW
 have y1:decide ((n:Int)<0)=false:=by simp
 have y2:decide ((100000:Int)<(n:Int))=false:=by simp;omega
 have y2':decide (100000<n)=false:=by simp;omega
 clear hW hle
 go_enter Tryz.func210,Tryz.ntmps210
 go_wp2_with fail
 go_loopw [5] (fun i wr=>∃ (j:Nat) (v':Value),j<=n/\i= .int .i64 j/\Hid (RW K wr base g (bs++List.replicate j false) v')/\Hid (Kept K w wr)) (fun i _=>n-(intOf i).toNat)
 case atStart=>exact⟨0,v,by omega,rfl,HW0.out,Kept.refl _ _⟩
 case round=>
  obtain⟨j,v',hj,rfl,HWr,HK⟩:=hrel
  obtain⟨wi,rfl⟩:∃wi:World,wi=wr:=⟨_,rfl⟩
  clear HW0
  have HOWN:=hid HWr.out.own
  have hln:(bs++List.replicate j false).length<=4000000:=by rw[List.length_append,List.length_replicate];have:=HLE.out;omega
  obtain⟨q,hq⟩:∃q,q=(bs++List.replicate j false).length:=⟨_,rfl⟩
  rw[<-hq]at HOWN hln
  obtain⟨AS,cS,rfl⟩:=bZ HOWN.out
  have HQ:=hid hq
  have hzi:=HWr.out.base
  have d0:=HWr.out.blk.cell 0
  have f0:=HWr.out.blk.frozen 0
  simp only[List.getElem?_toArray,List.getElem?_cons_zero]at d0
  clear hq
  by_cases hlt:j<n
  ·have gk:decide ((j:Int)<(n:Int))=true:=by simp;omega
   have gk':decide (j<n)=true:=by simp;omega
   go_wp2_with(at_builtin;refine hZ rfl (.tmp 21) (.tmp 22) 29 rfl base 5 j0 _ 1 1 Tryz.underlying29 hj0 hy0 hy1 hy2 rfl (by decide) _ _ _ (by rfl) (HOWN.out.alloc _) _ 1 1 [.int .u8 0] (by rfl) (Src.of_blk (Blk.made_at _ _ _ (by simp)) 1 1 1 rfl) (by intro u hu;simp at hu;rcases hu with rfl;rfl) (by unfold maxLen;omega) (by omega) (by simp;omega) ?_;intro v6 w6 hown6 hg6 hat6;obtain⟨g3,c3,rfl⟩:=deZ hown6;have p3:=((HWr.out.blk.alloc _).grown hg6 (Ne.symm HWr.out.ne)).cell 0;have p4:=((HWr.out.blk.alloc _).grown hg6 (Ne.symm HWr.out.ne)).frozen 0;simp only[List.getElem?_toArray,List.getElem?_cons_zero]at p3)
   have hq:q=(bs++List.replicate j false).length:=HQ.out
   subst hq
   have hP:=HWr.out.push false (y:=0) (aZ (Below.refl _ wi)) (by rfl) hown6 hg6 (by
    rcases hat6 with e|e
    ·exact .inl e.symm
    ·exact .inr (Option.some.inj e))
   have HW2:Hid (RW K (w6.setCell ⟨g,0,none⟩ (.slice (some ⟨g3,0,none⟩) ((bs++List.replicate j false).length+1) c3)) base g (bs++List.replicate (j+1) false) (.slice (some ⟨g3,0,none⟩) ((bs++List.replicate j false).length+1) c3)):=by
    show RW _ _ _ _ _ _
    have h:=hP.1
    rw[List.append_assoc,<-List.replicate_succ']at h
    exact h
   have HK2:Hid (Kept K w (w6.setCell ⟨g,0,none⟩ (.slice (some ⟨g3,0,none⟩) ((bs++List.replicate j false).length+1) c3))):=HK.out.trans hP.2
   clear hP hown6 hg6 hat6 HK HWr HOWN
   go_roundw
   case measure=>go_light;simp[intOf];omega
   case rel=>go_light;exact⟨j+1,_,by omega,by first|rfl|go_num,HW2.out,HK2.out⟩
  ·obtain rfl:j=n:=by omega
   have gk:decide ((j:Int)<(j:Int))=false:=by simp
   have gk':decide (j<j)=false:=by simp
   go_wp2_with(at_builtin;refine hZ rfl (.tmp 30) (.tmp 31) 29 rfl base 5 j0 _ 1 1 Tryz.underlying29 hj0 hy0 hy1 hy2 rfl (by decide) _ _ _ (by rfl) (HOWN.out.alloc _) _ 1 1 [.int .u8 1] (by rfl) (Src.of_blk (Blk.made_at _ _ _ (by simp)) 1 1 1 rfl) (by intro u hu;simp at hu;rcases hu with rfl;rfl) (by unfold maxLen;omega) (by omega) (by simp;omega) ?_;intro v6 w6 hown6 hg6 hat6;obtain⟨g3,c3,rfl⟩:=deZ hown6;have p3:=((HWr.out.blk.alloc _).grown hg6 (Ne.symm HWr.out.ne)).cell 0;have p4:=((HWr.out.blk.alloc _).grown hg6 (Ne.symm HWr.out.ne)).frozen 0;simp only[List.getElem?_toArray,List.getElem?_cons_zero]at p3)
   have hq:q=(bs++List.replicate j false).length:=HQ.out
   subst hq
   have hP:=HWr.out.push true (y:=1) (aZ (Below.refl _ wi)) (by rfl) hown6 hg6 (by
    rcases hat6 with e|e
    ·exact .inl e.symm
    ·exact .inr (Option.some.inj e))
   go_ret
   have h1:RW K (w6.setCell ⟨g,0,none⟩ (.slice (some ⟨g3,0,none⟩) ((bs++List.replicate j false).length+1) c3)) base g (bs++unary j) (.slice (some ⟨g3,0,none⟩) ((bs++List.replicate j false).length+1) c3):=by
    unfold unary
    rw[<-List.append_assoc]
    exact hP.1
   exact⟨rfl,_,h1,HK.out.trans hP.2⟩
end Go.Proofs.YtmlaajebadfkoaaGreatDoor.Ef
