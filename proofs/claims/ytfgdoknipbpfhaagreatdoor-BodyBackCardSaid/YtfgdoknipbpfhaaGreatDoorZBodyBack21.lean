/- The walk of the refe -/
import Derived.Test.YtfgdoknipbpfhaaGreatDoorZBodyBack11
import Derived.Test.YtfgdoknipbpfhaaGreatDoorZBodyBack14
import Derived.Test.YtfgdoknipbpfhaaGreatDoorZBodyBack20
import Derived.Laws.BytesArg
import Derived.Laws.Strings
import Derived.KernelRfl
import Derived.Lib.SmallJoins
namespace Go.Proofs.YtfgdoknipbpfhaaGreatDoor
open Go.Proofs.Tryz
open Go.Lib (hid)
set_option maxHeartbeats 4000000
set_option maxRecDepth 100000
variable{a b ls:List Nat}{w:World}{A:Option Addr}{base c n x:Nat}
namespace Huff
open Go.RowKit Mem Canon
def Iu(ls:List Nat):ByteArray:=strOfNums (ls.map fun x=>((x:Nat):Int))
theorem Uc(x y:ByteArray):(x.toList==y.toList)=true↔x=y:=by
 rw[beq_iff_eq,GX,GX];constructor
 ·intro h;exact ByteArray.ext (Array.toList_inj.1 h)
 ·intro h;rw[h]
theorem jR(ha:∀x∈a,x<=255)(hb:∀x∈b,x<=255)(h:Iu a=Iu b):a=b:=by
 have h:=Az (fun s:ByteArray=>s.data.toList) h;simp only[Iu,strOfNums_data,List.map_map]at h
 have e:∀l:List Nat,(∀x∈l,x<=255)->(l.map ((fun n:Int=>UInt8.ofNat n.toNat) ∘ fun x:Nat=>(x:Int))).map UInt8.toNat=l:=by
  intro l hl;rw[List.map_map]
  conv=>rhs;rw[<-List.map_id l]
  apply Kz
  intro x hx;have:=hl x hx;simp;omega
 rw[<-e a ha,<-e b hb,h]
theorem i5(ha:∀x∈a,x<=255)(hb:∀x∈b,x<=255):((Iu a).toList==(Iu b).toList)=decide (a=b):=by
 by_cases h:a=b
 ·subst h;rw[AK rfl];exact(Uc _ _).2 rfl
 ·rw[AU h];cases e:(Iu a).toList==(Iu b).toList
  ·rfl
  ·exact absurd (jR ha hb ((Uc _ _).1 e)) h
theorem V4{B:Nat}(hn:ls.length=n)(ha:Row w B A n 1 (jZ .u8 ls))(z:A=none->n=0):
 (convert 28 9 (.slice A n c)).run prog w= .ok (.string (Iu ls)) w:=by
 cases A with
 |none=>obtain rfl:=z rfl;have hl:ls= []:=GC hn;subst hl;exact run_convert_bytes_nil w 28 5 underlying28 underlying5 0 c 9 underlying9
 |some ad=>
  obtain⟨b,y,h⟩:=ad;by_cases h0:n=0
  ·subst h0;have hl:ls= []:=GC hn;subst hl;have h0:(loadCells ⟨b,y,h⟩ 0).run prog w= .ok (([]:List Int).map (Value.int .u8)).toArray w:=(by have:=run_loadCells_list (P:=prog) w ⟨b,y,h⟩ [] (fun j v hj=>by simp at hj);simpa using this);rw[run_convert_bytes_string w 28 9 5 _ 0 c underlying28 underlying5 underlying9,run_bytesToString w _ 0 c [] h0,List.foldl_nil];have e:Iu []=ByteArray.empty:=rfl;rw[e]
  ·obtain⟨b',E,e,hb,hc⟩:=ha nj;simp only[Option.some.injEq,Addr.mk.injEq]at e;obtain⟨rfl,rfl,rfl⟩:=e;refine run_convert_bytes_arg w 28 5 underlying28 underlying5 b y n c _ (by simpa using hn) (fun i hi=> ?_) 9 underlying9;have:=hc i 0 hi nj;rw[CO,Bi]at this;rw[this];unfold jZ;congr 2;simp[List.getD_eq_getElem?_getD,show i<ls.length by omega]
theorem iE(w:World)(A B:Option Addr)(n m c d:Nat)(la lb:List Nat)(hn:la.length=n)(hm:lb.length=m)(hA:A=none->n=0)(hB:B=none->m=0)
 (h:∀x∈la,x<=255)(i:∀x∈lb,x<=255)(ha:Row w w A n 1 (jZ .u8 la))(hb:Row w w B m 1 (jZ .u8 lb)):
 Calls prog 42 #[.slice A n c, .slice B m d] w fun e w'=>e= .returned (.bool (decide (la=lb)))/\w=w':=by
 have p1:=V4 (c:=c) hn ha hA;have p2:=V4 (c:=d) hm hb hB;have HE:=hid (i5 h i);clear hn hm hA hB h i ha hb;go_enter func42,ntmps42;go_wp2_with fail;go_ret;exact⟨by simp[HE.out],rfl⟩
end Huff
namespace Block
open Go.RowKit Mem Own Canon
open NumPut Crc
open Huff (Ib Tu bytesOf KV)
open Toks (Tk)
def sqO(bs:List Nat):List Nat:=TW.G4 (Lz.find bs)
def sqE(bs:List Nat):Int:=TW.Ie (Lz.find bs)
def sqz(bs:List Nat):Bool:=sqE bs==0&&decide ((sqO bs).length<bs.length)
def GN(bs:List Nat)(plain:Bool):Nat:=if !plain&&sqz bs then 1 else 0
def Ea(bs:List Nat)(plain:Bool):List Nat:=if !plain&&sqz bs then sqO bs else bs
def IP(bs:List Nat)(plain:Bool):List Nat:= [GN bs plain]++gZ bs.length++gZ (Ea bs plain).length
def Ds(bs:List Nat)(plain:Bool):List Nat:=IP bs plain++Ea bs plain
def Br(bs:List Nat)(plain:Bool):List Nat:=Ds bs plain++CW (Cq (Ds bs plain))
theorem YL(w:World)(A:Option Addr)(n c:Nat)(bs:List Nat)(hn:bs.length=n)(hN:n<=16000)(h8:∀x∈bs,x<=255)(ha:Row w w A n 1 (jZ .u8 bs)):
 Calls prog 98 #[.slice A n c] w fun e w'=>∃v,e= .returned (.tuple #[v, .bool (sqz bs)])/\w'.ownsRow w 5 1 v (sqO bs).length (cZ .u8 (sqO bs))/\Below w w w':=by
 have D1:=hid (Lz.n5 w A n c bs hn nj h8 ha);have N:=Lz.find_ok h8 0;have U:(Lz.find bs).length<=n:=by have:=N.2;rw[<-hn];exact this
 have D2:Hid (∀wx A c,wx.ownsRow w 280 3 (.slice A (Lz.find bs).length c) (Lz.find bs).length (Huff.Dv (Lz.find bs))->Calls prog 166 #[.slice A (Lz.find bs).length c] wx (Ib (Lz.find bs) wx)):=fun wx A c h=>Tu wx A _ c _ rfl nj (fun t ht=>(N.1 t ht).1) (Mf h);have Q:sqz bs=(sqE bs==0&&decide ((sqO bs).length<n)):=by unfold sqz;rw[hn]
 rw[Q];unfold Ib at D2;unfold sqE sqO;generalize TW.Ie (Lz.find bs)=E at *;generalize TW.G4 (Lz.find bs)=O at *;generalize Lz.find bs=ts at *;clear hn h8 ha N U Q;by_cases he:E=0
 ·subst he;have g1:((0:Int)==0)=true:=rfl;by_cases hl:O.length<n
  ·have g2:=ic ((O.length:Int)<n);have M:=ic (O.length<n);rw[g1,M];go_enter func98,ntmps98;go_wp2_with fail;refine D1.out.mono ?_;rintro e w1 ⟨v1,rfl,y,z⟩;obtain⟨A1,c1,rfl⟩:=bZ y;have D3:=hid (D2.out w1 A1 c1 y);have j:=hid z;clear D2 D1 y z;generalize List.length ts=m at *;go_wp2_with fail;refine D3.out.mono ?_;rintro e w2 ⟨v2,rfl,i,G⟩;obtain⟨A2,c2,rfl⟩:=bZ i;have L:=hid (lZ i j.out.size);have J:=hid (dZ G j.out);clear i G D3 j;go_wp2_with fail;go_ret2;exact⟨_,rfl,L.out,J.out⟩
  ·have g2:=ig ((O.length:Int)<n);have M:=ig (O.length<n);rw[g1,M];go_enter func98,ntmps98;go_wp2_with fail;refine D1.out.mono ?_;rintro e w1 ⟨v1,rfl,y,z⟩;obtain⟨A1,c1,rfl⟩:=bZ y;have D3:=hid (D2.out w1 A1 c1 y);have j:=hid z;clear D2 D1 y z;generalize List.length ts=m at *;go_wp2_with fail;refine D3.out.mono ?_;rintro e w2 ⟨v2,rfl,i,G⟩;obtain⟨A2,c2,rfl⟩:=bZ i;have L:=hid (lZ i j.out.size);have J:=hid (dZ G j.out);clear i G D3 j;go_wp2_with fail;go_ret2;exact⟨_,rfl,L.out,J.out⟩
 ·have g1:(E==0)=false:=by simpa using he
  rw[g1];go_enter func98,ntmps98;go_wp2_with fail;refine D1.out.mono ?_;rintro e w1 ⟨v1,rfl,y,z⟩;obtain⟨A1,c1,rfl⟩:=bZ y;have D3:=hid (D2.out w1 A1 c1 y);have j:=hid z;clear D2 D1 y z;generalize List.length ts=m at *;go_wp2_with fail;refine D3.out.mono ?_;rintro e w2 ⟨v2,rfl,i,G⟩;obtain⟨A2,c2,rfl⟩:=bZ i;have L:=hid (lZ i j.out.size);have J:=hid (dZ G j.out);clear i G D3 j;go_wp2_with fail;go_ret2;exact⟨_,rfl,L.out,J.out⟩
theorem Tg(ts:List Tk):∀x∈TW.G4 ts,x<=255:=by
 intro x hx;unfold TW.G4 at hx;split at hx
 ·unfold bytesOf at hx;obtain⟨k,_,rfl⟩:=Co.1 hx;exact KV _ _
 ·cases hx
theorem gD(h:w.ownsRow base 5 1 (.slice A ls.length c) ls.length (cZ .u8 ls)):Row w w A ls.length 1 (jZ .u8 ls):=
 Row.of_own h rfl fun i j hi hj=>by
  obtain rfl:j=0:=nj
  simp[cZ,jZ,List.getD_eq_getElem?_getD,hi]
theorem nZ(h:w.ownsRow base 5 1 (.slice A n c) n (cZ .u8 ls))(hn:ls.length=n):Part.Ok ⟨A,c,ls⟩ w:=by subst hn;exact⟨gD h,(EA h).1⟩
theorem J6{w:World}{g x:Nat}(h:Blk w g 5 #[.int .u8 (x:Nat)]):Part.Ok ⟨some ⟨g,0,none⟩,1,[x]⟩ w:=
 ⟨Row.of_blk h h.lt fun i j hi hj=>by
  obtain rfl:i=0:=by simp at hi;omega
  obtain rfl:j=0:=nj
  rfl,fun e=>by cases e⟩
theorem Im(h:x<=16383):(gZ x).length<=2:=by
 by_cases h1:x<128
 ·rw[EZ h1];simp
 ·rw[Gw h1,EZ nj];simp
def Ka(bs:List Nat)(plain:Bool)(w:World)(e:Ending)(w':World):Prop:=
 ∃v,e= .returned (.tuple #[v,ij])/\w'.ownsRow w 5 1 v (Br bs plain).length (cZ .u8 (Br bs plain))/\Below w w w'
theorem wrap_u64(n:Int):IntKind.u64.wrap n=n % 18446744073709551616:=by simp[IntKind.wrap,IntKind.bits,IntKind.signed]
theorem Mu(w:World)(A:Option Addr)(n c:Nat)(bs:List Nat)(plain:Bool)(hn:bs.length=n)(hN:n<=16000)(a3:A=none->n=0/\c=0)(h8:∀x∈bs,x<=255)(ht:TabAt w)(ha:Row w w A n 1 (jZ .u8 bs)):
 Calls prog 47 #[.slice A n c,plain] w (Ka bs plain w):=by
 subst hn;have D1:=hid (YL w A bs.length c bs rfl hN h8 ha);have D2:Hid (∀wx x,x<=16000->Calls prog 99 #[.int .u64 (x:Nat)] wx fun e w'=>∃v,e= .returned v/\w'.ownsRow wx 5 1 v (gZ x).length (cZ .u8 (gZ x))/\Below wx wx w'):=fun wx x h=>num_any wx x nj;have g0:=ig ((32768:Int)<bs.length)
 have a6:=ig (32768<bs.length)
 have u1:IntKind.u64.wrap (bs.length:Int)=(bs.length:Int):=qD
 have am:=hid ht;have aq:Hid (Part.Ok (⟨A,c,bs⟩:Part) w):=⟨ha,a3⟩;have ax:=hid h8;clear ht ha a3 h8;cases plain with
 |true=>
  have aa:Hid (Part.Ok (⟨A,c,bs⟩:Part) w):=aq.out;have al:Hid (Below w w w):=Ae _ _;have N:Hid (TabAt w):=am.out;have a1:bs.length<=16000:=hN;have L:Hid ((gZ bs.length).length<=2/\(gZ bs.length).length<=2/\bs.length<=16000):=⟨Im nj,Im nj,a1⟩;have a0:Hid (∀a c3 c4 A3 A4,BV [⟨a,1,[0]⟩,⟨A3,c3,gZ bs.length⟩,⟨A4,c4,gZ bs.length⟩]<=1000000):=fun _ _ _ _ _=>kq
  have an:Hid (([0]++(gZ bs.length++(gZ bs.length++ [])))++(bs++ [])=Ds bs true):=by unfold Ds IP GN Ea;simp only[Bool.not_true,Bool.false_and,Bool.false_eq_true,if_false];refine hid ?_;simp
  have H8:Hid (∀x∈([0]++(gZ bs.length++(gZ bs.length++ [])))++(bs++ []),x<=255):=fun x hx=>by
   simp only[List.append_nil,List.mem_append,List.mem_singleton]at hx;rcases hx with (rfl|hx|hx)|hx
   ·omega
   ·exact CZ _ x hx
   ·exact CZ _ x hx
   ·exact ax.out x hx
  have u2:IntKind.u64.wrap (bs.length:Int)=(bs.length:Int):=qD
  clear D1 aq am ax;go_enter func47,ntmps47;go_wp2_with fail;refine(D2.out _ bs.length nj).mono ?_;rintro e w2 ⟨v2,rfl,G,z⟩;obtain⟨A3,c3,rfl⟩:=bZ G;have P1:Hid (Part.Ok (⟨some ⟨w,0,none⟩,1,[0]⟩:Part) w2):=(J6 (Blk.made _ _ _)).step z;have P2:Hid (Part.Ok (⟨A3,c3,gZ bs.length⟩:Part) w2):=nZ G rfl;have P4:Hid (Part.Ok (⟨A,c,bs⟩:Part) w2):=aa.out.step (dZ z (aZ (Ae _ _)));have Q:Hid (Below w w w2):=dZ (dZ z (aZ (Ae _ _))) al.out;have ac:Hid (TabAt w2):=N.out.step (dZ z (aZ (Ae _ _)));clear G z aa al N;go_wp2_with fail;refine(D2.out _ bs.length nj).mono ?_;rintro e w3 ⟨v3,rfl,M,i⟩;obtain⟨A4,c4,rfl⟩:=bZ M;have Q1:=hid ((P1.out.step i).step (aZ (Ae w3 w3) (o:=(.cells #[(⟨some ⟨w,0,none⟩,1,[0]⟩:Part).v,(⟨A3,c3,gZ bs.length⟩:Part).v,(⟨A4,c4,gZ bs.length⟩:Part).v] 28))));have Q2:=hid ((P2.out.step i).step (aZ (Ae w3 w3) (o:=(.cells #[(⟨some ⟨w,0,none⟩,1,[0]⟩:Part).v,(⟨A3,c3,gZ bs.length⟩:Part).v,(⟨A4,c4,gZ bs.length⟩:Part).v] 28))));have Q3:=hid (Part.Ok.step (p:=(⟨A4,c4,gZ bs.length⟩:Part)) (nZ M rfl) (aZ (Ae w3 w3) (o:=(.cells #[(⟨some ⟨w,0,none⟩,1,[0]⟩:Part).v,(⟨A3,c3,gZ bs.length⟩:Part).v,(⟨A4,c4,gZ bs.length⟩:Part).v] 28))));have Q4:=hid ((P4.out.step i).step (aZ (Ae w3 w3) (o:=(.cells #[(⟨some ⟨w,0,none⟩,1,[0]⟩:Part).v,(⟨A3,c3,gZ bs.length⟩:Part).v,(⟨A4,c4,gZ bs.length⟩:Part).v] 28))));have ai:Hid (Below w w (w3.alloc (.cells #[(⟨some ⟨w,0,none⟩,1,[0]⟩:Part).v,(⟨A3,c3,gZ bs.length⟩:Part).v,(⟨A4,c4,gZ bs.length⟩:Part).v] 28))):=aZ (dZ i Q.out);have ah:Hid (TabAt (w3.alloc (.cells #[(⟨some ⟨w,0,none⟩,1,[0]⟩:Part).v,(⟨A3,c3,gZ bs.length⟩:Part).v,(⟨A4,c4,gZ bs.length⟩:Part).v] 28))):=(ac.out.step i).step (aZ (Ae _ _));clear M i P1 P2 P4 Q ac;go_wp2_with fail
  refine(FZ _ w3 3 [(⟨some ⟨w,0,none⟩,1,[0]⟩:Part),(⟨A3,c3,gZ bs.length⟩:Part),(⟨A4,c4,gZ bs.length⟩:Part)] rfl nj (a0.out _ _ _ _ _) (fun p hp=>by
   rcases AV.1 hp with rfl|hp
   ·exact Q1.out
   ·rcases AV.1 hp with rfl|hp
    ·exact Q2.out
    ·rcases AV.1 hp with rfl|hp
     ·exact Q3.out
     ·cases hp) (Blk.made _ _ _)).mono ?_
  rintro e w5 ⟨v5,rfl,Y,E⟩;have ag:Hid (Below w w w5):=dZ E ai.out;have ab:Hid (TabAt w5):=ah.out.step E;have P4:=hid (Q4.out.step E);obtain⟨H,hH⟩:=ii ( [0]++(gZ bs.length++(gZ bs.length++ [])));have j:=show w5.ownsRow _ 5 1 v5 H.length (cZ .u8 H) by rw[hH];exact Y
  obtain⟨A5,c5,rfl⟩:=bZ j;have P5:Hid (Part.Ok (⟨A5,c5,H⟩:Part) w5):=nZ j rfl;have HH:=hid hH;clear Y j E ai ah Q1 Q2 Q3 Q4 hH;go_wp2_with fail;have R5:=hid (P5.out.step (aZ (Ae w5 w5) (o:=(.cells #[(⟨A5,c5,H⟩:Part).v,(⟨A,c,bs⟩:Part).v] 28))));have R4:=hid (P4.out.step (aZ (Ae w5 w5) (o:=(.cells #[(⟨A5,c5,H⟩:Part).v,(⟨A,c,bs⟩:Part).v] 28))));have ae:BV [(⟨A5,c5,H⟩:Part),(⟨A,c,bs⟩:Part)]<=1000000:=ly
  refine(FZ _ w5 2 [(⟨A5,c5,H⟩:Part),(⟨A,c,bs⟩:Part)] rfl nj ae (fun p hp=>by
   rcases AV.1 hp with rfl|hp
   ·exact R5.out
   ·rcases AV.1 hp with rfl|hp
    ·exact R4.out
    ·cases hp) (Blk.made _ _ _)).mono ?_
  rintro e w6 ⟨v6,rfl,U,J⟩;have af:Hid (Below w w w6):=dZ J (aZ ag.out);have ay:Hid (TabAt w6):=(ab.out.step (aZ (Ae _ _))).step J;obtain⟨F,hF⟩:=ii (H++(bs++ []));have y:=show w6.ownsRow _ 5 1 v6 F.length (cZ .u8 F) by rw[hF];exact U
  obtain⟨A6,c6,rfl⟩:=bZ y;have P6:Hid (Part.Ok (⟨A6,c6,F⟩:Part) w6):=nZ y rfl;have HF:Hid (F=Ds bs true):=qj
  have az:F.length<=100000:=jy
  have au:Hid (∀x∈F,x<=255):=qi
  clear U y J hF ae R5 R4 P5 P4 ag ab;go_wp2_with fail;refine(put_any w6 A6 F.length c6 F rfl az P6.out.nil au.out ay.out P6.out.row).mono ?_;rintro e w7 ⟨v7,rfl,ak,Z⟩;have aw:Hid (w7.ownsRow w 5 1 v7 (Br bs true).length (cZ .u8 (Br bs true))):=by have h:=lZ ak af.out.size;have e1:(Br bs true).length=F.length+4:=rD;rw[e1];unfold Br;rw[<-HF.out];exact h
  have av:=hid (dZ Z af.out);clear ak Z;go_wp2_with fail;go_ret2;exact⟨_,rfl,aw.out,av.out⟩
 |false=>
  cases hq:sqz bs with
  |false=>
   rw[hq]at D1;have HQ:=hid hq;clear hq;go_enter func47,ntmps47;go_wp2_with fail;refine D1.out.mono ?_;rintro e w1 ⟨v1,rfl,ar,aj⟩;have aa:Hid (Part.Ok (⟨A,c,bs⟩:Part) w1):=aq.out.step aj;have al:Hid (Below w w w1):=aj;have N:Hid (TabAt w1):=am.out.step aj;have a1:bs.length<=16000:=hN;have L:Hid ((gZ bs.length).length<=2/\(gZ bs.length).length<=2/\bs.length<=16000):=⟨Im nj,Im nj,a1⟩;have a0:Hid (∀a c3 c4 A3 A4,BV [⟨a,1,[0]⟩,⟨A3,c3,gZ bs.length⟩,⟨A4,c4,gZ bs.length⟩]<=1000000):=fun _ _ _ _ _=>kq
   have an:Hid (([0]++(gZ bs.length++(gZ bs.length++ [])))++(bs++ [])=Ds bs false):=by unfold Ds IP GN Ea;rw[HQ.out];simp only[Bool.and_false,Bool.false_eq_true,if_false];refine hid ?_;simp
   have H8:Hid (∀x∈([0]++(gZ bs.length++(gZ bs.length++ [])))++(bs++ []),x<=255):=fun x hx=>by
    simp only[List.append_nil,List.mem_append,List.mem_singleton]at hx;rcases hx with (rfl|hx|hx)|hx
    ·omega
    ·exact CZ _ x hx
    ·exact CZ _ x hx
    ·exact ax.out x hx
   have u2:IntKind.u64.wrap (bs.length:Int)=(bs.length:Int):=qD;clear D1 aq am ax ar aj;go_wp2_with fail;refine(D2.out _ bs.length nj).mono ?_;rintro e w2 ⟨v2,rfl,G,z⟩;obtain⟨A3,c3,rfl⟩:=bZ G;have P1:Hid (Part.Ok (⟨some ⟨w1,0,none⟩,1,[0]⟩:Part) w2):=(J6 (Blk.made _ _ _)).step z;have P2:Hid (Part.Ok (⟨A3,c3,gZ bs.length⟩:Part) w2):=nZ G rfl;have P4:Hid (Part.Ok (⟨A,c,bs⟩:Part) w2):=aa.out.step (dZ z (aZ (Ae _ _)));have Q:Hid (Below w w w2):=dZ (dZ z (aZ (Ae _ _))) al.out;have ac:Hid (TabAt w2):=N.out.step (dZ z (aZ (Ae _ _)));clear G z aa al N;go_wp2_with fail;refine(D2.out _ bs.length nj).mono ?_;rintro e w3 ⟨v3,rfl,M,i⟩;obtain⟨A4,c4,rfl⟩:=bZ M;have Q1:=hid ((P1.out.step i).step (aZ (Ae w3 w3) (o:=(.cells #[(⟨some ⟨w1,0,none⟩,1,[0]⟩:Part).v,(⟨A3,c3,gZ bs.length⟩:Part).v,(⟨A4,c4,gZ bs.length⟩:Part).v] 28))));have Q2:=hid ((P2.out.step i).step (aZ (Ae w3 w3) (o:=(.cells #[(⟨some ⟨w1,0,none⟩,1,[0]⟩:Part).v,(⟨A3,c3,gZ bs.length⟩:Part).v,(⟨A4,c4,gZ bs.length⟩:Part).v] 28))));have Q3:=hid (Part.Ok.step (p:=(⟨A4,c4,gZ bs.length⟩:Part)) (nZ M rfl) (aZ (Ae w3 w3) (o:=(.cells #[(⟨some ⟨w1,0,none⟩,1,[0]⟩:Part).v,(⟨A3,c3,gZ bs.length⟩:Part).v,(⟨A4,c4,gZ bs.length⟩:Part).v] 28))));have Q4:=hid ((P4.out.step i).step (aZ (Ae w3 w3) (o:=(.cells #[(⟨some ⟨w1,0,none⟩,1,[0]⟩:Part).v,(⟨A3,c3,gZ bs.length⟩:Part).v,(⟨A4,c4,gZ bs.length⟩:Part).v] 28))));have ai:Hid (Below w w (w3.alloc (.cells #[(⟨some ⟨w1,0,none⟩,1,[0]⟩:Part).v,(⟨A3,c3,gZ bs.length⟩:Part).v,(⟨A4,c4,gZ bs.length⟩:Part).v] 28))):=aZ (dZ i Q.out);have ah:Hid (TabAt (w3.alloc (.cells #[(⟨some ⟨w1,0,none⟩,1,[0]⟩:Part).v,(⟨A3,c3,gZ bs.length⟩:Part).v,(⟨A4,c4,gZ bs.length⟩:Part).v] 28))):=(ac.out.step i).step (aZ (Ae _ _));clear M i P1 P2 P4 Q ac;go_wp2_with fail
   refine(FZ _ w3 3 [(⟨some ⟨w1,0,none⟩,1,[0]⟩:Part),(⟨A3,c3,gZ bs.length⟩:Part),(⟨A4,c4,gZ bs.length⟩:Part)] rfl nj (a0.out _ _ _ _ _) (fun p hp=>by
    rcases AV.1 hp with rfl|hp
    ·exact Q1.out
    ·rcases AV.1 hp with rfl|hp
     ·exact Q2.out
     ·rcases AV.1 hp with rfl|hp
      ·exact Q3.out
      ·cases hp) (Blk.made _ _ _)).mono ?_
   rintro e w5 ⟨v5,rfl,Y,E⟩;have ag:Hid (Below w w w5):=dZ E ai.out;have ab:Hid (TabAt w5):=ah.out.step E;have P4:=hid (Q4.out.step E);obtain⟨H,hH⟩:=ii ( [0]++(gZ bs.length++(gZ bs.length++ [])));have j:=show w5.ownsRow _ 5 1 v5 H.length (cZ .u8 H) by rw[hH];exact Y
   obtain⟨A5,c5,rfl⟩:=bZ j;have P5:Hid (Part.Ok (⟨A5,c5,H⟩:Part) w5):=nZ j rfl;have HH:=hid hH;clear Y j E ai ah Q1 Q2 Q3 Q4 hH;go_wp2_with fail;have R5:=hid (P5.out.step (aZ (Ae w5 w5) (o:=(.cells #[(⟨A5,c5,H⟩:Part).v,(⟨A,c,bs⟩:Part).v] 28))));have R4:=hid (P4.out.step (aZ (Ae w5 w5) (o:=(.cells #[(⟨A5,c5,H⟩:Part).v,(⟨A,c,bs⟩:Part).v] 28))));have ae:BV [(⟨A5,c5,H⟩:Part),(⟨A,c,bs⟩:Part)]<=1000000:=ly
   refine(FZ _ w5 2 [(⟨A5,c5,H⟩:Part),(⟨A,c,bs⟩:Part)] rfl nj ae (fun p hp=>by
    rcases AV.1 hp with rfl|hp
    ·exact R5.out
    ·rcases AV.1 hp with rfl|hp
     ·exact R4.out
     ·cases hp) (Blk.made _ _ _)).mono ?_
   rintro e w6 ⟨v6,rfl,U,J⟩;have af:Hid (Below w w w6):=dZ J (aZ ag.out);have ay:Hid (TabAt w6):=(ab.out.step (aZ (Ae _ _))).step J;obtain⟨F,hF⟩:=ii (H++(bs++ []));have y:=show w6.ownsRow _ 5 1 v6 F.length (cZ .u8 F) by rw[hF];exact U
   obtain⟨A6,c6,rfl⟩:=bZ y;have P6:Hid (Part.Ok (⟨A6,c6,F⟩:Part) w6):=nZ y rfl;have HF:Hid (F=Ds bs false):=qj
   have az:F.length<=100000:=jy;have au:Hid (∀x∈F,x<=255):=qi;clear U y J hF ae R5 R4 P5 P4 ag ab;go_wp2_with fail;refine(put_any w6 A6 F.length c6 F rfl az P6.out.nil au.out ay.out P6.out.row).mono ?_;rintro e w7 ⟨v7,rfl,ak,Z⟩;have aw:Hid (w7.ownsRow w 5 1 v7 (Br bs false).length (cZ .u8 (Br bs false))):=kz;have av:=hid (dZ Z af.out);clear ak Z;go_wp2_with fail;go_ret2;exact⟨_,rfl,aw.out,av.out⟩
  |true=>
   rw[hq]at D1;have HQ:=hid hq;have a5:(sqO bs).length<bs.length:=(by unfold sqz at hq;simp at hq;exact hq.2);have a4:∀x∈sqO bs,x<=255:=Tg _;clear hq;go_enter func47,ntmps47;go_wp2_with fail;refine D1.out.mono ?_;rintro e w1 ⟨v1,rfl,ar,aj⟩;obtain⟨A1,c1,rfl⟩:=bZ ar;have aa:Hid (Part.Ok (⟨A1,c1,(sqO bs)⟩:Part) w1):=nZ ar rfl;have al:Hid (Below w w w1):=aj;have N:Hid (TabAt w1):=am.out.step aj;have a1:(sqO bs).length<=16000:=nj;have L:Hid ((gZ bs.length).length<=2/\(gZ (sqO bs).length).length<=2/\(sqO bs).length<=16000):=⟨Im nj,Im nj,a1⟩;have a0:Hid (∀a c3 c4 A3 A4,BV [⟨a,1,[1]⟩,⟨A3,c3,gZ bs.length⟩,⟨A4,c4,gZ (sqO bs).length⟩]<=1000000):=fun _ _ _ _ _=>kq
   have an:Hid (([1]++(gZ bs.length++(gZ (sqO bs).length++ [])))++((sqO bs)++ [])=Ds bs false):=by unfold Ds IP GN Ea;rw[HQ.out];simp only[Bool.not_false,Bool.true_and,if_true];refine hid ?_;simp
   have H8:Hid (∀x∈([1]++(gZ bs.length++(gZ (sqO bs).length++ [])))++((sqO bs)++ []),x<=255):=fun x hx=>by
    simp only[List.append_nil,List.mem_append,List.mem_singleton]at hx;rcases hx with (rfl|hx|hx)|hx
    ·omega
    ·exact CZ _ x hx
    ·exact CZ _ x hx
    ·exact a4 x hx
   have u2:IntKind.u64.wrap ((sqO bs).length:Int)=((sqO bs).length:Int):=qD;clear D1 aq am ax ar aj a4;go_wp2_with fail;refine(D2.out _ bs.length nj).mono ?_;rintro e w2 ⟨v2,rfl,G,z⟩;obtain⟨A3,c3,rfl⟩:=bZ G;have P1:Hid (Part.Ok (⟨some ⟨w1,0,none⟩,1,[1]⟩:Part) w2):=(J6 (Blk.made _ _ _)).step z;have P2:Hid (Part.Ok (⟨A3,c3,gZ bs.length⟩:Part) w2):=nZ G rfl;have P4:Hid (Part.Ok (⟨A1,c1,(sqO bs)⟩:Part) w2):=aa.out.step (dZ z (aZ (Ae _ _)));have Q:Hid (Below w w w2):=dZ (dZ z (aZ (Ae _ _))) al.out;have ac:Hid (TabAt w2):=N.out.step (dZ z (aZ (Ae _ _)));clear G z aa al N;go_wp2_with fail;refine(D2.out _ (sqO bs).length nj).mono ?_;rintro e w3 ⟨v3,rfl,M,i⟩;obtain⟨A4,c4,rfl⟩:=bZ M;have Q1:=hid ((P1.out.step i).step (aZ (Ae w3 w3) (o:=(.cells #[(⟨some ⟨w1,0,none⟩,1,[1]⟩:Part).v,(⟨A3,c3,gZ bs.length⟩:Part).v,(⟨A4,c4,gZ (sqO bs).length⟩:Part).v] 28))));have Q2:=hid ((P2.out.step i).step (aZ (Ae w3 w3) (o:=(.cells #[(⟨some ⟨w1,0,none⟩,1,[1]⟩:Part).v,(⟨A3,c3,gZ bs.length⟩:Part).v,(⟨A4,c4,gZ (sqO bs).length⟩:Part).v] 28))));have Q3:=hid (Part.Ok.step (p:=(⟨A4,c4,gZ (sqO bs).length⟩:Part)) (nZ M rfl) (aZ (Ae w3 w3) (o:=(.cells #[(⟨some ⟨w1,0,none⟩,1,[1]⟩:Part).v,(⟨A3,c3,gZ bs.length⟩:Part).v,(⟨A4,c4,gZ (sqO bs).length⟩:Part).v] 28))));have Q4:=hid ((P4.out.step i).step (aZ (Ae w3 w3) (o:=(.cells #[(⟨some ⟨w1,0,none⟩,1,[1]⟩:Part).v,(⟨A3,c3,gZ bs.length⟩:Part).v,(⟨A4,c4,gZ (sqO bs).length⟩:Part).v] 28))));have ai:Hid (Below w w (w3.alloc (.cells #[(⟨some ⟨w1,0,none⟩,1,[1]⟩:Part).v,(⟨A3,c3,gZ bs.length⟩:Part).v,(⟨A4,c4,gZ (sqO bs).length⟩:Part).v] 28))):=aZ (dZ i Q.out);have ah:Hid (TabAt (w3.alloc (.cells #[(⟨some ⟨w1,0,none⟩,1,[1]⟩:Part).v,(⟨A3,c3,gZ bs.length⟩:Part).v,(⟨A4,c4,gZ (sqO bs).length⟩:Part).v] 28))):=(ac.out.step i).step (aZ (Ae _ _));clear M i P1 P2 P4 Q ac;go_wp2_with fail
   refine(FZ _ w3 3 [(⟨some ⟨w1,0,none⟩,1,[1]⟩:Part),(⟨A3,c3,gZ bs.length⟩:Part),(⟨A4,c4,gZ (sqO bs).length⟩:Part)] rfl nj (a0.out _ _ _ _ _) (fun p hp=>by
    rcases AV.1 hp with rfl|hp
    ·exact Q1.out
    ·rcases AV.1 hp with rfl|hp
     ·exact Q2.out
     ·rcases AV.1 hp with rfl|hp
      ·exact Q3.out
      ·cases hp) (Blk.made _ _ _)).mono ?_
   rintro e w5 ⟨v5,rfl,Y,E⟩;have ag:Hid (Below w w w5):=dZ E ai.out;have ab:Hid (TabAt w5):=ah.out.step E;have P4:=hid (Q4.out.step E);obtain⟨H,hH⟩:=ii ( [1]++(gZ bs.length++(gZ (sqO bs).length++ [])));have j:=show w5.ownsRow _ 5 1 v5 H.length (cZ .u8 H) by rw[hH];exact Y
   obtain⟨A5,c5,rfl⟩:=bZ j;have P5:Hid (Part.Ok (⟨A5,c5,H⟩:Part) w5):=nZ j rfl;have HH:=hid hH;clear Y j E ai ah Q1 Q2 Q3 Q4 hH;go_wp2_with fail;have R5:=hid (P5.out.step (aZ (Ae w5 w5) (o:=(.cells #[(⟨A5,c5,H⟩:Part).v,(⟨A1,c1,(sqO bs)⟩:Part).v] 28))));have R4:=hid (P4.out.step (aZ (Ae w5 w5) (o:=(.cells #[(⟨A5,c5,H⟩:Part).v,(⟨A1,c1,(sqO bs)⟩:Part).v] 28))));have ae:BV [(⟨A5,c5,H⟩:Part),(⟨A1,c1,(sqO bs)⟩:Part)]<=1000000:=ly
   refine(FZ _ w5 2 [(⟨A5,c5,H⟩:Part),(⟨A1,c1,(sqO bs)⟩:Part)] rfl nj ae (fun p hp=>by
    rcases AV.1 hp with rfl|hp
    ·exact R5.out
    ·rcases AV.1 hp with rfl|hp
     ·exact R4.out
     ·cases hp) (Blk.made _ _ _)).mono ?_
   rintro e w6 ⟨v6,rfl,U,J⟩;have af:Hid (Below w w w6):=dZ J (aZ ag.out);have ay:Hid (TabAt w6):=(ab.out.step (aZ (Ae _ _))).step J;obtain⟨F,hF⟩:=ii (H++((sqO bs)++ []));have y:=show w6.ownsRow _ 5 1 v6 F.length (cZ .u8 F) by rw[hF];exact U
   obtain⟨A6,c6,rfl⟩:=bZ y;have P6:Hid (Part.Ok (⟨A6,c6,F⟩:Part) w6):=nZ y rfl;have HF:Hid (F=Ds bs false):=qj
   have az:F.length<=100000:=jy;have au:Hid (∀x∈F,x<=255):=qi;clear U y J hF ae R5 R4 P5 P4 ag ab;go_wp2_with fail;refine(put_any w6 A6 F.length c6 F rfl az P6.out.nil au.out ay.out P6.out.row).mono ?_;rintro e w7 ⟨v7,rfl,ak,Z⟩;have aw:Hid (w7.ownsRow w 5 1 v7 (Br bs false).length (cZ .u8 (Br bs false))):=kz;have av:=hid (dZ Z af.out);clear ak Z;go_wp2_with fail;go_ret2;exact⟨_,rfl,aw.out,av.out⟩
end Block
namespace Block
open Go.RowKit Mem Own Canon
open NumPut Crc
end Block
namespace Ef
open Go.RowKit Mem Own Canon Huff
theorem WL(K:Nat->Prop)(w:World)(g base:Nat)(t:TypeId)(rest:List Value)(v:Value)(bs:List Bool)(n:Nat)(hn:n<=100000)(G:bs.length+n<=5000000)(hW:Wr K w base g t rest bs v):
 Calls prog 176 #[.pointer (some ⟨g,0,none⟩), .int .i64 (n:Nat)] w fun e w'=>e= .returned (.int .i64 0)/\∃v',Wr K w' base g t rest (bs++unary n) v'/\Kept K w w':=by
 have J:=hid G;have E:Hid (Wr K w base g t rest (bs++List.replicate 0 false) v):=by show Wr _ _ _ _ _ _ _ _;rw[List.replicate_zero,BX];exact hW
 have y1:=ig ((n:Int)<0)
 have y2:=ig ((100000:Int)<n)
 have U:=ig (100000<n)
 clear hW G;go_enter func176,ntmps176;go_wp2_with fail;go_loopw [16] (fun i wr=>∃ (j:Nat) (v':Value),j<=n/\i= .int .i64 j/\Hid (Wr K wr base g t rest (bs++List.replicate j false) v')/\Hid (Kept K w wr)) (fun i _=>n-(intOf i).toNat)
 case atStart=>exact⟨0,v,nj,rfl,E.out,Kept.refl _ _⟩
 case round=>
  obtain⟨j,v',hj,rfl,h,HK⟩:=hrel;clear E;by_cases Q:j<n
  ·have gk:=ic ((j:Int)<n);have L:=ic (j<n);have C:=hid (add_any K wr g base t rest v' (bs++List.replicate j false) false (by rw[Ag,DQ];have:=J.out;omega) h.out);clear h;go_wp2_with(go_at_call 234;refine C.out.mono ?_;rintro e w2 ⟨rfl,v2,y,z⟩);have M:Hid (Wr K w2 base g t rest (bs++List.replicate (j+1) false) v2):=(by show Wr _ _ _ _ _ _ _ _;rw[List.replicate_succ',<-AI];exact y);have N:Hid (Kept K w w2):=HK.out.trans z;clear y z HK C;go_roundw
   case measure=>exact jq
   case rel=>go_light;exact⟨j+1,v2,nj,iw,M.out,N.out⟩
  ·obtain rfl:j=n:=by omega
   have gk:=ig ((j:Int)<j);have L:=ig (j<j);have C:=hid (add_any K wr g base t rest v' (bs++List.replicate j false) true (by rw[Ag,DQ];have:=J.out;omega) h.out);clear h;go_wp2_with(go_at_call 234;refine C.out.mono ?_;rintro e w2 ⟨rfl,v2,y,z⟩);go_ret;refine⟨rfl,v2,?_,HK.out.trans z⟩;unfold unary;rw[<-AI];exact y
end Ef
namespace Lz
open Go.RowKit Go.Maps Mem Own Canon
open Toks (Tk)
open Huff (Dv KT Nl)
end Lz
namespace Block
open Go.RowKit Mem Own Canon
open NumPut Crc
open Huff (Ib)
theorem own_one{x:Value}(hb:base<=w.heap.size):(w.alloc (.cells #[x] 5)).ownsRow base 5 1 (.slice (some ⟨w,0,none⟩) 1 1) 1 [x]:=
 ⟨rfl, .inr ⟨w.heap.size,1,#[x],rfl,hb,heap_alloc_new w _,Ak _,rE,rfl,rfl⟩⟩
theorem src_part{p:Part}{k:Nat}(h:p.Ok w)(hk:p.ls.length=k):Src w p.A k p.c 1 (cZ .u8 p.ls):=by subst hk;exact LA h.row rfl h.nil
end Block
end Go.Proofs.YtfgdoknipbpfhaaGreatDoor
