/- The walk of the refe -/
import Derived.Test.YtfgdoknipbpfhaaGreatDoorZBodyOpened11
import Derived.Test.YtfgdoknipbpfhaaGreatDoorZBodyOpened14
import Derived.Test.YtfgdoknipbpfhaaGreatDoorZBodyOpened20
import Derived.Laws.BytesArg
import Derived.Laws.Strings
import Derived.KernelRfl
import Derived.Lib.SmallJoins
namespace Go.Proofs.YtfgdoknipbpfhaaGreatDoor
open Go.Proofs.Tryz
open Go.Lib (hid)
set_option maxHeartbeats 4000000
set_option maxRecDepth 100000
variable{a b ls:List Nat}{w:World}{A:Option Addr}{base c n x:Nat}
namespace Huff
open Go.RowKit Mem Canon
def Hw(ls:List Nat):ByteArray:=strOfNums (ls.map fun x=>((x:Nat):Int))
theorem Vr(x y:ByteArray):(x.toList==y.toList)=true↔x=y:=by
 rw[beq_iff_eq,GK,GK];constructor
 ·intro h;exact ByteArray.ext (Array.toList_inj.1 h)
 ·intro h;rw[h]
theorem aG(ha:∀x∈a,x<=255)(hb:∀x∈b,x<=255)(h:Hw a=Hw b):a=b:=by
 have h:=AE (fun s:ByteArray=>s.data.toList) h;simp only[Hw,strOfNums_data,List.map_map]at h
 have e:∀l:List Nat,(∀x∈l,x<=255)->(l.map ((fun n:Int=>UInt8.ofNat n.toNat) ∘ fun x:Nat=>(x:Int))).map UInt8.toNat=l:=by
  intro l hl;rw[List.map_map]
  conv=>rhs;rw[<-List.map_id l]
  apply Kf
  intro x hx;have:=hl x hx;simp;omega
 rw[<-e a ha,<-e b hb,h]
theorem ZV(ha:∀x∈a,x<=255)(hb:∀x∈b,x<=255):((Hw a).toList==(Hw b).toList)=decide (a=b):=by
 by_cases h:a=b
 ·subst h;rw[Be rfl];exact(Vr _ _).2 rfl
 ·rw[Bi h];cases e:(Hw a).toList==(Hw b).toList
  ·rfl
  ·exact absurd (aG ha hb ((Vr _ _).1 e)) h
theorem QR{B:Nat}(hn:ls.length=n)(ha:Row w B A n 1 (jZ .u8 ls))(z:A=none->n=0):
 (convert 28 9 (.slice A n c)).run prog w= .ok (.string (Hw ls)) w:=by
 cases A with
 |none=>obtain rfl:=z rfl;have hl:ls= []:=Gr hn;subst hl;exact run_convert_bytes_nil w 28 5 underlying28 underlying5 0 c 9 underlying9
 |some ad=>
  obtain⟨b,y,h⟩:=ad;by_cases h0:n=0
  ·subst h0;have hl:ls= []:=Gr hn;subst hl;have h0:(loadCells ⟨b,y,h⟩ 0).run prog w= .ok (([]:List Int).map (Value.int .u8)).toArray w:=(by have:=run_loadCells_list (P:=prog) w ⟨b,y,h⟩ [] (fun j v hj=>by simp at hj);simpa using this);rw[run_convert_bytes_string w 28 9 5 _ 0 c underlying28 underlying5 underlying9,run_bytesToString w _ 0 c [] h0,List.foldl_nil];have e:Hw []=ByteArray.empty:=rfl;rw[e]
  ·obtain⟨b',E,e,hb,hc⟩:=ha mz;simp only[Option.some.injEq,Addr.mk.injEq]at e;obtain⟨rfl,rfl,rfl⟩:=e;refine run_convert_bytes_arg w 28 5 underlying28 underlying5 b y n c _ (by simpa using hn) (fun i hi=> ?_) 9 underlying9;have:=hc i 0 hi mz;rw[CG,Bj]at this;rw[this];unfold jZ;congr 2;simp[List.getD_eq_getElem?_getD,show i<ls.length by omega]
theorem ZD(w:World)(A B:Option Addr)(n m c d:Nat)(la lb:List Nat)(hn:la.length=n)(hm:lb.length=m)(hA:A=none->n=0)(hB:B=none->m=0)
 (h:∀x∈la,x<=255)(i:∀x∈lb,x<=255)(ha:Row w w A n 1 (jZ .u8 la))(hb:Row w w B m 1 (jZ .u8 lb)):
 Calls prog 42 #[.slice A n c, .slice B m d] w fun e w'=>e= .returned (.bool (decide (la=lb)))/\w=w':=by
 have p1:=QR (c:=c) hn ha hA;have p2:=QR (c:=d) hm hb hB;have HE:=hid (ZV h i);clear hn hm hA hB h i ha hb;go_enter func42,ntmps42;go_wp2_with fail;go_ret;exact⟨by simp[HE.out],rfl⟩
end Huff
namespace Block
open Go.RowKit Mem Own Canon
open NumPut Crc
open Huff (Ij Tj bytesOf Lu)
open Toks (Tk)
def sqO(bs:List Nat):List Nat:=TW.GY (Lz.find bs)
def sqE(bs:List Nat):Int:=TW.Io (Lz.find bs)
def sqz(bs:List Nat):Bool:=sqE bs==0&&decide ((sqO bs).length<bs.length)
def Gv(bs:List Nat)(plain:Bool):Nat:=if !plain&&sqz bs then 1 else 0
def DV(bs:List Nat)(plain:Bool):List Nat:=if !plain&&sqz bs then sqO bs else bs
def ID(bs:List Nat)(plain:Bool):List Nat:= [Gv bs plain]++fZ bs.length++fZ (DV bs plain).length
def Dw(bs:List Nat)(plain:Bool):List Nat:=ID bs plain++DV bs plain
def Bu(bs:List Nat)(plain:Bool):List Nat:=Dw bs plain++CR (Cn (Dw bs plain))
theorem bO(w:World)(A:Option Addr)(n c:Nat)(bs:List Nat)(hn:bs.length=n)(hN:n<=16000)(h8:∀x∈bs,x<=255)(ha:Row w w A n 1 (jZ .u8 bs)):
 Calls prog 98 #[.slice A n c] w fun e w'=>∃v,e= .returned (.tuple #[v, .bool (sqz bs)])/\w'.ownsRow w 5 1 v (sqO bs).length (cZ .u8 (sqO bs))/\Below w w w':=by
 have D1:=hid (Lz.fS w A n c bs hn mz h8 ha);have N:=Lz.find_ok h8 0;have Y:(Lz.find bs).length<=n:=by have:=N.2;rw[<-hn];exact this
 have D2:Hid (∀wx A c,wx.ownsRow w 280 3 (.slice A (Lz.find bs).length c) (Lz.find bs).length (Huff.Dx (Lz.find bs))->Calls prog 166 #[.slice A (Lz.find bs).length c] wx (Ij (Lz.find bs) wx)):=fun wx A c h=>Tj wx A _ c _ rfl mz (fun t ht=>(N.1 t ht).1) (Nz h);have U:sqz bs=(sqE bs==0&&decide ((sqO bs).length<n)):=by unfold sqz;rw[hn]
 rw[U];unfold Ij at D2;unfold sqE sqO;generalize TW.Io (Lz.find bs)=E at *;generalize TW.GY (Lz.find bs)=O at *;generalize Lz.find bs=ts at *;clear hn h8 ha N Y U;by_cases he:E=0
 ·subst he;have g1:((0:Int)==0)=true:=rfl;by_cases hl:O.length<n
  ·have g2:=ic ((O.length:Int)<n);have Q:=ic (O.length<n);rw[g1,Q];go_enter func98,ntmps98;go_wp2_with fail;refine D1.out.mono ?_;rintro e w1 ⟨v1,rfl,j,G⟩;obtain⟨A1,c1,rfl⟩:=bZ j;have D3:=hid (D2.out w1 A1 c1 j);have y:=hid G;clear D2 D1 j G;generalize List.length ts=m at *;go_wp2_with fail;refine D3.out.mono ?_;rintro e w2 ⟨v2,rfl,i,z⟩;obtain⟨A2,c2,rfl⟩:=bZ i;have J:=hid (kZ i y.out.size);have M:=hid (dZ z y.out);clear i z D3 y;go_wp2_with fail;go_ret2;exact⟨_,rfl,J.out,M.out⟩
  ·have g2:=ig ((O.length:Int)<n);have Q:=ig (O.length<n);rw[g1,Q];go_enter func98,ntmps98;go_wp2_with fail;refine D1.out.mono ?_;rintro e w1 ⟨v1,rfl,j,G⟩;obtain⟨A1,c1,rfl⟩:=bZ j;have D3:=hid (D2.out w1 A1 c1 j);have y:=hid G;clear D2 D1 j G;generalize List.length ts=m at *;go_wp2_with fail;refine D3.out.mono ?_;rintro e w2 ⟨v2,rfl,i,z⟩;obtain⟨A2,c2,rfl⟩:=bZ i;have J:=hid (kZ i y.out.size);have M:=hid (dZ z y.out);clear i z D3 y;go_wp2_with fail;go_ret2;exact⟨_,rfl,J.out,M.out⟩
 ·have g1:(E==0)=false:=by simpa using he
  rw[g1];go_enter func98,ntmps98;go_wp2_with fail;refine D1.out.mono ?_;rintro e w1 ⟨v1,rfl,j,G⟩;obtain⟨A1,c1,rfl⟩:=bZ j;have D3:=hid (D2.out w1 A1 c1 j);have y:=hid G;clear D2 D1 j G;generalize List.length ts=m at *;go_wp2_with fail;refine D3.out.mono ?_;rintro e w2 ⟨v2,rfl,i,z⟩;obtain⟨A2,c2,rfl⟩:=bZ i;have J:=hid (kZ i y.out.size);have M:=hid (dZ z y.out);clear i z D3 y;go_wp2_with fail;go_ret2;exact⟨_,rfl,J.out,M.out⟩
theorem SU(ts:List Tk):∀x∈TW.GY ts,x<=255:=by
 intro x hx;unfold TW.GY at hx;split at hx
 ·unfold bytesOf at hx;obtain⟨k,_,rfl⟩:=Cc.1 hx;exact Lu _ _
 ·cases hx
theorem Zk(h:w.ownsRow base 5 1 (.slice A ls.length c) ls.length (cZ .u8 ls)):Row w w A ls.length 1 (jZ .u8 ls):=
 Row.of_own h rfl fun i j hi hj=>by
  obtain rfl:j=0:=mz
  simp[cZ,jZ,List.getD_eq_getElem?_getD,hi]
theorem nZ(h:w.ownsRow base 5 1 (.slice A n c) n (cZ .u8 ls))(hn:ls.length=n):Part.Ok ⟨A,c,ls⟩ w:=by subst hn;exact⟨Zk h,(Ex h).1⟩
theorem Ke{w:World}{g x:Nat}(h:Blk w g 5 #[.int .u8 (x:Nat)]):Part.Ok ⟨some ⟨g,0,none⟩,1,[x]⟩ w:=
 ⟨Row.of_blk h h.lt fun i j hi hj=>by
  obtain rfl:i=0:=by simp at hi;omega
  obtain rfl:j=0:=mz
  rfl,fun e=>by cases e⟩
theorem Ik(h:x<=16383):(fZ x).length<=2:=by
 by_cases h1:x<128
 ·rw[EW h1];simp
 ·rw[Gi h1,EW mz];simp
def J9(bs:List Nat)(plain:Bool)(w:World)(e:Ending)(w':World):Prop:=
 ∃v,e= .returned (.tuple #[v,ij])/\w'.ownsRow w 5 1 v (Bu bs plain).length (cZ .u8 (Bu bs plain))/\Below w w w'
theorem wrap_u64(n:Int):IntKind.u64.wrap n=n % 18446744073709551616:=by simp[IntKind.wrap,IntKind.bits,IntKind.signed]
theorem L8(w:World)(A:Option Addr)(n c:Nat)(bs:List Nat)(plain:Bool)(hn:bs.length=n)(hN:n<=16000)(a4:A=none->n=0/\c=0)(h8:∀x∈bs,x<=255)(ht:TabAt w)(ha:Row w w A n 1 (jZ .u8 bs)):
 Calls prog 47 #[.slice A n c,plain] w (J9 bs plain w):=by
 subst hn;have D1:=hid (bO w A bs.length c bs rfl hN h8 ha);have D2:Hid (∀wx x,x<=16000->Calls prog 99 #[.int .u64 (x:Nat)] wx fun e w'=>∃v,e= .returned v/\w'.ownsRow wx 5 1 v (fZ x).length (cZ .u8 (fZ x))/\Below wx wx w'):=fun wx x h=>num_any wx x mz;have g0:=ig ((32768:Int)<bs.length)
 have a6:=ig (32768<bs.length)
 have u1:IntKind.u64.wrap (bs.length:Int)=(bs.length:Int):=pm
 have an:=hid ht;have ar:Hid (Part.Ok (⟨A,c,bs⟩:Part) w):=⟨ha,a4⟩;have aq:=hid h8;clear ht ha a4 h8;cases plain with
 |true=>
  have Y:Hid (Part.Ok (⟨A,c,bs⟩:Part) w):=ar.out;have U:Hid (Below w w w):=Ag _ _;have ae:Hid (TabAt w):=an.out;have au:bs.length<=16000:=hN;have G:Hid ((fZ bs.length).length<=2/\(fZ bs.length).length<=2/\bs.length<=16000):=⟨Ik mz,Ik mz,au⟩;have a1:Hid (∀a c3 c4 A3 A4,BM [⟨a,1,[0]⟩,⟨A3,c3,fZ bs.length⟩,⟨A4,c4,fZ bs.length⟩]<=1000000):=fun _ _ _ _ _=>jx
  have aw:Hid (([0]++(fZ bs.length++(fZ bs.length++ [])))++(bs++ [])=Dw bs true):=by unfold Dw ID Gv DV;simp only[Bool.not_true,Bool.false_and,Bool.false_eq_true,if_false];refine hid ?_;simp
  have H8:Hid (∀x∈([0]++(fZ bs.length++(fZ bs.length++ [])))++(bs++ []),x<=255):=fun x hx=>by
   simp only[List.append_nil,List.mem_append,List.mem_singleton]at hx;rcases hx with (rfl|hx|hx)|hx
   ·omega
   ·exact CY _ x hx
   ·exact CY _ x hx
   ·exact aq.out x hx
  have u2:IntKind.u64.wrap (bs.length:Int)=(bs.length:Int):=pm
  clear D1 ar an aq;go_enter func47,ntmps47;go_wp2_with fail;refine(D2.out _ bs.length mz).mono ?_;rintro e w2 ⟨v2,rfl,J,y⟩;obtain⟨A3,c3,rfl⟩:=bZ J;have P1:Hid (Part.Ok (⟨some ⟨w,0,none⟩,1,[0]⟩:Part) w2):=(Ke (Blk.made _ _ _)).step y;have P2:Hid (Part.Ok (⟨A3,c3,fZ bs.length⟩:Part) w2):=nZ J rfl;have P4:Hid (Part.Ok (⟨A,c,bs⟩:Part) w2):=Y.out.step (dZ y (aZ (Ag _ _)));have ab:Hid (Below w w w2):=dZ (dZ y (aZ (Ag _ _))) U.out;have ag:Hid (TabAt w2):=ae.out.step (dZ y (aZ (Ag _ _)));clear J y Y U ae;go_wp2_with fail;refine(D2.out _ bs.length mz).mono ?_;rintro e w3 ⟨v3,rfl,N,i⟩;obtain⟨A4,c4,rfl⟩:=bZ N;have Q1:=hid ((P1.out.step i).step (aZ (Ag w3 w3) (o:=(.cells #[(⟨some ⟨w,0,none⟩,1,[0]⟩:Part).v,(⟨A3,c3,fZ bs.length⟩:Part).v,(⟨A4,c4,fZ bs.length⟩:Part).v] 28))));have Q2:=hid ((P2.out.step i).step (aZ (Ag w3 w3) (o:=(.cells #[(⟨some ⟨w,0,none⟩,1,[0]⟩:Part).v,(⟨A3,c3,fZ bs.length⟩:Part).v,(⟨A4,c4,fZ bs.length⟩:Part).v] 28))));have Q3:=hid (Part.Ok.step (p:=(⟨A4,c4,fZ bs.length⟩:Part)) (nZ N rfl) (aZ (Ag w3 w3) (o:=(.cells #[(⟨some ⟨w,0,none⟩,1,[0]⟩:Part).v,(⟨A3,c3,fZ bs.length⟩:Part).v,(⟨A4,c4,fZ bs.length⟩:Part).v] 28))));have Q4:=hid ((P4.out.step i).step (aZ (Ag w3 w3) (o:=(.cells #[(⟨some ⟨w,0,none⟩,1,[0]⟩:Part).v,(⟨A3,c3,fZ bs.length⟩:Part).v,(⟨A4,c4,fZ bs.length⟩:Part).v] 28))));have ah:Hid (Below w w (w3.alloc (.cells #[(⟨some ⟨w,0,none⟩,1,[0]⟩:Part).v,(⟨A3,c3,fZ bs.length⟩:Part).v,(⟨A4,c4,fZ bs.length⟩:Part).v] 28))):=aZ (dZ i ab.out);have ac:Hid (TabAt (w3.alloc (.cells #[(⟨some ⟨w,0,none⟩,1,[0]⟩:Part).v,(⟨A3,c3,fZ bs.length⟩:Part).v,(⟨A4,c4,fZ bs.length⟩:Part).v] 28))):=(ag.out.step i).step (aZ (Ag _ _));clear N i P1 P2 P4 ab ag;go_wp2_with fail
  refine(FJ _ w3 3 [(⟨some ⟨w,0,none⟩,1,[0]⟩:Part),(⟨A3,c3,fZ bs.length⟩:Part),(⟨A4,c4,fZ bs.length⟩:Part)] rfl mz (a1.out _ _ _ _ _) (fun p hp=>by
   rcases AQ.1 hp with rfl|hp
   ·exact Q1.out
   ·rcases AQ.1 hp with rfl|hp
    ·exact Q2.out
    ·rcases AQ.1 hp with rfl|hp
     ·exact Q3.out
     ·cases hp) (Blk.made _ _ _)).mono ?_
  rintro e w5 ⟨v5,rfl,ak,E⟩;have ai:Hid (Below w w w5):=dZ E ah.out;have af:Hid (TabAt w5):=ac.out.step E;have P4:=hid (Q4.out.step E);obtain⟨H,hH⟩:=ii ( [0]++(fZ bs.length++(fZ bs.length++ [])));have j:=show w5.ownsRow _ 5 1 v5 H.length (cZ .u8 H) by rw[hH];exact ak
  obtain⟨A5,c5,rfl⟩:=bZ j;have P5:Hid (Part.Ok (⟨A5,c5,H⟩:Part) w5):=nZ j rfl;have HH:=hid hH;clear ak j E ah ac Q1 Q2 Q3 Q4 hH;go_wp2_with fail;have R5:=hid (P5.out.step (aZ (Ag w5 w5) (o:=(.cells #[(⟨A5,c5,H⟩:Part).v,(⟨A,c,bs⟩:Part).v] 28))));have R4:=hid (P4.out.step (aZ (Ag w5 w5) (o:=(.cells #[(⟨A5,c5,H⟩:Part).v,(⟨A,c,bs⟩:Part).v] 28))));have Q:BM [(⟨A5,c5,H⟩:Part),(⟨A,c,bs⟩:Part)]<=1000000:=lk
  refine(FJ _ w5 2 [(⟨A5,c5,H⟩:Part),(⟨A,c,bs⟩:Part)] rfl mz Q (fun p hp=>by
   rcases AQ.1 hp with rfl|hp
   ·exact R5.out
   ·rcases AQ.1 hp with rfl|hp
    ·exact R4.out
    ·cases hp) (Blk.made _ _ _)).mono ?_
  rintro e w6 ⟨v6,rfl,al,M⟩;have am:Hid (Below w w w6):=dZ M (aZ ai.out);have av:Hid (TabAt w6):=(af.out.step (aZ (Ag _ _))).step M;obtain⟨F,hF⟩:=ii (H++(bs++ []));have z:=show w6.ownsRow _ 5 1 v6 F.length (cZ .u8 F) by rw[hF];exact al
  obtain⟨A6,c6,rfl⟩:=bZ z;have P6:Hid (Part.Ok (⟨A6,c6,F⟩:Part) w6):=nZ z rfl;have HF:Hid (F=Dw bs true):=oQ
  have a0:F.length<=100000:=jt
  have a3:Hid (∀x∈F,x<=255):=oP
  clear al z M hF Q R5 R4 P5 P4 ai af;go_wp2_with fail;refine(put_any w6 A6 F.length c6 F rfl a0 P6.out.nil a3.out av.out P6.out.row).mono ?_;rintro e w7 ⟨v7,rfl,Z,aj⟩;have az:Hid (w7.ownsRow w 5 1 v7 (Bu bs true).length (cZ .u8 (Bu bs true))):=by have h:=kZ Z am.out.size;have e1:(Bu bs true).length=F.length+4:=qc;rw[e1];unfold Bu;rw[<-HF.out];exact h
  have ax:=hid (dZ aj am.out);clear Z aj;go_wp2_with fail;go_ret2;exact⟨_,rfl,az.out,ax.out⟩
 |false=>
  cases hq:sqz bs with
  |false=>
   rw[hq]at D1;have HQ:=hid hq;clear hq;go_enter func47,ntmps47;go_wp2_with fail;refine D1.out.mono ?_;rintro e w1 ⟨v1,rfl,ay,aa⟩;have Y:Hid (Part.Ok (⟨A,c,bs⟩:Part) w1):=ar.out.step aa;have U:Hid (Below w w w1):=aa;have ae:Hid (TabAt w1):=an.out.step aa;have au:bs.length<=16000:=hN;have G:Hid ((fZ bs.length).length<=2/\(fZ bs.length).length<=2/\bs.length<=16000):=⟨Ik mz,Ik mz,au⟩;have a1:Hid (∀a c3 c4 A3 A4,BM [⟨a,1,[0]⟩,⟨A3,c3,fZ bs.length⟩,⟨A4,c4,fZ bs.length⟩]<=1000000):=fun _ _ _ _ _=>jx
   have aw:Hid (([0]++(fZ bs.length++(fZ bs.length++ [])))++(bs++ [])=Dw bs false):=by unfold Dw ID Gv DV;rw[HQ.out];simp only[Bool.and_false,Bool.false_eq_true,if_false];refine hid ?_;simp
   have H8:Hid (∀x∈([0]++(fZ bs.length++(fZ bs.length++ [])))++(bs++ []),x<=255):=fun x hx=>by
    simp only[List.append_nil,List.mem_append,List.mem_singleton]at hx;rcases hx with (rfl|hx|hx)|hx
    ·omega
    ·exact CY _ x hx
    ·exact CY _ x hx
    ·exact aq.out x hx
   have u2:IntKind.u64.wrap (bs.length:Int)=(bs.length:Int):=pm;clear D1 ar an aq ay aa;go_wp2_with fail;refine(D2.out _ bs.length mz).mono ?_;rintro e w2 ⟨v2,rfl,J,y⟩;obtain⟨A3,c3,rfl⟩:=bZ J;have P1:Hid (Part.Ok (⟨some ⟨w1,0,none⟩,1,[0]⟩:Part) w2):=(Ke (Blk.made _ _ _)).step y;have P2:Hid (Part.Ok (⟨A3,c3,fZ bs.length⟩:Part) w2):=nZ J rfl;have P4:Hid (Part.Ok (⟨A,c,bs⟩:Part) w2):=Y.out.step (dZ y (aZ (Ag _ _)));have ab:Hid (Below w w w2):=dZ (dZ y (aZ (Ag _ _))) U.out;have ag:Hid (TabAt w2):=ae.out.step (dZ y (aZ (Ag _ _)));clear J y Y U ae;go_wp2_with fail;refine(D2.out _ bs.length mz).mono ?_;rintro e w3 ⟨v3,rfl,N,i⟩;obtain⟨A4,c4,rfl⟩:=bZ N;have Q1:=hid ((P1.out.step i).step (aZ (Ag w3 w3) (o:=(.cells #[(⟨some ⟨w1,0,none⟩,1,[0]⟩:Part).v,(⟨A3,c3,fZ bs.length⟩:Part).v,(⟨A4,c4,fZ bs.length⟩:Part).v] 28))));have Q2:=hid ((P2.out.step i).step (aZ (Ag w3 w3) (o:=(.cells #[(⟨some ⟨w1,0,none⟩,1,[0]⟩:Part).v,(⟨A3,c3,fZ bs.length⟩:Part).v,(⟨A4,c4,fZ bs.length⟩:Part).v] 28))));have Q3:=hid (Part.Ok.step (p:=(⟨A4,c4,fZ bs.length⟩:Part)) (nZ N rfl) (aZ (Ag w3 w3) (o:=(.cells #[(⟨some ⟨w1,0,none⟩,1,[0]⟩:Part).v,(⟨A3,c3,fZ bs.length⟩:Part).v,(⟨A4,c4,fZ bs.length⟩:Part).v] 28))));have Q4:=hid ((P4.out.step i).step (aZ (Ag w3 w3) (o:=(.cells #[(⟨some ⟨w1,0,none⟩,1,[0]⟩:Part).v,(⟨A3,c3,fZ bs.length⟩:Part).v,(⟨A4,c4,fZ bs.length⟩:Part).v] 28))));have ah:Hid (Below w w (w3.alloc (.cells #[(⟨some ⟨w1,0,none⟩,1,[0]⟩:Part).v,(⟨A3,c3,fZ bs.length⟩:Part).v,(⟨A4,c4,fZ bs.length⟩:Part).v] 28))):=aZ (dZ i ab.out);have ac:Hid (TabAt (w3.alloc (.cells #[(⟨some ⟨w1,0,none⟩,1,[0]⟩:Part).v,(⟨A3,c3,fZ bs.length⟩:Part).v,(⟨A4,c4,fZ bs.length⟩:Part).v] 28))):=(ag.out.step i).step (aZ (Ag _ _));clear N i P1 P2 P4 ab ag;go_wp2_with fail
   refine(FJ _ w3 3 [(⟨some ⟨w1,0,none⟩,1,[0]⟩:Part),(⟨A3,c3,fZ bs.length⟩:Part),(⟨A4,c4,fZ bs.length⟩:Part)] rfl mz (a1.out _ _ _ _ _) (fun p hp=>by
    rcases AQ.1 hp with rfl|hp
    ·exact Q1.out
    ·rcases AQ.1 hp with rfl|hp
     ·exact Q2.out
     ·rcases AQ.1 hp with rfl|hp
      ·exact Q3.out
      ·cases hp) (Blk.made _ _ _)).mono ?_
   rintro e w5 ⟨v5,rfl,ak,E⟩;have ai:Hid (Below w w w5):=dZ E ah.out;have af:Hid (TabAt w5):=ac.out.step E;have P4:=hid (Q4.out.step E);obtain⟨H,hH⟩:=ii ( [0]++(fZ bs.length++(fZ bs.length++ [])));have j:=show w5.ownsRow _ 5 1 v5 H.length (cZ .u8 H) by rw[hH];exact ak
   obtain⟨A5,c5,rfl⟩:=bZ j;have P5:Hid (Part.Ok (⟨A5,c5,H⟩:Part) w5):=nZ j rfl;have HH:=hid hH;clear ak j E ah ac Q1 Q2 Q3 Q4 hH;go_wp2_with fail;have R5:=hid (P5.out.step (aZ (Ag w5 w5) (o:=(.cells #[(⟨A5,c5,H⟩:Part).v,(⟨A,c,bs⟩:Part).v] 28))));have R4:=hid (P4.out.step (aZ (Ag w5 w5) (o:=(.cells #[(⟨A5,c5,H⟩:Part).v,(⟨A,c,bs⟩:Part).v] 28))));have Q:BM [(⟨A5,c5,H⟩:Part),(⟨A,c,bs⟩:Part)]<=1000000:=lk
   refine(FJ _ w5 2 [(⟨A5,c5,H⟩:Part),(⟨A,c,bs⟩:Part)] rfl mz Q (fun p hp=>by
    rcases AQ.1 hp with rfl|hp
    ·exact R5.out
    ·rcases AQ.1 hp with rfl|hp
     ·exact R4.out
     ·cases hp) (Blk.made _ _ _)).mono ?_
   rintro e w6 ⟨v6,rfl,al,M⟩;have am:Hid (Below w w w6):=dZ M (aZ ai.out);have av:Hid (TabAt w6):=(af.out.step (aZ (Ag _ _))).step M;obtain⟨F,hF⟩:=ii (H++(bs++ []));have z:=show w6.ownsRow _ 5 1 v6 F.length (cZ .u8 F) by rw[hF];exact al
   obtain⟨A6,c6,rfl⟩:=bZ z;have P6:Hid (Part.Ok (⟨A6,c6,F⟩:Part) w6):=nZ z rfl;have HF:Hid (F=Dw bs false):=oQ
   have a0:F.length<=100000:=jt;have a3:Hid (∀x∈F,x<=255):=oP;clear al z M hF Q R5 R4 P5 P4 ai af;go_wp2_with fail;refine(put_any w6 A6 F.length c6 F rfl a0 P6.out.nil a3.out av.out P6.out.row).mono ?_;rintro e w7 ⟨v7,rfl,Z,aj⟩;have az:Hid (w7.ownsRow w 5 1 v7 (Bu bs false).length (cZ .u8 (Bu bs false))):=kr;have ax:=hid (dZ aj am.out);clear Z aj;go_wp2_with fail;go_ret2;exact⟨_,rfl,az.out,ax.out⟩
  |true=>
   rw[hq]at D1;have HQ:=hid hq;have a9:(sqO bs).length<bs.length:=(by unfold sqz at hq;simp at hq;exact hq.2);have a5:∀x∈sqO bs,x<=255:=SU _;clear hq;go_enter func47,ntmps47;go_wp2_with fail;refine D1.out.mono ?_;rintro e w1 ⟨v1,rfl,ay,aa⟩;obtain⟨A1,c1,rfl⟩:=bZ ay;have Y:Hid (Part.Ok (⟨A1,c1,(sqO bs)⟩:Part) w1):=nZ ay rfl;have U:Hid (Below w w w1):=aa;have ae:Hid (TabAt w1):=an.out.step aa;have au:(sqO bs).length<=16000:=mz;have G:Hid ((fZ bs.length).length<=2/\(fZ (sqO bs).length).length<=2/\(sqO bs).length<=16000):=⟨Ik mz,Ik mz,au⟩;have a1:Hid (∀a c3 c4 A3 A4,BM [⟨a,1,[1]⟩,⟨A3,c3,fZ bs.length⟩,⟨A4,c4,fZ (sqO bs).length⟩]<=1000000):=fun _ _ _ _ _=>jx
   have aw:Hid (([1]++(fZ bs.length++(fZ (sqO bs).length++ [])))++((sqO bs)++ [])=Dw bs false):=by unfold Dw ID Gv DV;rw[HQ.out];simp only[Bool.not_false,Bool.true_and,if_true];refine hid ?_;simp
   have H8:Hid (∀x∈([1]++(fZ bs.length++(fZ (sqO bs).length++ [])))++((sqO bs)++ []),x<=255):=fun x hx=>by
    simp only[List.append_nil,List.mem_append,List.mem_singleton]at hx;rcases hx with (rfl|hx|hx)|hx
    ·omega
    ·exact CY _ x hx
    ·exact CY _ x hx
    ·exact a5 x hx
   have u2:IntKind.u64.wrap ((sqO bs).length:Int)=((sqO bs).length:Int):=pm;clear D1 ar an aq ay aa a5;go_wp2_with fail;refine(D2.out _ bs.length mz).mono ?_;rintro e w2 ⟨v2,rfl,J,y⟩;obtain⟨A3,c3,rfl⟩:=bZ J;have P1:Hid (Part.Ok (⟨some ⟨w1,0,none⟩,1,[1]⟩:Part) w2):=(Ke (Blk.made _ _ _)).step y;have P2:Hid (Part.Ok (⟨A3,c3,fZ bs.length⟩:Part) w2):=nZ J rfl;have P4:Hid (Part.Ok (⟨A1,c1,(sqO bs)⟩:Part) w2):=Y.out.step (dZ y (aZ (Ag _ _)));have ab:Hid (Below w w w2):=dZ (dZ y (aZ (Ag _ _))) U.out;have ag:Hid (TabAt w2):=ae.out.step (dZ y (aZ (Ag _ _)));clear J y Y U ae;go_wp2_with fail;refine(D2.out _ (sqO bs).length mz).mono ?_;rintro e w3 ⟨v3,rfl,N,i⟩;obtain⟨A4,c4,rfl⟩:=bZ N;have Q1:=hid ((P1.out.step i).step (aZ (Ag w3 w3) (o:=(.cells #[(⟨some ⟨w1,0,none⟩,1,[1]⟩:Part).v,(⟨A3,c3,fZ bs.length⟩:Part).v,(⟨A4,c4,fZ (sqO bs).length⟩:Part).v] 28))));have Q2:=hid ((P2.out.step i).step (aZ (Ag w3 w3) (o:=(.cells #[(⟨some ⟨w1,0,none⟩,1,[1]⟩:Part).v,(⟨A3,c3,fZ bs.length⟩:Part).v,(⟨A4,c4,fZ (sqO bs).length⟩:Part).v] 28))));have Q3:=hid (Part.Ok.step (p:=(⟨A4,c4,fZ (sqO bs).length⟩:Part)) (nZ N rfl) (aZ (Ag w3 w3) (o:=(.cells #[(⟨some ⟨w1,0,none⟩,1,[1]⟩:Part).v,(⟨A3,c3,fZ bs.length⟩:Part).v,(⟨A4,c4,fZ (sqO bs).length⟩:Part).v] 28))));have Q4:=hid ((P4.out.step i).step (aZ (Ag w3 w3) (o:=(.cells #[(⟨some ⟨w1,0,none⟩,1,[1]⟩:Part).v,(⟨A3,c3,fZ bs.length⟩:Part).v,(⟨A4,c4,fZ (sqO bs).length⟩:Part).v] 28))));have ah:Hid (Below w w (w3.alloc (.cells #[(⟨some ⟨w1,0,none⟩,1,[1]⟩:Part).v,(⟨A3,c3,fZ bs.length⟩:Part).v,(⟨A4,c4,fZ (sqO bs).length⟩:Part).v] 28))):=aZ (dZ i ab.out);have ac:Hid (TabAt (w3.alloc (.cells #[(⟨some ⟨w1,0,none⟩,1,[1]⟩:Part).v,(⟨A3,c3,fZ bs.length⟩:Part).v,(⟨A4,c4,fZ (sqO bs).length⟩:Part).v] 28))):=(ag.out.step i).step (aZ (Ag _ _));clear N i P1 P2 P4 ab ag;go_wp2_with fail
   refine(FJ _ w3 3 [(⟨some ⟨w1,0,none⟩,1,[1]⟩:Part),(⟨A3,c3,fZ bs.length⟩:Part),(⟨A4,c4,fZ (sqO bs).length⟩:Part)] rfl mz (a1.out _ _ _ _ _) (fun p hp=>by
    rcases AQ.1 hp with rfl|hp
    ·exact Q1.out
    ·rcases AQ.1 hp with rfl|hp
     ·exact Q2.out
     ·rcases AQ.1 hp with rfl|hp
      ·exact Q3.out
      ·cases hp) (Blk.made _ _ _)).mono ?_
   rintro e w5 ⟨v5,rfl,ak,E⟩;have ai:Hid (Below w w w5):=dZ E ah.out;have af:Hid (TabAt w5):=ac.out.step E;have P4:=hid (Q4.out.step E);obtain⟨H,hH⟩:=ii ( [1]++(fZ bs.length++(fZ (sqO bs).length++ [])));have j:=show w5.ownsRow _ 5 1 v5 H.length (cZ .u8 H) by rw[hH];exact ak
   obtain⟨A5,c5,rfl⟩:=bZ j;have P5:Hid (Part.Ok (⟨A5,c5,H⟩:Part) w5):=nZ j rfl;have HH:=hid hH;clear ak j E ah ac Q1 Q2 Q3 Q4 hH;go_wp2_with fail;have R5:=hid (P5.out.step (aZ (Ag w5 w5) (o:=(.cells #[(⟨A5,c5,H⟩:Part).v,(⟨A1,c1,(sqO bs)⟩:Part).v] 28))));have R4:=hid (P4.out.step (aZ (Ag w5 w5) (o:=(.cells #[(⟨A5,c5,H⟩:Part).v,(⟨A1,c1,(sqO bs)⟩:Part).v] 28))));have Q:BM [(⟨A5,c5,H⟩:Part),(⟨A1,c1,(sqO bs)⟩:Part)]<=1000000:=lk
   refine(FJ _ w5 2 [(⟨A5,c5,H⟩:Part),(⟨A1,c1,(sqO bs)⟩:Part)] rfl mz Q (fun p hp=>by
    rcases AQ.1 hp with rfl|hp
    ·exact R5.out
    ·rcases AQ.1 hp with rfl|hp
     ·exact R4.out
     ·cases hp) (Blk.made _ _ _)).mono ?_
   rintro e w6 ⟨v6,rfl,al,M⟩;have am:Hid (Below w w w6):=dZ M (aZ ai.out);have av:Hid (TabAt w6):=(af.out.step (aZ (Ag _ _))).step M;obtain⟨F,hF⟩:=ii (H++((sqO bs)++ []));have z:=show w6.ownsRow _ 5 1 v6 F.length (cZ .u8 F) by rw[hF];exact al
   obtain⟨A6,c6,rfl⟩:=bZ z;have P6:Hid (Part.Ok (⟨A6,c6,F⟩:Part) w6):=nZ z rfl;have HF:Hid (F=Dw bs false):=oQ
   have a0:F.length<=100000:=jt;have a3:Hid (∀x∈F,x<=255):=oP;clear al z M hF Q R5 R4 P5 P4 ai af;go_wp2_with fail;refine(put_any w6 A6 F.length c6 F rfl a0 P6.out.nil a3.out av.out P6.out.row).mono ?_;rintro e w7 ⟨v7,rfl,Z,aj⟩;have az:Hid (w7.ownsRow w 5 1 v7 (Bu bs false).length (cZ .u8 (Bu bs false))):=kr;have ax:=hid (dZ aj am.out);clear Z aj;go_wp2_with fail;go_ret2;exact⟨_,rfl,az.out,ax.out⟩
end Block
namespace Block
open Go.RowKit Mem Own Canon
open NumPut Crc
end Block
namespace Ef
open Go.RowKit Mem Own Canon Huff
theorem cK(K:Nat->Prop)(w:World)(g base:Nat)(t:TypeId)(rest:List Value)(v:Value)(bs:List Bool)(n:Nat)(hn:n<=100000)(G:bs.length+n<=5000000)(hW:Wr K w base g t rest bs v):
 Calls prog 176 #[.pointer (some ⟨g,0,none⟩), .int .i64 (n:Nat)] w fun e w'=>e= .returned (.int .i64 0)/\∃v',Wr K w' base g t rest (bs++unary n) v'/\Kept K w w':=by
 have J:=hid G;have E:Hid (Wr K w base g t rest (bs++List.replicate 0 false) v):=by show Wr _ _ _ _ _ _ _ _;rw[List.replicate_zero,Ce];exact hW
 have y1:=ig ((n:Int)<0)
 have y2:=ig ((100000:Int)<n)
 have Y:=ig (100000<n)
 clear hW G;go_enter func176,ntmps176;go_wp2_with fail;go_loopw [16] (fun i wr=>∃ (j:Nat) (v':Value),j<=n/\i= .int .i64 j/\Hid (Wr K wr base g t rest (bs++List.replicate j false) v')/\Hid (Kept K w wr)) (fun i _=>n-(intOf i).toNat)
 case atStart=>exact⟨0,v,mz,rfl,E.out,Kept.refl _ _⟩
 case round=>
  obtain⟨j,v',hj,rfl,y,HK⟩:=hrel;clear E;by_cases U:j<n
  ·have gk:=ic ((j:Int)<n);have Q:=ic (j<n);have C:=hid (add_any K wr g base t rest v' (bs++List.replicate j false) false (by rw[Aj,Dr];have:=J.out;omega) y.out);clear y;go_wp2_with(go_at_call 234;refine C.out.mono ?_;rintro e w2 ⟨rfl,v2,h,z⟩);have N:Hid (Wr K w2 base g t rest (bs++List.replicate (j+1) false) v2):=(by show Wr _ _ _ _ _ _ _ _;rw[List.replicate_succ',<-AJ];exact h);have M:Hid (Kept K w w2):=HK.out.trans z;clear h z HK C;go_roundw
   case measure=>exact jo
   case rel=>go_light;exact⟨j+1,v2,mz,iu,N.out,M.out⟩
  ·obtain rfl:j=n:=by omega
   have gk:=ig ((j:Int)<j);have Q:=ig (j<j);have C:=hid (add_any K wr g base t rest v' (bs++List.replicate j false) true (by rw[Aj,Dr];have:=J.out;omega) y.out);clear y;go_wp2_with(go_at_call 234;refine C.out.mono ?_;rintro e w2 ⟨rfl,v2,h,z⟩);go_ret;refine⟨rfl,v2,?_,HK.out.trans z⟩;unfold unary;rw[<-AJ];exact h
end Ef
namespace Lz
open Go.RowKit Go.Maps Mem Own Canon
open Toks (Tk)
open Huff (Dx Lo MF)
end Lz
namespace Block
open Go.RowKit Mem Own Canon
open NumPut Crc
open Huff (Ij)
theorem own_one{x:Value}(hb:base<=w.heap.size):(w.alloc (.cells #[x] 5)).ownsRow base 5 1 (.slice (some ⟨w,0,none⟩) 1 1) 1 [x]:=
 ⟨rfl, .inr ⟨w.heap.size,1,#[x],rfl,hb,heap_alloc_new w _,Aq _,qg,rfl,rfl⟩⟩
theorem src_part{p:Part}{k:Nat}(h:p.Ok w)(hk:p.ls.length=k):Src w p.A k p.c 1 (cZ .u8 p.ls):=by subst hk;exact KK h.row rfl h.nil
end Block
end Go.Proofs.YtfgdoknipbpfhaaGreatDoor
