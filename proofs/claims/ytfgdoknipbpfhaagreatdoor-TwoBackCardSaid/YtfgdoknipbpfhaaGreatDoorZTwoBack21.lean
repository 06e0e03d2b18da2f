/- The walk of the refe -/
import Derived.Test.YtfgdoknipbpfhaaGreatDoorZTwoBack11
import Derived.Test.YtfgdoknipbpfhaaGreatDoorZTwoBack14
import Derived.Test.YtfgdoknipbpfhaaGreatDoorZTwoBack20
import Derived.Laws.BytesArg
import Derived.Laws.Strings
import Derived.KernelRfl
import Derived.Lib.SmallJoins
namespace Go.Proofs.YtfgdoknipbpfhaaGreatDoor
open Go.Proofs.Tryz
open Go.Lib (hid)
set_option maxHeartbeats 4000000
set_option maxRecDepth 100000
variable{a b ls:List Nat}{w:World}{A:Option Addr}{base c n x:Nat}
open Go.RowKit
def I3(ls:List Nat):ByteArray:=strOfNums (ls.map fun x=>((x:Nat):Int))
theorem VQ(x y:ByteArray):(x.toList==y.toList)=true↔x=y:=by
 rw[beq_iff_eq,GF,GF];constructor
 ·intro h;exact ByteArray.ext (Array.toList_inj.1 h)
 ·intro h;rw[h]
theorem iX(ha:∀x∈a,x<=255)(hb:∀x∈b,x<=255)(h:I3 a=I3 b):a=b:=by
 have h:=Aw (fun s:ByteArray=>s.data.toList) h;simp only[I3,strOfNums_data,List.map_map]at h
 have e:∀l:List Nat,(∀x∈l,x<=255)->(l.map ((fun n:Int=>UInt8.ofNat n.toNat) ∘ fun x:Nat=>(x:Int))).map UInt8.toNat=l:=by
  intro l hl;rw[List.map_map]
  conv=>rhs;rw[<-List.map_id l]
  apply J1
  intro x hx;have:=hl x hx;simp;omega
 rw[<-e a ha,<-e b hb,h]
theorem iD(ha:∀x∈a,x<=255)(hb:∀x∈b,x<=255):((I3 a).toList==(I3 b).toList)=decide (a=b):=by
 by_cases h:a=b
 ·subst h;rw[Bd rfl];exact(VQ _ _).2 rfl
 ·rw[Be h];cases e:(I3 a).toList==(I3 b).toList
  ·rfl
  ·exact absurd (iX ha hb ((VQ _ _).1 e)) h
theorem R3{B:Nat}(hn:ls.length=n)(ha:Row w B A n 1 (jZ .u8 ls))(z:A=none->n=0):
 (convert 28 9 (.slice A n c)).run prog w= .ok (.string (I3 ls)) w:=by
 cases A with
 |none=>obtain rfl:=z rfl;have hl:ls= []:=Gn hn;subst hl;exact run_convert_bytes_nil w 28 5 underlying28 underlying5 0 c 9 underlying9
 |some ad=>
  obtain⟨b,y,h⟩:=ad;by_cases h0:n=0
  ·subst h0;have hl:ls= []:=Gn hn;subst hl;have h0:(loadCells ⟨b,y,h⟩ 0).run prog w= .ok (([]:List Int).map (Value.int .u8)).toArray w:=(by have:=run_loadCells_list (P:=prog) w ⟨b,y,h⟩ [] (fun j v hj=>by simp at hj);simpa using this);rw[run_convert_bytes_string w 28 9 5 _ 0 c underlying28 underlying5 underlying9,run_bytesToString w _ 0 c [] h0,List.foldl_nil];have e:I3 []=ByteArray.empty:=rfl;rw[e]
  ·obtain⟨b',E,e,hb,hc⟩:=ha nj;simp only[Option.some.injEq,Addr.mk.injEq]at e;obtain⟨rfl,rfl,rfl⟩:=e;refine run_convert_bytes_arg w 28 5 underlying28 underlying5 b y n c _ (by simpa using hn) (fun i hi=> ?_) 9 underlying9;have:=hc i 0 hi nj;rw[CZ,Bt]at this;rw[this];unfold jZ;congr 2;simp[List.getD_eq_getElem?_getD,show i<ls.length by omega]
theorem RK(w:World)(A B:Option Addr)(n m c d:Nat)(la lb:List Nat)(hn:la.length=n)(hm:lb.length=m)(hA:A=none->n=0)(hB:B=none->m=0)
 (i:∀x∈la,x<=255)(h:∀x∈lb,x<=255)(ha:Row w w A n 1 (jZ .u8 la))(hb:Row w w B m 1 (jZ .u8 lb)):
 Calls prog 42 #[.slice A n c, .slice B m d] w fun e w'=>e= .returned (.bool (decide (la=lb)))/\w=w':=by
 have p1:=R3 (c:=c) hn ha hA;have p2:=R3 (c:=d) hm hb hB;have HE:=hid (iD i h);clear hn hm hA hB i h ha hb;go_enter func42,ntmps42;go_wp2_with fail;go_ret;exact⟨by simp[HE.out],rfl⟩
def sqO(bs:List Nat):List Nat:=Ia (find bs)
def sqE(bs:List Nat):Int:=IL (find bs)
def sqz(bs:List Nat):Bool:=sqE bs==0&&decide ((sqO bs).length<bs.length)
def Hj(bs:List Nat)(plain:Bool):Nat:=if !plain&&sqz bs then 1 else 0
def Ew(bs:List Nat)(plain:Bool):List Nat:=if !plain&&sqz bs then sqO bs else bs
def Jf(bs:List Nat)(plain:Bool):List Nat:= [Hj bs plain]++fZ bs.length++fZ (Ew bs plain).length
def Em(bs:List Nat)(plain:Bool):List Nat:=Jf bs plain++Ew bs plain
def Bm(bs:List Nat)(plain:Bool):List Nat:=Em bs plain++Bv (Bg (Em bs plain))
theorem a0r{p:Prop}(h:p:=by go_enter func98,ntmps98;go_wp2_with fail;refine D1.out.mono ?_;rintro e w1 ⟨v1,rfl,i,z⟩;obtain⟨A1,c1,rfl⟩:=bZ i;have D3:=hid (D2.out w1 A1 c1 i);have y:=hid z;clear D2 D1 i z;generalize List.length ts=m at *;go_wp2_with fail;refine D3.out.mono ?_;rintro e w2 ⟨v2,rfl,j,G⟩;obtain⟨A2,c2,rfl⟩:=bZ j;have L:=hid (kZ j y.out.size);have J:=hid (cZ G y.out);clear j G D3 y;go_wp2_with fail;go_ret2;exact⟨_,rfl,L.out,J.out⟩):p:=h
theorem Z6(w:World)(A:Option Addr)(n c:Nat)(bs:List Nat)(hn:bs.length=n)(Aj0:n<=16000)(h8:∀x∈bs,x<=255)(ha:Row w w A n 1 (jZ .u8 bs)):
 Calls prog 98 #[.slice A n c] w fun e w'=>∃v,e= .returned (.tuple #[v, .bool (sqz bs)])/\w'.ownsRow w 5 1 v (sqO bs).length (dZ .u8 (sqO bs))/\Below w w w':=by
 have D1:=hid (mW w A n c bs hn nj h8 ha);have N:=find_ok h8 0;have U:(find bs).length<=n:=by have:=N.2;rw[<-hn];exact this
 have D2:Hid (∀wx A c,wx.ownsRow w 280 3 (.slice A (find bs).length c) (find bs).length (En (find bs))->Calls prog 166 #[.slice A (find bs).length c] wx (IK (find bs) wx)):=fun wx A c h=>VY wx A _ c _ rfl nj (fun t ht=>(N.1 t ht).1) (Nc h);have Q:sqz bs=(sqE bs==0&&decide ((sqO bs).length<n)):=by unfold sqz;rw[hn]
 rw[Q];unfold IK at D2;unfold sqE sqO;generalize IL (find bs)=E at *;generalize Ia (find bs)=O at *;generalize find bs=ts at *;clear hn h8 ha N U Q;by_cases he:E=0
 ·subst he;have g1:((0:Int)==0)=true:=rfl;by_cases hl:O.length<n
  ·have g2:=ic ((O.length:Int)<n);have M:=ic (O.length<n);rw[g1,M];exact a0r
  ·have g2:=ig ((O.length:Int)<n);have M:=ig (O.length<n);rw[g1,M];exact a0r
 ·have g1:(E==0)=false:=by simpa using he
  rw[g1];exact a0r
theorem VN(ts:List Tk):∀x∈Ia ts,x<=255:=by
 intro x hx;unfold Ia at hx;split at hx
 ·unfold bytesOf at hx;obtain⟨k,_,rfl⟩:=CH.1 hx;exact LI _ _
 ·cases hx
theorem gA(h:w.ownsRow base 5 1 (.slice A ls.length c) ls.length (dZ .u8 ls)):Row w w A ls.length 1 (jZ .u8 ls):=
 Row.of_own h rfl fun i j hi hj=>by
  obtain rfl:j=0:=nj
  simp[dZ,jZ,List.getD_eq_getElem?_getD,hi]
theorem lZ(h:w.ownsRow base 5 1 (.slice A n c) n (dZ .u8 ls))(hn:ls.length=n):Part.Ok ⟨A,c,ls⟩ w:=by subst hn;exact⟨gA h,(Et h).1⟩
theorem Hl{w:World}{g x:Nat}(h:Blk w g 5 #[.int .u8 (x:Nat)]):Part.Ok ⟨some ⟨g,0,none⟩,1,[x]⟩ w:=
 ⟨Row.of_blk h h.lt fun i j hi hj=>by
  obtain rfl:i=0:=by simp at hi;omega
  obtain rfl:j=0:=nj
  rfl,fun e=>by cases e⟩
theorem I0(h:x<=16383):(fZ x).length<=2:=by
 by_cases h1:x<128
 ·rw[Fp h1];simp
 ·rw[GW h1,Fp nj];simp
def J8(bs:List Nat)(plain:Bool)(w:World)(e:Ending)(w':World):Prop:=
 ∃v,e= .returned (.tuple #[v,ij])/\w'.ownsRow w 5 1 v (Bm bs plain).length (dZ .u8 (Bm bs plain))/\Below w w w'
theorem wrap_u64(n:Int):IntKind.u64.wrap n=n % 18446744073709551616:=by simp[IntKind.wrap,IntKind.bits,IntKind.signed]
theorem a0y{p:Prop}(h:p:=by
  have z:=show w6.ownsRow _ 5 1 v6 F.length (dZ .u8 F) by rw[hF];exact ai
  obtain⟨A6,c6,rfl⟩:=bZ z;have P6:Hid (Part.Ok (⟨A6,c6,F⟩:Part) w6):=lZ z rfl;have HF:Hid (F=Em bs false):=qt
  have ar:F.length<=100000:=jx;have au:Hid (∀x∈F,x<=255):=qs;clear ai z M hF ak R5 R4 P5 P4 N ac;go_wp2_with fail;refine(Ad2 w6 A6 F.length c6 F rfl ar P6.out.nil au.out ax.out P6.out.row).mono ?_;rintro e w7 ⟨v7,rfl,aj,Y⟩;have an:Hid (w7.ownsRow w 5 1 v7 (Bm bs false).length (dZ .u8 (Bm bs false))):=kw;have az:=hid (cZ Y aa.out);clear aj Y;go_wp2_with fail;go_ret2;exact⟨_,rfl,an.out,az.out⟩):p:=h
theorem a2c{p:Prop}(h:p:=by
  simp only[List.append_nil,List.mem_append,List.mem_singleton]at hx;rcases hx with (rfl|hx|hx)|hx
  ·omega
  ·exact Dc _ x hx
  ·exact Dc _ x hx
  ·exact ay.out x hx):p:=h
theorem Nm(w:World)(A:Option Addr)(n c:Nat)(bs:List Nat)(plain:Bool)(hn:bs.length=n)(Aj0:n<=16000)(a3:A=none->n=0/\c=0)(h8:∀x∈bs,x<=255)(ht:TabAt w)(ha:Row w w A n 1 (jZ .u8 bs)):
 Calls prog 47 #[.slice A n c,plain] w (J8 bs plain w):=by
 subst hn;have D1:=hid (Z6 w A bs.length c bs rfl Aj0 h8 ha);have D2:Hid (∀wx x,x<=16000->Calls prog 99 #[.int .u64 (x:Nat)] wx fun e w'=>∃v,e= .returned v/\w'.ownsRow wx 5 1 v (fZ x).length (dZ .u8 (fZ x))/\Below wx wx w'):=fun wx x h=>Ac0 wx x nj;have g0:=ig ((32768:Int)<bs.length)
 have a5:=ig (32768<bs.length)
 have u1:IntKind.u64.wrap (bs.length:Int)=(bs.length:Int):=ry
 have am:=hid ht;have a1:Hid (Part.Ok (⟨A,c,bs⟩:Part) w):=⟨ha,a3⟩;have ay:=hid h8;clear ht ha a3 h8;cases plain with
 |true=>
  have al:Hid (Part.Ok (⟨A,c,bs⟩:Part) w):=a1.out;have U:Hid (Below w w w):=Ae _ _;have Z:Hid (TabAt w):=am.out;have aw:bs.length<=16000:=Aj0;have L:Hid ((fZ bs.length).length<=2/\(fZ bs.length).length<=2/\bs.length<=16000):=⟨I0 nj,I0 nj,aw⟩;have a0:Hid (∀a c3 c4 A3 A4,BN [⟨a,1,[0]⟩,⟨A3,c3,fZ bs.length⟩,⟨A4,c4,fZ bs.length⟩]<=1000000):=fun _ _ _ _ _=>km
  have aq:Hid (([0]++(fZ bs.length++(fZ bs.length++ [])))++(bs++ [])=Em bs true):=by unfold Em Jf Hj Ew;simp only[Bool.not_true,Bool.false_and,Bool.false_eq_true,if_false];refine hid ?_;simp
  have H8:Hid (∀x∈([0]++(fZ bs.length++(fZ bs.length++ [])))++(bs++ []),x<=255):=fun x hx=>by
   exact a2c
  have u2:IntKind.u64.wrap (bs.length:Int)=(bs.length:Int):=ry
  clear D1 a1 am ay;go_enter func47,ntmps47;go_wp2_with fail;refine(D2.out _ bs.length nj).mono ?_;rintro e w2 ⟨v2,rfl,G,j⟩;obtain⟨A3,c3,rfl⟩:=bZ G;have P1:Hid (Part.Ok (⟨some ⟨w,0,none⟩,1,[0]⟩:Part) w2):=(Hl (Blk.made _ _ _)).step j;have P2:Hid (Part.Ok (⟨A3,c3,fZ bs.length⟩:Part) w2):=lZ G rfl;have P4:Hid (Part.Ok (⟨A,c,bs⟩:Part) w2):=al.out.step (cZ j (aZ (Ae _ _)));have Q:Hid (Below w w w2):=cZ (cZ j (aZ (Ae _ _))) U.out;have af:Hid (TabAt w2):=Z.out.step (cZ j (aZ (Ae _ _)));clear G j al U Z;go_wp2_with fail;refine(D2.out _ bs.length nj).mono ?_;rintro e w3 ⟨v3,rfl,J,i⟩;obtain⟨A4,c4,rfl⟩:=bZ J;have Q1:=hid ((P1.out.step i).step (aZ (Ae w3 w3) (o:=(.cells #[(⟨some ⟨w,0,none⟩,1,[0]⟩:Part).v,(⟨A3,c3,fZ bs.length⟩:Part).v,(⟨A4,c4,fZ bs.length⟩:Part).v] 28))));have Q2:=hid ((P2.out.step i).step (aZ (Ae w3 w3) (o:=(.cells #[(⟨some ⟨w,0,none⟩,1,[0]⟩:Part).v,(⟨A3,c3,fZ bs.length⟩:Part).v,(⟨A4,c4,fZ bs.length⟩:Part).v] 28))));have Q3:=hid (Part.Ok.step (p:=(⟨A4,c4,fZ bs.length⟩:Part)) (lZ J rfl) (aZ (Ae w3 w3) (o:=(.cells #[(⟨some ⟨w,0,none⟩,1,[0]⟩:Part).v,(⟨A3,c3,fZ bs.length⟩:Part).v,(⟨A4,c4,fZ bs.length⟩:Part).v] 28))));have Q4:=hid ((P4.out.step i).step (aZ (Ae w3 w3) (o:=(.cells #[(⟨some ⟨w,0,none⟩,1,[0]⟩:Part).v,(⟨A3,c3,fZ bs.length⟩:Part).v,(⟨A4,c4,fZ bs.length⟩:Part).v] 28))));have ag:Hid (Below w w (w3.alloc (.cells #[(⟨some ⟨w,0,none⟩,1,[0]⟩:Part).v,(⟨A3,c3,fZ bs.length⟩:Part).v,(⟨A4,c4,fZ bs.length⟩:Part).v] 28))):=aZ (cZ i Q.out);have ae:Hid (TabAt (w3.alloc (.cells #[(⟨some ⟨w,0,none⟩,1,[0]⟩:Part).v,(⟨A3,c3,fZ bs.length⟩:Part).v,(⟨A4,c4,fZ bs.length⟩:Part).v] 28))):=(af.out.step i).step (aZ (Ae _ _));clear J i P1 P2 P4 Q af;go_wp2_with fail
  refine(FK _ w3 3 [(⟨some ⟨w,0,none⟩,1,[0]⟩:Part),(⟨A3,c3,fZ bs.length⟩:Part),(⟨A4,c4,fZ bs.length⟩:Part)] rfl nj (a0.out _ _ _ _ _) (fun p hp=>by
   rcases AO.1 hp with rfl|hp
   ·exact Q1.out
   ·rcases AO.1 hp with rfl|hp
    ·exact Q2.out
    ·rcases AO.1 hp with rfl|hp
     ·exact Q3.out
     ·cases hp) (Blk.made _ _ _)).mono ?_
  rintro e w5 ⟨v5,rfl,ah,E⟩;have N:Hid (Below w w w5):=cZ E ag.out;have ac:Hid (TabAt w5):=ae.out.step E;have P4:=hid (Q4.out.step E);obtain⟨H,hH⟩:=ii ( [0]++(fZ bs.length++(fZ bs.length++ [])));have y:=show w5.ownsRow _ 5 1 v5 H.length (dZ .u8 H) by rw[hH];exact ah
  obtain⟨A5,c5,rfl⟩:=bZ y;have P5:Hid (Part.Ok (⟨A5,c5,H⟩:Part) w5):=lZ y rfl;have HH:=hid hH;clear ah y E ag ae Q1 Q2 Q3 Q4 hH;go_wp2_with fail;have R5:=hid (P5.out.step (aZ (Ae w5 w5) (o:=(.cells #[(⟨A5,c5,H⟩:Part).v,(⟨A,c,bs⟩:Part).v] 28))));have R4:=hid (P4.out.step (aZ (Ae w5 w5) (o:=(.cells #[(⟨A5,c5,H⟩:Part).v,(⟨A,c,bs⟩:Part).v] 28))));have ak:BN [(⟨A5,c5,H⟩:Part),(⟨A,c,bs⟩:Part)]<=1000000:=lu
  refine(FK _ w5 2 [(⟨A5,c5,H⟩:Part),(⟨A,c,bs⟩:Part)] rfl nj ak (fun p hp=>by
   rcases AO.1 hp with rfl|hp
   ·exact R5.out
   ·rcases AO.1 hp with rfl|hp
    ·exact R4.out
    ·cases hp) (Blk.made _ _ _)).mono ?_
  rintro e w6 ⟨v6,rfl,ai,M⟩;have aa:Hid (Below w w w6):=cZ M (aZ N.out);have ax:Hid (TabAt w6):=(ac.out.step (aZ (Ae _ _))).step M;obtain⟨F,hF⟩:=ii (H++(bs++ []));have z:=show w6.ownsRow _ 5 1 v6 F.length (dZ .u8 F) by rw[hF];exact ai
  obtain⟨A6,c6,rfl⟩:=bZ z;have P6:Hid (Part.Ok (⟨A6,c6,F⟩:Part) w6):=lZ z rfl;have HF:Hid (F=Em bs true):=qt
  have ar:F.length<=100000:=jx
  have au:Hid (∀x∈F,x<=255):=qs
  clear ai z M hF ak R5 R4 P5 P4 N ac;go_wp2_with fail;refine(Ad2 w6 A6 F.length c6 F rfl ar P6.out.nil au.out ax.out P6.out.row).mono ?_;rintro e w7 ⟨v7,rfl,aj,Y⟩;have an:Hid (w7.ownsRow w 5 1 v7 (Bm bs true).length (dZ .u8 (Bm bs true))):=by have h:=kZ aj aa.out.size;have e1:(Bm bs true).length=F.length+4:=sP;rw[e1];unfold Bm;rw[<-HF.out];exact h
  have az:=hid (cZ Y aa.out);clear aj Y;go_wp2_with fail;go_ret2;exact⟨_,rfl,an.out,az.out⟩
 |false=>
  cases hq:sqz bs with
  |false=>
   rw[hq]at D1;have HQ:=hid hq;clear hq;go_enter func47,ntmps47;go_wp2_with fail;refine D1.out.mono ?_;rintro e w1 ⟨v1,rfl,av,ab⟩;have al:Hid (Part.Ok (⟨A,c,bs⟩:Part) w1):=a1.out.step ab;have U:Hid (Below w w w1):=ab;have Z:Hid (TabAt w1):=am.out.step ab;have aw:bs.length<=16000:=Aj0;have L:Hid ((fZ bs.length).length<=2/\(fZ bs.length).length<=2/\bs.length<=16000):=⟨I0 nj,I0 nj,aw⟩;have a0:Hid (∀a c3 c4 A3 A4,BN [⟨a,1,[0]⟩,⟨A3,c3,fZ bs.length⟩,⟨A4,c4,fZ bs.length⟩]<=1000000):=fun _ _ _ _ _=>km
   have aq:Hid (([0]++(fZ bs.length++(fZ bs.length++ [])))++(bs++ [])=Em bs false):=by unfold Em Jf Hj Ew;rw[HQ.out];simp only[Bool.and_false,Bool.false_eq_true,if_false];refine hid ?_;simp
   have H8:Hid (∀x∈([0]++(fZ bs.length++(fZ bs.length++ [])))++(bs++ []),x<=255):=fun x hx=>by
    exact a2c
   have u2:IntKind.u64.wrap (bs.length:Int)=(bs.length:Int):=ry;clear D1 a1 am ay av ab;go_wp2_with fail;refine(D2.out _ bs.length nj).mono ?_;rintro e w2 ⟨v2,rfl,G,j⟩;obtain⟨A3,c3,rfl⟩:=bZ G;have P1:Hid (Part.Ok (⟨some ⟨w1,0,none⟩,1,[0]⟩:Part) w2):=(Hl (Blk.made _ _ _)).step j;have P2:Hid (Part.Ok (⟨A3,c3,fZ bs.length⟩:Part) w2):=lZ G rfl;have P4:Hid (Part.Ok (⟨A,c,bs⟩:Part) w2):=al.out.step (cZ j (aZ (Ae _ _)));have Q:Hid (Below w w w2):=cZ (cZ j (aZ (Ae _ _))) U.out;have af:Hid (TabAt w2):=Z.out.step (cZ j (aZ (Ae _ _)));clear G j al U Z;go_wp2_with fail;refine(D2.out _ bs.length nj).mono ?_;rintro e w3 ⟨v3,rfl,J,i⟩;obtain⟨A4,c4,rfl⟩:=bZ J;have Q1:=hid ((P1.out.step i).step (aZ (Ae w3 w3) (o:=(.cells #[(⟨some ⟨w1,0,none⟩,1,[0]⟩:Part).v,(⟨A3,c3,fZ bs.length⟩:Part).v,(⟨A4,c4,fZ bs.length⟩:Part).v] 28))));have Q2:=hid ((P2.out.step i).step (aZ (Ae w3 w3) (o:=(.cells #[(⟨some ⟨w1,0,none⟩,1,[0]⟩:Part).v,(⟨A3,c3,fZ bs.length⟩:Part).v,(⟨A4,c4,fZ bs.length⟩:Part).v] 28))));have Q3:=hid (Part.Ok.step (p:=(⟨A4,c4,fZ bs.length⟩:Part)) (lZ J rfl) (aZ (Ae w3 w3) (o:=(.cells #[(⟨some ⟨w1,0,none⟩,1,[0]⟩:Part).v,(⟨A3,c3,fZ bs.length⟩:Part).v,(⟨A4,c4,fZ bs.length⟩:Part).v] 28))));have Q4:=hid ((P4.out.step i).step (aZ (Ae w3 w3) (o:=(.cells #[(⟨some ⟨w1,0,none⟩,1,[0]⟩:Part).v,(⟨A3,c3,fZ bs.length⟩:Part).v,(⟨A4,c4,fZ bs.length⟩:Part).v] 28))));have ag:Hid (Below w w (w3.alloc (.cells #[(⟨some ⟨w1,0,none⟩,1,[0]⟩:Part).v,(⟨A3,c3,fZ bs.length⟩:Part).v,(⟨A4,c4,fZ bs.length⟩:Part).v] 28))):=aZ (cZ i Q.out);have ae:Hid (TabAt (w3.alloc (.cells #[(⟨some ⟨w1,0,none⟩,1,[0]⟩:Part).v,(⟨A3,c3,fZ bs.length⟩:Part).v,(⟨A4,c4,fZ bs.length⟩:Part).v] 28))):=(af.out.step i).step (aZ (Ae _ _));clear J i P1 P2 P4 Q af;go_wp2_with fail
   refine(FK _ w3 3 [(⟨some ⟨w1,0,none⟩,1,[0]⟩:Part),(⟨A3,c3,fZ bs.length⟩:Part),(⟨A4,c4,fZ bs.length⟩:Part)] rfl nj (a0.out _ _ _ _ _) (fun p hp=>by
    rcases AO.1 hp with rfl|hp
    ·exact Q1.out
    ·rcases AO.1 hp with rfl|hp
     ·exact Q2.out
     ·rcases AO.1 hp with rfl|hp
      ·exact Q3.out
      ·cases hp) (Blk.made _ _ _)).mono ?_
   rintro e w5 ⟨v5,rfl,ah,E⟩;have N:Hid (Below w w w5):=cZ E ag.out;have ac:Hid (TabAt w5):=ae.out.step E;have P4:=hid (Q4.out.step E);obtain⟨H,hH⟩:=ii ( [0]++(fZ bs.length++(fZ bs.length++ [])));have y:=show w5.ownsRow _ 5 1 v5 H.length (dZ .u8 H) by rw[hH];exact ah
   obtain⟨A5,c5,rfl⟩:=bZ y;have P5:Hid (Part.Ok (⟨A5,c5,H⟩:Part) w5):=lZ y rfl;have HH:=hid hH;clear ah y E ag ae Q1 Q2 Q3 Q4 hH;go_wp2_with fail;have R5:=hid (P5.out.step (aZ (Ae w5 w5) (o:=(.cells #[(⟨A5,c5,H⟩:Part).v,(⟨A,c,bs⟩:Part).v] 28))));have R4:=hid (P4.out.step (aZ (Ae w5 w5) (o:=(.cells #[(⟨A5,c5,H⟩:Part).v,(⟨A,c,bs⟩:Part).v] 28))));have ak:BN [(⟨A5,c5,H⟩:Part),(⟨A,c,bs⟩:Part)]<=1000000:=lu
   refine(FK _ w5 2 [(⟨A5,c5,H⟩:Part),(⟨A,c,bs⟩:Part)] rfl nj ak (fun p hp=>by
    rcases AO.1 hp with rfl|hp
    ·exact R5.out
    ·rcases AO.1 hp with rfl|hp
     ·exact R4.out
     ·cases hp) (Blk.made _ _ _)).mono ?_
   rintro e w6 ⟨v6,rfl,ai,M⟩;have aa:Hid (Below w w w6):=cZ M (aZ N.out);have ax:Hid (TabAt w6):=(ac.out.step (aZ (Ae _ _))).step M;obtain⟨F,hF⟩:=ii (H++(bs++ []));exact a0y
  |true=>
   rw[hq]at D1;have HQ:=hid hq;have a6:(sqO bs).length<bs.length:=(by unfold sqz at hq;simp at hq;exact hq.2);have a4:∀x∈sqO bs,x<=255:=VN _;clear hq;go_enter func47,ntmps47;go_wp2_with fail;refine D1.out.mono ?_;rintro e w1 ⟨v1,rfl,av,ab⟩;obtain⟨A1,c1,rfl⟩:=bZ av;have al:Hid (Part.Ok (⟨A1,c1,(sqO bs)⟩:Part) w1):=lZ av rfl;have U:Hid (Below w w w1):=ab;have Z:Hid (TabAt w1):=am.out.step ab;have aw:(sqO bs).length<=16000:=nj;have L:Hid ((fZ bs.length).length<=2/\(fZ (sqO bs).length).length<=2/\(sqO bs).length<=16000):=⟨I0 nj,I0 nj,aw⟩;have a0:Hid (∀a c3 c4 A3 A4,BN [⟨a,1,[1]⟩,⟨A3,c3,fZ bs.length⟩,⟨A4,c4,fZ (sqO bs).length⟩]<=1000000):=fun _ _ _ _ _=>km
   have aq:Hid (([1]++(fZ bs.length++(fZ (sqO bs).length++ [])))++((sqO bs)++ [])=Em bs false):=by unfold Em Jf Hj Ew;rw[HQ.out];simp only[Bool.not_false,Bool.true_and,if_true];refine hid ?_;simp
   have H8:Hid (∀x∈([1]++(fZ bs.length++(fZ (sqO bs).length++ [])))++((sqO bs)++ []),x<=255):=fun x hx=>by
    simp only[List.append_nil,List.mem_append,List.mem_singleton]at hx;rcases hx with (rfl|hx|hx)|hx
    ·omega
    ·exact Dc _ x hx
    ·exact Dc _ x hx
    ·exact a4 x hx
   have u2:IntKind.u64.wrap ((sqO bs).length:Int)=((sqO bs).length:Int):=ry;clear D1 a1 am ay av ab a4;go_wp2_with fail;refine(D2.out _ bs.length nj).mono ?_;rintro e w2 ⟨v2,rfl,G,j⟩;obtain⟨A3,c3,rfl⟩:=bZ G;have P1:Hid (Part.Ok (⟨some ⟨w1,0,none⟩,1,[1]⟩:Part) w2):=(Hl (Blk.made _ _ _)).step j;have P2:Hid (Part.Ok (⟨A3,c3,fZ bs.length⟩:Part) w2):=lZ G rfl;have P4:Hid (Part.Ok (⟨A1,c1,(sqO bs)⟩:Part) w2):=al.out.step (cZ j (aZ (Ae _ _)));have Q:Hid (Below w w w2):=cZ (cZ j (aZ (Ae _ _))) U.out;have af:Hid (TabAt w2):=Z.out.step (cZ j (aZ (Ae _ _)));clear G j al U Z;go_wp2_with fail;refine(D2.out _ (sqO bs).length nj).mono ?_;rintro e w3 ⟨v3,rfl,J,i⟩;obtain⟨A4,c4,rfl⟩:=bZ J;have Q1:=hid ((P1.out.step i).step (aZ (Ae w3 w3) (o:=(.cells #[(⟨some ⟨w1,0,none⟩,1,[1]⟩:Part).v,(⟨A3,c3,fZ bs.length⟩:Part).v,(⟨A4,c4,fZ (sqO bs).length⟩:Part).v] 28))));have Q2:=hid ((P2.out.step i).step (aZ (Ae w3 w3) (o:=(.cells #[(⟨some ⟨w1,0,none⟩,1,[1]⟩:Part).v,(⟨A3,c3,fZ bs.length⟩:Part).v,(⟨A4,c4,fZ (sqO bs).length⟩:Part).v] 28))));have Q3:=hid (Part.Ok.step (p:=(⟨A4,c4,fZ (sqO bs).length⟩:Part)) (lZ J rfl) (aZ (Ae w3 w3) (o:=(.cells #[(⟨some ⟨w1,0,none⟩,1,[1]⟩:Part).v,(⟨A3,c3,fZ bs.length⟩:Part).v,(⟨A4,c4,fZ (sqO bs).length⟩:Part).v] 28))));have Q4:=hid ((P4.out.step i).step (aZ (Ae w3 w3) (o:=(.cells #[(⟨some ⟨w1,0,none⟩,1,[1]⟩:Part).v,(⟨A3,c3,fZ bs.length⟩:Part).v,(⟨A4,c4,fZ (sqO bs).length⟩:Part).v] 28))));have ag:Hid (Below w w (w3.alloc (.cells #[(⟨some ⟨w1,0,none⟩,1,[1]⟩:Part).v,(⟨A3,c3,fZ bs.length⟩:Part).v,(⟨A4,c4,fZ (sqO bs).length⟩:Part).v] 28))):=aZ (cZ i Q.out);have ae:Hid (TabAt (w3.alloc (.cells #[(⟨some ⟨w1,0,none⟩,1,[1]⟩:Part).v,(⟨A3,c3,fZ bs.length⟩:Part).v,(⟨A4,c4,fZ (sqO bs).length⟩:Part).v] 28))):=(af.out.step i).step (aZ (Ae _ _));clear J i P1 P2 P4 Q af;go_wp2_with fail
   refine(FK _ w3 3 [(⟨some ⟨w1,0,none⟩,1,[1]⟩:Part),(⟨A3,c3,fZ bs.length⟩:Part),(⟨A4,c4,fZ (sqO bs).length⟩:Part)] rfl nj (a0.out _ _ _ _ _) (fun p hp=>by
    rcases AO.1 hp with rfl|hp
    ·exact Q1.out
    ·rcases AO.1 hp with rfl|hp
     ·exact Q2.out
     ·rcases AO.1 hp with rfl|hp
      ·exact Q3.out
      ·cases hp) (Blk.made _ _ _)).mono ?_
   rintro e w5 ⟨v5,rfl,ah,E⟩;have N:Hid (Below w w w5):=cZ E ag.out;have ac:Hid (TabAt w5):=ae.out.step E;have P4:=hid (Q4.out.step E);obtain⟨H,hH⟩:=ii ( [1]++(fZ bs.length++(fZ (sqO bs).length++ [])));have y:=show w5.ownsRow _ 5 1 v5 H.length (dZ .u8 H) by rw[hH];exact ah
   obtain⟨A5,c5,rfl⟩:=bZ y;have P5:Hid (Part.Ok (⟨A5,c5,H⟩:Part) w5):=lZ y rfl;have HH:=hid hH;clear ah y E ag ae Q1 Q2 Q3 Q4 hH;go_wp2_with fail;have R5:=hid (P5.out.step (aZ (Ae w5 w5) (o:=(.cells #[(⟨A5,c5,H⟩:Part).v,(⟨A1,c1,(sqO bs)⟩:Part).v] 28))));have R4:=hid (P4.out.step (aZ (Ae w5 w5) (o:=(.cells #[(⟨A5,c5,H⟩:Part).v,(⟨A1,c1,(sqO bs)⟩:Part).v] 28))));have ak:BN [(⟨A5,c5,H⟩:Part),(⟨A1,c1,(sqO bs)⟩:Part)]<=1000000:=lu
   refine(FK _ w5 2 [(⟨A5,c5,H⟩:Part),(⟨A1,c1,(sqO bs)⟩:Part)] rfl nj ak (fun p hp=>by
    rcases AO.1 hp with rfl|hp
    ·exact R5.out
    ·rcases AO.1 hp with rfl|hp
     ·exact R4.out
     ·cases hp) (Blk.made _ _ _)).mono ?_
   rintro e w6 ⟨v6,rfl,ai,M⟩;have aa:Hid (Below w w w6):=cZ M (aZ N.out);have ax:Hid (TabAt w6):=(ac.out.step (aZ (Ae _ _))).step M;obtain⟨F,hF⟩:=ii (H++((sqO bs)++ []));exact a0y
theorem Yz(K:Nat->Prop)(w:World)(g base:Nat)(t:TypeId)(rest:List Value)(v:Value)(bs:List Bool)(n:Nat)(hn:n<=100000)(E:bs.length+n<=5000000)(hW:Wr K w base g t rest bs v):
 Calls prog 176 #[.pointer (some ⟨g,0,none⟩), .int .i64 (n:Nat)] w fun e w'=>e= .returned (.int .i64 0)/\∃v',Wr K w' base g t rest (bs++unary n) v'/\Kept K w w':=by
 have J:=hid E;have G:Hid (Wr K w base g t rest (bs++List.replicate 0 false) v):=by show Wr _ _ _ _ _ _ _ _;rw[List.replicate_zero,Cg];exact hW
 have y1:=ig ((n:Int)<0)
 have y2:=ig ((100000:Int)<n)
 have Q:=ig (100000<n)
 clear hW E;go_enter func176,ntmps176;go_wp2_with fail;go_loopw [16] (fun i wr=>∃ (j:Nat) (v':Value),j<=n/\i= .int .i64 j/\Hid (Wr K wr base g t rest (bs++List.replicate j false) v')/\Hid (Kept K w wr)) (fun i _=>n-(intOf i).toNat)
 case atStart=>exact⟨0,v,nj,rfl,G.out,Kept.refl _ _⟩
 case round=>
  obtain⟨j,v',hj,rfl,h,HK⟩:=hrel;clear G;by_cases U:j<n
  ·have gk:=ic ((j:Int)<n);have M:=ic (j<n);have C:=hid (Ac8 K wr g base t rest v' (bs++List.replicate j false) false (by rw[Ag,Dv];have:=J.out;omega) h.out);clear h;go_wp2_with(go_at_call 234;refine C.out.mono ?_;rintro e w2 ⟨rfl,v2,y,z⟩);have N:Hid (Wr K w2 base g t rest (bs++List.replicate (j+1) false) v2):=(by show Wr _ _ _ _ _ _ _ _;rw[List.replicate_succ',<-AE];exact y);have L:Hid (Kept K w w2):=HK.out.trans z;clear y z HK C;go_roundw
   case measure=>exact jq
   case rel=>go_light;exact⟨j+1,v2,nj,iw,N.out,L.out⟩
  ·obtain rfl:j=n:=by omega
   have gk:=ig ((j:Int)<j);have M:=ig (j<j);have C:=hid (Ac8 K wr g base t rest v' (bs++List.replicate j false) true (by rw[Ag,Dv];have:=J.out;omega) h.out);clear h;go_wp2_with(go_at_call 234;refine C.out.mono ?_;rintro e w2 ⟨rfl,v2,y,z⟩);go_ret;refine⟨rfl,v2,?_,HK.out.trans z⟩;unfold unary;rw[<-AE];exact y
open Go.Maps
theorem Af8{x:Value}(hb:base<=w.heap.size):(w.alloc (.cells #[x] 5)).ownsRow base 5 1 (.slice (some ⟨w,0,none⟩) 1 1) 1 [x]:=
 ⟨rfl, .inr ⟨w.heap.size,1,#[x],rfl,hb,heap_alloc_new w _,Ak _,sS,rfl,rfl⟩⟩
theorem Ag0{p:Part}{k:Nat}(h:p.Ok w)(hk:p.ls.length=k):Src w p.A k p.c 1 (dZ .u8 p.ls):=by subst hk;exact Jz h.row rfl h.nil
end Go.Proofs.YtfgdoknipbpfhaaGreatDoor
