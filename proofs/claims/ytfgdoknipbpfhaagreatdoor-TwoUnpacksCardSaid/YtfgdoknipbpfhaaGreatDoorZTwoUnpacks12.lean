/- The walk of sift.sma -/
import Derived.Test.YtfgdoknipbpfhaaGreatDoorZTwoUnpacks11
import Derived.Test.YtfgdoknipbpfhaaGreatDoorZTwoUnpacks3
import Derived.Laws.IdiomStrings
import Derived.Lib.SlBytesRow
import Derived.Deep.AppendLies
namespace Go.Proofs.YtfgdoknipbpfhaaGreatDoor
open Go.Proofs.Tryz
open Go.Lib (hid)
set_option maxHeartbeats 1000000
set_option maxRecDepth 100000
variable{j k n:Nat}{w:World}{A:Option Addr}
namespace Sift
open Go.RowKit Mem
def lowB(c:UInt8):UInt8:=if 65<=c.toNat/\c.toNat<=90 then c+32 else c
def bs(l:List UInt8):ByteArray:=⟨l.toArray⟩
theorem Io(l:List UInt8):(bs l).data.toList=l:=rfl
theorem CO(l:List UInt8):(bs l).size=l.length:=by simp[bs,ByteArray.size]
theorem Lv(l:List UInt8)(i:Nat)(h:i<(bs l).size):(bs l)[i]=l[i]'(by rw[CO]at h;exact h):=by have h1:=byte_at' (bs l) i h (by rw[Io];rw[CO]at h;exact h);exact h1.symm
end Sift
namespace Sift
open Go.RowKit Mem Own
theorem Ms:∀ (l:List UInt8) (j:Nat),j<(run l).length->∃c,l[j]? =some c/\BW c=true
 | [],j,h=>by simp[run]at h
 |c :: t,j,h=>by
  rw[run]at h;by_cases hc:BW c=true
  ·rw[Ab hc,Bu]at h;cases j with
   |zero=>exact⟨c,rfl,hc⟩
   |succ j=>exact Ms t j kR
  ·rw[Aa hc]at h;simp at h
theorem SD:∀ (l:List UInt8) (c:UInt8),l[(run l).length]? =some c->BW c=false
 | [],c,h=>by simp[run]at h
 |d :: t,c,h=>by
  rw[run]at h;by_cases hc:BW d=true
  ·rw[Ab hc,Bu,List.getElem?_cons_succ]at h;exact SD t c h
  ·rw[Aa hc]at h;simp at h;subst h;cases h2:BW d
   ·rfl
   ·exact absurd h2 hc
theorem Qh{c:UInt8}(h:BW c=true):lowB c=Ej c:=by
 rw[Gd]at h;have h2:=of_decide_eq_true h;unfold lowB Ej;by_cases h1:65<=c.toNat/\c.toNat<=90
 ·rw[Ab h1,Aa kR,Ab h1]
 ·rw[Aa h1,Ab kR]
theorem PU:∀ (l:List UInt8),run l=(l.take (run l).length).map lowB
 | []=>rfl
 |c :: t=>by
  rw[run];by_cases hc:BW c=true
  ·rw[Ab hc,Bu,List.take_succ_cons,DV,Qh hc,<-PU t]
  ·rw[Aa hc];rfl
theorem YS(l:List UInt8):(run l).length<=l.length:=by have:=Nl l;omega
theorem drop_at{s:ByteArray}(h:k<s.size):s.data.toList.drop k=s[k] :: s.data.toList.drop (k+1):=by
 have h1:k<s.data.toList.length:=by rw[<-Lib.size_eq];exact h
 rw[CU h1,byte_at' s k h h1]
theorem YQ(s:ByteArray)(a b:Nat):(s.extract a b).data.toList=(s.data.toList.drop a).take (b-a):=by rw[<-Lib.extract_toList,Fw]
end Sift
namespace Sift
open Go.RowKit Mem Own Canon
def AD(ws:List (List UInt8)):List Value:=ws.map fun l=> .string (bs l)
theorem I0(ws:List (List UInt8))(x:List UInt8):AD (ws++ [x])=AD ws++ [.string (bs x)]:=by simp[AD]
def byL(l:List UInt8):List Value:=l.map fun c=> .int .u8 (c.toNat:Nat)
theorem Mm(l:List UInt8)(x:UInt8):byL (l++ [x])=byL l++ [.int .u8 (x.toNat:Nat)]:=by simp[byL]
theorem PE{l:List UInt8}{i:Nat}{c:UInt8}(h:l[i]? =some c):(byL l)[i]? =some (.int .u8 (c.toNat:Nat)):=by simp[byL,h]
theorem Kn:(prog.info? 9).map (fun i=>(i.zero,i.size,i.bytes))=some (some (.string ⟨#[]⟩),1,16):=kG
theorem Wa{l:List UInt8}{c:UInt8}(h:j<(run l).length)(hc:l[j]? =some c):(run l)[j]? =some (Ej c):=by obtain⟨d,hd,hl⟩:=Ms l j h;rw[hc]at hd;injection hd with hd;subst hd;rw[PU,B0,List.getElem?_take_of_lt h,hc];exact AI some (Qh hl)
theorem Vh{l:List UInt8}(h:j<((run l).take 24).length):∃c,l[j]? =some c/\BW c=true/\((run l).take 24)[j]? =some (Ej c):=by rw[AN]at h;obtain⟨c,h1,h2⟩:=Ms l j kR;exact⟨c,h1,h2,by rw[List.getElem?_take_of_lt kR];exact Wa kR h1⟩
theorem U1{l:List UInt8}{c:UInt8}(h:l[((run l).take 24).length]? =some c):BW c=false∨((run l).take 24).length=24:=by
 rw[AN]at h ⊢;by_cases hh:(run l).length<24
 ·rw[Nat.min_eq_right kR]at h;exact .inl (SD l c h)
 ·exact .inr kR
def Hx(l:List UInt8):Nat->Bool
 |0=>false
 |k+1=>BW (l.getD k 0)
theorem JH(h:IC n=true):Dc n≠0:=by
 have:=of_decide_eq_true h;unfold Dc;split
 ·omega
 ·split<;>omega
theorem Lu(h:IC n=false):Dc n=0:=by have h:=of_decide_eq_false h;unfold Dc;rw[Aa kR,Aa kR]
theorem Sa(h:n<256):Dc n<256:=by
 unfold Dc;split
 ·exact h
 ·split<;>omega
theorem Qk{base c:Nat}{l:List UInt8}(h:w.ownsRow base 5 1 (.slice A n c) n (byL l))(hn:l.length=n)(h0:0<n):
 ∀wx:World,(∀g,(Value.slice A n c).ownBlock=some g->wx.heap[g]? =w.heap[g]?)->(convert 28 9 (.slice A n c)).run prog wx= .ok (.string (bs l)) wx:=by
 intro wx hk;obtain⟨gl,cl,j,G,E⟩:=h.form h0;injection j with e1 e2 e3;subst e1 e3;have hb:=hk gl rfl
 have y:Lib.Bytes wx gl 0 (bs l):=by
  intro i hi;have z:i<l.length:=by rw[CO]at hi;exact hi
  rw[BF,World.cell?_of_block (a:=⟨gl,i,none⟩) hb,h.cellAt i kR,Lv l i hi];exact PE (AE z)
 have kd:=Lib.run_convert_whole (P:=prog) wx 28 5 9 underlying28 underlying5 underlying9 gl 0 (bs l) y c;rw[CO,hn]at kd;exact kd
def Mu(s:ByteArray)(w:World)(e:Ending)(w':World):Prop:=
 ∃v,e= .returned v/\w'.ownsRow w 9 1 v (words s.data.toList).length (AD (words s.data.toList))/\aO w w'
theorem S7(w:World)(s:ByteArray)(hs:s.size<=100000):Calls prog 128 #[.string s] w (Mu s w):=by
 obtain⟨j0,a1,a5,aY,a4⟩:=info_parts Ct;obtain⟨j1,am,al,aj,ai⟩:=info_parts Kn;have aq:=Lib.size_eq s;obtain⟨l,hl⟩:=iS s.data.toList;have HL:=hid hl;rw[<-hl]at aq;have ah:=hid aq;unfold Mu;rw[<-hl,<-ZP];clear hl aq;go_enter func128,ntmps128;go_wp2_with fail;go_loopw [3,4] (fun u a wr=>∃ (k q:Nat) (ws:List (List UInt8)),k<=s.size/\q<=k/\a= .int .i64 k/\Hid (ws.length=q)/\wr.ownsRow w 9 1 u q (AD ws)/\Hid (ws++EY (Hx l k) (l.drop k)=EY false l)/\aO w wr) (fun _ a _=>s.size-(intOf a).toNat)
 case atStart=>exact⟨0,0,[],kR,kR,rfl,rfl,Aq _ _ _ _,by show _=_;simp[Hx],Ag _ _⟩
 case round=>
  obtain⟨k,q,ws,hk,be,rfl,hq,Q,hW,hb⟩:=hrel;have ak:=hb.size;by_cases aX:k<s.size
  ·have hd:=drop_at aX;rw[<-HL.out]at hd;have hw:=hW.out;rw[hd,EY]at hw;have hu:=Hg s[k];have ac:=Gd s[k];have D:=fun wx=>IW s[k].toNat hu wx;have aa:Hx l (k+1)=BW s[k]:=(by show BW (l.getD k 0)=_;rw[HL.out,Ar,byte_at s k aX];rfl);have x0:(0:Int)<=(k:Int):=kR;have x1:(k:Int)<(s.size:Int):=kR;have HB:=hid hb;have HO:=hid Q;cases hc:BW s[k]
   ·rw[hc]at hw aa ac;rw[Aa mY,GF]at hw
    replace hw:ws++EY (Hx l (k+1)) (l.drop (k+1))=EY false l:=by rw[aa];exact hw
    rw[Lu ac.symm]at D;have D:=hid D;have M:=hid hw;clear hd hw aa ac hu hc hW hb Q;go_wp2_with fail;refine(D.out _).mono ?_;rintro e w1 ⟨rfl,rfl⟩;go_wp2_with fail;go_roundw
    case measure=>exact jw
    case rel=>go_light;exact⟨k+1,q,ws,kR,kR,jx,hq.out,HO.out,M.out,HB.out⟩
   ·rw[hc]at hw aa ac;have U:=JH ac.symm;have ba:=Sa hu;by_cases hp:Hx l k=true
    ·obtain⟨p,rfl⟩:∃p,k=p+1:=by
      cases k with
      |zero=>cases hp
      |succ p=>exact⟨p,rfl⟩
     rw[Aa (by rw[hp];simp),GF]at hw
     replace hw:ws++EY (Hx l (p+1+1)) (l.drop (p+1+1))=EY false l:=by rw[aa];exact hw
     have aT:p<s.size:=kR
     have af:BW s[p]=true:=by
      replace hp:BW (l.getD p 0)=true:=hp
      rw[HL.out,Ar,byte_at s p aT]at hp;exact hp
     rw[Gd]at af;have D2:=fun wx=>IW s[p].toNat (Hg _) wx;have a0:=JH af;have bc:=Sa (Hg s[p]);generalize Dc s[p+1].toNat=v at *;generalize Dc s[p].toNat=v2 at *;have D:=hid D;have D2:=hid D2;have M:=hid hw;have n1:((v:Int)==0)=false:=ni;have n2:((v2:Int) != 0)=true:=ni;have g1:decide ((0:Int)<((p+1:Nat):Int))=true:=Aw kR;have y1:(p:Int)<(s.size:Int):=kR;have ky:(((p+1:Nat):Int)-1)=(p:Int):=kR;clear hd hw aa ac hu hc hW hb Q hp af U a0;go_wp2_with fail;refine(D.out _).mono ?_;rintro e w1 ⟨rfl,rfl⟩;go_wp2_with fail;refine(D2.out _).mono ?_;rintro e w1 ⟨rfl,rfl⟩;go_wp2_with fail;go_roundw
     case measure=>exact jw
     case rel=>go_light;exact⟨p+1+1,q,ws,kR,kR,jx,hq.out,HO.out,M.out,HB.out⟩
    ·have ab:Hx l k=false:=(by cases h:Hx l k<;>simp_all);rw[Ab ⟨rfl,ab⟩,<-aa]at hw;generalize a9:Dc s[k].toNat=v at *;clear a9;have D:=hid D;have n1:((v:Int)==0)=false:=ni;obtain⟨Rn,ag⟩:=iS ((run (l.drop k)).take 24);rw[<-hd,<-ag,<-zY]at hw;obtain⟨J,hJ⟩:=iS Rn.length;have bd:1<=J:=(by rw[hJ,ag,hd,run,Ab hc];simp);have bb:k+J<=s.size:=(by have:=YS (l.drop k);rw[AK,<-ah.out]at this;rw[hJ,ag,AN];omega);have bg:J<=24:=(by rw[hJ,ag,AN];omega);have ax:∀j,j<J->∃c,(l.drop k)[j]? =some c/\BW c=true/\Rn[j]? =some (Ej c):=(by rw[hJ,ag];exact fun j h=>Vh h);have aP:∀c,(l.drop k)[Rn.length]? =some c->BW c=false∨Rn.length=24:=(by rw[ag];exact fun c h=>U1 h);have az:=hid ax;have ay:=hid aP;have HJ:=hid hJ;have M:=hid hw;obtain⟨va,vc,rfl⟩:=aZ HO.out;clear hd hw aa ac hu hc hW hb Q hp U ag hJ ax aP;by_cases aV:k=0
     ·have g1:=iR (0<k);have bf:=hid aV;clear aV ab;go_wp2_with fail;refine(D.out _).mono ?_;rintro e w1 ⟨rfl,rfl⟩;go_wp2_with fail;obtain⟨w0,rfl⟩:=iS wr;go_loopw [5,6] (fun u a wx=>∃m:Nat,m<=J/\a= .int .i64 (k+m:Nat)/\Hid (wx.ownsRow w0 5 1 u m (byL (Rn.take m)))/\Hid (aO w0 wx)) (fun _ a _=>k+J-(intOf a).toNat)
      case atStart=>exact⟨0,kR,i5,Aq _ _ _ _,Ag _ _⟩
      case round=>
       obtain⟨m,hm,rfl,Z,E⟩:=hrel;have aU:=E.out.size;obtain⟨a7,a8,rfl⟩:=aZ Z.out;have y2:(0:Int)<=((k+m:Nat):Int):=kR;by_cases aW:m<J
       ·obtain⟨c,z,ae,an⟩:=az.out m aW;have Y:k+m<s.size:=(by have:=(Ch.1 z).1;rw[AK,<-ah.out]at this;omega);rw[I7,HL.out,byte_at s (k+m) Y]at z;injection z with z;subst z;rw[Gd]at ae;have D:=fun wx=>IW s[k+m].toNat (Hg _) wx;have U:=JH ae;have au:Rn.take (m+1)=Rn.take m++ [Ej s[k+m]]:=(by rw[EG,an];rfl);have av:byL (Rn.take (m+1))=byL (Rn.take m)++ [.int .u8 (Dc s[k+m].toNat:Nat)]:=(by rw[au,Mm,Kf]);generalize Dc s[k+m].toNat=v at *;have D:=hid D;have aQ:=hid av;have n3:((v:Int) != 0)=true:=ni;have y3:((k+m:Nat):Int)<(s.size:Int):=kR;have y4:decide ((m:Int)<24)=true:=Aw kR;clear ae an U au av;go_wp2_with fail;refine(D.out _).mono ?_;rintro e w1 ⟨rfl,rfl⟩;go_wp2_with fail;refine(D.out _).mono ?_;rintro e w1 ⟨rfl,rfl⟩;go_wp2_with(at_builtin;refine gZ rfl (.tmp 49) (.tmp 54) 28 rfl w0 5 j0 _ 1 1 underlying28 a1 a5 aY a4 rfl iX _ _ _ kU (Z.out.alloc _) _ 1 1 [.int .u8 v] kU (Src.of_blk (Blk.made _ _ _) 1 1 1 rfl) kw nI kR ni ?_;intro v4 w4 i L N);go_roundw
        case measure=>exact jw
        case rel=>
         go_light;refine⟨m+1,kR,jx,?_,?_⟩
         ·show World.ownsRow _ _ _ _ _ _ _;rw[aQ.out];exact i
         ·exact(lZ aU E.out).grown L ni (fun y hy=>(Ae Z.out y hy).1)
       ·have aw:m=J:=kR;have kd:=Qk Z.out (by rw[AN,<-HJ.out];omega) kR;rw[BR (by rw[<-HJ.out];omega)]at kd;have ar:=fun wx h=>kd wx h;have aR:=hid aw;clear aw kd;have kd:=ar wr (fun _ _=>rfl);clear ar;by_cases Y:k+m<s.size
        ·have y3:((k+m:Nat):Int)<(s.size:Int):=kR;have z:(l.drop k)[Rn.length]? =some s[k+m]:=kW;have D:=fun wx=>IW s[k+m].toNat (Hg _) wx;cases hlt2:BW s[k+m]
         ·rw[Gd]at hlt2;rw[Lu hlt2]at D;have D:=hid D;clear z hlt2;go_wp2_with fail;refine(D.out _).mono ?_;rintro e w1 ⟨rfl,rfl⟩;have G:=hid (dZ HO.out (fun x hx=>E.out.block x (Ae HO.out x hx).2));go_wp2_with(at_builtin;refine gZ rfl (.tmp 56) (.tmp 59) 50 rfl w 9 j1 _ 1 16 underlying50 am al aj ai rfl iX _ _ _ kU (G.out.alloc _) _ 1 1 [.string (bs Rn)] kU (Src.of_blk (Blk.made _ _ _) 1 1 1 rfl) kw nI kR ni ?_;intro v4 w4 i L N);go_roundw
          case measure=>exact jw
          case rel=>
           go_light;refine⟨k+1,q+1,ws++ [Rn],kR,kR,jx,?_,?_,?_,?_⟩
           ·show(ws++ [_]).length=q+1;rw[Aj,hq.out];rfl
           ·rw[I0];exact i
           ·show _=_;exact M.out
           ·exact(lZ kR (HB.out.trans (E.out.mono ak))).grown L ni (fun y hy=>(Ae G.out y hy).1)
         ·have aS:J=24:=by
           rcases ay.out _ z with h|h
           ·rw[h]at hlt2;cases hlt2
           ·rw[HJ.out];exact h
          rw[Gd]at hlt2;have U:=JH hlt2;generalize Dc s[k+m].toNat=v at *;have D:=hid D;have n3:((v:Int) != 0)=true:=ni;have y4:decide ((m:Int)<24)=false:=Az kR;clear z hlt2 U aS;go_wp2_with fail;refine(D.out _).mono ?_;rintro e w1 ⟨rfl,rfl⟩;have G:=hid (dZ HO.out (fun x hx=>E.out.block x (Ae HO.out x hx).2));go_wp2_with(at_builtin;refine gZ rfl (.tmp 56) (.tmp 59) 50 rfl w 9 j1 _ 1 16 underlying50 am al aj ai rfl iX _ _ _ kU (G.out.alloc _) _ 1 1 [.string (bs Rn)] kU (Src.of_blk (Blk.made _ _ _) 1 1 1 rfl) kw nI kR ni ?_;intro v4 w4 i L N);go_roundw
          case measure=>exact jw
          case rel=>
           go_light;refine⟨k+1,q+1,ws++ [Rn],kR,kR,jx,?_,?_,?_,?_⟩
           ·show(ws++ [_]).length=q+1;rw[Aj,hq.out];rfl
           ·rw[I0];exact i
           ·show _=_;exact M.out
           ·exact(lZ kR (HB.out.trans (E.out.mono ak))).grown L ni (fun y hy=>(Ae G.out y hy).1)
        ·have y3:=iR (((k+m:Nat):Int)<(s.size:Int));have a6:=iR ((k:Int)+(m:Int)<(s.size:Int));have a3:=iR (k+m<s.size);have y5:k+m<=s.size:=kR;clear Y;have G:=hid (dZ HO.out (fun x hx=>E.out.block x (Ae HO.out x hx).2));go_wp2_with(at_builtin;refine gZ rfl (.tmp 56) (.tmp 59) 50 rfl w 9 j1 _ 1 16 underlying50 am al aj ai rfl iX _ _ _ kU (G.out.alloc _) _ 1 1 [.string (bs Rn)] kU (Src.of_blk (Blk.made _ _ _) 1 1 1 rfl) kw nI kR ni ?_;intro v4 w4 i L N);go_roundw
         case measure=>exact jw
         case rel=>
          go_light;refine⟨k+1,q+1,ws++ [Rn],kR,kR,jx,?_,?_,?_,?_⟩
          ·show(ws++ [_]).length=q+1;rw[Aj,hq.out];rfl
          ·rw[I0];exact i
          ·show _=_;exact M.out
          ·exact(lZ kR (HB.out.trans (E.out.mono ak))).grown L ni (fun y hy=>(Ae G.out y hy).1)
     ·obtain⟨p,hp⟩:∃p,k=p+1:=⟨k-1,kR⟩;have aT:p<s.size:=by omega
      have af:BW s[p]=false:=by
       rw[hp]at ab
       replace ab:BW (l.getD p 0)=false:=ab
       rw[HL.out,Ar,byte_at s p aT]at ab;exact ab
      rw[Gd]at af;have D2:=fun wx=>IW s[p].toNat (Hg _) wx;rw[Lu af]at D2;have D2:=hid D2;have g1:=iQ (0<k);have y1:(p:Int)<(s.size:Int):=kR;have y0:(0:Int)<=(p:Int):=kR;have ky:((k:Int)-1)=(p:Int):=kR;clear aV ab af hp;go_wp2_with fail;refine(D.out _).mono ?_;rintro e w1 ⟨rfl,rfl⟩;go_wp2_with fail;refine(D2.out _).mono ?_;rintro e w1 ⟨rfl,rfl⟩;go_wp2_with fail;obtain⟨w0,rfl⟩:=iS wr;go_loopw [5,6] (fun u a wx=>∃m:Nat,m<=J/\a= .int .i64 (k+m:Nat)/\Hid (wx.ownsRow w0 5 1 u m (byL (Rn.take m)))/\Hid (aO w0 wx)) (fun _ a _=>k+J-(intOf a).toNat)
      case atStart=>exact⟨0,kR,i5,Aq _ _ _ _,Ag _ _⟩
      case round=>
       obtain⟨m,hm,rfl,Z,E⟩:=hrel;have aU:=E.out.size;obtain⟨a7,a8,rfl⟩:=aZ Z.out;have y2:(0:Int)<=((k+m:Nat):Int):=kR;by_cases aW:m<J
       ·obtain⟨c,z,ae,an⟩:=az.out m aW;have Y:k+m<s.size:=(by have:=(Ch.1 z).1;rw[AK,<-ah.out]at this;omega);rw[I7,HL.out,byte_at s (k+m) Y]at z;injection z with z;subst z;rw[Gd]at ae;have D:=fun wx=>IW s[k+m].toNat (Hg _) wx;have U:=JH ae;have au:Rn.take (m+1)=Rn.take m++ [Ej s[k+m]]:=(by rw[EG,an];rfl);have av:byL (Rn.take (m+1))=byL (Rn.take m)++ [.int .u8 (Dc s[k+m].toNat:Nat)]:=(by rw[au,Mm,Kf]);generalize Dc s[k+m].toNat=v at *;have D:=hid D;have aQ:=hid av;have n3:((v:Int) != 0)=true:=ni;have y3:((k+m:Nat):Int)<(s.size:Int):=kR;have y4:decide ((m:Int)<24)=true:=Aw kR;clear ae an U au av;go_wp2_with fail;refine(D.out _).mono ?_;rintro e w1 ⟨rfl,rfl⟩;go_wp2_with fail;refine(D.out _).mono ?_;rintro e w1 ⟨rfl,rfl⟩;go_wp2_with(at_builtin;refine gZ rfl (.tmp 49) (.tmp 54) 28 rfl w0 5 j0 _ 1 1 underlying28 a1 a5 aY a4 rfl iX _ _ _ kU (Z.out.alloc _) _ 1 1 [.int .u8 v] kU (Src.of_blk (Blk.made _ _ _) 1 1 1 rfl) kw nI kR ni ?_;intro v4 w4 i L N);go_roundw
        case measure=>exact jw
        case rel=>
         go_light;refine⟨m+1,kR,jx,?_,?_⟩
         ·show World.ownsRow _ _ _ _ _ _ _;rw[aQ.out];exact i
         ·exact(lZ aU E.out).grown L ni (fun y hy=>(Ae Z.out y hy).1)
       ·have aw:m=J:=kR;have kd:=Qk Z.out (by rw[AN,<-HJ.out];omega) kR;rw[BR (by rw[<-HJ.out];omega)]at kd;have ar:=fun wx h=>kd wx h;have aR:=hid aw;clear aw kd;have kd:=ar wr (fun _ _=>rfl);clear ar;by_cases Y:k+m<s.size
        ·have y3:((k+m:Nat):Int)<(s.size:Int):=kR;have z:(l.drop k)[Rn.length]? =some s[k+m]:=kW;have D:=fun wx=>IW s[k+m].toNat (Hg _) wx;cases hlt2:BW s[k+m]
         ·rw[Gd]at hlt2;rw[Lu hlt2]at D;have D:=hid D;clear z hlt2;go_wp2_with fail;refine(D.out _).mono ?_;rintro e w1 ⟨rfl,rfl⟩;have G:=hid (dZ HO.out (fun x hx=>E.out.block x (Ae HO.out x hx).2));go_wp2_with(at_builtin;refine gZ rfl (.tmp 56) (.tmp 59) 50 rfl w 9 j1 _ 1 16 underlying50 am al aj ai rfl iX _ _ _ kU (G.out.alloc _) _ 1 1 [.string (bs Rn)] kU (Src.of_blk (Blk.made _ _ _) 1 1 1 rfl) kw nI kR ni ?_;intro v4 w4 i L N);go_roundw
          case measure=>exact jw
          case rel=>
           go_light;refine⟨k+1,q+1,ws++ [Rn],kR,kR,jx,?_,?_,?_,?_⟩
           ·show(ws++ [_]).length=q+1;rw[Aj,hq.out];rfl
           ·rw[I0];exact i
           ·show _=_;exact M.out
           ·exact(lZ kR (HB.out.trans (E.out.mono ak))).grown L ni (fun y hy=>(Ae G.out y hy).1)
         ·have aS:J=24:=by
           rcases ay.out _ z with h|h
           ·rw[h]at hlt2;cases hlt2
           ·rw[HJ.out];exact h
          rw[Gd]at hlt2;have U:=JH hlt2;generalize Dc s[k+m].toNat=v at *;have D:=hid D;have n3:((v:Int) != 0)=true:=ni;have y4:decide ((m:Int)<24)=false:=Az kR;clear z hlt2 U aS;go_wp2_with fail;refine(D.out _).mono ?_;rintro e w1 ⟨rfl,rfl⟩;have G:=hid (dZ HO.out (fun x hx=>E.out.block x (Ae HO.out x hx).2));go_wp2_with(at_builtin;refine gZ rfl (.tmp 56) (.tmp 59) 50 rfl w 9 j1 _ 1 16 underlying50 am al aj ai rfl iX _ _ _ kU (G.out.alloc _) _ 1 1 [.string (bs Rn)] kU (Src.of_blk (Blk.made _ _ _) 1 1 1 rfl) kw nI kR ni ?_;intro v4 w4 i L N);go_roundw
          case measure=>exact jw
          case rel=>
           go_light;refine⟨k+1,q+1,ws++ [Rn],kR,kR,jx,?_,?_,?_,?_⟩
           ·show(ws++ [_]).length=q+1;rw[Aj,hq.out];rfl
           ·rw[I0];exact i
           ·show _=_;exact M.out
           ·exact(lZ kR (HB.out.trans (E.out.mono ak))).grown L ni (fun y hy=>(Ae G.out y hy).1)
        ·have y3:=iR (((k+m:Nat):Int)<(s.size:Int));have a6:=iR ((k:Int)+(m:Int)<(s.size:Int));have a3:=iR (k+m<s.size);have y5:k+m<=s.size:=kR;clear Y;have G:=hid (dZ HO.out (fun x hx=>E.out.block x (Ae HO.out x hx).2));go_wp2_with(at_builtin;refine gZ rfl (.tmp 56) (.tmp 59) 50 rfl w 9 j1 _ 1 16 underlying50 am al aj ai rfl iX _ _ _ kU (G.out.alloc _) _ 1 1 [.string (bs Rn)] kU (Src.of_blk (Blk.made _ _ _) 1 1 1 rfl) kw nI kR ni ?_;intro v4 w4 i L N);go_roundw
         case measure=>exact jw
         case rel=>
          go_light;refine⟨k+1,q+1,ws++ [Rn],kR,kR,jx,?_,?_,?_,?_⟩
          ·show(ws++ [_]).length=q+1;rw[Aj,hq.out];rfl
          ·rw[I0];exact i
          ·show _=_;exact M.out
          ·exact(lZ kR (HB.out.trans (E.out.mono ak))).grown L ni (fun y hy=>(Ae G.out y hy).1)
  ·obtain rfl:k=s.size:=by omega
   have hw:=hW.out;rw[Cw (by rw[ah.out];exact Ai _),EY,Fl]at hw;obtain⟨va,vc,rfl⟩:=aZ Q;have HB:=hid hb;have HO:=hid Q;have M:=hid hw;clear hw hW hb Q;go_wp2_with fail;go_ret;refine⟨_,rfl,?_,HB.out⟩;rw[<-M.out,hq.out];exact HO.out
end Sift
namespace Recs
open Go.RowKit Mem
theorem VV(a b:Rec)(w:World):(binOp .neq 43 (.agg #[.int .u64 a.time, .int .u8 a.level, .string a.source, .string a.text]) (.agg #[.int .u64 b.time, .int .u8 b.level, .string b.source, .string b.text])).run prog w= .ok (.bool (!H4 a b)) w:=by
 go_simp
 simp only[H4];by_cases h1:a.time=b.time<;>by_cases h2:a.level=b.level<;>by_cases h3:a.source.toList=b.source.toList<;>by_cases h4:a.text.toList=b.text.toList<;>simp[h1,h2,h3,h4]
theorem Row.rec{B:Nat}{l:List Rec}(h:Row w B A n 4 (Dt l))(hn:l.length=n)(hk:k<n):
 ∃b i r,A=some ⟨b,i,none⟩/\b<B/\l[k]? =some r/\w.cell? ⟨b,i+k*4,none⟩=some (.int .u64 r.time)/\w.cell? ⟨b,i+k*4+1,none⟩=some (.int .u8 r.level)/\
  w.cell? ⟨b,i+k*4+2,none⟩=some (.string r.source)/\w.cell? ⟨b,i+k*4+3,none⟩=some (.string r.text):=by
 obtain⟨b,i,rfl,hb,hc⟩:=h kR;have hl:k<l.length:=kR
 refine⟨b,i,l[k],rfl,hb,AE hl,?_⟩;have c0:=hc k 0 hk kR;have c1:=hc k 1 hk kR;have c2:=hc k 2 hk kR;have c3:=hc k 3 hk kR;simp only[Dt,List.getD_eq_getElem?_getD,List.getElem?_eq_getElem hl,Option.getD_some,Nat.add_zero,<-Nat.add_assoc]at c0 c1 c2 c3;exact⟨c0,c1,c2,c3⟩
theorem VA(w:World)(A B:Option Addr)(n m c d:Nat)(la lb:List Rec)(hn:la.length=n)(hm:lb.length=m)(hN:n<=9223372036854775807)(hM:m<=9223372036854775807)
 (ha:Row w w A n 4 (Dt la))(hb:Row w w B m 4 (Dt lb)):
 Calls prog 20 #[.slice A n c, .slice B m d] w fun e w'=>e= .returned (.bool (IZ la lb))/\∃q,w'=w.drewN q:=by
 have HN:=hid hn;have HM:=hid hm;clear hn hm;have hq:=VV;by_cases G:n=m
 ·subst G;go_enter func20,ntmps20
  go_wp2
  go_loopw [5] (fun i wr=>∃k q:Nat,k<=n/\i= .int .i64 k/\Hid (la.take k=lb.take k)/\wr=w.drewN q) (fun i _=>n-(intOf i).toNat)
  case atStart=>exact⟨0,0,kR,rfl,by rw[List.take_zero,List.take_zero];rfl,rfl⟩
  case round=>
   obtain⟨k,q,hk,rfl,j,rfl⟩:=hrel;by_cases E:k<n
   ·obtain⟨b,N,r,rfl,M,hr,c0,c1,c2,c3⟩:=Row.rec ha HN.out E;obtain⟨b',J,r',rfl,L,y,d0,d1,d2,d3⟩:=Row.rec hb HM.out E;have HR:=hid hr;have z:=hid y;clear hr y;have i1:(0:Int)<=(k:Int):=kR;have i2:(k:Int)<(n:Int):=kR;cases hrr:H4 r r'
    ·go_wp2_with fail;go_quiet (fail);go_wp2_with fail;go_ret;go_light;refine⟨El ?_,_,Dh _ _ _⟩;have:la≠lb:=(by intro e;have h1:=HR.out;rw[e,z.out]at h1;injection h1 with h1;exact(US _ _).1 hrr h1.symm);simp[IZ,this]
    ·go_wp2_with fail;go_quiet (fail);go_wp2_with fail;go_roundw
     case rel=>go_light;refine⟨k+1,_,kR,jx,?_,rfl⟩;have e:=(LB _ _).1 hrr;show la.take (k+1)=lb.take (k+1);rw[EG,EG,j.out,HR.out,z.out,e]
     case measure=>exact jw
   ·obtain rfl:k=n:=by omega
    go_wp2_with fail;go_ret;go_light;refine⟨El ?_,_,rfl⟩;have h:=j.out;rw[BR kg,BR (by have:=HM.out;omega)]at h;simp[IZ,h]
 ·have Q:((n:Int)==(m:Int))=false:=by simp;omega
  go_enter func20,ntmps20
  go_wp2
  go_ret;refine⟨El ?_,0,rfl⟩;have:la≠lb:=by intro e;have h1:=HN.out;have h2:=HM.out;rw[e]at h1;omega
  simp[IZ,this]
theorem UK(w:World)(A B:Option Addr)(n m c d:Nat)(la lb:List Rec)(hn:la.length=n)(hm:lb.length=m)(hN:n<=9223372036854775807)(hM:m<=9223372036854775807)
 (ha:Row w w A n 4 (Dt la))(hb:Row w w B m 4 (Dt lb)):
 Calls prog 20 #[.slice A n c, .slice B m d] w fun e w'=>e= .returned (.bool (IZ la lb))/\aO w w':=
 (VA w A B n m c d la lb hn hm hN hM ha hb).mono fun _ _ ⟨he,q,hw⟩=>⟨he,by rw[hw];exact below_drewN (Ag _ _) _⟩
end Recs
end Go.Proofs.YtfgdoknipbpfhaaGreatDoor
