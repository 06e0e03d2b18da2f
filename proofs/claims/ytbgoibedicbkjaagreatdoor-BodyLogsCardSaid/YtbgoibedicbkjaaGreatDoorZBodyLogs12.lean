/- The walk of sift.sma -/
import Derived.Test.YtbgoibedicbkjaaGreatDoorZBodyLogs11
import Derived.Test.YtbgoibedicbkjaaGreatDoorZBodyLogs3
import Derived.Laws.IdiomStrings
import Derived.Lib.SlBytesRow
import Derived.Deep.AppendLies
namespace Go.Proofs.YtbgoibedicbkjaaGreatDoor
open Go.Lib (hid)
set_option maxHeartbeats 1000000
set_option maxRecDepth 100000
namespace Sift
open Go.RowKit Mem
def lowB(c:UInt8):UInt8:=if 65<=c.toNat/\c.toNat<=90 then c+32 else c
def bs(l:List UInt8):ByteArray:=⟨l.toArray⟩
theorem Hk(l:List UInt8):(bs l).data.toList=l:=rfl
theorem Cy(l:List UInt8):(bs l).size=l.length:=by simp[bs,ByteArray.size]
theorem Kv(l:List UInt8)(i:Nat)(h:i<(bs l).size):(bs l)[i]=l[i]'(by rw[Cy]at h;exact h):=by have h1:=byte_at' (bs l) i h (by rw[Hk];rw[Cy]at h;exact h);exact h1.symm
end Sift
namespace Sift
open Go.RowKit Mem Own
theorem Ms:∀ (l:List UInt8) (j:Nat),j<(run l).length->∃c,l[j]? =some c/\Bz c=true
 | [],j,h=>by simp[run]at h
 |c :: t,j,h=>by
  rw[run]at h;by_cases hc:Bz c=true
  ·rw[Ab hc,Bh]at h;cases j with
   |zero=>exact⟨c,rfl,hc⟩
   |succ j=>exact Ms t j (by omega)
  ·rw[Aa hc]at h;simp at h
theorem QK:∀ (l:List UInt8) (c:UInt8),l[(run l).length]? =some c->Bz c=false
 | [],c,h=>by simp[run]at h
 |d :: t,c,h=>by
  rw[run]at h;by_cases hc:Bz d=true
  ·rw[Ab hc,Bh,List.getElem?_cons_succ]at h;exact QK t c h
  ·rw[Aa hc]at h;simp at h;subst h;cases h2:Bz d
   ·rfl
   ·exact absurd h2 hc
theorem NX{c:UInt8}(h:Bz c=true):lowB c=Dk c:=by
 rw[Fp]at h;have h2:=of_decide_eq_true h;unfold lowB Dk;by_cases h1:65<=c.toNat/\c.toNat<=90
 ·rw[Ab h1,Aa (by omega),Ab h1]
 ·rw[Aa h1,Ab (by omega)]
theorem NS:∀ (l:List UInt8),run l=(l.take (run l).length).map lowB
 | []=>rfl
 |c :: t=>by
  rw[run];by_cases hc:Bz c=true
  ·rw[Ab hc,Bh,List.take_succ_cons,Ee,NX hc,<-NS t]
  ·rw[Aa hc];rfl
theorem YX(l:List UInt8):(run l).length<=l.length:=by have:=Ml l;omega
theorem drop_at{s:ByteArray}{k:Nat}(h:k<s.size):s.data.toList.drop k=s[k] :: s.data.toList.drop (k+1):=by
 have h1:k<s.data.toList.length:=by rw[<-Lib.size_eq];exact h
 rw[CC h1,byte_at' s k h h1]
theorem WE(s:ByteArray)(a b:Nat):(s.extract a b).data.toList=(s.data.toList.drop a).take (b-a):=by rw[<-Lib.extract_toList,FG]
end Sift
namespace Sift
open Go.RowKit Mem Own Canon
def tZ(ws:List (List UInt8)):List Value:=ws.map fun l=> .string (bs l)
theorem Ir(ws:List (List UInt8))(x:List UInt8):tZ (ws++ [x])=tZ ws++ [.string (bs x)]:=by simp[tZ]
def byL(l:List UInt8):List Value:=l.map fun c=> .int .u8 (c.toNat:Nat)
theorem Mp(l:List UInt8)(x:UInt8):byL (l++ [x])=byL l++ [.int .u8 (x.toNat:Nat)]:=by simp[byL]
theorem NJ{l:List UInt8}{i:Nat}{c:UInt8}(h:l[i]? =some c):(byL l)[i]? =some (.int .u8 (c.toNat:Nat)):=by simp[byL,h]
theorem JG:(Tryz.prog.info? 9).map (fun i=>(i.zero,i.size,i.bytes))=some (some (.string ⟨#[]⟩),1,16):=by kernel_rfl
theorem Xv{l:List UInt8}{j:Nat}{c:UInt8}(h:j<(run l).length)(hc:l[j]? =some c):(run l)[j]? =some (Dk c):=by obtain⟨d,hd,hl⟩:=Ms l j h;rw[hc]at hd;injection hd with hd;subst hd;rw[NS,Bw,List.getElem?_take_of_lt h,hc];exact AJ some (NX hl)
theorem VZ{l:List UInt8}{j:Nat}(h:j<((run l).take 24).length):∃c,l[j]? =some c/\Bz c=true/\((run l).take 24)[j]? =some (Dk c):=by rw[AO]at h;obtain⟨c,h1,h2⟩:=Ms l j (by omega);exact⟨c,h1,h2,by rw[List.getElem?_take_of_lt (by omega)];exact Xv (by omega) h1⟩
theorem VJ{l:List UInt8}{c:UInt8}(h:l[((run l).take 24).length]? =some c):Bz c=false∨((run l).take 24).length=24:=by
 rw[AO]at h ⊢;by_cases hh:(run l).length<24
 ·rw[Nat.min_eq_right (by omega)]at h;exact .inl (QK l c h)
 ·exact .inr (by omega)
def G2(l:List UInt8):Nat->Bool
 |0=>false
 |k+1=>Bz (l.getD k 0)
theorem Jc{n:Nat}(h:Hz n=true):CK n≠0:=by
 have:=of_decide_eq_true h;unfold CK;split
 ·omega
 ·split<;>omega
theorem Ki{n:Nat}(h:Hz n=false):CK n=0:=by have h:=of_decide_eq_false h;unfold CK;rw[Aa (by omega),Aa (by omega)]
theorem Qp{n:Nat}(h:n<256):CK n<256:=by
 unfold CK;split
 ·exact h
 ·split<;>omega
theorem Pj{w:World}{base n c:Nat}{A:Option Addr}{l:List UInt8}(h:w.ownsRow base 5 1 (.slice A n c) n (byL l))(hn:l.length=n)(h0:0<n):
 ∀wx:World,(∀g,(Value.slice A n c).ownBlock=some g->wx.heap[g]? =w.heap[g]?)->(convert 22 9 (.slice A n c)).run Tryz.prog wx= .ok (.string (bs l)) wx:=by
 intro wx hk;obtain⟨gl,cl,z,E,G⟩:=h.form h0;injection z with e1 e2 e3;subst e1 e3;have hb:=hk gl rfl
 have j:Lib.Bytes wx gl 0 (bs l):=by
  intro i hi;have y:i<l.length:=by rw[Cy]at hi;exact hi
  rw[Bq,World.cell?_of_block (a:=⟨gl,i,none⟩) hb,h.cellAt i (by omega),Kv l i hi];exact NJ (AD y)
 have kd:=Lib.run_convert_whole (P:=Tryz.prog) wx 22 5 9 Tryz.underlying22 Tryz.underlying5 Tryz.underlying9 gl 0 (bs l) j c;rw[Cy,hn]at kd;exact kd
def zX(s:ByteArray)(w:World)(e:Ending)(w':World):Prop:=
 ∃v,e= .returned v/\w'.ownsRow w.heap.size 9 1 v (words s.data.toList).length (tZ (words s.data.toList))/\Below w.heap.size w w'
theorem PT(w:World)(s:ByteArray)(hs:s.size<=100000):Calls Tryz.prog 179 #[.string s] w (zX s w):=by
 obtain⟨j0,aO,aM,aL,aI⟩:=info_parts Cr;obtain⟨j1,ak,ai,am,al⟩:=info_parts JG;have an:=Lib.size_eq s;obtain⟨l,hl⟩:∃l,l=s.data.toList:=⟨_,rfl⟩;have HL:=hid hl;rw[<-hl]at an;have ah:=hid an;unfold zX;rw[<-hl,<-XJ];clear hl an;go_enter Tryz.func179,Tryz.ntmps179;go_wp2_with fail;go_loopw [3,4] (fun u a wr=>∃ (k q:Nat) (ws:List (List UInt8)),k<=s.size/\q<=k/\a= .int .i64 k/\Hid (ws.length=q)/\wr.ownsRow w.heap.size 9 1 u q (tZ ws)/\Hid (ws++Eu (G2 l k) (l.drop k)=Eu false l)/\Below w.heap.size w wr) (fun _ a _=>s.size-(intOf a).toNat)
 case atStart=>exact⟨0,0,[],by omega,by omega,rfl,rfl,Am _ _ _ _,by show _=_;simp[G2],Ag _ _⟩
 case round=>
  obtain⟨k,q,ws,hk,a0,rfl,hq,Q,hW,hb⟩:=hrel;have aj:=hb.size;by_cases aJ:k<s.size
  ·have hd:=drop_at aJ;rw[<-HL.out]at hd;have hw:=hW.out;rw[hd,Eu]at hw;have hu:=GP s[k];have ag:=Fp s[k];have D:=fun wx=>Io s[k].toNat hu wx;have aa:G2 l (k+1)=Bz s[k]:=(by show Bz (l.getD k 0)=_;rw[HL.out,Ar,byte_at s k aJ];rfl);have x0:(0:Int)<=(k:Int):=(by omega);have x1:(k:Int)<(s.size:Int):=(by omega);have HB:=hid hb;have HO:=hid Q;cases hc:Bz s[k]
   ·rw[hc]at hw aa ag;rw[Aa (by simp),Gb]at hw
    replace hw:ws++Eu (G2 l (k+1)) (l.drop (k+1))=Eu false l:=by rw[aa];exact hw
    rw[Ki ag.symm]at D;have D:=hid D;have M:=hid hw;clear hd hw aa ag hu hc hW hb Q;go_wp2_with fail;refine(D.out _).mono ?_;rintro e w1 ⟨rfl,rfl⟩;go_wp2_with fail;go_roundw
    case measure=>go_light;simp[intOf];omega
    case rel=>go_light;exact⟨k+1,q,ws,by omega,by omega,by go_num,hq.out,HO.out,M.out,HB.out⟩
   ·rw[hc]at hw aa ag;have U:=Jc ag.symm;have aX:=Qp hu;by_cases hp:G2 l k=true
    ·obtain⟨p,rfl⟩:∃p,k=p+1:=by
      cases k with
      |zero=>cases hp
      |succ p=>exact⟨p,rfl⟩
     rw[Aa (by rw[hp];simp),Gb]at hw
     replace hw:ws++Eu (G2 l (p+1+1)) (l.drop (p+1+1))=Eu false l:=by rw[aa];exact hw
     have aC:p<s.size:=by omega
     have ae:Bz s[p]=true:=by
      replace hp:Bz (l.getD p 0)=true:=hp
      rw[HL.out,Ar,byte_at s p aC]at hp;exact hp
     rw[Fp]at ae;have D2:=fun wx=>Io s[p].toNat (GP _) wx;have aN:=Jc ae;have aY:=Qp (GP s[p]);generalize CK s[p+1].toNat=v at *;generalize CK s[p].toNat=v2 at *;have D:=hid D;have D2:=hid D2;have M:=hid hw;have n1:((v:Int)==0)=false:=(by simp;omega);have n2:((v2:Int) != 0)=true:=(by simp;omega);have g1:decide ((0:Int)<((p+1:Nat):Int))=true:=Aw (by omega);have y1:(p:Int)<(s.size:Int):=(by omega);have ky:(((p+1:Nat):Int)-1)=(p:Int):=(by omega);clear hd hw aa ag hu hc hW hb Q hp ae U aN;go_wp2_with fail;refine(D.out _).mono ?_;rintro e w1 ⟨rfl,rfl⟩;go_wp2_with fail;refine(D2.out _).mono ?_;rintro e w1 ⟨rfl,rfl⟩;go_wp2_with fail;go_roundw
     case measure=>go_light;simp[intOf];omega
     case rel=>go_light;exact⟨p+1+1,q,ws,by omega,by omega,by go_num,hq.out,HO.out,M.out,HB.out⟩
    ·have ab:G2 l k=false:=(by cases h:G2 l k<;>simp_all);rw[Ab ⟨rfl,ab⟩,<-aa]at hw;generalize aQ:CK s[k].toNat=v at *;clear aQ;have D:=hid D;have n1:((v:Int)==0)=false:=(by simp;omega);obtain⟨Rn,af⟩:∃Rn,Rn=(run (l.drop k)).take 24:=⟨_,rfl⟩;rw[<-hd,<-af,<-EX]at hw;obtain⟨J,hJ⟩:∃J,J=Rn.length:=⟨_,rfl⟩;have aW:1<=J:=(by rw[hJ,af,hd,run,Ab hc];simp);have aT:k+J<=s.size:=(by have:=YX (l.drop k);rw[AQ,<-ah.out]at this;rw[hJ,af,AO];omega);have aU:J<=24:=(by rw[hJ,af,AO];omega);have ax:∀j,j<J->∃c,(l.drop k)[j]? =some c/\Bz c=true/\Rn[j]? =some (Dk c):=(by rw[hJ,af];exact fun j h=>VZ h);have aA:∀c,(l.drop k)[Rn.length]? =some c->Bz c=false∨Rn.length=24:=(by rw[af];exact fun c h=>VJ h);have az:=hid ax;have ay:=hid aA;have HJ:=hid hJ;have M:=hid hw;obtain⟨va,vc,rfl⟩:=aZ HO.out;clear hd hw aa ag hu hc hW hb Q hp U af hJ ax aA;by_cases aF:k=0
     ·have g1:decide (0<k)=false:=(by simp;omega);have aV:=hid aF;clear aF ab;go_wp2_with fail;refine(D.out _).mono ?_;rintro e w1 ⟨rfl,rfl⟩;go_wp2_with fail;obtain⟨w0,rfl⟩:∃w0:World,w0=wr:=⟨_,rfl⟩;go_loopw [5,6] (fun u a wx=>∃m:Nat,m<=J/\a= .int .i64 (k+m:Nat)/\Hid (wx.ownsRow w0.heap.size 5 1 u m (byL (Rn.take m)))/\Hid (Below w0.heap.size w0 wx)) (fun _ a _=>k+J-(intOf a).toNat)
      case atStart=>exact⟨0,by omega,by first|rfl|go_num,Am _ _ _ _,Ag _ _⟩
      case round=>
       obtain⟨m,hm,rfl,Y,G⟩:=hrel;have aB:=G.out.size;obtain⟨aS,aP,rfl⟩:=aZ Y.out;have y2:(0:Int)<=((k+m:Nat):Int):=(by omega);by_cases aE:m<J
       ·obtain⟨c,z,ac,au⟩:=az.out m aE;have Z:k+m<s.size:=(by have:=(BO.1 z).1;rw[AQ,<-ah.out]at this;omega);rw[Iz,HL.out,byte_at s (k+m) Z]at z;injection z with z;subst z;rw[Fp]at ac;have D:=fun wx=>Io s[k+m].toNat (GP _) wx;have U:=Jc ac;have aq:Rn.take (m+1)=Rn.take m++ [Dk s[k+m]]:=(by rw[Ed,au];rfl);have av:byL (Rn.take (m+1))=byL (Rn.take m)++ [.int .u8 (CK s[k+m].toNat:Nat)]:=(by rw[aq,Mp,Jz]);generalize CK s[k+m].toNat=v at *;have D:=hid D;have aH:=hid av;have n3:((v:Int) != 0)=true:=(by simp;omega);have y3:((k+m:Nat):Int)<(s.size:Int):=(by omega);have y4:decide ((m:Int)<24)=true:=Aw (by omega);clear ac au U aq av;go_wp2_with fail;refine(D.out _).mono ?_;rintro e w1 ⟨rfl,rfl⟩;go_wp2_with fail;refine(D.out _).mono ?_;rintro e w1 ⟨rfl,rfl⟩;go_wp2_with(at_builtin;refine gZ rfl (.tmp 49) (.tmp 54) 22 rfl w0.heap.size 5 j0 _ 1 1 Tryz.underlying22 aO aM aL aI rfl (by decide) _ _ _ (by rfl) (Y.out.alloc _) _ 1 1 [.int .u8 v] (by rfl) (Src.of_blk (Blk.made _ _ _) 1 1 1 rfl) (by intro u hu;simp at hu;rcases hu with rfl;rfl) (by unfold maxLen;omega) (by omega) (by simp;omega) ?_;intro v4 w4 i L N);go_roundw
        case measure=>go_light;simp[intOf];omega
        case rel=>
         go_light;refine⟨m+1,by omega,by go_num,?_,?_⟩
         ·show World.ownsRow _ _ _ _ _ _ _;rw[aH.out];exact i
         ·exact(kZ aB G.out).grown L (by simp;omega) (fun y hy=>(Ae Y.out y hy).1)
       ·have aw:m=J:=(by omega);have kd:=Pj Y.out (by rw[AO,<-HJ.out];omega) (by omega);rw[Bv (by rw[<-HJ.out];omega)]at kd;have ar:=fun wx h=>kd wx h;have aG:=hid aw;clear aw kd;have kd:=ar wr (fun _ _=>rfl);clear ar;by_cases Z:k+m<s.size
        ·have y3:((k+m:Nat):Int)<(s.size:Int):=(by omega);have z:(l.drop k)[Rn.length]? =some s[k+m]:=(by rw[<-HJ.out,<-aG.out,Iz,HL.out];exact byte_at s (k+m) Z);have D:=fun wx=>Io s[k+m].toNat (GP _) wx;cases hlt2:Bz s[k+m]
         ·rw[Fp]at hlt2;rw[Ki hlt2]at D;have D:=hid D;clear z hlt2;go_wp2_with fail;refine(D.out _).mono ?_;rintro e w1 ⟨rfl,rfl⟩;have E:=hid (dZ HO.out (fun x hx=>G.out.block x (Ae HO.out x hx).2));go_wp2_with(at_builtin;refine gZ rfl (.tmp 56) (.tmp 59) 33 rfl w.heap.size 9 j1 _ 1 16 Tryz.underlying33 ak ai am al rfl (by decide) _ _ _ (by rfl) (E.out.alloc _) _ 1 1 [.string (bs Rn)] (by rfl) (Src.of_blk (Blk.made _ _ _) 1 1 1 rfl) (by intro u hu;simp at hu;rcases hu with rfl;rfl) (by unfold maxLen;omega) (by omega) (by simp;omega) ?_;intro v4 w4 i L N);go_roundw
          case measure=>go_light;simp[intOf];omega
          case rel=>
           go_light;refine⟨k+1,q+1,ws++ [Rn],by omega,by omega,by go_num,?_,?_,?_,?_⟩
           ·show(ws++ [_]).length=q+1;rw[Ai,hq.out];rfl
           ·rw[Ir];exact i
           ·show _=_;exact M.out
           ·exact(kZ (by omega) (HB.out.trans (G.out.mono aj))).grown L (by simp;omega) (fun y hy=>(Ae E.out y hy).1)
         ·have aD:J=24:=by
           rcases ay.out _ z with h|h
           ·rw[h]at hlt2;cases hlt2
           ·rw[HJ.out];exact h
          rw[Fp]at hlt2;have U:=Jc hlt2;generalize CK s[k+m].toNat=v at *;have D:=hid D;have n3:((v:Int) != 0)=true:=(by simp;omega);have y4:decide ((m:Int)<24)=false:=Az (by omega);clear z hlt2 U aD;go_wp2_with fail;refine(D.out _).mono ?_;rintro e w1 ⟨rfl,rfl⟩;have E:=hid (dZ HO.out (fun x hx=>G.out.block x (Ae HO.out x hx).2));go_wp2_with(at_builtin;refine gZ rfl (.tmp 56) (.tmp 59) 33 rfl w.heap.size 9 j1 _ 1 16 Tryz.underlying33 ak ai am al rfl (by decide) _ _ _ (by rfl) (E.out.alloc _) _ 1 1 [.string (bs Rn)] (by rfl) (Src.of_blk (Blk.made _ _ _) 1 1 1 rfl) (by intro u hu;simp at hu;rcases hu with rfl;rfl) (by unfold maxLen;omega) (by omega) (by simp;omega) ?_;intro v4 w4 i L N);go_roundw
          case measure=>go_light;simp[intOf];omega
          case rel=>
           go_light;refine⟨k+1,q+1,ws++ [Rn],by omega,by omega,by go_num,?_,?_,?_,?_⟩
           ·show(ws++ [_]).length=q+1;rw[Ai,hq.out];rfl
           ·rw[Ir];exact i
           ·show _=_;exact M.out
           ·exact(kZ (by omega) (HB.out.trans (G.out.mono aj))).grown L (by simp;omega) (fun y hy=>(Ae E.out y hy).1)
        ·have y3:decide (((k+m:Nat):Int)<(s.size:Int))=false:=(by simp;omega);have aR:decide ((k:Int)+(m:Int)<(s.size:Int))=false:=(by simp;omega);have aK:decide (k+m<s.size)=false:=(by simp;omega);have y5:k+m<=s.size:=(by omega);clear Z;have E:=hid (dZ HO.out (fun x hx=>G.out.block x (Ae HO.out x hx).2));go_wp2_with(at_builtin;refine gZ rfl (.tmp 56) (.tmp 59) 33 rfl w.heap.size 9 j1 _ 1 16 Tryz.underlying33 ak ai am al rfl (by decide) _ _ _ (by rfl) (E.out.alloc _) _ 1 1 [.string (bs Rn)] (by rfl) (Src.of_blk (Blk.made _ _ _) 1 1 1 rfl) (by intro u hu;simp at hu;rcases hu with rfl;rfl) (by unfold maxLen;omega) (by omega) (by simp;omega) ?_;intro v4 w4 i L N);go_roundw
         case measure=>go_light;simp[intOf];omega
         case rel=>
          go_light;refine⟨k+1,q+1,ws++ [Rn],by omega,by omega,by go_num,?_,?_,?_,?_⟩
          ·show(ws++ [_]).length=q+1;rw[Ai,hq.out];rfl
          ·rw[Ir];exact i
          ·show _=_;exact M.out
          ·exact(kZ (by omega) (HB.out.trans (G.out.mono aj))).grown L (by simp;omega) (fun y hy=>(Ae E.out y hy).1)
     ·obtain⟨p,hp⟩:∃p,k=p+1:=⟨k-1,by omega⟩;have aC:p<s.size:=by omega
      have ae:Bz s[p]=false:=by
       rw[hp]at ab
       replace ab:Bz (l.getD p 0)=false:=ab
       rw[HL.out,Ar,byte_at s p aC]at ab;exact ab
      rw[Fp]at ae;have D2:=fun wx=>Io s[p].toNat (GP _) wx;rw[Ki ae]at D2;have D2:=hid D2;have g1:decide (0<k)=true:=(by simp;omega);have y1:(p:Int)<(s.size:Int):=(by omega);have y0:(0:Int)<=(p:Int):=(by omega);have ky:((k:Int)-1)=(p:Int):=(by omega);clear aF ab ae hp;go_wp2_with fail;refine(D.out _).mono ?_;rintro e w1 ⟨rfl,rfl⟩;go_wp2_with fail;refine(D2.out _).mono ?_;rintro e w1 ⟨rfl,rfl⟩;go_wp2_with fail;obtain⟨w0,rfl⟩:∃w0:World,w0=wr:=⟨_,rfl⟩;go_loopw [5,6] (fun u a wx=>∃m:Nat,m<=J/\a= .int .i64 (k+m:Nat)/\Hid (wx.ownsRow w0.heap.size 5 1 u m (byL (Rn.take m)))/\Hid (Below w0.heap.size w0 wx)) (fun _ a _=>k+J-(intOf a).toNat)
      case atStart=>exact⟨0,by omega,by first|rfl|go_num,Am _ _ _ _,Ag _ _⟩
      case round=>
       obtain⟨m,hm,rfl,Y,G⟩:=hrel;have aB:=G.out.size;obtain⟨aS,aP,rfl⟩:=aZ Y.out;have y2:(0:Int)<=((k+m:Nat):Int):=(by omega);by_cases aE:m<J
       ·obtain⟨c,z,ac,au⟩:=az.out m aE;have Z:k+m<s.size:=(by have:=(BO.1 z).1;rw[AQ,<-ah.out]at this;omega);rw[Iz,HL.out,byte_at s (k+m) Z]at z;injection z with z;subst z;rw[Fp]at ac;have D:=fun wx=>Io s[k+m].toNat (GP _) wx;have U:=Jc ac;have aq:Rn.take (m+1)=Rn.take m++ [Dk s[k+m]]:=(by rw[Ed,au];rfl);have av:byL (Rn.take (m+1))=byL (Rn.take m)++ [.int .u8 (CK s[k+m].toNat:Nat)]:=(by rw[aq,Mp,Jz]);generalize CK s[k+m].toNat=v at *;have D:=hid D;have aH:=hid av;have n3:((v:Int) != 0)=true:=(by simp;omega);have y3:((k+m:Nat):Int)<(s.size:Int):=(by omega);have y4:decide ((m:Int)<24)=true:=Aw (by omega);clear ac au U aq av;go_wp2_with fail;refine(D.out _).mono ?_;rintro e w1 ⟨rfl,rfl⟩;go_wp2_with fail;refine(D.out _).mono ?_;rintro e w1 ⟨rfl,rfl⟩;go_wp2_with(at_builtin;refine gZ rfl (.tmp 49) (.tmp 54) 22 rfl w0.heap.size 5 j0 _ 1 1 Tryz.underlying22 aO aM aL aI rfl (by decide) _ _ _ (by rfl) (Y.out.alloc _) _ 1 1 [.int .u8 v] (by rfl) (Src.of_blk (Blk.made _ _ _) 1 1 1 rfl) (by intro u hu;simp at hu;rcases hu with rfl;rfl) (by unfold maxLen;omega) (by omega) (by simp;omega) ?_;intro v4 w4 i L N);go_roundw
        case measure=>go_light;simp[intOf];omega
        case rel=>
         go_light;refine⟨m+1,by omega,by go_num,?_,?_⟩
         ·show World.ownsRow _ _ _ _ _ _ _;rw[aH.out];exact i
         ·exact(kZ aB G.out).grown L (by simp;omega) (fun y hy=>(Ae Y.out y hy).1)
       ·have aw:m=J:=(by omega);have kd:=Pj Y.out (by rw[AO,<-HJ.out];omega) (by omega);rw[Bv (by rw[<-HJ.out];omega)]at kd;have ar:=fun wx h=>kd wx h;have aG:=hid aw;clear aw kd;have kd:=ar wr (fun _ _=>rfl);clear ar;by_cases Z:k+m<s.size
        ·have y3:((k+m:Nat):Int)<(s.size:Int):=(by omega);have z:(l.drop k)[Rn.length]? =some s[k+m]:=(by rw[<-HJ.out,<-aG.out,Iz,HL.out];exact byte_at s (k+m) Z);have D:=fun wx=>Io s[k+m].toNat (GP _) wx;cases hlt2:Bz s[k+m]
         ·rw[Fp]at hlt2;rw[Ki hlt2]at D;have D:=hid D;clear z hlt2;go_wp2_with fail;refine(D.out _).mono ?_;rintro e w1 ⟨rfl,rfl⟩;have E:=hid (dZ HO.out (fun x hx=>G.out.block x (Ae HO.out x hx).2));go_wp2_with(at_builtin;refine gZ rfl (.tmp 56) (.tmp 59) 33 rfl w.heap.size 9 j1 _ 1 16 Tryz.underlying33 ak ai am al rfl (by decide) _ _ _ (by rfl) (E.out.alloc _) _ 1 1 [.string (bs Rn)] (by rfl) (Src.of_blk (Blk.made _ _ _) 1 1 1 rfl) (by intro u hu;simp at hu;rcases hu with rfl;rfl) (by unfold maxLen;omega) (by omega) (by simp;omega) ?_;intro v4 w4 i L N);go_roundw
          case measure=>go_light;simp[intOf];omega
          case rel=>
           go_light;refine⟨k+1,q+1,ws++ [Rn],by omega,by omega,by go_num,?_,?_,?_,?_⟩
           ·show(ws++ [_]).length=q+1;rw[Ai,hq.out];rfl
           ·rw[Ir];exact i
           ·show _=_;exact M.out
           ·exact(kZ (by omega) (HB.out.trans (G.out.mono aj))).grown L (by simp;omega) (fun y hy=>(Ae E.out y hy).1)
         ·have aD:J=24:=by
           rcases ay.out _ z with h|h
           ·rw[h]at hlt2;cases hlt2
           ·rw[HJ.out];exact h
          rw[Fp]at hlt2;have U:=Jc hlt2;generalize CK s[k+m].toNat=v at *;have D:=hid D;have n3:((v:Int) != 0)=true:=(by simp;omega);have y4:decide ((m:Int)<24)=false:=Az (by omega);clear z hlt2 U aD;go_wp2_with fail;refine(D.out _).mono ?_;rintro e w1 ⟨rfl,rfl⟩;have E:=hid (dZ HO.out (fun x hx=>G.out.block x (Ae HO.out x hx).2));go_wp2_with(at_builtin;refine gZ rfl (.tmp 56) (.tmp 59) 33 rfl w.heap.size 9 j1 _ 1 16 Tryz.underlying33 ak ai am al rfl (by decide) _ _ _ (by rfl) (E.out.alloc _) _ 1 1 [.string (bs Rn)] (by rfl) (Src.of_blk (Blk.made _ _ _) 1 1 1 rfl) (by intro u hu;simp at hu;rcases hu with rfl;rfl) (by unfold maxLen;omega) (by omega) (by simp;omega) ?_;intro v4 w4 i L N);go_roundw
          case measure=>go_light;simp[intOf];omega
          case rel=>
           go_light;refine⟨k+1,q+1,ws++ [Rn],by omega,by omega,by go_num,?_,?_,?_,?_⟩
           ·show(ws++ [_]).length=q+1;rw[Ai,hq.out];rfl
           ·rw[Ir];exact i
           ·show _=_;exact M.out
           ·exact(kZ (by omega) (HB.out.trans (G.out.mono aj))).grown L (by simp;omega) (fun y hy=>(Ae E.out y hy).1)
        ·have y3:decide (((k+m:Nat):Int)<(s.size:Int))=false:=(by simp;omega);have aR:decide ((k:Int)+(m:Int)<(s.size:Int))=false:=(by simp;omega);have aK:decide (k+m<s.size)=false:=(by simp;omega);have y5:k+m<=s.size:=(by omega);clear Z;have E:=hid (dZ HO.out (fun x hx=>G.out.block x (Ae HO.out x hx).2));go_wp2_with(at_builtin;refine gZ rfl (.tmp 56) (.tmp 59) 33 rfl w.heap.size 9 j1 _ 1 16 Tryz.underlying33 ak ai am al rfl (by decide) _ _ _ (by rfl) (E.out.alloc _) _ 1 1 [.string (bs Rn)] (by rfl) (Src.of_blk (Blk.made _ _ _) 1 1 1 rfl) (by intro u hu;simp at hu;rcases hu with rfl;rfl) (by unfold maxLen;omega) (by omega) (by simp;omega) ?_;intro v4 w4 i L N);go_roundw
         case measure=>go_light;simp[intOf];omega
         case rel=>
          go_light;refine⟨k+1,q+1,ws++ [Rn],by omega,by omega,by go_num,?_,?_,?_,?_⟩
          ·show(ws++ [_]).length=q+1;rw[Ai,hq.out];rfl
          ·rw[Ir];exact i
          ·show _=_;exact M.out
          ·exact(kZ (by omega) (HB.out.trans (G.out.mono aj))).grown L (by simp;omega) (fun y hy=>(Ae E.out y hy).1)
  ·obtain rfl:k=s.size:=by omega
   have hw:=hW.out;rw[Ce (by rw[ah.out];exact Aj _),Eu,Fi]at hw;obtain⟨va,vc,rfl⟩:=aZ Q;have HB:=hid hb;have HO:=hid Q;have M:=hid hw;clear hw hW hb Q;go_wp2_with fail;go_ret;refine⟨_,rfl,?_,HB.out⟩;rw[<-M.out,hq.out];exact HO.out
end Sift
namespace Recs
open Go.RowKit Mem
theorem Xd(a b:Rec)(w:World):(binOp .neq 59 (.agg #[.int .u64 a.time, .int .u8 a.level, .string a.source, .string a.text]) (.agg #[.int .u64 b.time, .int .u8 b.level, .string b.source, .string b.text])).run Tryz.prog w= .ok (.bool (!G4 a b)) w:=by
 go_simp
 simp only[G4];by_cases h1:a.time=b.time<;>by_cases h2:a.level=b.level<;>by_cases h3:a.source.toList=b.source.toList<;>by_cases h4:a.text.toList=b.text.toList<;>simp[h1,h2,h3,h4]
theorem Row.rec{w:World}{B n:Nat}{A:Option Addr}{l:List Rec}(h:Row w B A n 4 (Db l))(hn:l.length=n){k:Nat}(hk:k<n):
 ∃b i r,A=some ⟨b,i,none⟩/\b<B/\l[k]? =some r/\w.cell? ⟨b,i+k*4,none⟩=some (.int .u64 r.time)/\w.cell? ⟨b,i+k*4+1,none⟩=some (.int .u8 r.level)/\
  w.cell? ⟨b,i+k*4+2,none⟩=some (.string r.source)/\w.cell? ⟨b,i+k*4+3,none⟩=some (.string r.text):=by
 obtain⟨b,i,rfl,hb,hc⟩:=h (by omega);have hl:k<l.length:=by omega
 refine⟨b,i,l[k],rfl,hb,AD hl,?_⟩;have c0:=hc k 0 hk (by omega);have c1:=hc k 1 hk (by omega);have c2:=hc k 2 hk (by omega);have c3:=hc k 3 hk (by omega);simp only[Db,List.getD_eq_getElem?_getD,List.getElem?_eq_getElem hl,Option.getD_some,Nat.add_zero,<-Nat.add_assoc]at c0 c1 c2 c3;exact⟨c0,c1,c2,c3⟩
theorem T9(w:World)(A B:Option Addr)(n m c d:Nat)(la lb:List Rec)(hn:la.length=n)(hm:lb.length=m)(hN:n<=9223372036854775807)(hM:m<=9223372036854775807)
 (ha:Row w w.heap.size A n 4 (Db la))(hb:Row w w.heap.size B m 4 (Db lb)):
 Calls Tryz.prog 25 #[.slice A n c, .slice B m d] w fun e w'=>e= .returned (.bool (Gz la lb))/\∃q,w'=w.drewN q:=by
 have HN:=hid hn;have HM:=hid hm;clear hn hm;have hq:=Xd;by_cases G:n=m
 ·subst G;go_enter Tryz.func25,Tryz.ntmps25
  go_wp2
  go_loopw [5] (fun i wr=>∃k q:Nat,k<=n/\i= .int .i64 k/\Hid (la.take k=lb.take k)/\wr=w.drewN q) (fun i _=>n-(intOf i).toNat)
  case atStart=>exact⟨0,0,by omega,rfl,by rw[List.take_zero,List.take_zero];rfl,rfl⟩
  case round=>
   obtain⟨k,q,hk,rfl,j,rfl⟩:=hrel;by_cases E:k<n
   ·obtain⟨b,N,r,rfl,M,hr,c0,c1,c2,c3⟩:=Row.rec ha HN.out E;obtain⟨b',L,r',rfl,J,z,d0,d1,d2,d3⟩:=Row.rec hb HM.out E;have HR:=hid hr;have y:=hid z;clear hr z;have i1:(0:Int)<=(k:Int):=(by omega);have i2:(k:Int)<(n:Int):=(by omega);cases hrr:G4 r r'
    ·go_wp2_with fail;go_quiet (fail);go_wp2_with fail;go_ret;go_light;refine⟨Do ?_,_,CL _ _ _⟩;have:la≠lb:=(by intro e;have h1:=HR.out;rw[e,y.out]at h1;injection h1 with h1;exact(SW _ _).1 hrr h1.symm);simp[Gz,this]
    ·go_wp2_with fail;go_quiet (fail);go_wp2_with fail;go_roundw
     case rel=>go_light;refine⟨k+1,_,by omega,by go_num,?_,rfl⟩;have e:=(KB _ _).1 hrr;show la.take (k+1)=lb.take (k+1);rw[Ed,Ed,j.out,HR.out,y.out,e]
     case measure=>go_light;simp[intOf];omega
   ·obtain rfl:k=n:=by omega
    go_wp2_with fail;go_ret;go_light;refine⟨Do ?_,_,rfl⟩;have h:=j.out;rw[Bv (by have:=HN.out;omega),Bv (by have:=HM.out;omega)]at h;simp[Gz,h]
 ·have Q:((n:Int)==(m:Int))=false:=by simp;omega
  go_enter Tryz.func25,Tryz.ntmps25
  go_wp2
  go_ret;refine⟨Do ?_,0,rfl⟩;have:la≠lb:=by intro e;have h1:=HN.out;have h2:=HM.out;rw[e]at h1;omega
  simp[Gz,this]
theorem Qe(w:World)(A B:Option Addr)(n m c d:Nat)(la lb:List Rec)(hn:la.length=n)(hm:lb.length=m)(hN:n<=9223372036854775807)(hM:m<=9223372036854775807)
 (ha:Row w w.heap.size A n 4 (Db la))(hb:Row w w.heap.size B m 4 (Db lb)):
 Calls Tryz.prog 25 #[.slice A n c, .slice B m d] w fun e w'=>e= .returned (.bool (Gz la lb))/\Below w.heap.size w w':=
 (T9 w A B n m c d la lb hn hm hN hM ha hb).mono fun _ _ ⟨he,q,hw⟩=>⟨he,by rw[hw];exact below_drewN (Ag _ _) _⟩
end Recs
end Go.Proofs.YtbgoibedicbkjaaGreatDoor
