/- The walk of sift.sma -/
import Derived.Test.YtfgdoknipbpfhaaGreatDoorZBodyBack23
import Derived.Test.YtfgdoknipbpfhaaGreatDoorZBodyBack3
import Derived.Laws.IdiomStrings
import Derived.Lib.SlBytesRow
import Derived.Deep.AppendLies
namespace Go.Proofs.YtfgdoknipbpfhaaGreatDoor
open Go.Proofs.Tryz
open Go.Lib (hid)
set_option maxRecDepth 100000
variable{j n:Nat}
namespace Sift
open Go.RowKit Mem
def lowB(c:UInt8):UInt8:=if 65<=c.toNat/\c.toNat<=90 then c+32 else c
def bs(l:List UInt8):ByteArray:=⟨l.toArray⟩
theorem IF(l:List UInt8):(bs l).data.toList=l:=rfl
theorem Eh(l:List UInt8):(bs l).size=l.length:=by simp[bs,ByteArray.size]
theorem M9(l:List UInt8)(i:Nat)(h:i<(bs l).size):(bs l)[i]=l[i]'(by rw[Eh]at h;exact h):=by have h1:=byte_at' (bs l) i h (by rw[IF];rw[Eh]at h;exact h);exact h1.symm
end Sift
namespace Sift
open Go.RowKit Mem Own
theorem Ol:∀ (l:List UInt8) (j:Nat),j<(run l).length->∃c,l[j]? =some c/\Cg c=true
 | [],j,h=>by simp[run]at h
 |c :: t,j,h=>by
  rw[run]at h;by_cases hc:Cg c=true
  ·rw[Ab hc,AD]at h;cases j with
   |zero=>exact⟨c,rfl,hc⟩
   |succ j=>exact Ol t j nj
  ·rw[Aa hc]at h;simp at h
theorem Tn:∀ (l:List UInt8) (c:UInt8),l[(run l).length]? =some c->Cg c=false
 | [],c,h=>by simp[run]at h
 |d :: t,c,h=>by
  rw[run]at h;by_cases hc:Cg d=true
  ·rw[Ab hc,AD,List.getElem?_cons_succ]at h;exact Tn t c h
  ·rw[Aa hc]at h;simp at h;subst h;cases h2:Cg d
   ·rfl
   ·exact absurd h2 hc
theorem T6{c:UInt8}(h:Cg c=true):lowB c=Ez c:=by
 rw[GR]at h;have h2:=of_decide_eq_true h;unfold lowB Ez;by_cases h1:65<=c.toNat/\c.toNat<=90
 ·rw[Ab h1,Aa nj,Ab h1]
 ·rw[Aa h1,Ab nj]
theorem Sp:∀ (l:List UInt8),run l=(l.take (run l).length).map lowB
 | []=>rfl
 |c :: t=>by
  rw[run];by_cases hc:Cg c=true
  ·rw[Ab hc,AD,List.take_succ_cons,Cp,T6 hc,<-Sp t]
  ·rw[Aa hc];rfl
theorem Yu(l:List UInt8):(run l).length<=l.length:=by have:=Ob l;omega
theorem drop_at{s:ByteArray}{k:Nat}(h:k<s.size):s.data.toList.drop k=s[k] :: s.data.toList.drop (k+1):=by
 have h1:k<s.data.toList.length:=by rw[<-Lib.size_eq];exact h
 rw[Dg h1,byte_at' s k h h1]
theorem Wu(s:ByteArray)(a b:Nat):(s.extract a b).data.toList=(s.data.toList.drop a).take (b-a):=by rw[<-Lib.extract_toList,GX]
end Sift
namespace Sift
open Go.RowKit Mem Own Canon
def zZ(ws:List (List UInt8)):List Value:=ws.map fun l=> .string (bs l)
theorem JB(ws:List (List UInt8))(x:List UInt8):zZ (ws++ [x])=zZ ws++ [.string (bs x)]:=by simp[zZ]
def byL(l:List UInt8):List Value:=l.map fun c=> .int .u8 (c.toNat:Nat)
theorem Oh(l:List UInt8)(x:UInt8):byL (l++ [x])=byL l++ [.int .u8 (x.toNat:Nat)]:=by simp[byL]
theorem Sa{l:List UInt8}{i:Nat}{c:UInt8}(h:l[i]? =some c):(byL l)[i]? =some (.int .u8 (c.toNat:Nat)):=by simp[byL,h]
theorem KO:(prog.info? 9).map (fun i=>(i.zero,i.size,i.bytes))=some (some (.string ⟨#[]⟩),1,16):=my
theorem WY{l:List UInt8}{c:UInt8}(h:j<(run l).length)(hc:l[j]? =some c):(run l)[j]? =some (Ez c):=by obtain⟨d,hd,hl⟩:=Ol l j h;rw[hc]at hd;injection hd with hd;subst hd;rw[Sp,BI,List.getElem?_take_of_lt h,hc];exact Az some (T6 hl)
theorem Za{l:List UInt8}(h:j<((run l).take 24).length):∃c,l[j]? =some c/\Cg c=true/\((run l).take 24)[j]? =some (Ez c):=by rw[Ba]at h;obtain⟨c,h1,h2⟩:=Ol l j nj;exact⟨c,h1,h2,by rw[List.getElem?_take_of_lt nj];exact WY nj h1⟩
theorem YS{l:List UInt8}{c:UInt8}(h:l[((run l).take 24).length]? =some c):Cg c=false∨((run l).take 24).length=24:=by
 rw[Ba]at h ⊢;by_cases hh:(run l).length<24
 ·rw[Nat.min_eq_right nj]at h;exact .inl (Tn l c h)
 ·exact .inr nj
def IM(l:List UInt8):Nat->Bool
 |0=>false
 |k+1=>Cg (l.getD k 0)
theorem J5(h:Ju n=true):Dw n≠0:=by
 have:=of_decide_eq_true h;unfold Dw;split
 ·omega
 ·split<;>omega
theorem NX(h:Ju n=false):Dw n=0:=by have h:=of_decide_eq_false h;unfold Dw;rw[Aa nj,Aa nj]
theorem SX(h:n<256):Dw n<256:=by
 unfold Dw;split
 ·exact h
 ·split<;>omega
theorem Ww{w:World}{base c:Nat}{A:Option Addr}{l:List UInt8}(h:w.ownsRow base 5 1 (.slice A n c) n (byL l))(hn:l.length=n)(h0:0<n):
 ∀wx:World,(∀g,(Value.slice A n c).ownBlock=some g->wx.heap[g]? =w.heap[g]?)->(convert 28 9 (.slice A n c)).run prog wx= .ok (.string (bs l)) wx:=by
 intro wx hk;obtain⟨gl,cl,z,E,G⟩:=h.form h0;injection z with e1 e2 e3;subst e1 e3;have hb:=hk gl rfl
 have j:Lib.Bytes wx gl 0 (bs l):=by
  intro i hi;have y:i<l.length:=by rw[Eh]at hi;exact hi
  rw[BP,World.cell?_of_block (a:=⟨gl,i,none⟩) hb,h.cellAt i nj,M9 l i hi];exact Sa (Aw y)
 have kd:=Lib.run_convert_whole (P:=prog) wx 28 5 9 underlying28 underlying5 underlying9 gl 0 (bs l) j c;rw[Eh,hn]at kd;exact kd
def QB(s:ByteArray)(w:World)(e:Ending)(w':World):Prop:=
 ∃v,e= .returned v/\w'.ownsRow w 9 1 v (words s.data.toList).length (zZ (words s.data.toList))/\Below w w w'
set_option maxHeartbeats 1000000 in
theorem QX(w:World)(s:ByteArray)(hs:s.size<=100000):Calls prog 128 #[.string s] w (QB s w):=by
 obtain⟨j0,bf,be,bd,bg⟩:=info_parts Eg;obtain⟨j1,am,aj,ai,al⟩:=info_parts KO;have an:=Lib.size_eq s;obtain⟨l,hl⟩:=ii s.data.toList;have HL:=hid hl;rw[<-hl]at an;have ah:=hid an;unfold QB;rw[<-hl,<-cM];clear hl an;go_enter func128,ntmps128;go_wp2_with fail;go_loopw [3,4] (fun u a wr=>∃ (k q:Nat) (ws:List (List UInt8)),k<=s.size/\q<=k/\a= .int .i64 k/\Hid (ws.length=q)/\wr.ownsRow w 9 1 u q (zZ ws)/\Hid (ws++Fy (IM l k) (l.drop k)=Fy false l)/\Below w w wr) (fun _ a _=>s.size-(intOf a).toNat)
 case atStart=>exact⟨0,0,[],nj,nj,rfl,rfl,AE _ _ _ _,by show _=_;simp[IM],Ae _ _⟩
 case round=>
  obtain⟨k,q,ws,hk,bp,rfl,hq,Q,hW,hb⟩:=hrel;have ak:=hb.size;by_cases bh:k<s.size
  ·have hd:=drop_at bh;rw[<-HL.out]at hd;have hw:=hW.out;rw[hd,Fy]at hw;have hu:=IG s[k];have ae:=GR s[k];have D:=fun wx=>JC s[k].toNat hu wx;have ab:IM l (k+1)=Cg s[k]:=(by show Cg (l.getD k 0)=_;rw[HL.out,Am,byte_at s k bh];rfl);have x0:(0:Int)<=(k:Int):=nj;have x1:(k:Int)<(s.size:Int):=nj;have HB:=hid hb;have HO:=hid Q;cases hc:Cg s[k]
   ·rw[hc]at hw ab ae;rw[Aa qT,EF]at hw
    replace hw:ws++Fy (IM l (k+1)) (l.drop (k+1))=Fy false l:=by rw[ab];exact hw
    rw[NX ae.symm]at D;have D:=hid D;have M:=hid hw;clear hd hw ab ae hu hc hW hb Q;go_wp2_with fail;refine(D.out _).mono ?_;rintro e w1 ⟨rfl,rfl⟩;go_wp2_with fail;go_roundw
    case measure=>exact jq
    case rel=>go_light;exact⟨k+1,q,ws,nj,nj,jr,hq.out,HO.out,M.out,HB.out⟩
   ·rw[hc]at hw ab ae;have U:=J5 ae.symm;have bn:=SX hu;by_cases hp:IM l k=true
    ·obtain⟨p,rfl⟩:∃p,k=p+1:=by
      cases k with
      |zero=>cases hp
      |succ p=>exact⟨p,rfl⟩
     rw[Aa (by rw[hp];simp),EF]at hw
     replace hw:ws++Fy (IM l (p+1+1)) (l.drop (p+1+1))=Fy false l:=by rw[ab];exact hw
     have a9:p<s.size:=nj
     have ag:Cg s[p]=true:=by
      replace hp:Cg (l.getD p 0)=true:=hp
      rw[HL.out,Am,byte_at s p a9]at hp;exact hp
     rw[GR]at ag;have D2:=fun wx=>JC s[p].toNat (IG _) wx;have bb:=J5 ag;have bq:=SX (IG s[p]);generalize Dw s[p+1].toNat=v at *;generalize Dw s[p].toNat=v2 at *;have D:=hid D;have D2:=hid D2;have M:=hid hw;have n1:((v:Int)==0)=false:=rg;have n2:((v2:Int) != 0)=true:=rg;have g1:decide ((0:Int)<((p+1:Nat):Int))=true:=AK nj;have y1:(p:Int)<(s.size:Int):=nj;have ky:(((p+1:Nat):Int)-1)=(p:Int):=nj;clear hd hw ab ae hu hc hW hb Q hp ag U bb;go_wp2_with fail;refine(D.out _).mono ?_;rintro e w1 ⟨rfl,rfl⟩;go_wp2_with fail;refine(D2.out _).mono ?_;rintro e w1 ⟨rfl,rfl⟩;go_wp2_with fail;go_roundw
     case measure=>exact jq
     case rel=>go_light;exact⟨p+1+1,q,ws,nj,nj,jr,hq.out,HO.out,M.out,HB.out⟩
    ·have aa:IM l k=false:=(by cases h:IM l k<;>simp_all);rw[Ab ⟨rfl,aa⟩,<-ab]at hw;generalize bl:Dw s[k].toNat=v at *;clear bl;have D:=hid D;have n1:((v:Int)==0)=false:=rg;obtain⟨Rn,af⟩:=ii ((run (l.drop k)).take 24);rw[<-hd,<-af,<-AI]at hw;obtain⟨J,hJ⟩:=ii Rn.length;have bt:1<=J:=(by rw[hJ,af,hd,run,Ab hc];simp);have bm:k+J<=s.size:=(by have:=Yu (l.drop k);rw[AO,<-ah.out]at this;rw[hJ,af,Ba];omega);have bC:J<=24:=(by rw[hJ,af,Ba];omega);have a0:∀j,j<J->∃c,(l.drop k)[j]? =some c/\Cg c=true/\Rn[j]? =some (Ez c):=(by rw[hJ,af];exact fun j h=>Za h);have az:∀c,(l.drop k)[Rn.length]? =some c->Cg c=false∨Rn.length=24:=(by rw[af];exact fun c h=>YS h);have ax:=hid a0;have ay:=hid az;have HJ:=hid hJ;have M:=hid hw;obtain⟨va,vc,rfl⟩:=bZ HO.out;clear hd hw ab ae hu hc hW hb Q hp U af hJ a0 az;by_cases a5:k=0
     ·have g1:=ig (0<k);have bu:=hid a5;clear a5 aa;go_wp2_with fail;refine(D.out _).mono ?_;rintro e w1 ⟨rfl,rfl⟩;go_wp2_with fail;obtain⟨w0,rfl⟩:=ii wr;go_loopw [5,6] (fun u a wx=>∃m:Nat,m<=J/\a= .int .i64 (k+m:Nat)/\Hid (wx.ownsRow w0 5 1 u m (byL (Rn.take m)))/\Hid (Below w0 w0 wx)) (fun _ a _=>k+J-(intOf a).toNat)
      case atStart=>exact⟨0,nj,iw,AE _ _ _ _,Ae _ _⟩
      case round=>
       obtain⟨m,hm,rfl,Y,E⟩:=hrel;have ba:=E.out.size;obtain⟨bj,bi,rfl⟩:=bZ Y.out;have y2:(0:Int)<=((k+m:Nat):Int):=nj;by_cases a6:m<J
       ·obtain⟨c,z,ac,au⟩:=ax.out m a6;have Z:k+m<s.size:=(by have:=(BW.1 z).1;rw[AO,<-ah.out]at this;omega);rw[GB,HL.out,byte_at s (k+m) Z]at z;injection z with z;subst z;rw[GR]at ac;have D:=fun wx=>JC s[k+m].toNat (IG _) wx;have U:=J5 ac;have aq:Rn.take (m+1)=Rn.take m++ [Ez s[k+m]]:=(by rw[BN,au];rfl);have aw:byL (Rn.take (m+1))=byL (Rn.take m)++ [.int .u8 (Dw s[k+m].toNat:Nat)]:=(by rw[aq,Oh,KK]);generalize Dw s[k+m].toNat=v at *;have D:=hid D;have a4:=hid aw;have n3:((v:Int) != 0)=true:=rg;have y3:((k+m:Nat):Int)<(s.size:Int):=nj;have y4:decide ((m:Int)<24)=true:=AK nj;clear ac au U aq aw;go_wp2_with fail;refine(D.out _).mono ?_;rintro e w1 ⟨rfl,rfl⟩;go_wp2_with fail;refine(D.out _).mono ?_;rintro e w1 ⟨rfl,rfl⟩;go_wp2_with(at_builtin;refine iZ rfl (.tmp 49) (.tmp 54) 28 rfl w0 5 j0 _ 1 1 underlying28 bf be bd bg rfl ip _ _ _ nm (Y.out.alloc _) _ 1 1 [.int .u8 v] nm (Src.of_blk (Blk.made _ _ _) 1 1 1 rfl) mq rE nj rg ?_;intro v4 w4 i L N);go_roundw
        case measure=>exact jq
        case rel=>
         go_light;refine⟨m+1,nj,jr,?_,?_⟩
         ·show World.ownsRow _ _ _ _ _ _ _;rw[a4.out];exact i
         ·exact(mZ ba E.out).grown L rg (fun y hy=>(Aj Y.out y hy).1)
       ·have av:m=J:=nj;have kd:=Ww Y.out (by rw[Ba,<-HJ.out];omega) nj;rw[Bw (by rw[<-HJ.out];omega)]at kd;have ar:=fun wx h=>kd wx h;have a1:=hid av;clear av kd;have kd:=ar wr (fun _ _=>rfl);clear ar;by_cases Z:k+m<s.size
        ·have y3:((k+m:Nat):Int)<(s.size:Int):=nj;have z:(l.drop k)[Rn.length]? =some s[k+m]:=np;have D:=fun wx=>JC s[k+m].toNat (IG _) wx;cases hlt2:Cg s[k+m]
         ·rw[GR]at hlt2;rw[NX hlt2]at D;have D:=hid D;clear z hlt2;go_wp2_with fail;refine(D.out _).mono ?_;rintro e w1 ⟨rfl,rfl⟩;have G:=hid (eZ HO.out (fun x hx=>E.out.block x (Aj HO.out x hx).2));go_wp2_with(at_builtin;refine iZ rfl (.tmp 56) (.tmp 59) 50 rfl w 9 j1 _ 1 16 underlying50 am aj ai al rfl ip _ _ _ nm (G.out.alloc _) _ 1 1 [.string (bs Rn)] nm (Src.of_blk (Blk.made _ _ _) 1 1 1 rfl) mq rE nj rg ?_;intro v4 w4 i L N);go_roundw
          case measure=>exact jq
          case rel=>
           go_light;refine⟨k+1,q+1,ws++ [Rn],nj,nj,jr,?_,?_,?_,?_⟩
           ·show(ws++ [_]).length=q+1;rw[Ag,hq.out];rfl
           ·rw[JB];exact i
           ·show _=_;exact M.out
           ·exact(mZ nj (HB.out.trans (E.out.mono ak))).grown L rg (fun y hy=>(Aj G.out y hy).1)
         ·have a3:J=24:=by
           rcases ay.out _ z with h|h
           ·rw[h]at hlt2;cases hlt2
           ·rw[HJ.out];exact h
          rw[GR]at hlt2;have U:=J5 hlt2;generalize Dw s[k+m].toNat=v at *;have D:=hid D;have n3:((v:Int) != 0)=true:=rg;have y4:decide ((m:Int)<24)=false:=AU nj;clear z hlt2 U a3;go_wp2_with fail;refine(D.out _).mono ?_;rintro e w1 ⟨rfl,rfl⟩;have G:=hid (eZ HO.out (fun x hx=>E.out.block x (Aj HO.out x hx).2));go_wp2_with(at_builtin;refine iZ rfl (.tmp 56) (.tmp 59) 50 rfl w 9 j1 _ 1 16 underlying50 am aj ai al rfl ip _ _ _ nm (G.out.alloc _) _ 1 1 [.string (bs Rn)] nm (Src.of_blk (Blk.made _ _ _) 1 1 1 rfl) mq rE nj rg ?_;intro v4 w4 i L N);go_roundw
          case measure=>exact jq
          case rel=>
           go_light;refine⟨k+1,q+1,ws++ [Rn],nj,nj,jr,?_,?_,?_,?_⟩
           ·show(ws++ [_]).length=q+1;rw[Ag,hq.out];rfl
           ·rw[JB];exact i
           ·show _=_;exact M.out
           ·exact(mZ nj (HB.out.trans (E.out.mono ak))).grown L rg (fun y hy=>(Aj G.out y hy).1)
        ·have y3:=ig (((k+m:Nat):Int)<(s.size:Int));have bk:=ig ((k:Int)+(m:Int)<(s.size:Int));have bc:=ig (k+m<s.size);have y5:k+m<=s.size:=nj;clear Z;have G:=hid (eZ HO.out (fun x hx=>E.out.block x (Aj HO.out x hx).2));go_wp2_with(at_builtin;refine iZ rfl (.tmp 56) (.tmp 59) 50 rfl w 9 j1 _ 1 16 underlying50 am aj ai al rfl ip _ _ _ nm (G.out.alloc _) _ 1 1 [.string (bs Rn)] nm (Src.of_blk (Blk.made _ _ _) 1 1 1 rfl) mq rE nj rg ?_;intro v4 w4 i L N);go_roundw
         case measure=>exact jq
         case rel=>
          go_light;refine⟨k+1,q+1,ws++ [Rn],nj,nj,jr,?_,?_,?_,?_⟩
          ·show(ws++ [_]).length=q+1;rw[Ag,hq.out];rfl
          ·rw[JB];exact i
          ·show _=_;exact M.out
          ·exact(mZ nj (HB.out.trans (E.out.mono ak))).grown L rg (fun y hy=>(Aj G.out y hy).1)
     ·obtain⟨p,hp⟩:∃p,k=p+1:=⟨k-1,nj⟩;have a9:p<s.size:=by omega
      have ag:Cg s[p]=false:=by
       rw[hp]at aa
       replace aa:Cg (l.getD p 0)=false:=aa
       rw[HL.out,Am,byte_at s p a9]at aa;exact aa
      rw[GR]at ag;have D2:=fun wx=>JC s[p].toNat (IG _) wx;rw[NX ag]at D2;have D2:=hid D2;have g1:=ic (0<k);have y1:(p:Int)<(s.size:Int):=nj;have y0:(0:Int)<=(p:Int):=nj;have ky:((k:Int)-1)=(p:Int):=nj;clear a5 aa ag hp;go_wp2_with fail;refine(D.out _).mono ?_;rintro e w1 ⟨rfl,rfl⟩;go_wp2_with fail;refine(D2.out _).mono ?_;rintro e w1 ⟨rfl,rfl⟩;go_wp2_with fail;obtain⟨w0,rfl⟩:=ii wr;go_loopw [5,6] (fun u a wx=>∃m:Nat,m<=J/\a= .int .i64 (k+m:Nat)/\Hid (wx.ownsRow w0 5 1 u m (byL (Rn.take m)))/\Hid (Below w0 w0 wx)) (fun _ a _=>k+J-(intOf a).toNat)
      case atStart=>exact⟨0,nj,iw,AE _ _ _ _,Ae _ _⟩
      case round=>
       obtain⟨m,hm,rfl,Y,E⟩:=hrel;have ba:=E.out.size;obtain⟨bj,bi,rfl⟩:=bZ Y.out;have y2:(0:Int)<=((k+m:Nat):Int):=nj;by_cases a6:m<J
       ·obtain⟨c,z,ac,au⟩:=ax.out m a6;have Z:k+m<s.size:=(by have:=(BW.1 z).1;rw[AO,<-ah.out]at this;omega);rw[GB,HL.out,byte_at s (k+m) Z]at z;injection z with z;subst z;rw[GR]at ac;have D:=fun wx=>JC s[k+m].toNat (IG _) wx;have U:=J5 ac;have aq:Rn.take (m+1)=Rn.take m++ [Ez s[k+m]]:=(by rw[BN,au];rfl);have aw:byL (Rn.take (m+1))=byL (Rn.take m)++ [.int .u8 (Dw s[k+m].toNat:Nat)]:=(by rw[aq,Oh,KK]);generalize Dw s[k+m].toNat=v at *;have D:=hid D;have a4:=hid aw;have n3:((v:Int) != 0)=true:=rg;have y3:((k+m:Nat):Int)<(s.size:Int):=nj;have y4:decide ((m:Int)<24)=true:=AK nj;clear ac au U aq aw;go_wp2_with fail;refine(D.out _).mono ?_;rintro e w1 ⟨rfl,rfl⟩;go_wp2_with fail;refine(D.out _).mono ?_;rintro e w1 ⟨rfl,rfl⟩;go_wp2_with(at_builtin;refine iZ rfl (.tmp 49) (.tmp 54) 28 rfl w0 5 j0 _ 1 1 underlying28 bf be bd bg rfl ip _ _ _ nm (Y.out.alloc _) _ 1 1 [.int .u8 v] nm (Src.of_blk (Blk.made _ _ _) 1 1 1 rfl) mq rE nj rg ?_;intro v4 w4 i L N);go_roundw
        case measure=>exact jq
        case rel=>
         go_light;refine⟨m+1,nj,jr,?_,?_⟩
         ·show World.ownsRow _ _ _ _ _ _ _;rw[a4.out];exact i
         ·exact(mZ ba E.out).grown L rg (fun y hy=>(Aj Y.out y hy).1)
       ·have av:m=J:=nj;have kd:=Ww Y.out (by rw[Ba,<-HJ.out];omega) nj;rw[Bw (by rw[<-HJ.out];omega)]at kd;have ar:=fun wx h=>kd wx h;have a1:=hid av;clear av kd;have kd:=ar wr (fun _ _=>rfl);clear ar;by_cases Z:k+m<s.size
        ·have y3:((k+m:Nat):Int)<(s.size:Int):=nj;have z:(l.drop k)[Rn.length]? =some s[k+m]:=np;have D:=fun wx=>JC s[k+m].toNat (IG _) wx;cases hlt2:Cg s[k+m]
         ·rw[GR]at hlt2;rw[NX hlt2]at D;have D:=hid D;clear z hlt2;go_wp2_with fail;refine(D.out _).mono ?_;rintro e w1 ⟨rfl,rfl⟩;have G:=hid (eZ HO.out (fun x hx=>E.out.block x (Aj HO.out x hx).2));go_wp2_with(at_builtin;refine iZ rfl (.tmp 56) (.tmp 59) 50 rfl w 9 j1 _ 1 16 underlying50 am aj ai al rfl ip _ _ _ nm (G.out.alloc _) _ 1 1 [.string (bs Rn)] nm (Src.of_blk (Blk.made _ _ _) 1 1 1 rfl) mq rE nj rg ?_;intro v4 w4 i L N);go_roundw
          case measure=>exact jq
          case rel=>
           go_light;refine⟨k+1,q+1,ws++ [Rn],nj,nj,jr,?_,?_,?_,?_⟩
           ·show(ws++ [_]).length=q+1;rw[Ag,hq.out];rfl
           ·rw[JB];exact i
           ·show _=_;exact M.out
           ·exact(mZ nj (HB.out.trans (E.out.mono ak))).grown L rg (fun y hy=>(Aj G.out y hy).1)
         ·have a3:J=24:=by
           rcases ay.out _ z with h|h
           ·rw[h]at hlt2;cases hlt2
           ·rw[HJ.out];exact h
          rw[GR]at hlt2;have U:=J5 hlt2;generalize Dw s[k+m].toNat=v at *;have D:=hid D;have n3:((v:Int) != 0)=true:=rg;have y4:decide ((m:Int)<24)=false:=AU nj;clear z hlt2 U a3;go_wp2_with fail;refine(D.out _).mono ?_;rintro e w1 ⟨rfl,rfl⟩;have G:=hid (eZ HO.out (fun x hx=>E.out.block x (Aj HO.out x hx).2));go_wp2_with(at_builtin;refine iZ rfl (.tmp 56) (.tmp 59) 50 rfl w 9 j1 _ 1 16 underlying50 am aj ai al rfl ip _ _ _ nm (G.out.alloc _) _ 1 1 [.string (bs Rn)] nm (Src.of_blk (Blk.made _ _ _) 1 1 1 rfl) mq rE nj rg ?_;intro v4 w4 i L N);go_roundw
          case measure=>exact jq
          case rel=>
           go_light;refine⟨k+1,q+1,ws++ [Rn],nj,nj,jr,?_,?_,?_,?_⟩
           ·show(ws++ [_]).length=q+1;rw[Ag,hq.out];rfl
           ·rw[JB];exact i
           ·show _=_;exact M.out
           ·exact(mZ nj (HB.out.trans (E.out.mono ak))).grown L rg (fun y hy=>(Aj G.out y hy).1)
        ·have y3:=ig (((k+m:Nat):Int)<(s.size:Int));have bk:=ig ((k:Int)+(m:Int)<(s.size:Int));have bc:=ig (k+m<s.size);have y5:k+m<=s.size:=nj;clear Z;have G:=hid (eZ HO.out (fun x hx=>E.out.block x (Aj HO.out x hx).2));go_wp2_with(at_builtin;refine iZ rfl (.tmp 56) (.tmp 59) 50 rfl w 9 j1 _ 1 16 underlying50 am aj ai al rfl ip _ _ _ nm (G.out.alloc _) _ 1 1 [.string (bs Rn)] nm (Src.of_blk (Blk.made _ _ _) 1 1 1 rfl) mq rE nj rg ?_;intro v4 w4 i L N);go_roundw
         case measure=>exact jq
         case rel=>
          go_light;refine⟨k+1,q+1,ws++ [Rn],nj,nj,jr,?_,?_,?_,?_⟩
          ·show(ws++ [_]).length=q+1;rw[Ag,hq.out];rfl
          ·rw[JB];exact i
          ·show _=_;exact M.out
          ·exact(mZ nj (HB.out.trans (E.out.mono ak))).grown L rg (fun y hy=>(Aj G.out y hy).1)
  ·obtain rfl:k=s.size:=by omega
   have hw:=hW.out;rw[DV (by rw[ah.out];exact Ak _),Fy,BX]at hw;obtain⟨va,vc,rfl⟩:=bZ Q;have HB:=hid hb;have HO:=hid Q;have M:=hid hw;clear hw hW hb Q;go_wp2_with fail;go_ret;refine⟨_,rfl,?_,HB.out⟩;rw[<-M.out,hq.out];exact HO.out
end Sift
end Go.Proofs.YtfgdoknipbpfhaaGreatDoor
