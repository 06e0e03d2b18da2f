/- The walk of sift.sma -/
import Derived.Test.YtfgdoknipbpfhaaGreatDoorZBodyIndex20
import Derived.Test.YtfgdoknipbpfhaaGreatDoorZBodyIndex3
import Derived.Laws.IdiomStrings
import Derived.Lib.SlBytesRow
import Derived.Deep.AppendLies
namespace Go.Proofs.YtfgdoknipbpfhaaGreatDoor
open Go.Proofs.Tryz
open Go.Lib (hid)
set_option maxRecDepth 100000
variable{j n:Nat}
namespace Sift
open Go.RowKit Mem
def lowB(c:UInt8):UInt8:=if 65<=c.toNat/\c.toNat<=90 then c+32 else c
def bs(l:List UInt8):ByteArray:=⟨l.toArray⟩
theorem IB(l:List UInt8):(bs l).data.toList=l:=rfl
theorem Dr(l:List UInt8):(bs l).size=l.length:=by simp[bs,ByteArray.size]
theorem My(l:List UInt8)(i:Nat)(h:i<(bs l).size):(bs l)[i]=l[i]'(by rw[Dr]at h;exact h):=by have h1:=byte_at' (bs l) i h (by rw[IB];rw[Dr]at h;exact h);exact h1.symm
end Sift
namespace Sift
open Go.RowKit Mem Own
theorem NI:∀ (l:List UInt8) (j:Nat),j<(run l).length->∃c,l[j]? =some c/\Co c=true
 | [],j,h=>by simp[run]at h
 |c :: t,j,h=>by
  rw[run]at h;by_cases hc:Co c=true
  ·rw[Ag hc,AI]at h;cases j with
   |zero=>exact⟨c,rfl,hc⟩
   |succ j=>exact NI t j nB
  ·rw[Ae hc]at h;simp at h
theorem SI:∀ (l:List UInt8) (c:UInt8),l[(run l).length]? =some c->Co c=false
 | [],c,h=>by simp[run]at h
 |d :: t,c,h=>by
  rw[run]at h;by_cases hc:Co d=true
  ·rw[Ag hc,AI,List.getElem?_cons_succ]at h;exact SI t c h
  ·rw[Ae hc]at h;simp at h;subst h;cases h2:Co d
   ·rfl
   ·exact absurd h2 hc
theorem Sx{c:UInt8}(h:Co c=true):lowB c=EM c:=by
 rw[GU]at h;have h2:=of_decide_eq_true h;unfold lowB EM;by_cases h1:65<=c.toNat/\c.toNat<=90
 ·rw[Ag h1,Ae nB,Ag h1]
 ·rw[Ae h1,Ag nB]
theorem Ua:∀ (l:List UInt8),run l=(l.take (run l).length).map lowB
 | []=>rfl
 |c :: t=>by
  rw[run];by_cases hc:Co c=true
  ·rw[Ag hc,AI,List.take_succ_cons,CE,Sx hc,<-Ua t]
  ·rw[Ae hc];rfl
theorem Wg(l:List UInt8):(run l).length<=l.length:=by have:=NW l;omega
theorem drop_at{s:ByteArray}{k:Nat}(h:k<s.size):s.data.toList.drop k=s[k] :: s.data.toList.drop (k+1):=by
 have h1:k<s.data.toList.length:=by rw[<-Lib.size_eq];exact h
 rw[Dx h1,byte_at' s k h h1]
theorem S8(s:ByteArray)(a b:Nat):(s.extract a b).data.toList=(s.data.toList.drop a).take (b-a):=by rw[<-Lib.extract_toList,GZ]
end Sift
namespace Sift
open Go.RowKit Mem Own Canon
def AO(ws:List (List UInt8)):List Value:=ws.map fun l=> .string (bs l)
theorem Jk(ws:List (List UInt8))(x:List UInt8):AO (ws++ [x])=AO ws++ [.string (bs x)]:=by simp[AO]
def byL(l:List UInt8):List Value:=l.map fun c=> .int .u8 (c.toNat:Nat)
theorem Qb(l:List UInt8)(x:UInt8):byL (l++ [x])=byL l++ [.int .u8 (x.toNat:Nat)]:=by simp[byL]
theorem TX{l:List UInt8}{i:Nat}{c:UInt8}(h:l[i]? =some c):(byL l)[i]? =some (.int .u8 (c.toNat:Nat)):=by simp[byL,h]
theorem LG:(prog.info? 9).map (fun i=>(i.zero,i.size,i.bytes))=some (some (.string ⟨#[]⟩),1,16):=ni
theorem eF{l:List UInt8}{c:UInt8}(h:j<(run l).length)(hc:l[j]? =some c):(run l)[j]? =some (EM c):=by obtain⟨d,hd,hl⟩:=NI l j h;rw[hc]at hd;injection hd with hd;subst hd;rw[Ua,BR,List.getElem?_take_of_lt h,hc];exact AM some (Sx hl)
theorem ZP{l:List UInt8}(h:j<((run l).take 24).length):∃c,l[j]? =some c/\Co c=true/\((run l).take 24)[j]? =some (EM c):=by rw[Bc]at h;obtain⟨c,h1,h2⟩:=NI l j nB;exact⟨c,h1,h2,by rw[List.getElem?_take_of_lt nB];exact eF nB h1⟩
theorem Zv{l:List UInt8}{c:UInt8}(h:l[((run l).take 24).length]? =some c):Co c=false∨((run l).take 24).length=24:=by
 rw[Bc]at h ⊢;by_cases hh:(run l).length<24
 ·rw[Nat.min_eq_right nB]at h;exact .inl (SI l c h)
 ·exact .inr nB
def IG(l:List UInt8):Nat->Bool
 |0=>false
 |k+1=>Co (l.getD k 0)
theorem JT(h:Jq n=true):El n≠0:=by
 have:=of_decide_eq_true h;unfold El;split
 ·omega
 ·split<;>omega
theorem Mh(h:Jq n=false):El n=0:=by have h:=of_decide_eq_false h;unfold El;rw[Ae nB,Ae nB]
theorem St(h:n<256):El n<256:=by
 unfold El;split
 ·exact h
 ·split<;>omega
theorem Sb{w:World}{base c:Nat}{A:Option Addr}{l:List UInt8}(h:w.ownsRow base 5 1 (.slice A n c) n (byL l))(hn:l.length=n)(h0:0<n):
 ∀wx:World,(∀g,(Value.slice A n c).ownBlock=some g->wx.heap[g]? =w.heap[g]?)->(convert 28 9 (.slice A n c)).run prog wx= .ok (.string (bs l)) wx:=by
 intro wx hk;obtain⟨gl,cl,G,J,L⟩:=h.form h0;injection G with e1 e2 e3;subst e1 e3;have hb:=hk gl rfl
 have E:Lib.Bytes wx gl 0 (bs l):=by
  intro i hi;have j:i<l.length:=by rw[Dr]at hi;exact hi
  rw[B0,World.cell?_of_block (a:=⟨gl,i,none⟩) hb,h.cellAt i nB,My l i hi];exact TX (AD j)
 have kd:=Lib.run_convert_whole (P:=prog) wx 28 5 9 underlying28 underlying5 underlying9 gl 0 (bs l) E c;rw[Dr,hn]at kd;exact kd
def OQ(s:ByteArray)(w:World)(e:Ending)(w':World):Prop:=
 ∃v,e= .returned v/\w'.ownsRow w 9 1 v (words s.data.toList).length (AO (words s.data.toList))/\Below w w w'
set_option maxHeartbeats 1000000 in
theorem Qt(w:World)(s:ByteArray)(hs:s.size<=100000):Calls prog 128 #[.string s] w (OQ s w):=by
 obtain⟨j0,bi,bd,bg,bh⟩:=info_parts CW;obtain⟨j1,an,ak,al,am⟩:=info_parts LG;have ar:=Lib.size_eq s;obtain⟨l,hl⟩:=jc s.data.toList;have HL:=hid hl;rw[<-hl]at ar;have ai:=hid ar;unfold OQ;rw[<-hl,<-aM];clear hl ar;go_enter func128,ntmps128;go_wp2_with fail;go_loopw [3,4] (fun u a wr=>∃ (k q:Nat) (ws:List (List UInt8)),k<=s.size/\q<=k/\a= .int .i64 k/\Hid (ws.length=q)/\wr.ownsRow w 9 1 u q (AO ws)/\Hid (ws++FE (IG l k) (l.drop k)=FE false l)/\Below w w wr) (fun _ a _=>s.size-(intOf a).toNat)
 case atStart=>exact⟨0,0,[],nB,nB,rfl,rfl,AE _ _ _ _,by show _=_;simp[IG],Ak _ _⟩
 case round=>
  obtain⟨k,q,ws,hk,bq,rfl,hq,U,hW,hb⟩:=hrel;have aj:=hb.size;by_cases bf:k<s.size
  ·have hd:=drop_at bf;rw[<-HL.out]at hd;have hw:=hW.out;rw[hd,FE]at hw;have hu:=IC s[k];have ag:=GU s[k];have D:=fun wx=>Jt s[k].toNat hu wx;have ac:IG l (k+1)=Co s[k]:=(by show Co (l.getD k 0)=_;rw[HL.out,Aq,byte_at s k bf];rfl);have x0:(0:Int)<=(k:Int):=nB;have x1:(k:Int)<(s.size:Int):=nB;have HB:=hid hb;have HO:=hid U;cases hc:Co s[k]
   ·rw[hc]at hw ac ag;rw[Ae pR,Ey]at hw
    replace hw:ws++FE (IG l (k+1)) (l.drop (k+1))=FE false l:=by rw[ac];exact hw
    rw[Mh ag.symm]at D;have D:=hid D;have N:=hid hw;clear hd hw ac ag hu hc hW hb U;go_wp2_with fail;refine(D.out _).mono ?_;rintro e w1 ⟨rfl,rfl⟩;go_wp2_with fail;go_roundw
    case measure=>exact ld
    case rel=>go_light;exact⟨k+1,q,ws,nB,nB,lj,hq.out,HO.out,N.out,HB.out⟩
   ·rw[hc]at hw ac ag;have Y:=JT ag.symm;have bp:=St hu;by_cases hp:IG l k=true
    ·obtain⟨p,rfl⟩:∃p,k=p+1:=by
      cases k with
      |zero=>cases hp
      |succ p=>exact⟨p,rfl⟩
     rw[Ae (by rw[hp];simp),Ey]at hw
     replace hw:ws++FE (IG l (p+1+1)) (l.drop (p+1+1))=FE false l:=by rw[ac];exact hw
     have a4:p<s.size:=nB
     have ae:Co s[p]=true:=by
      replace hp:Co (l.getD p 0)=true:=hp
      rw[HL.out,Aq,byte_at s p a4]at hp;exact hp
     rw[GU]at ae;have D2:=fun wx=>Jt s[p].toNat (IC _) wx;have be:=JT ae;have bt:=St (IC s[p]);generalize El s[p+1].toNat=v at *;generalize El s[p].toNat=v2 at *;have D:=hid D;have D2:=hid D2;have N:=hid hw;have n1:((v:Int)==0)=false:=p5;have n2:((v2:Int) != 0)=true:=p5;have g1:decide ((0:Int)<((p+1:Nat):Int))=true:=AQ nB;have y1:(p:Int)<(s.size:Int):=nB;have ky:(((p+1:Nat):Int)-1)=(p:Int):=nB;clear hd hw ac ag hu hc hW hb U hp ae Y be;go_wp2_with fail;refine(D.out _).mono ?_;rintro e w1 ⟨rfl,rfl⟩;go_wp2_with fail;refine(D2.out _).mono ?_;rintro e w1 ⟨rfl,rfl⟩;go_wp2_with fail;go_roundw
     case measure=>exact ld
     case rel=>go_light;exact⟨p+1+1,q,ws,nB,nB,lj,hq.out,HO.out,N.out,HB.out⟩
    ·have ab:IG l k=false:=(by cases h:IG l k<;>simp_all);rw[Ag ⟨rfl,ab⟩,<-ac]at hw;generalize bl:El s[k].toNat=v at *;clear bl;have D:=hid D;have n1:((v:Int)==0)=false:=p5;obtain⟨Rn,ah⟩:=jc ((run (l.drop k)).take 24);rw[<-hd,<-ah,<-AK]at hw;obtain⟨J,hJ⟩:=jc Rn.length;have bC:1<=J:=(by rw[hJ,ah,hd,run,Ag hc];simp);have bu:k+J<=s.size:=(by have:=Wg (l.drop k);rw[AZ,<-ai.out]at this;rw[hJ,ah,Bc];omega);have bF:J<=24:=(by rw[hJ,ah,Bc];omega);have a0:∀j,j<J->∃c,(l.drop k)[j]? =some c/\Co c=true/\Rn[j]? =some (EM c):=(by rw[hJ,ah];exact fun j h=>ZP h);have a1:∀c,(l.drop k)[Rn.length]? =some c->Co c=false∨Rn.length=24:=(by rw[ah];exact fun c h=>Zv h);have ay:=hid a0;have az:=hid a1;have HJ:=hid hJ;have N:=hid hw;obtain⟨va,vc,rfl⟩:=aZ HO.out;clear hd hw ac ag hu hc hW hb U hp Y ah hJ a0 a1;by_cases bb:k=0
     ·have g1:=jb (0<k);have bn:=hid bb;clear bb ab;go_wp2_with fail;refine(D.out _).mono ?_;rintro e w1 ⟨rfl,rfl⟩;go_wp2_with fail;obtain⟨w0,rfl⟩:=jc wr;go_loopw [5,6] (fun u a wx=>∃m:Nat,m<=J/\a= .int .i64 (k+m:Nat)/\Hid (wx.ownsRow w0 5 1 u m (byL (Rn.take m)))/\Hid (Below w0 w0 wx)) (fun _ a _=>k+J-(intOf a).toNat)
      case atStart=>exact⟨0,nB,jk,AE _ _ _ _,Ak _ _⟩
      case round=>
       obtain⟨m,hm,rfl,Z,G⟩:=hrel;have a3:=G.out.size;obtain⟨bm,bj,rfl⟩:=aZ Z.out;have y2:(0:Int)<=((k+m:Nat):Int):=nB;by_cases a5:m<J
       ·obtain⟨c,E,af,aq⟩:=ay.out m a5;have aa:k+m<s.size:=(by have:=(BS.1 E).1;rw[AZ,<-ai.out]at this;omega);rw[FX,HL.out,byte_at s (k+m) aa]at E;injection E with E;subst E;rw[GU]at af;have D:=fun wx=>Jt s[k+m].toNat (IC _) wx;have Y:=JT af;have aw:Rn.take (m+1)=Rn.take m++ [EM s[k+m]]:=(by rw[Ca,aq];rfl);have av:byL (Rn.take (m+1))=byL (Rn.take m)++ [.int .u8 (El s[k+m].toNat:Nat)]:=(by rw[aw,Qb,Kz]);generalize El s[k+m].toNat=v at *;have D:=hid D;have ba:=hid av;have n3:((v:Int) != 0)=true:=p5;have y3:((k+m:Nat):Int)<(s.size:Int):=nB;have y4:decide ((m:Int)<24)=true:=AQ nB;clear af aq Y aw av;go_wp2_with fail;refine(D.out _).mono ?_;rintro e w1 ⟨rfl,rfl⟩;go_wp2_with fail;refine(D.out _).mono ?_;rintro e w1 ⟨rfl,rfl⟩;go_wp2_with(at_builtin;refine fZ rfl (.tmp 49) (.tmp 54) 28 rfl w0 5 j0 _ 1 1 underlying28 bi bd bg bh rfl ji _ _ _ nC (Z.out.alloc _) _ 1 1 [.int .u8 v] nC (Src.of_blk (Blk.made _ _ _) 1 1 1 rfl) mY qn nB p5 ?_;intro v4 w4 i M Q);go_roundw
        case measure=>exact ld
        case rel=>
         go_light;refine⟨m+1,nB,lj,?_,?_⟩
         ·show World.ownsRow _ _ _ _ _ _ _;rw[ba.out];exact i
         ·exact(mZ a3 G.out).grown M p5 (fun y hy=>(Ai Z.out y hy).1)
       ·have ax:m=J:=nB;have kd:=Sb Z.out (by rw[Bc,<-HJ.out];omega) nB;rw[Bp (by rw[<-HJ.out];omega)]at kd;have au:=fun wx h=>kd wx h;have a9:=hid ax;clear ax kd;have kd:=au wr (fun _ _=>rfl);clear au;by_cases aa:k+m<s.size
        ·have y3:((k+m:Nat):Int)<(s.size:Int):=nB;have E:(l.drop k)[Rn.length]? =some s[k+m]:=nE;have D:=fun wx=>Jt s[k+m].toNat (IC _) wx;cases hlt2:Co s[k+m]
         ·rw[GU]at hlt2;rw[Mh hlt2]at D;have D:=hid D;clear E hlt2;go_wp2_with fail;refine(D.out _).mono ?_;rintro e w1 ⟨rfl,rfl⟩;have L:=hid (eZ HO.out (fun x hx=>G.out.block x (Ai HO.out x hx).2));go_wp2_with(at_builtin;refine fZ rfl (.tmp 56) (.tmp 59) 50 rfl w 9 j1 _ 1 16 underlying50 an ak al am rfl ji _ _ _ nC (L.out.alloc _) _ 1 1 [.string (bs Rn)] nC (Src.of_blk (Blk.made _ _ _) 1 1 1 rfl) mY qn nB p5 ?_;intro v4 w4 i M Q);go_roundw
          case measure=>exact ld
          case rel=>
           go_light;refine⟨k+1,q+1,ws++ [Rn],nB,nB,lj,?_,?_,?_,?_⟩
           ·show(ws++ [_]).length=q+1;rw[Aj,hq.out];rfl
           ·rw[Jk];exact i
           ·show _=_;exact N.out
           ·exact(mZ nB (HB.out.trans (G.out.mono aj))).grown M p5 (fun y hy=>(Ai L.out y hy).1)
         ·have a6:J=24:=by
           rcases az.out _ E with h|h
           ·rw[h]at hlt2;cases hlt2
           ·rw[HJ.out];exact h
          rw[GU]at hlt2;have Y:=JT hlt2;generalize El s[k+m].toNat=v at *;have D:=hid D;have n3:((v:Int) != 0)=true:=p5;have y4:decide ((m:Int)<24)=false:=AV nB;clear E hlt2 Y a6;go_wp2_with fail;refine(D.out _).mono ?_;rintro e w1 ⟨rfl,rfl⟩;have L:=hid (eZ HO.out (fun x hx=>G.out.block x (Ai HO.out x hx).2));go_wp2_with(at_builtin;refine fZ rfl (.tmp 56) (.tmp 59) 50 rfl w 9 j1 _ 1 16 underlying50 an ak al am rfl ji _ _ _ nC (L.out.alloc _) _ 1 1 [.string (bs Rn)] nC (Src.of_blk (Blk.made _ _ _) 1 1 1 rfl) mY qn nB p5 ?_;intro v4 w4 i M Q);go_roundw
          case measure=>exact ld
          case rel=>
           go_light;refine⟨k+1,q+1,ws++ [Rn],nB,nB,lj,?_,?_,?_,?_⟩
           ·show(ws++ [_]).length=q+1;rw[Aj,hq.out];rfl
           ·rw[Jk];exact i
           ·show _=_;exact N.out
           ·exact(mZ nB (HB.out.trans (G.out.mono aj))).grown M p5 (fun y hy=>(Ai L.out y hy).1)
        ·have y3:=jb (((k+m:Nat):Int)<(s.size:Int));have bk:=jb ((k:Int)+(m:Int)<(s.size:Int));have bc:=jb (k+m<s.size);have y5:k+m<=s.size:=nB;clear aa;have L:=hid (eZ HO.out (fun x hx=>G.out.block x (Ai HO.out x hx).2));go_wp2_with(at_builtin;refine fZ rfl (.tmp 56) (.tmp 59) 50 rfl w 9 j1 _ 1 16 underlying50 an ak al am rfl ji _ _ _ nC (L.out.alloc _) _ 1 1 [.string (bs Rn)] nC (Src.of_blk (Blk.made _ _ _) 1 1 1 rfl) mY qn nB p5 ?_;intro v4 w4 i M Q);go_roundw
         case measure=>exact ld
         case rel=>
          go_light;refine⟨k+1,q+1,ws++ [Rn],nB,nB,lj,?_,?_,?_,?_⟩
          ·show(ws++ [_]).length=q+1;rw[Aj,hq.out];rfl
          ·rw[Jk];exact i
          ·show _=_;exact N.out
          ·exact(mZ nB (HB.out.trans (G.out.mono aj))).grown M p5 (fun y hy=>(Ai L.out y hy).1)
     ·obtain⟨p,hp⟩:∃p,k=p+1:=⟨k-1,nB⟩;have a4:p<s.size:=by omega
      have ae:Co s[p]=false:=by
       rw[hp]at ab
       replace ab:Co (l.getD p 0)=false:=ab
       rw[HL.out,Aq,byte_at s p a4]at ab;exact ab
      rw[GU]at ae;have D2:=fun wx=>Jt s[p].toNat (IC _) wx;rw[Mh ae]at D2;have D2:=hid D2;have g1:=ja (0<k);have y1:(p:Int)<(s.size:Int):=nB;have y0:(0:Int)<=(p:Int):=nB;have ky:((k:Int)-1)=(p:Int):=nB;clear bb ab ae hp;go_wp2_with fail;refine(D.out _).mono ?_;rintro e w1 ⟨rfl,rfl⟩;go_wp2_with fail;refine(D2.out _).mono ?_;rintro e w1 ⟨rfl,rfl⟩;go_wp2_with fail;obtain⟨w0,rfl⟩:=jc wr;go_loopw [5,6] (fun u a wx=>∃m:Nat,m<=J/\a= .int .i64 (k+m:Nat)/\Hid (wx.ownsRow w0 5 1 u m (byL (Rn.take m)))/\Hid (Below w0 w0 wx)) (fun _ a _=>k+J-(intOf a).toNat)
      case atStart=>exact⟨0,nB,jk,AE _ _ _ _,Ak _ _⟩
      case round=>
       obtain⟨m,hm,rfl,Z,G⟩:=hrel;have a3:=G.out.size;obtain⟨bm,bj,rfl⟩:=aZ Z.out;have y2:(0:Int)<=((k+m:Nat):Int):=nB;by_cases a5:m<J
       ·obtain⟨c,E,af,aq⟩:=ay.out m a5;have aa:k+m<s.size:=(by have:=(BS.1 E).1;rw[AZ,<-ai.out]at this;omega);rw[FX,HL.out,byte_at s (k+m) aa]at E;injection E with E;subst E;rw[GU]at af;have D:=fun wx=>Jt s[k+m].toNat (IC _) wx;have Y:=JT af;have aw:Rn.take (m+1)=Rn.take m++ [EM s[k+m]]:=(by rw[Ca,aq];rfl);have av:byL (Rn.take (m+1))=byL (Rn.take m)++ [.int .u8 (El s[k+m].toNat:Nat)]:=(by rw[aw,Qb,Kz]);generalize El s[k+m].toNat=v at *;have D:=hid D;have ba:=hid av;have n3:((v:Int) != 0)=true:=p5;have y3:((k+m:Nat):Int)<(s.size:Int):=nB;have y4:decide ((m:Int)<24)=true:=AQ nB;clear af aq Y aw av;go_wp2_with fail;refine(D.out _).mono ?_;rintro e w1 ⟨rfl,rfl⟩;go_wp2_with fail;refine(D.out _).mono ?_;rintro e w1 ⟨rfl,rfl⟩;go_wp2_with(at_builtin;refine fZ rfl (.tmp 49) (.tmp 54) 28 rfl w0 5 j0 _ 1 1 underlying28 bi bd bg bh rfl ji _ _ _ nC (Z.out.alloc _) _ 1 1 [.int .u8 v] nC (Src.of_blk (Blk.made _ _ _) 1 1 1 rfl) mY qn nB p5 ?_;intro v4 w4 i M Q);go_roundw
        case measure=>exact ld
        case rel=>
         go_light;refine⟨m+1,nB,lj,?_,?_⟩
         ·show World.ownsRow _ _ _ _ _ _ _;rw[ba.out];exact i
         ·exact(mZ a3 G.out).grown M p5 (fun y hy=>(Ai Z.out y hy).1)
       ·have ax:m=J:=nB;have kd:=Sb Z.out (by rw[Bc,<-HJ.out];omega) nB;rw[Bp (by rw[<-HJ.out];omega)]at kd;have au:=fun wx h=>kd wx h;have a9:=hid ax;clear ax kd;have kd:=au wr (fun _ _=>rfl);clear au;by_cases aa:k+m<s.size
        ·have y3:((k+m:Nat):Int)<(s.size:Int):=nB;have E:(l.drop k)[Rn.length]? =some s[k+m]:=nE;have D:=fun wx=>Jt s[k+m].toNat (IC _) wx;cases hlt2:Co s[k+m]
         ·rw[GU]at hlt2;rw[Mh hlt2]at D;have D:=hid D;clear E hlt2;go_wp2_with fail;refine(D.out _).mono ?_;rintro e w1 ⟨rfl,rfl⟩;have L:=hid (eZ HO.out (fun x hx=>G.out.block x (Ai HO.out x hx).2));go_wp2_with(at_builtin;refine fZ rfl (.tmp 56) (.tmp 59) 50 rfl w 9 j1 _ 1 16 underlying50 an ak al am rfl ji _ _ _ nC (L.out.alloc _) _ 1 1 [.string (bs Rn)] nC (Src.of_blk (Blk.made _ _ _) 1 1 1 rfl) mY qn nB p5 ?_;intro v4 w4 i M Q);go_roundw
          case measure=>exact ld
          case rel=>
           go_light;refine⟨k+1,q+1,ws++ [Rn],nB,nB,lj,?_,?_,?_,?_⟩
           ·show(ws++ [_]).length=q+1;rw[Aj,hq.out];rfl
           ·rw[Jk];exact i
           ·show _=_;exact N.out
           ·exact(mZ nB (HB.out.trans (G.out.mono aj))).grown M p5 (fun y hy=>(Ai L.out y hy).1)
         ·have a6:J=24:=by
           rcases az.out _ E with h|h
           ·rw[h]at hlt2;cases hlt2
           ·rw[HJ.out];exact h
          rw[GU]at hlt2;have Y:=JT hlt2;generalize El s[k+m].toNat=v at *;have D:=hid D;have n3:((v:Int) != 0)=true:=p5;have y4:decide ((m:Int)<24)=false:=AV nB;clear E hlt2 Y a6;go_wp2_with fail;refine(D.out _).mono ?_;rintro e w1 ⟨rfl,rfl⟩;have L:=hid (eZ HO.out (fun x hx=>G.out.block x (Ai HO.out x hx).2));go_wp2_with(at_builtin;refine fZ rfl (.tmp 56) (.tmp 59) 50 rfl w 9 j1 _ 1 16 underlying50 an ak al am rfl ji _ _ _ nC (L.out.alloc _) _ 1 1 [.string (bs Rn)] nC (Src.of_blk (Blk.made _ _ _) 1 1 1 rfl) mY qn nB p5 ?_;intro v4 w4 i M Q);go_roundw
          case measure=>exact ld
          case rel=>
           go_light;refine⟨k+1,q+1,ws++ [Rn],nB,nB,lj,?_,?_,?_,?_⟩
           ·show(ws++ [_]).length=q+1;rw[Aj,hq.out];rfl
           ·rw[Jk];exact i
           ·show _=_;exact N.out
           ·exact(mZ nB (HB.out.trans (G.out.mono aj))).grown M p5 (fun y hy=>(Ai L.out y hy).1)
        ·have y3:=jb (((k+m:Nat):Int)<(s.size:Int));have bk:=jb ((k:Int)+(m:Int)<(s.size:Int));have bc:=jb (k+m<s.size);have y5:k+m<=s.size:=nB;clear aa;have L:=hid (eZ HO.out (fun x hx=>G.out.block x (Ai HO.out x hx).2));go_wp2_with(at_builtin;refine fZ rfl (.tmp 56) (.tmp 59) 50 rfl w 9 j1 _ 1 16 underlying50 an ak al am rfl ji _ _ _ nC (L.out.alloc _) _ 1 1 [.string (bs Rn)] nC (Src.of_blk (Blk.made _ _ _) 1 1 1 rfl) mY qn nB p5 ?_;intro v4 w4 i M Q);go_roundw
         case measure=>exact ld
         case rel=>
          go_light;refine⟨k+1,q+1,ws++ [Rn],nB,nB,lj,?_,?_,?_,?_⟩
          ·show(ws++ [_]).length=q+1;rw[Aj,hq.out];rfl
          ·rw[Jk];exact i
          ·show _=_;exact N.out
          ·exact(mZ nB (HB.out.trans (G.out.mono aj))).grown M p5 (fun y hy=>(Ai L.out y hy).1)
  ·obtain rfl:k=s.size:=by omega
   have hw:=hW.out;rw[CF (by rw[ai.out];exact Am _),FE,Cx]at hw;obtain⟨va,vc,rfl⟩:=aZ U;have HB:=hid hb;have HO:=hid U;have N:=hid hw;clear hw hW hb U;go_wp2_with fail;go_ret;refine⟨_,rfl,?_,HB.out⟩;rw[<-N.out,hq.out];exact HO.out
end Sift
end Go.Proofs.YtfgdoknipbpfhaaGreatDoor
