/- The walk of sift.small: small letters in the place of large ones. The  -/
import Derived.Test.YtmlaajebadfkoaaGreatDoorZTwoPacks11
import Derived.Test.YtmlaajebadfkoaaGreatDoorZTwoPacks2
import Derived.Test.YtmlaajebadfkoaaGreatDoorZTwoPacks3
import Derived.Laws.IdiomStrings
import Derived.Lib.SlBytesRow
import Derived.Deep.AppendLies
import Derived.Test.YtmlaajebadfkoaaGreatDoorProg
import Derived.BigQuiet
import Derived.BigGuardPart
import Derived.Deep.QuietTactic
import Derived.Deep.Light
namespace Go.Proofs.YtmlaajebadfkoaaGreatDoor end Go.Proofs.YtmlaajebadfkoaaGreatDoor open Go.Proofs.YtmlaajebadfkoaaGreatDoor
open Go.Lib (hid)
set_option maxHeartbeats 1000000
set_option maxRecDepth 100000
namespace Go.Proofs.YtmlaajebadfkoaaGreatDoor.Sift
open Go.RowKit Mem
def lowB(c:UInt8):UInt8:=if 65<=c.toNat/\c.toNat<=90 then c+32 else c
def bs(l:List UInt8):ByteArray:=⟨l.toArray⟩
theorem miZ(l:List UInt8):(bs l).data.toList=l:=rfl
theorem ybZ(l:List UInt8):(bs l).size=l.length:=by simp[bs,ByteArray.size]
theorem tzZ(l:List UInt8)(i:Nat)(h:i<(bs l).size):(bs l)[i]=l[i]'(by rw[ybZ]at h;exact h):=by
 have h1:=byte_at' (bs l) i h (by rw[miZ];rw[ybZ]at h;exact h)
 exact h1.symm
end Go.Proofs.YtmlaajebadfkoaaGreatDoor.Sift
namespace Go.Proofs.YtmlaajebadfkoaaGreatDoor.Sift
open Go.RowKit Mem Own
theorem ptZ:∀ (l:List UInt8) (j:Nat),j<(run l).length->∃c,l[j]? =some c/\ucZ c=true
 | [],j,h=>by simp[run]at h
 |c :: t,j,h=>by
  rw[run]at h
  by_cases hc:ucZ c=true
  ·rw[if_pos hc,List.length_cons]at h
   cases j with
   |zero=>exact⟨c,rfl,hc⟩
   |succ j=>exact ptZ t j (by omega)
  ·rw[if_neg hc]at h
   simp at h
theorem laZb:∀ (l:List UInt8) (c:UInt8),l[(run l).length]? =some c->ucZ c=false
 | [],c,h=>by simp[run]at h
 |d :: t,c,h=>by
  rw[run]at h
  by_cases hc:ucZ d=true
  ·rw[if_pos hc,List.length_cons,List.getElem?_cons_succ]at h
   exact laZb t c h
  ·rw[if_neg hc]at h
   simp at h
   subst h
   cases h2:ucZ d
   ·rfl
   ·exact absurd h2 hc
theorem xxZ{c:UInt8}(h:ucZ c=true):lowB c=rdZ c:=by
 rw[seZ]at h
 have h2:=of_decide_eq_true h
 unfold lowB rdZ
 by_cases h1:65<=c.toNat/\c.toNat<=90
 ·rw[if_pos h1,if_neg (by omega),if_pos h1]
 ·rw[if_neg h1,if_pos (by omega)]
theorem bfZb:∀ (l:List UInt8),run l=(l.take (run l).length).map lowB
 | []=>rfl
 |c :: t=>by
  rw[run]
  by_cases hc:ucZ c=true
  ·rw[if_pos hc,List.length_cons,List.take_succ_cons,List.map_cons,xxZ hc,<-bfZb t]
  ·rw[if_neg hc];rfl
theorem xqZb(l:List UInt8):(run l).length<=l.length:=by have:=hjZ l;omega
theorem drop_at{s:ByteArray}{k:Nat}(h:k<s.size):s.data.toList.drop k=s[k] :: s.data.toList.drop (k+1):=by
 have h1:k<s.data.toList.length:=by rw[<-Lib.size_eq];exact h
 rw[List.drop_eq_getElem_cons h1,byte_at' s k h h1]
theorem maZb(s:ByteArray)(a b:Nat):(s.extract a b).data.toList=(s.data.toList.drop a).take (b-a):=by
 rw[<-Lib.extract_toList,ByteArray.toList_eq]
end Go.Proofs.YtmlaajebadfkoaaGreatDoor.Sift
namespace Go.Proofs.YtmlaajebadfkoaaGreatDoor.Sift
open Go.RowKit Mem Own Canon
def abZ(ws:List (List UInt8)):List Value:=ws.map fun l=> .string (bs l)
theorem ehZ(ws:List (List UInt8))(x:List UInt8):abZ (ws++ [x])=abZ ws++ [.string (bs x)]:=by simp[abZ]
def byL(l:List UInt8):List Value:=l.map fun c=> .int .u8 (c.toNat:Nat)
theorem qtZ(l:List UInt8)(x:UInt8):byL (l++ [x])=byL l++ [.int .u8 (x.toNat:Nat)]:=by simp[byL]
theorem cfZb{l:List UInt8}{i:Nat}{c:UInt8}(h:l[i]? =some c):(byL l)[i]? =some (.int .u8 (c.toNat:Nat)):=by simp[byL,h]
theorem zlZ:(Tryz.prog.info? 9).map (fun i=>(i.zero,i.size,i.bytes))=some (some (.string ⟨#[]⟩),1,16):=by kernel_rfl
theorem mpZb{l:List UInt8}{j:Nat}{c:UInt8}(h:j<(run l).length)(hc:l[j]? =some c):(run l)[j]? =some (rdZ c):=by
 obtain⟨d,hd,hl⟩:=ptZ l j h
 rw[hc]at hd
 injection hd with hd
 subst hd
 rw[bfZb,List.getElem?_map,List.getElem?_take_of_lt h,hc]
 exact congrArg some (xxZ hl)
theorem gmZb{l:List UInt8}{j:Nat}(h:j<((run l).take 24).length):∃c,l[j]? =some c/\ucZ c=true/\((run l).take 24)[j]? =some (rdZ c):=by
 rw[List.length_take]at h
 obtain⟨c,h1,h2⟩:=ptZ l j (by omega)
 exact⟨c,h1,h2,by rw[List.getElem?_take_of_lt (by omega)];exact mpZb (by omega) h1⟩
theorem hmZb{l:List UInt8}{c:UInt8}(h:l[((run l).take 24).length]? =some c):ucZ c=false∨((run l).take 24).length=24:=by
 rw[List.length_take]at h ⊢
 by_cases hh:(run l).length<24
 ·rw[Nat.min_eq_right (by omega)]at h
  exact .inl (laZb l c h)
 ·exact .inr (by omega)
def smZ(l:List UInt8):Nat->Bool
 |0=>false
 |k+1=>ucZ (l.getD k 0)
theorem akZ{n:Nat}(h:moZ n=true):xcZ n≠0:=by
 have:=of_decide_eq_true h
 unfold xcZ
 split
 ·omega
 ·split<;>omega
theorem dlZ{n:Nat}(h:moZ n=false):xcZ n=0:=by
 have h:=of_decide_eq_false h
 unfold xcZ
 rw[if_neg (by omega),if_neg (by omega)]
theorem naZb{n:Nat}(h:n<256):xcZ n<256:=by
 unfold xcZ
 split
 ·exact h
 ·split<;>omega
theorem iqZ{w:World}{base n c:Nat}{A:Option Addr}{l:List UInt8}(h:w.ownsRow base 5 1 (.slice A n c) n (byL l))(hn:l.length=n)(h0:0<n):
 ∀wx:World,(∀g,(Value.slice A n c).ownBlock=some g->wx.heap[g]? =w.heap[g]?)->(convert 29 9 (.slice A n c)).run Tryz.prog wx= .ok (.string (bs l)) wx:=by
 intro wx hk
 obtain⟨gl,cl,hgl,hgl1,hgl2⟩:=h.form h0
 injection hgl with e1 e2 e3
 subst e1 e3
 have hb:=hk gl rfl
 have hby:Lib.Bytes wx gl 0 (bs l):=by
  intro i hi
  have hi':i<l.length:=by rw[ybZ]at hi;exact hi
  rw[Nat.zero_add,World.cell?_of_block (a:=⟨gl,i,none⟩) hb,h.cellAt i (by omega),tzZ l i hi]
  exact cfZb (List.getElem?_eq_getElem hi')
 have kd:=Lib.run_convert_whole (P:=Tryz.prog) wx 29 5 9 Tryz.underlying29 Tryz.underlying5 Tryz.underlying9 gl 0 (bs l) hby c
 rw[ybZ,hn]at kd
 exact kd
def nqZ(s:ByteArray)(w:World)(e:Ending)(w':World):Prop:=
 ∃v,e= .returned v/\w'.ownsRow w.heap.size 9 1 v (words s.data.toList).length (abZ (words s.data.toList))/\Below w.heap.size w w'
theorem vuZ(w:World)(s:ByteArray)(hs:s.size<=100000):Calls Tryz.prog 183 #[.string s] w (nqZ s w):=by
 obtain⟨j0,hj0,hy0,hy1,hy2⟩:=info_parts hbZ
 obtain⟨j1,hj1,hz0,hz1,hz2⟩:=info_parts zlZ
 have hlen:=Lib.size_eq s
 obtain⟨l,hl⟩:∃l,l=s.data.toList:=⟨_,rfl⟩
 have HL:=hid hl
 rw[<-hl]at hlen
 have HLEN:=hid hlen
 unfold nqZ
 rw[<-hl,<-faZb]
 clear hl hlen
 go_enter Tryz.func183,Tryz.ntmps183
 go_wp2_with fail
 go_loopw [3,4] (fun u a wr=>∃ (k q:Nat) (ws:List (List UInt8)),k<=s.size/\q<=k/\a= .int .i64 k/\Hid (ws.length=q)/\wr.ownsRow w.heap.size 9 1 u q (abZ ws)/\Hid (ws++veZ (smZ l k) (l.drop k)=veZ false l)/\Below w.heap.size w wr) (fun _ a _=>s.size-(intOf a).toNat)
 case atStart=>exact⟨0,0,[],by omega,by omega,rfl,rfl,World.ownsRow_nil _ _ _ _,by show _=_;simp[smZ],Below.refl _ _⟩
 case round=>
  obtain⟨k,q,ws,hk,hqk,rfl,hq,hown,hW,hb⟩:=hrel
  have hbz:=hb.size
  by_cases hlt:k<s.size
  ·have hd:=drop_at hlt
   rw[<-HL.out]at hd
   have hw:=hW.out
   rw[hd,veZ]at hw
   have hu:=UInt8.toNat_lt s[k]
   have hlb:=seZ s[k]
   have D:=fun wx=>ngZ s[k].toNat hu wx
   have hpn:smZ l (k+1)=ucZ s[k]:=by
    show ucZ (l.getD k 0)=_
    rw[HL.out,List.getD_eq_getElem?_getD,byte_at s k hlt]
    rfl
   have x0:(0:Int)<=(k:Int):=by omega
   have x1:(k:Int)<(s.size:Int):=by omega
   have HB:=hid hb
   have HO:=hid hown
   cases hc:ucZ s[k]
   ·rw[hc]at hw hpn hlb
    rw[if_neg (by simp),List.nil_append]at hw
    replace hw:ws++veZ (smZ l (k+1)) (l.drop (k+1))=veZ false l:=by rw[hpn];exact hw
    rw[dlZ hlb.symm]at D
    have D:=hid D
    have HW2:=hid hw
    clear hd hw hpn hlb hu hc hW hb hown
    go_wp2_with fail
    refine(D.out _).mono ?_
    rintro e w1 ⟨rfl,rfl⟩
    go_wp2_with fail
    go_roundw
    case measure=>go_light;simp[intOf];omega
    case rel=>go_light;exact⟨k+1,q,ws,by omega,by omega,by go_num,hq.out,HO.out,HW2.out,HB.out⟩
   ·rw[hc]at hw hpn hlb
    have hne:=akZ hlb.symm
    have hv9:=naZb hu
    by_cases hp:smZ l k=true
    ·obtain⟨p,rfl⟩:∃p,k=p+1:=by
      cases k with
      |zero=>cases hp
      |succ p=>exact⟨p,rfl⟩
     rw[if_neg (by rw[hp];simp),List.nil_append]at hw
     replace hw:ws++veZ (smZ l (p+1+1)) (l.drop (p+1+1))=veZ false l:=by rw[hpn];exact hw
     have hlp:p<s.size:=by omega
     have hpp:ucZ s[p]=true:=by
      replace hp:ucZ (l.getD p 0)=true:=hp
      rw[HL.out,List.getD_eq_getElem?_getD,byte_at s p hlp]at hp
      exact hp
     rw[seZ]at hpp
     have D2:=fun wx=>ngZ s[p].toNat (UInt8.toNat_lt _) wx
     have hne2:=akZ hpp
     have hv8:=naZb (UInt8.toNat_lt s[p])
     generalize xcZ s[p+1].toNat=v at *
     generalize xcZ s[p].toNat=v2 at *
     have D:=hid D
     have D2:=hid D2
     have HW2:=hid hw
     have n1:((v:Int)==0)=false:=by simp;omega
     have n2:((v2:Int) != 0)=true:=by simp;omega
     have g1:decide ((0:Int)<((p+1:Nat):Int))=true:=decide_eq_true (by omega)
     have y1:(p:Int)<(s.size:Int):=by omega
     have ky:(((p+1:Nat):Int)-1)=(p:Int):=by omega
     clear hd hw hpn hlb hu hc hW hb hown hp hpp hne hne2
     go_wp2_with fail
     refine(D.out _).mono ?_
     rintro e w1 ⟨rfl,rfl⟩
     go_wp2_with fail
     refine(D2.out _).mono ?_
     rintro e w1 ⟨rfl,rfl⟩
     go_wp2_with fail
     go_roundw
     case measure=>go_light;simp[intOf];omega
     case rel=>go_light;exact⟨p+1+1,q,ws,by omega,by omega,by go_num,hq.out,HO.out,HW2.out,HB.out⟩
    ·have hpf:smZ l k=false:=by cases h:smZ l k<;>simp_all
     rw[if_pos ⟨rfl,hpf⟩,<-hpn]at hw
     generalize hvv:xcZ s[k].toNat=v at *
     clear hvv
     have D:=hid D
     have n1:((v:Int)==0)=false:=by simp;omega
     obtain⟨Rn,hRn⟩:∃Rn,Rn=(run (l.drop k)).take 24:=⟨_,rfl⟩
     rw[<-hd,<-hRn,<-List.append_assoc]at hw
     obtain⟨J,hJ⟩:∃J,J=Rn.length:=⟨_,rfl⟩
     have hJ1:1<=J:=by rw[hJ,hRn,hd,run,if_pos hc];simp
     have hJs:k+J<=s.size:=by
      have:=xqZb (l.drop k)
      rw[List.length_drop,<-HLEN.out]at this
      rw[hJ,hRn,List.length_take]
      omega
     have hJ2:J<=24:=by rw[hJ,hRn,List.length_take];omega
     have hget:∀j,j<J->∃c,(l.drop k)[j]? =some c/\ucZ c=true/\Rn[j]? =some (rdZ c):=by rw[hJ,hRn];exact fun j h=>gmZb h
     have hend:∀c,(l.drop k)[Rn.length]? =some c->ucZ c=false∨Rn.length=24:=by rw[hRn];exact fun c h=>hmZb h
     have HGET:=hid hget
     have HEND:=hid hend
     have HJ:=hid hJ
     have HW2:=hid hw
     obtain⟨va,vc,rfl⟩:=bZ HO.out
     clear hd hw hpn hlb hu hc hW hb hown hp hne hRn hJ hget hend
     by_cases hk0:k=0
     ·have g1:decide (0<k)=false:=by simp;omega
      have HK0:=hid hk0
      clear hk0 hpf
      go_wp2_with fail
      refine(D.out _).mono ?_
      rintro e w1 ⟨rfl,rfl⟩
      go_wp2_with fail
      obtain⟨w0,rfl⟩:∃w0:World,w0=wr:=⟨_,rfl⟩
      go_loopw [5,6] (fun u a wx=>∃m:Nat,m<=J/\a= .int .i64 (k+m:Nat)/\Hid (wx.ownsRow w0.heap.size 5 1 u m (byL (Rn.take m)))/\Hid (Below w0.heap.size w0 wx)) (fun _ a _=>k+J-(intOf a).toNat)
      case atStart=>exact⟨0,by omega,by first|rfl|go_num,World.ownsRow_nil _ _ _ _,Below.refl _ _⟩
      case round=>
       obtain⟨m,hm,rfl,HO2,HB2⟩:=hrel
       have hzw:=HB2.out.size
       obtain⟨va2,vc2,rfl⟩:=bZ HO2.out
       have y2:(0:Int)<=((k+m:Nat):Int):=by omega
       by_cases hmJ:m<J
       ·obtain⟨c,hc1,hc2,hc3⟩:=HGET.out m hmJ
        have hms:k+m<s.size:=by
         have:=(List.getElem?_eq_some_iff.1 hc1).1
         rw[List.length_drop,<-HLEN.out]at this
         omega
        rw[List.getElem?_drop,HL.out,byte_at s (k+m) hms]at hc1
        injection hc1 with hc1
        subst hc1
        rw[seZ]at hc2
        have D:=fun wx=>ngZ s[k+m].toNat (UInt8.toNat_lt _) wx
        have hne:=akZ hc2
        have htk:Rn.take (m+1)=Rn.take m++ [rdZ s[k+m]]:=by rw[List.take_add_one,hc3];rfl
        have hbl:byL (Rn.take (m+1))=byL (Rn.take m)++ [.int .u8 (xcZ s[k+m].toNat:Nat)]:=by rw[htk,qtZ,ijZ]
        generalize xcZ s[k+m].toNat=v at *
        have D:=hid D
        have HBL:=hid hbl
        have n3:((v:Int) != 0)=true:=by simp;omega
        have y3:((k+m:Nat):Int)<(s.size:Int):=by omega
        have y4:decide ((m:Int)<24)=true:=decide_eq_true (by omega)
        clear hc2 hc3 hne htk hbl
        go_wp2_with fail
        refine(D.out _).mono ?_
        rintro e w1 ⟨rfl,rfl⟩
        go_wp2_with fail
        refine(D.out _).mono ?_
        rintro e w1 ⟨rfl,rfl⟩
        go_wp2_with(at_builtin;refine hZ rfl (.tmp 49) (.tmp 54) 29 rfl w0.heap.size 5 j0 _ 1 1 Tryz.underlying29 hj0 hy0 hy1 hy2 rfl (by decide) _ _ _ (by rfl) (HO2.out.alloc _) _ 1 1 [.int .u8 v] (by rfl) (Src.of_blk (Blk.made _ _ _) 1 1 1 rfl) (by intro u hu;simp at hu;rcases hu with rfl;rfl) (by unfold maxLen;omega) (by omega) (by simp;omega) ?_;intro v4 w4 hown4 hg4 hat4)
        go_roundw
        case measure=>go_light;simp[intOf];omega
        case rel=>
         go_light
         refine⟨m+1,by omega,by go_num,?_,?_⟩
         ·show World.ownsRow _ _ _ _ _ _ _;rw[HBL.out];exact hown4
         ·exact(eZ hzw HB2.out).grown hg4 (by simp;omega) (fun y hy=>(World.ownsRow.lt HO2.out y hy).1)
       ·have hmj:m=J:=by omega
        have kd:=iqZ HO2.out (by rw[List.length_take,<-HJ.out];omega) (by omega)
        rw[List.take_of_length_le (by rw[<-HJ.out];omega)]at kd
        have kd2:=fun wx h=>kd wx h
        have HMJ:=hid hmj
        clear hmj kd
        have kd:=kd2 wr (fun _ _=>rfl)
        clear kd2
        by_cases hms:k+m<s.size
        ·have y3:((k+m:Nat):Int)<(s.size:Int):=by omega
         have hc1:(l.drop k)[Rn.length]? =some s[k+m]:=by rw[<-HJ.out,<-HMJ.out,List.getElem?_drop,HL.out];exact byte_at s (k+m) hms
         have D:=fun wx=>ngZ s[k+m].toNat (UInt8.toNat_lt _) wx
         cases hlt2:ucZ s[k+m]
         ·rw[seZ]at hlt2
          rw[dlZ hlt2]at D
          have D:=hid D
          clear hc1 hlt2
          go_wp2_with fail
          refine(D.out _).mono ?_
          rintro e w1 ⟨rfl,rfl⟩
          have HO1:=hid (fZ HO.out (fun x hx=>HB2.out.block x (World.ownsRow.lt HO.out x hx).2))
          go_wp2_with(at_builtin;refine hZ rfl (.tmp 56) (.tmp 59) 41 rfl w.heap.size 9 j1 _ 1 16 Tryz.underlying41 hj1 hz0 hz1 hz2 rfl (by decide) _ _ _ (by rfl) (HO1.out.alloc _) _ 1 1 [.string (bs Rn)] (by rfl) (Src.of_blk (Blk.made _ _ _) 1 1 1 rfl) (by intro u hu;simp at hu;rcases hu with rfl;rfl) (by unfold maxLen;omega) (by omega) (by simp;omega) ?_;intro v4 w4 hown4 hg4 hat4)
          go_roundw
          case measure=>go_light;simp[intOf];omega
          case rel=>
           go_light
           refine⟨k+1,q+1,ws++ [Rn],by omega,by omega,by go_num,?_,?_,?_,?_⟩
           ·show(ws++ [_]).length=q+1;rw[List.length_append,hq.out];rfl
           ·rw[ehZ];exact hown4
           ·show _=_;exact HW2.out
           ·exact(eZ (by omega) (HB.out.trans (HB2.out.mono hbz))).grown hg4 (by simp;omega) (fun y hy=>(World.ownsRow.lt HO1.out y hy).1)
         ·have h24:J=24:=by
           rcases HEND.out _ hc1 with h|h
           ·rw[h]at hlt2;cases hlt2
           ·rw[HJ.out];exact h
          rw[seZ]at hlt2
          have hne:=akZ hlt2
          generalize xcZ s[k+m].toNat=v at *
          have D:=hid D
          have n3:((v:Int) != 0)=true:=by simp;omega
          have y4:decide ((m:Int)<24)=false:=decide_eq_false (by omega)
          clear hc1 hlt2 hne h24
          go_wp2_with fail
          refine(D.out _).mono ?_
          rintro e w1 ⟨rfl,rfl⟩
          have HO1:=hid (fZ HO.out (fun x hx=>HB2.out.block x (World.ownsRow.lt HO.out x hx).2))
          go_wp2_with(at_builtin;refine hZ rfl (.tmp 56) (.tmp 59) 41 rfl w.heap.size 9 j1 _ 1 16 Tryz.underlying41 hj1 hz0 hz1 hz2 rfl (by decide) _ _ _ (by rfl) (HO1.out.alloc _) _ 1 1 [.string (bs Rn)] (by rfl) (Src.of_blk (Blk.made _ _ _) 1 1 1 rfl) (by intro u hu;simp at hu;rcases hu with rfl;rfl) (by unfold maxLen;omega) (by omega) (by simp;omega) ?_;intro v4 w4 hown4 hg4 hat4)
          go_roundw
          case measure=>go_light;simp[intOf];omega
          case rel=>
           go_light
           refine⟨k+1,q+1,ws++ [Rn],by omega,by omega,by go_num,?_,?_,?_,?_⟩
           ·show(ws++ [_]).length=q+1;rw[List.length_append,hq.out];rfl
           ·rw[ehZ];exact hown4
           ·show _=_;exact HW2.out
           ·exact(eZ (by omega) (HB.out.trans (HB2.out.mono hbz))).grown hg4 (by simp;omega) (fun y hy=>(World.ownsRow.lt HO1.out y hy).1)
        ·have y3:decide (((k+m:Nat):Int)<(s.size:Int))=false:=by simp;omega
         have y3':decide ((k:Int)+(m:Int)<(s.size:Int))=false:=by simp;omega
         have y3'':decide (k+m<s.size)=false:=by simp;omega
         have y5:k+m<=s.size:=by omega
         clear hms
         have HO1:=hid (fZ HO.out (fun x hx=>HB2.out.block x (World.ownsRow.lt HO.out x hx).2))
         go_wp2_with(at_builtin;refine hZ rfl (.tmp 56) (.tmp 59) 41 rfl w.heap.size 9 j1 _ 1 16 Tryz.underlying41 hj1 hz0 hz1 hz2 rfl (by decide) _ _ _ (by rfl) (HO1.out.alloc _) _ 1 1 [.string (bs Rn)] (by rfl) (Src.of_blk (Blk.made _ _ _) 1 1 1 rfl) (by intro u hu;simp at hu;rcases hu with rfl;rfl) (by unfold maxLen;omega) (by omega) (by simp;omega) ?_;intro v4 w4 hown4 hg4 hat4)
         go_roundw
         case measure=>go_light;simp[intOf];omega
         case rel=>
          go_light
          refine⟨k+1,q+1,ws++ [Rn],by omega,by omega,by go_num,?_,?_,?_,?_⟩
          ·show(ws++ [_]).length=q+1;rw[List.length_append,hq.out];rfl
          ·rw[ehZ];exact hown4
          ·show _=_;exact HW2.out
          ·exact(eZ (by omega) (HB.out.trans (HB2.out.mono hbz))).grown hg4 (by simp;omega) (fun y hy=>(World.ownsRow.lt HO1.out y hy).1)
     ·obtain⟨p,hp⟩:∃p,k=p+1:=⟨k-1,by omega⟩
      have hlp:p<s.size:=by omega
      have hpp:ucZ s[p]=false:=by
       rw[hp]at hpf
       replace hpf:ucZ (l.getD p 0)=false:=hpf
       rw[HL.out,List.getD_eq_getElem?_getD,byte_at s p hlp]at hpf
       exact hpf
      rw[seZ]at hpp
      have D2:=fun wx=>ngZ s[p].toNat (UInt8.toNat_lt _) wx
      rw[dlZ hpp]at D2
      have D2:=hid D2
      have g1:decide (0<k)=true:=by simp;omega
      have y1:(p:Int)<(s.size:Int):=by omega
      have y0:(0:Int)<=(p:Int):=by omega
      have ky:((k:Int)-1)=(p:Int):=by omega
      clear hk0 hpf hpp hp
      go_wp2_with fail
      refine(D.out _).mono ?_
      rintro e w1 ⟨rfl,rfl⟩
      go_wp2_with fail
      refine(D2.out _).mono ?_
      rintro e w1 ⟨rfl,rfl⟩
      go_wp2_with fail
      obtain⟨w0,rfl⟩:∃w0:World,w0=wr:=⟨_,rfl⟩
      go_loopw [5,6] (fun u a wx=>∃m:Nat,m<=J/\a= .int .i64 (k+m:Nat)/\Hid (wx.ownsRow w0.heap.size 5 1 u m (byL (Rn.take m)))/\Hid (Below w0.heap.size w0 wx)) (fun _ a _=>k+J-(intOf a).toNat)
      case atStart=>exact⟨0,by omega,by first|rfl|go_num,World.ownsRow_nil _ _ _ _,Below.refl _ _⟩
      case round=>
       obtain⟨m,hm,rfl,HO2,HB2⟩:=hrel
       have hzw:=HB2.out.size
       obtain⟨va2,vc2,rfl⟩:=bZ HO2.out
       have y2:(0:Int)<=((k+m:Nat):Int):=by omega
       by_cases hmJ:m<J
       ·obtain⟨c,hc1,hc2,hc3⟩:=HGET.out m hmJ
        have hms:k+m<s.size:=by
         have:=(List.getElem?_eq_some_iff.1 hc1).1
         rw[List.length_drop,<-HLEN.out]at this
         omega
        rw[List.getElem?_drop,HL.out,byte_at s (k+m) hms]at hc1
        injection hc1 with hc1
        subst hc1
        rw[seZ]at hc2
        have D:=fun wx=>ngZ s[k+m].toNat (UInt8.toNat_lt _) wx
        have hne:=akZ hc2
        have htk:Rn.take (m+1)=Rn.take m++ [rdZ s[k+m]]:=by rw[List.take_add_one,hc3];rfl
        have hbl:byL (Rn.take (m+1))=byL (Rn.take m)++ [.int .u8 (xcZ s[k+m].toNat:Nat)]:=by rw[htk,qtZ,ijZ]
        generalize xcZ s[k+m].toNat=v at *
        have D:=hid D
        have HBL:=hid hbl
        have n3:((v:Int) != 0)=true:=by simp;omega
        have y3:((k+m:Nat):Int)<(s.size:Int):=by omega
        have y4:decide ((m:Int)<24)=true:=decide_eq_true (by omega)
        clear hc2 hc3 hne htk hbl
        go_wp2_with fail
        refine(D.out _).mono ?_
        rintro e w1 ⟨rfl,rfl⟩
        go_wp2_with fail
        refine(D.out _).mono ?_
        rintro e w1 ⟨rfl,rfl⟩
        go_wp2_with(at_builtin;refine hZ rfl (.tmp 49) (.tmp 54) 29 rfl w0.heap.size 5 j0 _ 1 1 Tryz.underlying29 hj0 hy0 hy1 hy2 rfl (by decide) _ _ _ (by rfl) (HO2.out.alloc _) _ 1 1 [.int .u8 v] (by rfl) (Src.of_blk (Blk.made _ _ _) 1 1 1 rfl) (by intro u hu;simp at hu;rcases hu with rfl;rfl) (by unfold maxLen;omega) (by omega) (by simp;omega) ?_;intro v4 w4 hown4 hg4 hat4)
        go_roundw
        case measure=>go_light;simp[intOf];omega
        case rel=>
         go_light
         refine⟨m+1,by omega,by go_num,?_,?_⟩
         ·show World.ownsRow _ _ _ _ _ _ _;rw[HBL.out];exact hown4
         ·exact(eZ hzw HB2.out).grown hg4 (by simp;omega) (fun y hy=>(World.ownsRow.lt HO2.out y hy).1)
       ·have hmj:m=J:=by omega
        have kd:=iqZ HO2.out (by rw[List.length_take,<-HJ.out];omega) (by omega)
        rw[List.take_of_length_le (by rw[<-HJ.out];omega)]at kd
        have kd2:=fun wx h=>kd wx h
        have HMJ:=hid hmj
        clear hmj kd
        have kd:=kd2 wr (fun _ _=>rfl)
        clear kd2
        by_cases hms:k+m<s.size
        ·have y3:((k+m:Nat):Int)<(s.size:Int):=by omega
         have hc1:(l.drop k)[Rn.length]? =some s[k+m]:=by rw[<-HJ.out,<-HMJ.out,List.getElem?_drop,HL.out];exact byte_at s (k+m) hms
         have D:=fun wx=>ngZ s[k+m].toNat (UInt8.toNat_lt _) wx
         cases hlt2:ucZ s[k+m]
         ·rw[seZ]at hlt2
          rw[dlZ hlt2]at D
          have D:=hid D
          clear hc1 hlt2
          go_wp2_with fail
          refine(D.out _).mono ?_
          rintro e w1 ⟨rfl,rfl⟩
          have HO1:=hid (fZ HO.out (fun x hx=>HB2.out.block x (World.ownsRow.lt HO.out x hx).2))
          go_wp2_with(at_builtin;refine hZ rfl (.tmp 56) (.tmp 59) 41 rfl w.heap.size 9 j1 _ 1 16 Tryz.underlying41 hj1 hz0 hz1 hz2 rfl (by decide) _ _ _ (by rfl) (HO1.out.alloc _) _ 1 1 [.string (bs Rn)] (by rfl) (Src.of_blk (Blk.made _ _ _) 1 1 1 rfl) (by intro u hu;simp at hu;rcases hu with rfl;rfl) (by unfold maxLen;omega) (by omega) (by simp;omega) ?_;intro v4 w4 hown4 hg4 hat4)
          go_roundw
          case measure=>go_light;simp[intOf];omega
          case rel=>
           go_light
           refine⟨k+1,q+1,ws++ [Rn],by omega,by omega,by go_num,?_,?_,?_,?_⟩
           ·show(ws++ [_]).length=q+1;rw[List.length_append,hq.out];rfl
           ·rw[ehZ];exact hown4
           ·show _=_;exact HW2.out
           ·exact(eZ (by omega) (HB.out.trans (HB2.out.mono hbz))).grown hg4 (by simp;omega) (fun y hy=>(World.ownsRow.lt HO1.out y hy).1)
         ·have h24:J=24:=by
           rcases HEND.out _ hc1 with h|h
           ·rw[h]at hlt2;cases hlt2
           ·rw[HJ.out];exact h
          rw[seZ]at hlt2
          have hne:=akZ hlt2
          generalize xcZ s[k+m].toNat=v at *
          have D:=hid D
          have n3:((v:Int) != 0)=true:=by simp;omega
          have y4:decide ((m:Int)<24)=false:=decide_eq_false (by omega)
          clear hc1 hlt2 hne h24
          go_wp2_with fail
          refine(D.out _).mono ?_
          rintro e w1 ⟨rfl,rfl⟩
          have HO1:=hid (fZ HO.out (fun x hx=>HB2.out.block x (World.ownsRow.lt HO.out x hx).2))
          go_wp2_with(at_builtin;refine hZ rfl (.tmp 56) (.tmp 59) 41 rfl w.heap.size 9 j1 _ 1 16 Tryz.underlying41 hj1 hz0 hz1 hz2 rfl (by decide) _ _ _ (by rfl) (HO1.out.alloc _) _ 1 1 [.string (bs Rn)] (by rfl) (Src.of_blk (Blk.made _ _ _) 1 1 1 rfl) (by intro u hu;simp at hu;rcases hu with rfl;rfl) (by unfold maxLen;omega) (by omega) (by simp;omega) ?_;intro v4 w4 hown4 hg4 hat4)
          go_roundw
          case measure=>go_light;simp[intOf];omega
          case rel=>
           go_light
           refine⟨k+1,q+1,ws++ [Rn],by omega,by omega,by go_num,?_,?_,?_,?_⟩
           ·show(ws++ [_]).length=q+1;rw[List.length_append,hq.out];rfl
           ·rw[ehZ];exact hown4
           ·show _=_;exact HW2.out
           ·exact(eZ (by omega) (HB.out.trans (HB2.out.mono hbz))).grown hg4 (by simp;omega) (fun y hy=>(World.ownsRow.lt HO1.out y hy).1)
        ·have y3:decide (((k+m:Nat):Int)<(s.size:Int))=false:=by simp;omega
         have y3':decide ((k:Int)+(m:Int)<(s.size:Int))=false:=by simp;omega
         have y3'':decide (k+m<s.size)=false:=by simp;omega
         have y5:k+m<=s.size:=by omega
         clear hms
         have HO1:=hid (fZ HO.out (fun x hx=>HB2.out.block x (World.ownsRow.lt HO.out x hx).2))
         go_wp2_with(at_builtin;refine hZ rfl (.tmp 56) (.tmp 59) 41 rfl w.heap.size 9 j1 _ 1 16 Tryz.underlying41 hj1 hz0 hz1 hz2 rfl (by decide) _ _ _ (by rfl) (HO1.out.alloc _) _ 1 1 [.string (bs Rn)] (by rfl) (Src.of_blk (Blk.made _ _ _) 1 1 1 rfl) (by intro u hu;simp at hu;rcases hu with rfl;rfl) (by unfold maxLen;omega) (by omega) (by simp;omega) ?_;intro v4 w4 hown4 hg4 hat4)
         go_roundw
         case measure=>go_light;simp[intOf];omega
         case rel=>
          go_light
          refine⟨k+1,q+1,ws++ [Rn],by omega,by omega,by go_num,?_,?_,?_,?_⟩
          ·show(ws++ [_]).length=q+1;rw[List.length_append,hq.out];rfl
          ·rw[ehZ];exact hown4
          ·show _=_;exact HW2.out
          ·exact(eZ (by omega) (HB.out.trans (HB2.out.mono hbz))).grown hg4 (by simp;omega) (fun y hy=>(World.ownsRow.lt HO1.out y hy).1)
  ·obtain rfl:k=s.size:=by omega
   have hw:=hW.out
   rw[List.drop_of_length_le (by rw[HLEN.out];exact Nat.le_refl _),veZ,List.append_nil]at hw
   obtain⟨va,vc,rfl⟩:=bZ hown
   have HB:=hid hb
   have HO:=hid hown
   have HW2:=hid hw
   clear hw hW hb hown
   go_wp2_with fail
   go_ret
   refine⟨_,rfl,?_,HB.out⟩
   rw[<-HW2.out,hq.out]
   exact HO.out
end Go.Proofs.YtmlaajebadfkoaaGreatDoor.Sift
namespace Go.Proofs.YtmlaajebadfkoaaGreatDoor.Recs
open Go.RowKit Mem
theorem Row.rec{w:World}{B n:Nat}{A:Option Addr}{l:List Rec}(h:Row w B A n 4 (xbZ l))(hn:l.length=n){k:Nat}(hk:k<n):
 ∃b off r,A=some ⟨b,off,none⟩/\b<B/\l[k]? =some r/\w.cell? ⟨b,off+k*4,none⟩=some (.int .u64 r.time)/\w.cell? ⟨b,off+k*4+1,none⟩=some (.int .u8 r.level)/\
  w.cell? ⟨b,off+k*4+2,none⟩=some (.string r.source)/\w.cell? ⟨b,off+k*4+3,none⟩=some (.string r.text):=by
 obtain⟨b,off,rfl,hb,hc⟩:=h (by omega)
 have hl:k<l.length:=by omega
 refine⟨b,off,l[k],rfl,hb,List.getElem?_eq_getElem hl,?_⟩
 have c0:=hc k 0 hk (by omega)
 have c1:=hc k 1 hk (by omega)
 have c2:=hc k 2 hk (by omega)
 have c3:=hc k 3 hk (by omega)
 simp only[xbZ,List.getD_eq_getElem?_getD,List.getElem?_eq_getElem hl,Option.getD_some,Nat.add_zero,<-Nat.add_assoc]at c0 c1 c2 c3
 exact⟨c0,c1,c2,c3⟩
def yqZb(l:List Rec)(w:World)(e:Ending)(w':World):Prop:=
 ∃x:Int,e= .returned (.int .i64 x)/\0<=x/\x<=4398046511104/\(x<=1099511627776->x=nbZ l)/\Below w.heap.size w w'
theorem ugZb(w:World)(A:Option Addr)(n c:Nat)(la:List Rec)(hn:la.length=n)(hN:n<=9223372036854775807)(ha:Row w w.heap.size A n 4 (xbZ la)):
 Calls Tryz.prog 35 #[.slice A n c] w (yqZb la w):=by
 have HN:=hid hn
 clear hn
 go_enter Tryz.func35,Tryz.ntmps35
 go_wp2
 go_loopw [3,4] (fun s i wr=>∃ (k:Nat) (x:Int),k<=n/\i= .int .i64 k/\s= .int .i64 x/\0<=x/\x<=4398046511104/\Hid (x=nbZ (la.take k))/\Below w.heap.size w wr) (fun _ i _=>n-(intOf i).toNat)
 case atStart=>exact⟨0,0,by omega,rfl,rfl,by omega,by omega,rfl,Below.refl _ _⟩
 case round=>
  obtain⟨k,x,hk,rfl,rfl,hx0,hx1,hx,rbel⟩:=hrel
  by_cases hlt:k<n
  ·obtain⟨b,off,r,rfl,hbb,hr,c0,c1,c2,c3⟩:=Row.rec (ha.below rbel) HN.out hlt
   have HR:=hid hr
   clear hr
   have i1:(0:Int)<=(k:Int):=by omega
   have i2:(k:Int)<(n:Int):=by omega
   by_cases hbig:1099511627776<x∨1099511627776<(r.source.size:Int)∨1099511627776<(r.text.size:Int)
   ·go_wp2_with fail
    all_goals
     go_ret
     go_light
     exact⟨2199023255552,rfl,by omega,by omega,fun h=>by omega,rbel⟩
   ·have h1:x<=1099511627776:=by omega
    have h2:(r.source.size:Int)<=1099511627776:=by omega
    have h3:(r.text.size:Int)<=1099511627776:=by omega
    clear hbig
    go_wp2_with fail
    go_quiet (fail)
    go_wp2_with fail
    go_roundw
    case rel=>
     go_light
     refine⟨k+1,x+16+r.source.size+r.text.size,by omega,by go_num,rfl,by omega,by omega,?_,below_drewN rbel _⟩
     show x+16+r.source.size+r.text.size=nbZ (la.take (k+1))
     rw[List.take_add_one,HR.out]
     simp only[Option.toList_some,ksZ,<-hx.out,weigh]
     omega
    case measure=>go_light;simp[intOf];omega
  ·obtain rfl:k=n:=by omega
   go_wp2_with fail
   go_ret
   go_light
   refine⟨x,rfl,hx0,hx1,fun _=> ?_,rbel⟩
   have h:=hx.out
   rwa [List.take_of_length_le (by have:=HN.out;omega)]at h
def yxZ(n:Nat)(l:List Rec)(r b:Int)(w:World)(e:Ending)(w':World):Prop:=
 ∃g:Bool,e= .returned (.bool g)/\(g=false->(n:Int)<=r/\nbZ l<=b)/\Below w.heap.size w w'
theorem mjZb(w:World)(A:Option Addr)(n c:Nat)(la:List Rec)(r b:Int)(hb:b<=1099511627776)(hn:la.length=n)(hN:n<=9223372036854775807)(ha:Row w w.heap.size A n 4 (xbZ la)):
 Calls Tryz.prog 9 #[.slice A n c, .int .i64 r, .int .i64 b] w (yxZ n la r b w):=by
 have HW:=hid (ugZb w A n c la hn hN ha)
 clear hn
 by_cases h:r<(n:Int)
 ·go_enter Tryz.func9,Tryz.ntmps9
  go_wp2_with fail
  go_ret
  exact⟨true,rfl,(fun h=>by cases h),Below.refl _ _⟩
 ·go_enter Tryz.func9,Tryz.ntmps9
  go_wp2_with fail
  refine HW.out.mono ?_
  rintro e w1 ⟨x,rfl,hx0,hx1,hx,hb1⟩
  have HX:=hid hx
  clear hx
  go_wp2_with fail
  go_ret
  refine⟨decide (b<x),rfl,fun hd=>⟨by omega,?_⟩,hb1⟩
  have hd:=of_decide_eq_false hd
  have:=HX.out (by omega)
  omega
end Go.Proofs.YtmlaajebadfkoaaGreatDoor.Recs
