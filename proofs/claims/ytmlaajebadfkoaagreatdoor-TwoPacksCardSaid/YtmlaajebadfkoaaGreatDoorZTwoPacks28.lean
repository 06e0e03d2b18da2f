/- Options: the walks of opts.within, opts.Check and the reference's Chec -/
import Derived.Test.YtmlaajebadfkoaaGreatDoorZTwoPacks1
import Derived.Test.YtmlaajebadfkoaaGreatDoorZTwoPacks12
import Derived.Test.YtmlaajebadfkoaaGreatDoorZTwoPacks10
import Derived.Test.YtmlaajebadfkoaaGreatDoorZTwoPacks17
import Derived.Test.YtmlaajebadfkoaaGreatDoorZTwoPacks27
import Derived.Test.YtmlaajebadfkoaaGreatDoorZTwoPacks20
import Derived.Test.YtmlaajebadfkoaaGreatDoorProg
import Derived.BigQuiet
import Derived.BigGuardPart
import Derived.Deep.QuietTactic
import Derived.Deep.Light
import Derived.Lib.Hide
import Derived.Lib.AppendStr
import Derived.Lib.MinMax
namespace Go.Proofs.YtmlaajebadfkoaaGreatDoor end Go.Proofs.YtmlaajebadfkoaaGreatDoor open Go.Proofs.YtmlaajebadfkoaaGreatDoor
open Go.Lib (hid)
set_option maxHeartbeats 2000000
set_option maxRecDepth 100000
namespace Go.Proofs.YtmlaajebadfkoaaGreatDoor.Opts
open Go.RowKit Mem
structure Opt where
 block:Int
 plain:Bool
 bucket:Int
 data:Int
 parity:Int
 chunk:Int
def Opt.val(o:Opt):Value:= .agg #[.int .i64 o.block, .bool o.plain, .int .i64 o.bucket, .int .i64 o.data, .int .i64 o.parity, .int .i64 o.chunk]
theorem gqZb(a b:Bool)(a0 b0 a2 b2 a3 b3 a4 b4 a5 b5:Int)(w:World):(binOp .eql 23 (.agg #[.int .i64 a0, .bool a, .int .i64 a2, .int .i64 a3, .int .i64 a4, .int .i64 a5]) (.agg #[.int .i64 b0, .bool b, .int .i64 b2, .int .i64 b3, .int .i64 b4, .int .i64 b5])).run Tryz.prog w= .ok (.bool (decide (a0=b0/\a=b/\a2=b2/\a3=b3/\a4=b4/\a5=b5))) w:=by
 go_simp
 by_cases h0:a0=b0<;>by_cases h1:a=b<;>by_cases h2:a2=b2<;>by_cases h3:a3=b3<;>by_cases h4:a4=b4<;>by_cases h5:a5=b5<;>simp[h0,h1,h2,h3,h4,h5]
theorem tpZ(w:World)(x lo hi:Int):
 Calls Tryz.prog 81 #[.int .i64 x, .int .i64 lo, .int .i64 hi] w fun e w'=>e= .returned (.bool (decide (lo<=x/\x<=hi)))/\w'=w:=by
 by_cases h:lo<=x
 ·have g1:decide (lo<=x)=true:=by simpa using h
  have HD:Hid (decide (lo<=x/\x<=hi)=decide (x<=hi)):=by show _=_;simp[h]
  rw[HD.out]
  clear h
  go_enter Tryz.func81,Tryz.ntmps81
  go_wp2_with fail
  go_ret
  exact⟨rfl,rfl⟩
 ·have g1:decide (lo<=x)=false:=by simpa using h
  have HD:Hid (decide (lo<=x/\x<=hi)=false):=by show _=_;simp[h]
  rw[HD.out]
  clear h
  go_enter Tryz.func81,Tryz.ntmps81
  go_wp2_with fail
  go_ret
  exact⟨rfl,rfl⟩
end Go.Proofs.YtmlaajebadfkoaaGreatDoor.Opts
namespace Go.Proofs.YtmlaajebadfkoaaGreatDoor.Recs
open Go.RowKit Mem
def Rec.val(r:Rec):Value:= .agg #[.int .u64 r.time, .int .u8 r.level, .string r.source, .string r.text]
def bcZ(r:Rec):Bool:=decide (4000<r.source.size) || decide (4000<r.text.size)
def pdZ(l:List Rec):Int:=if 20000<l.length then 6 else if l.any bcZ=true then 6 else if 1048576<nbZ l then 6 else 0
theorem vbZb{l:List Rec}{p:Rec->Bool}{k:Nat}{r:Rec}(hr:l[k]? =some r):(l.drop k).any p=(p r || (l.drop (k+1)).any p):=by
 obtain⟨hk,e⟩:=List.getElem?_eq_some_iff.1 hr
 rw[List.drop_eq_getElem_cons hk,List.any_cons,e]
theorem feZ{r:Rec}(h:bcZ r=false):r.source.size<=4000/\r.text.size<=4000:=by
 unfold bcZ at h
 simp at h
 exact h
theorem usZ{l:List Rec}{k:Nat}{r:Rec}(hr:l[k]? =some r):nbZ (l.take (k+1))=nbZ (l.take k)+weigh r:=by
 rw[List.take_add_one,hr]
 simp[ksZ]
theorem ukZb{l:List Rec}(h:∀r∈l,bcZ r=false):0<=nbZ l/\nbZ l<=8016*(l.length:Int):=by
 induction l with
 |nil=>simp[blZ]
 |cons r l ih=>
  have h1:=feZ (h r (by simp))
  have h2:=ih (fun x hx=>h x (by simp[hx]))
  have e:nbZ (r :: l)=weigh r+nbZ l:=by
   simp only[nbZ,List.map_cons,List.foldl_cons]
   rw[kqZ]
   omega
  rw[e]
  unfold weigh
  simp only[List.length_cons]
  push_cast
  omega
theorem long_any(w:World)(r:Rec):
 Calls Tryz.prog 125 #[r.val] w fun e w'=>e= .returned (.bool (bcZ r))/\Below w.heap.size w w':=by
 unfold Rec.val
 by_cases h1:4000<r.source.size
 ·have hl:bcZ r=true:=by unfold bcZ;simp[h1]
  rw[hl]
  have g1:decide ((4000:Int)<(r.source.size:Int))=true:=by simp;omega
  have g1':decide (4000<r.source.size)=true:=by simp;omega
  clear hl h1
  go_enter Tryz.func125,Tryz.ntmps125
  go_wp2_with fail
  go_ret
  exact⟨rfl,by(repeat(first|(with_reducible first|exact Below.refl _ _|assumption|refine Below.drew ?_|refine below_drewN ?_ _|refine aZ ?_|refine cZ (by assumption) ?_)|((with_reducible first|refine jZ ?_ ?_|refine eZ ?_ ?_|refine gZ (by assumption) ?_ ?_);(focus(first|(simp;done)|(simp;omega)|omega|(simp at *;omega))))))⟩
 ·have g1:decide ((4000:Int)<(r.source.size:Int))=false:=by simp;omega
  have g1':decide (4000<r.source.size)=false:=by simp;omega
  by_cases h2:4000<r.text.size
  ·have hl:bcZ r=true:=by unfold bcZ;simp[h2]
   rw[hl]
   have g2:decide ((4000:Int)<(r.text.size:Int))=true:=by simp;omega
   have g2':decide (4000<r.text.size)=true:=by simp;omega
   clear hl h1 h2
   go_enter Tryz.func125,Tryz.ntmps125
   go_wp2_with fail
   go_ret
   exact⟨rfl,by(repeat(first|(with_reducible first|exact Below.refl _ _|assumption|refine Below.drew ?_|refine below_drewN ?_ _|refine aZ ?_|refine cZ (by assumption) ?_)|((with_reducible first|refine jZ ?_ ?_|refine eZ ?_ ?_|refine gZ (by assumption) ?_ ?_);(focus(first|(simp;done)|(simp;omega)|omega|(simp at *;omega))))))⟩
  ·have hl:bcZ r=false:=by unfold bcZ;simp;omega
   rw[hl]
   have g2:decide ((4000:Int)<(r.text.size:Int))=false:=by simp;omega
   have g2':decide (4000<r.text.size)=false:=by simp;omega
   clear hl h1 h2
   go_enter Tryz.func125,Tryz.ntmps125
   go_wp2_with fail
   go_ret
   exact⟨rfl,by(repeat(first|(with_reducible first|exact Below.refl _ _|assumption|refine Below.drew ?_|refine below_drewN ?_ _|refine aZ ?_|refine cZ (by assumption) ?_)|((with_reducible first|refine jZ ?_ ?_|refine eZ ?_ ?_|refine gZ (by assumption) ?_ ?_);(focus(first|(simp;done)|(simp;omega)|omega|(simp at *;omega))))))⟩
theorem zhZb(w:World)(A:Option Addr)(n c:Nat)(l:List Rec)(hl:l.length=n)(hn:n<=9223372036854775807)(hr:Row w w.heap.size A n 4 (xbZ l))(K:Nat)(p:Rec->Bool)(hK:∀args wx,(callFunc K args).run Tryz.prog wx= .ok (.enter K args) wx)
 (hp:∀wx r,Calls Tryz.prog K #[Rec.val r] wx fun e w'=>e= .returned (.bool (p r))/\Below wx.heap.size wx w'):
 Calls Tryz.prog 175 #[.slice A n c, .func (.func K) #[] #[]] w fun e w'=>∃z:Int,e= .returned (.int .i64 z)/\decide (0<=z)=l.any p/\Below w.heap.size w w':=by
 have HP:=hid hp
 have HL:=hid hl
 clear hp hl
 go_enter Tryz.func175,Tryz.ntmps175
 go_wp2_with fail
 go_loopw [8] (fun i wx=>∃k:Nat,k<=n/\i= .int .i64 k/\Hid ((l.drop k).any p=l.any p)/\Hid (Below w.heap.size w wx)) (fun i _=>n-(intOf i).toNat)
 case atStart=>exact⟨0,by omega,rfl,rfl,Below.refl _ _⟩
 case round=>
  obtain⟨k,hk,rfl,hA,HB⟩:=hrel
  by_cases hlt:k<n
  ·obtain⟨b,off,r,rfl,hbb,hg,c0,c1,c2,c3⟩:=Row.rec (hr.below HB.out) HL.out hlt
   have ha:=hA.out
   rw[vbZb hg]at ha
   have D:=HP.out wr r
   unfold Rec.val at D
   have x0:(0:Int)<=(k:Int):=by omega
   have x1:(k:Int)<(n:Int):=by omega
   cases hb:p r
   ·rw[hb]at D ha
    rw[Bool.false_or]at ha
    have D:=hid D
    have HA:=hid ha
    clear hA ha hb hg
    go_wp2_with fail
    refine D.out.mono ?_
    rintro e w1 ⟨rfl,hb1⟩
    have HB1:Hid (Below w.heap.size w w1):=cZ hb1 HB.out
    clear hb1 D c0 c1 c2 c3
    go_wp2_with fail
    go_roundw
    case measure=>go_light;simp[intOf];omega
    case rel=>go_light;exact⟨k+1,by omega,by go_num,HA.out,HB1.out⟩
   ·rw[hb]at D ha
    rw[Bool.true_or]at ha
    have D:=hid D
    have HA:=hid ha
    clear hA ha hb hg
    go_wp2_with fail
    refine D.out.mono ?_
    rintro e w1 ⟨rfl,hb1⟩
    have HB1:Hid (Below w.heap.size w w1):=cZ hb1 HB.out
    clear hb1 D c0 c1 c2 c3
    go_wp2_with fail
    go_ret
    exact⟨k,rfl,by rw[<-HA.out];simp,HB1.out⟩
  ·obtain rfl:k=n:=by omega
   have ha:=hA.out
   rw[List.drop_of_length_le (by rw[HL.out];exact Nat.le_refl _)]at ha
   have HA:=hid ha
   clear ha hA
   go_wp2_with fail
   go_ret
   exact⟨-1,rfl,by rw[<-HA.out];rfl,HB.out⟩
theorem pzZ(w:World)(A:Option Addr)(n c:Nat)(l:List Rec)(hl:l.length=n)(hn:n<=9223372036854775807)(hr:Row w w.heap.size A n 4 (xbZ l)):
 Calls Tryz.prog 124 #[.slice A n c, .func (.func 125) #[] #[]] w fun e w'=>e= .returned (.bool (l.any bcZ))/\Below w.heap.size w w':=by
 have D:=hid (zhZb w A n c l hl hn hr 125 bcZ (by intro args wx;simp[callFunc,go_sem,Tryz.func125];rfl) long_any)
 clear hl hr
 go_enter Tryz.func124,Tryz.ntmps124
 go_wp2_with fail
 refine D.out.mono ?_
 rintro e w1 ⟨z,rfl,hz,hb⟩
 have HZ:=hid hz
 clear hz D
 go_wp2_with fail
 go_ret
 exact⟨itZ HZ.out,hb⟩
theorem ceZb(w:World)(A:Option Addr)(n c:Nat)(l:List Rec)(hl:l.length=n)(hn:n<=20000)(hs:∀r∈l,bcZ r=false)(hr:Row w w.heap.size A n 4 (xbZ l)):
 Calls Tryz.prog 126 #[.slice A n c] w fun e w'=>e= .returned (.int .i64 (nbZ l))/\Below w.heap.size w w':=by
 have HL:=hid hl
 have HS:=hid hs
 have HT:Hid (∀k,k<=n->0<=nbZ (l.take k)/\nbZ (l.take k)<=160320000):=fun k hk=>by
  have h:=ukZb (l:=l.take k) (fun r hr=>hs r (List.mem_of_mem_take hr))
  have hk2:(l.take k).length<=n:=by rw[List.length_take];omega
  omega
 clear hl hs
 go_enter Tryz.func126,Tryz.ntmps126
 go_wp2_with fail
 go_loopw [3,8] (fun s i wx=>∃ (k:Nat) (x:Int),k<=n/\i= .int .i64 k/\s= .int .i64 x/\Hid (nbZ (l.take k)=x)/\Hid (Below w.heap.size w wx)) (fun _ i _=>n-(intOf i).toNat)
 case atStart=>exact⟨0,0,by omega,rfl,rfl,rfl,Below.refl _ _⟩
 case round=>
  obtain⟨k,x,hk,rfl,rfl,hx,HB⟩:=hrel
  by_cases hlt:k<n
  ·obtain⟨b,off,r,rfl,hbb,hg,c0,c1,c2,c3⟩:=Row.rec (hr.below HB.out) HL.out hlt
   have hxl:=HT.out k hk
   rw[hx.out]at hxl
   have hlr:=feZ (HS.out r (List.mem_of_getElem? hg))
   have HW:Hid (nbZ (l.take (k+1))=x+weigh r):=by show _=_;rw[usZ hg,hx.out]
   unfold weigh at HW
   have x0:(0:Int)<=(k:Int):=by omega
   have x1:(k:Int)<(n:Int):=by omega
   have s1:IntKind.i64.wrap (16+(r.source.size:Int))=16+(r.source.size:Int):=IntWalk.i64_in _ (by omega)
   have s2:IntKind.i64.wrap (16+(r.source.size:Int)+(r.text.size:Int))=16+(r.source.size:Int)+(r.text.size:Int):=IntWalk.i64_in _ (by omega)
   have s3:IntKind.i64.wrap (x+(16+(r.source.size:Int)+(r.text.size:Int)))=x+(16+(r.source.size:Int)+(r.text.size:Int)):=IntWalk.i64_in _ (by omega)
   have HB2:=HB.out.size
   clear hg hx
   go_wp2_with fail
   go_roundw
   case measure=>go_light;simp[intOf];omega
   case rel=>go_light;exact⟨k+1,x+(16+(r.source.size:Int)+(r.text.size:Int)),by omega,by first|rfl|go_num,by first|rfl|go_num,HW.out,by have h:=HB.out;show Below w.heap.size w _;(repeat(first|(with_reducible first|exact Below.refl _ _|assumption|refine Below.drew ?_|refine below_drewN ?_ _|refine aZ ?_|refine cZ (by assumption) ?_)|((with_reducible first|refine jZ ?_ ?_|refine eZ ?_ ?_|refine gZ (by assumption) ?_ ?_);(focus(first|(simp;done)|(simp;omega)|omega|(simp at *;omega))))))⟩
  ·obtain rfl:k=n:=by omega
   have hx2:=hx.out
   rw[List.take_of_length_le (by rw[HL.out];exact Nat.le_refl _)]at hx2
   have HX:=hid hx2
   clear hx2 hx
   go_wp2_with fail
   go_ret
   exact⟨by rw[HX.out];rfl,HB.out⟩
theorem wvZ(w:World)(A:Option Addr)(n c:Nat)(l:List Rec)(hl:l.length=n)(hn:n<=9223372036854775807)(hr:Row w w.heap.size A n 4 (xbZ l)):
 Calls Tryz.prog 72 #[.slice A n c] w fun e w'=>e= .returned (.int .i64 (pdZ l))/\Below w.heap.size w w':=by
 have D1:=hid (pzZ w A n c l hl hn hr)
 unfold pdZ
 rw[hl]
 by_cases h1:20000<n
 ·rw[if_pos h1]
  have g1:decide ((20000:Int)<(n:Int))=true:=by simp;omega
  have g1':decide (20000<n)=true:=by simp;omega
  clear h1 hl hr D1
  go_enter Tryz.func72,Tryz.ntmps72
  go_wp2_with fail
  go_ret
  exact⟨rfl,Below.refl _ _⟩
 ·rw[if_neg h1]
  have g1:decide ((20000:Int)<(n:Int))=false:=by simp;omega
  have g1':decide (20000<n)=false:=by simp;omega
  cases hlo:l.any bcZ with
  |true=>
   rw[if_pos rfl]
   rw[hlo]at D1
   clear h1 hl hr hlo
   go_enter Tryz.func72,Tryz.ntmps72
   go_wp2_with fail
   refine D1.out.mono ?_
   rintro e w1 ⟨rfl,hb⟩
   go_wp2_with fail
   go_ret
   exact⟨rfl,hb⟩
  |false=>
   rw[if_neg (by simp)]
   rw[hlo]at D1
   have hs:∀r∈l,bcZ r=false:=fun r h=>by
    have:=List.any_eq_false.1 hlo r h
    simpa using this
   have D2:=hid (fun wx (hb:Below w.heap.size w wx)=>ceZb wx A n c l hl (by omega) hs ((hr.below hb).mono hb.size))
   generalize nbZ l=x at *
   by_cases h2:1048576<x
   ·rw[if_pos h2]
    have g2:decide (1048576<x)=true:=by simpa using h2
    clear h1 hl hr hlo hs h2
    go_enter Tryz.func72,Tryz.ntmps72
    go_wp2_with fail
    refine D1.out.mono ?_
    rintro e w1 ⟨rfl,hb⟩
    have E2:=hid (D2.out w1 hb)
    clear D1 D2
    go_wp2_with fail
    refine E2.out.mono ?_
    rintro e w2 ⟨rfl,hb2⟩
    go_wp2_with fail
    go_ret
    exact⟨rfl,cZ hb2 hb⟩
   ·rw[if_neg h2]
    have g2:decide (1048576<x)=false:=by simpa using h2
    clear h1 hl hr hlo hs h2
    go_enter Tryz.func72,Tryz.ntmps72
    go_wp2_with fail
    refine D1.out.mono ?_
    rintro e w1 ⟨rfl,hb⟩
    have E2:=hid (D2.out w1 hb)
    clear D1 D2
    go_wp2_with fail
    refine E2.out.mono ?_
    rintro e w2 ⟨rfl,hb2⟩
    go_wp2_with fail
    go_ret
    exact⟨rfl,cZ hb2 hb⟩
theorem refcheck_any(w:World)(A:Option Addr)(n c:Nat)(l:List Rec)(hl:l.length=n)(hn:n<=9223372036854775807)(hr:Row w w.heap.size A n 4 (xbZ l)):
 Calls Tryz.prog 8 #[.slice A n c] w fun e w'=>e= .returned (.int .i64 (pdZ l))/\Below w.heap.size w w':=by
 obtain⟨E,hE⟩:∃E,E=pdZ l:=⟨_,rfl⟩
 rw[<-hE]
 unfold pdZ at hE
 rw[hl]at hE
 by_cases h1:20000<n
 ·rw[if_pos h1]at hE
  have g1:decide ((20000:Int)<(n:Int))=true:=by simp;omega
  have g1':decide (20000<n)=true:=by simp;omega
  subst hE
  clear h1 hl hr
  go_enter Tryz.func8,Tryz.ntmps8
  go_wp2_with fail
  go_ret
  exact⟨rfl,Below.refl _ _⟩
 ·rw[if_neg h1]at hE
  have g1:decide ((20000:Int)<(n:Int))=false:=by simp;omega
  have g1':decide (20000<n)=false:=by simp;omega
  have HE:=hid hE
  have HL:=hid hl
  have hn2:n<=20000:=by omega
  clear h1 hl hE
  go_enter Tryz.func8,Tryz.ntmps8
  go_wp2_with fail
  go_loopw [3,4] (fun s i wx=>∃ (k:Nat) (x:Int),k<=n/\i= .int .i64 k/\s= .int .i64 x/\0<=x/\x<=8016*(k:Int)/\Hid (nbZ (l.take k)=x)/\Hid ((l.drop k).any bcZ=l.any bcZ)/\Hid (Below w.heap.size w wx)) (fun _ i _=>n-(intOf i).toNat)
  case atStart=>exact⟨0,0,by omega,rfl,rfl,by omega,by omega,rfl,rfl,Below.refl _ _⟩
  case round=>
   obtain⟨k,x,hk,rfl,rfl,hx0,hx1,hx,hA,HB⟩:=hrel
   by_cases hlt:k<n
   ·obtain⟨b,off,r,rfl,hbb,hg,c0,c1,c2,c3⟩:=Row.rec (hr.below HB.out) HL.out hlt
    have ha:=hA.out
    rw[vbZb hg]at ha
    have HW:Hid (nbZ (l.take (k+1))=x+weigh r):=by show _=_;rw[usZ hg,hx.out]
    have x0:(0:Int)<=(k:Int):=by omega
    have x1:(k:Int)<(n:Int):=by omega
    by_cases h2:4000<r.source.size
    ·have hlr:bcZ r=true:=by unfold bcZ;simp[h2]
     rw[hlr,Bool.true_or]at ha
     have HE2:Hid (E=6):=by have h:=HE.out;rw[<-ha,if_pos rfl]at h;exact h
     have g2:decide ((4000:Int)<(r.source.size:Int))=true:=by simp;omega
     have g2':decide (4000<r.source.size)=true:=by simp;omega
     clear ha hlr h2 hg hA hx HE
     go_wp2_with fail
     go_ret
     exact⟨by rw[HE2.out];rfl,HB.out⟩
    ·have g2:decide ((4000:Int)<(r.source.size:Int))=false:=by simp;omega
     have g2':decide (4000<r.source.size)=false:=by simp;omega
     by_cases h3:4000<r.text.size
     ·have hlr:bcZ r=true:=by unfold bcZ;simp[h3]
      rw[hlr,Bool.true_or]at ha
      have HE2:Hid (E=6):=by have h:=HE.out;rw[<-ha,if_pos rfl]at h;exact h
      have g3:decide ((4000:Int)<(r.text.size:Int))=true:=by simp;omega
      have g3':decide (4000<r.text.size)=true:=by simp;omega
      clear ha hlr h2 h3 hg hA hx HE
      go_wp2_with fail
      go_ret
      exact⟨by rw[HE2.out];rfl,HB.out⟩
     ·have hlr:bcZ r=false:=by unfold bcZ;simp;omega
      rw[hlr,Bool.false_or]at ha
      have HA2:=hid ha
      have g3:decide ((4000:Int)<(r.text.size:Int))=false:=by simp;omega
      have g3':decide (4000<r.text.size)=false:=by simp;omega
      unfold weigh at HW
      have s1:IntKind.i64.wrap (x+16)=x+16:=IntWalk.i64_in _ (by omega)
      have s2:IntKind.i64.wrap (x+16+(r.source.size:Int))=x+16+(r.source.size:Int):=IntWalk.i64_in _ (by omega)
      have s3:IntKind.i64.wrap (x+16+(r.source.size:Int)+(r.text.size:Int))=x+16+(r.source.size:Int)+(r.text.size:Int):=IntWalk.i64_in _ (by omega)
      clear ha hlr hg hA hx
      go_wp2_with fail
      go_quiet (fail)
      go_wp2_with fail
      go_roundw
      case measure=>go_light;simp[intOf];omega
      case rel=>go_light;exact⟨k+1,x+16+(r.source.size:Int)+(r.text.size:Int),by omega,by first|rfl|go_num,by first|rfl|go_num,by omega,by omega,by have h:=HW.out;show _=_;omega,HA2.out,below_drewN HB.out _⟩
   ·obtain rfl:k=n:=by omega
    have hx2:=hx.out
    rw[List.take_of_length_le (by rw[HL.out];exact Nat.le_refl _)]at hx2
    have ha:=hA.out
    rw[List.drop_of_length_le (by rw[HL.out];exact Nat.le_refl _)]at ha
    have he:=HE.out
    rw[<-ha,hx2,if_neg (by simp)]at he
    by_cases h4:1048576<x
    ·rw[if_pos h4]at he
     have g4:decide (1048576<x)=true:=by simpa using h4
     have HE2:=hid he
     clear hx2 hx ha hA he HE h4
     go_wp2_with fail
     go_ret
     exact⟨by rw[HE2.out];rfl,HB.out⟩
    ·rw[if_neg h4]at he
     have g4:decide (1048576<x)=false:=by simpa using h4
     have HE2:=hid he
     clear hx2 hx ha hA he HE h4
     go_wp2_with fail
     go_ret
     exact⟨by rw[HE2.out];rfl,HB.out⟩
end Go.Proofs.YtmlaajebadfkoaaGreatDoor.Recs
namespace Go.Proofs.YtmlaajebadfkoaaGreatDoor.NumPut
open Go.RowKit Mem Own Canon
theorem huZ{X k:Nat}(h:X*2 ^ (7*k)<18446744073709551616)(h128:128<=X):k+1<=9/\X / 128*2 ^ (7*(k+1))<18446744073709551616:=by
 have e:2 ^ (7*(k+1))=128*2 ^ (7*k):=by rw[show 7*(k+1)=7*k+7 by omega,Nat.pow_add];omega
 constructor
 ·by_cases hk:k+1<=9
  ·exact hk
  ·exfalso
   have h1:2 ^ 63<=2 ^ (7*k):=Nat.pow_le_pow_right (by omega) (by omega)
   have h2:128*2 ^ 63<=X*2 ^ (7*k):=Nat.mul_le_mul h128 h1
   omega
 ·rw[e,<-Nat.mul_assoc]
  have:X / 128*128*2 ^ (7*k)<=X*2 ^ (7*k):=Nat.mul_le_mul_right _ (Nat.div_mul_le_self _ _)
  omega
theorem aiZb:∀ (x k:Nat),x*2 ^ (7*k)<18446744073709551616->k<=9->(iZ x).length+k<=10:=by
 intro x
 induction x using Nat.strongRecOn with
 |_ x ih=>
  intro k h hk
  by_cases h1:x<128
  ·rw[qdZ h1];simp;omega
  ·obtain⟨s1,s2⟩:=huZ h (by omega)
   have:=ih (x / 128) (by omega) (k+1) s2 s1
   rw[bfZ h1,List.length_cons]
   omega
theorem mZ{x:Nat}(h:x<18446744073709551616):(iZ x).length<=10:=by
 have:=aiZb x 0 (by simpa using h) (by omega)
 omega
theorem zcZ(w:World)(x:Nat)(hx:x<18446744073709551616):
 Calls Tryz.prog 93 #[.int .u64 x] w fun e w'=>∃v,e= .returned v/\w'.ownsRow w.heap.size 5 1 v (iZ x).length (dZ .u8 (iZ x))/\Below w.heap.size w w':=by
 obtain⟨j0,hj0,hy0,hy1,hy2⟩:=info_parts hbZ
 obtain⟨R,hR⟩:∃R,R=iZ x:=⟨_,rfl⟩
 have HR0:Hid ([]++iZ x=R):=hR.symm
 have HX0:Hid (x*2 ^ (7*0)<18446744073709551616):=by show _<_;simpa using hx
 rw[<-hR]
 clear hR
 go_enter Tryz.func93,Tryz.ntmps93
 go_wp2_with fail
 go_loopw [0,3] (fun u v wr=>∃ (X k:Nat) (done:List Nat),u= .int .u64 X/\k<=9/\X<18446744073709551616/\Hid (X*2 ^ (7*k)<18446744073709551616)/\Hid (done.length=k)/\Hid (done++iZ X=R)/\Hid (wr.ownsRow w.heap.size 5 1 v k (dZ .u8 done))/\Hid (Below w.heap.size w wr)) (fun u _ _=>(intOf u).toNat)
 case atStart=>exact⟨x,0,[],rfl,by omega,hx,HX0.out,rfl,HR0.out,World.ownsRow_nil _ _ _ _,Below.refl _ _⟩
 case round=>
  obtain⟨X,k,done,rfl,hk,hX,HX,HL,HR,HO,HB⟩:=hrel
  clear HR0 HX0
  have zb:=HB.out.size
  by_cases h128:X<128
  ·have g1:decide ((128:Int)<=(X:Int))=false:=by simp;omega
   have g1':decide (128<=X)=false:=by simp;omega
   have c1:IntKind.u8.wrap (X:Int)=(X:Int):=by rw[IntKind.wrap_u8'];omega
   have HR2:Hid (done++ [X]=R):=by have h:=HR.out;rw[qdZ h128]at h;exact h
   go_wp2_with(at_builtin;refine hZ rfl (.tmp 14) (.tmp 17) 29 rfl w.heap.size 5 j0 _ 1 1 Tryz.underlying29 hj0 hy0 hy1 hy2 rfl (by decide) _ _ _ (by rfl) (HO.out.alloc _) _ 1 1 [.int .u8 (X:Nat)] (by rfl) (Src.of_blk (g:=wr.heap.size) (Blk.made _ _ _) 1 1 1 rfl) (by intro u hu;simp at hu;rcases hu with rfl;rfl) (by unfold maxLen;omega) (by omega) (by simp;omega) ?_;intro v4 w4 hown4 hg4 hat4)
   have hown5:Hid (w4.ownsRow w.heap.size 5 1 v4 R.length (dZ .u8 R)):=by
    rw[<-HR2.out,List.length_append,HL.out,reZ]
    exact hown4
   have hb5:Hid (Below w.heap.size w w4):=(aZ HB.out).grown hg4 (by simp;omega) (fun y hy=>(World.ownsRow.lt HO.out y hy).1)
   go_ret
   exact⟨_,rfl,hown5.out,hb5.out⟩
  ·have g1:decide ((128:Int)<=(X:Int))=true:=by simp;omega
   have g1':decide (128<=X)=true:=by simp;omega
   have c1:IntKind.u8.wrap (X:Int)=((X % 256:Nat):Int):=by rw[IntKind.wrap_u8'];omega
   have o1:bits .or .u8 ((X % 256:Nat):Int) 128=((X % 128+128:Nat):Int):=by
    rw[show(128:Int)=((128:Nat):Int) from rfl,u8_or_nat _ _ (by omega) (by omega),cpZb _ (by omega)]
    congr 1
    omega
   have HR2:Hid ((done++ [X % 128+128])++iZ (X / 128)=R):=by have h:=HR.out;rw[bfZ h128]at h;rw[List.append_assoc];exact h
   obtain⟨hs1,hs2⟩:=huZ HX.out (by omega)
   have HX2:=hid hs2
   obtain⟨b,hb⟩:∃b,b=X % 128+128:=⟨_,rfl⟩
   obtain⟨a,ha⟩:∃a,a=X % 256:=⟨_,rfl⟩
   rw[<-hb]at o1 HR2
   rw[<-ha]at o1 c1
   clear hb ha hs2
   go_wp2_with(at_builtin;refine hZ rfl (.tmp 6) (.tmp 10) 29 rfl w.heap.size 5 j0 _ 1 1 Tryz.underlying29 hj0 hy0 hy1 hy2 rfl (by decide) _ _ _ (by rfl) (HO.out.alloc _) _ 1 1 [.int .u8 (b:Nat)] (by rfl) (Src.of_blk (g:=wr.heap.size) (Blk.made _ _ _) 1 1 1 rfl) (by intro u hu;simp at hu;rcases hu with rfl;rfl) (by unfold maxLen;omega) (by omega) (by simp;omega) ?_;intro v4 w4 hown4 hg4 hat4)
   have HO5:Hid (w4.ownsRow w.heap.size 5 1 v4 (k+1) (dZ .u8 (done++ [b]))):=by rw[reZ];exact hown4
   have hb5:Hid (Below w.heap.size w w4):=(aZ HB.out).grown hg4 (by simp;omega) (fun y hy=>(World.ownsRow.lt HO.out y hy).1)
   exact⟨⟨X / 128,k+1,done++ [b],congrArg _ (by omega),by omega,by omega,HX2.out,by show _=_;rw[List.length_append,HL.out];rfl,HR2.out,HO5.out,hb5.out⟩,by simp[intOf];omega⟩
theorem lcZ(w:World)(x:Nat)(hx:x<18446744073709551616):
 Calls Tryz.prog 78 #[.int .u64 x] w fun e w'=>∃v,e= .returned v/\w'.ownsRow w.heap.size 5 1 v (iZ x).length (dZ .u8 (iZ x))/\Below w.heap.size w w':=by
 obtain⟨j0,hj0,hy0,hy1,hy2⟩:=info_parts hbZ
 obtain⟨R,hR⟩:∃R,R=iZ x:=⟨_,rfl⟩
 have HR0:Hid ([]++iZ x=R):=hR.symm
 have HX0:Hid (x*2 ^ (7*0)<18446744073709551616):=by show _<_;simpa using hx
 rw[<-hR]
 clear hR
 go_enter Tryz.func78,Tryz.ntmps78
 go_wp2_with fail
 go_loopw [0,3] (fun u v wr=>∃ (X k:Nat) (done:List Nat),u= .int .u64 X/\k<=9/\X<18446744073709551616/\Hid (X*2 ^ (7*k)<18446744073709551616)/\Hid (done.length=k)/\Hid (done++iZ X=R)/\Hid (wr.ownsRow w.heap.size 5 1 v k (dZ .u8 done))/\Hid (Below w.heap.size w wr)) (fun u _ _=>(intOf u).toNat)
 case atStart=>exact⟨x,0,[],rfl,by omega,hx,HX0.out,rfl,HR0.out,World.ownsRow_nil _ _ _ _,Below.refl _ _⟩
 case round=>
  obtain⟨X,k,done,rfl,hk,hX,HX,HL,HR,HO,HB⟩:=hrel
  clear HR0 HX0
  have zb:=HB.out.size
  by_cases h128:X<128
  ·have g1:decide ((128:Int)<=(X:Int))=false:=by simp;omega
   have g1':decide (128<=X)=false:=by simp;omega
   have c1:IntKind.u8.wrap (X:Int)=(X:Int):=by rw[IntKind.wrap_u8'];omega
   have HR2:Hid (done++ [X]=R):=by have h:=HR.out;rw[qdZ h128]at h;exact h
   go_wp2_with(at_builtin;refine hZ rfl (.tmp 15) (.tmp 18) 29 rfl w.heap.size 5 j0 _ 1 1 Tryz.underlying29 hj0 hy0 hy1 hy2 rfl (by decide) _ _ _ (by rfl) (HO.out.alloc _) _ 1 1 [.int .u8 (X:Nat)] (by rfl) (Src.of_blk (g:=wr.heap.size) (Blk.made _ _ _) 1 1 1 rfl) (by intro u hu;simp at hu;rcases hu with rfl;rfl) (by unfold maxLen;omega) (by omega) (by simp;omega) ?_;intro v4 w4 hown4 hg4 hat4)
   have hown5:Hid (w4.ownsRow w.heap.size 5 1 v4 R.length (dZ .u8 R)):=by
    rw[<-HR2.out,List.length_append,HL.out,reZ]
    exact hown4
   have hb5:Hid (Below w.heap.size w w4):=(aZ HB.out).grown hg4 (by simp;omega) (fun y hy=>(World.ownsRow.lt HO.out y hy).1)
   go_ret
   exact⟨_,rfl,hown5.out,hb5.out⟩
  ·have g1:decide ((128:Int)<=(X:Int))=true:=by simp;omega
   have g1':decide (128<=X)=true:=by simp;omega
   have c1:IntKind.u64.wrap (128+(X:Int) % 128)=((X % 128+128:Nat):Int):=by rw[show IntKind.u64.wrap (128+(X:Int) % 128)=(128+(X:Int) % 128) % 18446744073709551616 from by simp[IntKind.wrap,IntKind.bits,IntKind.signed]];omega
   have c2:IntKind.u8.wrap ((X % 128+128:Nat):Int)=((X % 128+128:Nat):Int):=by rw[IntKind.wrap_u8'];omega
   have HR2:Hid ((done++ [X % 128+128])++iZ (X / 128)=R):=by have h:=HR.out;rw[bfZ h128]at h;rw[List.append_assoc];exact h
   obtain⟨hs1,hs2⟩:=huZ HX.out (by omega)
   have HX2:=hid hs2
   obtain⟨b,hb⟩:∃b,b=X % 128+128:=⟨_,rfl⟩
   rw[<-hb]at c1 c2 HR2
   clear hb hs2
   go_wp2_with(at_builtin;refine hZ rfl (.tmp 6) (.tmp 11) 29 rfl w.heap.size 5 j0 _ 1 1 Tryz.underlying29 hj0 hy0 hy1 hy2 rfl (by decide) _ _ _ (by rfl) (HO.out.alloc _) _ 1 1 [.int .u8 (b:Nat)] (by rfl) (Src.of_blk (g:=wr.heap.size) (Blk.made _ _ _) 1 1 1 rfl) (by intro u hu;simp at hu;rcases hu with rfl;rfl) (by unfold maxLen;omega) (by omega) (by simp;omega) ?_;intro v4 w4 hown4 hg4 hat4)
   have HO5:Hid (w4.ownsRow w.heap.size 5 1 v4 (k+1) (dZ .u8 (done++ [b]))):=by rw[reZ];exact hown4
   have hb5:Hid (Below w.heap.size w w4):=(aZ HB.out).grown hg4 (by simp;omega) (fun y hy=>(World.ownsRow.lt HO.out y hy).1)
   exact⟨⟨X / 128,k+1,done++ [b],congrArg _ (by omega),by omega,by omega,HX2.out,by show _=_;rw[List.length_append,HL.out];rfl,HR2.out,HO5.out,hb5.out⟩,by simp[intOf];omega⟩
def sB(s:ByteArray):List Nat:=s.data.toList.map UInt8.toNat
theorem zqZ(s:ByteArray):(sB s).length=s.size:=by
 unfold sB
 rw[List.length_map,Array.length_toList]
 rfl
theorem asZb(s:ByteArray):∀x∈sB s,x<=255:=fun x hx=>by
 obtain⟨c,_,rfl⟩:=List.mem_map.1 hx
 have:=c.toNat_lt
 omega
theorem wbZb(s:ByteArray):dZ .u8 (sB s)=Lib.strCells s:=by
 unfold dZ sB Lib.strCells
 rw[List.map_map]
 rfl
def wcZ(s:ByteArray):List Nat:=iZ s.size++sB s
theorem xbZb(s:ByteArray):∀x∈wcZ s,x<=255:=fun x hx=>by
 rcases List.mem_append.1 hx with hx|hx
 ·exact mbZ _ x hx
 ·exact asZb s x hx
theorem phZ{s:ByteArray}(h:s.size<=100000):(wcZ s).length<=3+s.size/\s.size<(wcZ s).length:=by
 have h1:(iZ s.size).length<=3:=by
  by_cases h1:s.size<128
  ·rw[qdZ h1];simp
  ·rw[bfZ h1,List.length_cons]
   by_cases h2:s.size / 128<128
   ·rw[qdZ h2];simp
   ·rw[bfZ h2,qdZ (by omega)];simp
 have h2:1<=(iZ s.size).length:=by
  by_cases h1:s.size<128
  ·rw[qdZ h1];simp
  ·rw[bfZ h1,List.length_cons];omega
 unfold wcZ
 rw[List.length_append,zqZ]
 omega
theorem ybZb:(Tryz.prog.info? 5).map (fun i=>(i.zero,i.size,i.bytes))=some (some (.int .u8 0),1,1):=by kernel_rfl
theorem upZ(w:World)(s:ByteArray)(hs:s.size<=100000):
 Calls Tryz.prog 191 #[.string s] w fun e w'=>∃v,e= .returned v/\w'.ownsRow w.heap.size 5 1 v (wcZ s).length (dZ .u8 (wcZ s))/\Below w.heap.size w w':=by
 obtain⟨j0,hj0,hy0,hy1,hy2⟩:=info_parts ybZb
 have D:=hid (zcZ w s.size (by omega))
 have hl:=mZ (x:=s.size) (by omega)
 have u1:IntKind.u64.wrap (s.size:Int)=(s.size:Int):=by rw[IntKind.wrap_u64];omega
 have HT:Hid (dZ .u8 (wcZ s)=dZ .u8 (iZ s.size)++Lib.strCells s/\(wcZ s).length=(iZ s.size).length+s.size):=⟨by rw[<-wbZb];simp[wcZ,dZ],by unfold wcZ;rw[List.length_append,zqZ]⟩
 generalize wcZ s=T at *
 generalize iZ s.size=X at *
 obtain⟨k,hk⟩:∃k,k=X.length:=⟨_,rfl⟩
 rw[<-hk]at D hl HT
 clear hk
 go_enter Tryz.func191,Tryz.ntmps191
 go_wp2_with fail
 refine D.out.mono ?_
 rintro e w1 ⟨v,rfl,ho,hb⟩
 have HO:=hid ho
 have HB:=hid hb
 have hz:=hb.size
 clear ho hb D
 go_wp2_with(at_builtin;refine Lib.wpList_append_own_string w1 rfl (.tmp 6) (.tmp 7) 29 9 rfl w.heap.size 5 j0 Tryz.underlying29 Tryz.underlying9 hj0 hy0 hy1 hy2 _ k _ (by rfl) HO.out s (by rfl) (by unfold maxLen;omega) (by omega) hz ?_;intro v4 w4 hown4 hg4 hnil4;have HB4:Hid (Below w.heap.size w w4):=HB.out.grown hg4 hz (fun y hy=>(World.ownsRow.lt HO.out y hy).1);have HO4:Hid (w4.ownsRow w.heap.size 5 1 v4 T.length (dZ .u8 T)):=(by rw[HT.out.1,HT.out.2];exact hown4);clear hown4 hg4 hnil4)
 go_ret
 exact⟨_,rfl,HO4.out,HB4.out⟩
theorem fnZ(w:World)(s:ByteArray)(hs:s.size<=100000):
 Calls Tryz.prog 208 #[.string s] w fun e w'=>∃v,e= .returned v/\w'.ownsRow w.heap.size 5 1 v (wcZ s).length (dZ .u8 (wcZ s))/\Below w.heap.size w w':=by
 obtain⟨j0,hj0,hy0,hy1,hy2⟩:=info_parts ybZb
 have D:=hid (lcZ w s.size (by omega))
 have hl:=mZ (x:=s.size) (by omega)
 have u1:IntKind.u64.wrap (s.size:Int)=(s.size:Int):=by rw[IntKind.wrap_u64];omega
 have HT:Hid (dZ .u8 (wcZ s)=dZ .u8 (iZ s.size)++Lib.strCells s/\(wcZ s).length=(iZ s.size).length+s.size):=⟨by rw[<-wbZb];simp[wcZ,dZ],by unfold wcZ;rw[List.length_append,zqZ]⟩
 generalize wcZ s=T at *
 generalize iZ s.size=X at *
 obtain⟨k,hk⟩:∃k,k=X.length:=⟨_,rfl⟩
 rw[<-hk]at D hl HT
 clear hk
 go_enter Tryz.func208,Tryz.ntmps208
 go_wp2_with fail
 refine D.out.mono ?_
 rintro e w1 ⟨v,rfl,ho,hb⟩
 have HO:=hid ho
 have HB:=hid hb
 have hz:=hb.size
 clear ho hb D
 go_wp2_with(at_builtin;refine Lib.wpList_append_own_string w1 rfl (.tmp 6) (.tmp 7) 29 9 rfl w.heap.size 5 j0 Tryz.underlying29 Tryz.underlying9 hj0 hy0 hy1 hy2 _ k _ (by rfl) HO.out s (by rfl) (by unfold maxLen;omega) (by omega) hz ?_;intro v4 w4 hown4 hg4 hnil4;have HB4:Hid (Below w.heap.size w w4):=HB.out.grown hg4 hz (fun y hy=>(World.ownsRow.lt HO.out y hy).1);have HO4:Hid (w4.ownsRow w.heap.size 5 1 v4 T.length (dZ .u8 T)):=(by rw[HT.out.1,HT.out.2];exact hown4);clear hown4 hg4 hnil4)
 go_ret
 exact⟨_,rfl,HO4.out,HB4.out⟩
end Go.Proofs.YtmlaajebadfkoaaGreatDoor.NumPut
namespace Go.Proofs.YtmlaajebadfkoaaGreatDoor.Recs
open Go.RowKit Mem Own Canon NumPut
open Go.Proofs.YtmlaajebadfkoaaGreatDoor.Nums (ttZ)
open Go.Proofs.YtmlaajebadfkoaaGreatDoor.Block (lZ)
def ccZ(r:Rec):Prop:=0<=r.time/\r.time<18446744073709551616/\0<=r.level/\r.level<=255
def qjZ(wh:Bool)(r:Rec):List Nat:=if wh=true then iZ r.time.toNat++ [r.level.toNat]else []
def wdZ(wh:Bool)(r:Rec):List Nat:=qjZ wh r++(wcZ r.source++wcZ r.text)
theorem uyZ(wh:Bool){r:Rec}(h:ccZ r):(qjZ wh r).length<=11:=by
 unfold qjZ
 split
 ·have:=mZ (x:=r.time.toNat) (by have:=h.1;have:=h.2.1;omega)
  rw[List.length_append]
  simp
  omega
 ·simp
theorem wnZb(wh:Bool){r:Rec}(h:ccZ r):∀x∈qjZ wh r,x<=255:=by
 unfold qjZ
 split
 ·intro x hx
  rcases List.mem_append.1 hx with hx|hx
  ·exact mbZ _ x hx
  ·simp at hx
   have:=h.2.2
   omega
 ·intro x hx;cases hx
theorem hqZb(wh:Bool){r:Rec}(h:ccZ r):∀x∈wdZ wh r,x<=255:=fun x hx=>by
 unfold wdZ at hx
 simp only[List.mem_append]at hx
 rcases hx with hx|hx|hx
 ·exact wnZb wh h x hx
 ·exact xbZb _ x hx
 ·exact xbZb _ x hx
theorem iuZ(wh:Bool){r:Rec}(h:ccZ r)(hl:bcZ r=false):(wdZ wh r).length<=17+r.source.size+r.text.size/\2<=(wdZ wh r).length:=by
 obtain⟨h1,h2⟩:=feZ hl
 have a:=uyZ wh h
 have b:=phZ (s:=r.source) (by omega)
 have c:=phZ (s:=r.text) (by omega)
 unfold wdZ
 rw[List.length_append,List.length_append]
 omega
def xiZ(wh:Bool)(r:Rec)(w:World)(e:Ending)(w':World):Prop:=
 ∃v,e= .returned v/\w'.ownsRow w.heap.size 5 1 v (wdZ wh r).length (dZ .u8 (wdZ wh r))/\Below w.heap.size w w'
theorem vfZb(w:World)(wh:Bool)(r:Rec)(hr:ccZ r)(hl:bcZ r=false):
 Calls Tryz.prog 141 #[.bool wh,r.val] w (xiZ wh r w):=by
 obtain⟨j0,hj0,hy0,hy1,hy2⟩:=info_parts hbZ
 obtain⟨h1,h2⟩:=feZ hl
 obtain⟨t1,t2,l1,l2⟩:=hr
 have hhl:=uyZ wh (r:=r) ⟨t1,t2,l1,l2⟩
 have b1:=phZ (s:=r.source) (by omega)
 have b2:=phZ (s:=r.text) (by omega)
 unfold xiZ wdZ
 obtain⟨tm,lv,src,txt⟩:=r
 obtain⟨t,rfl⟩:=Int.eq_ofNat_of_zero_le t1
 obtain⟨l,rfl⟩:=Int.eq_ofNat_of_zero_le l1
 unfold Rec.val
 simp only at *
 clear hl
 have D1:=hid (fun wx=>zcZ wx t (by omega))
 have D2:=hid (fun wx=>upZ wx src (by omega))
 have D3:=hid (fun wx=>upZ wx txt (by omega))
 cases wh with
 |true=>
  have HH:Hid (qjZ true ⟨(t:Nat),(l:Nat),src,txt⟩=iZ t++ [l]):=rfl
  have hnl:=mZ (x:=t) (by omega)
  generalize qjZ true ⟨(t:Nat),(l:Nat),src,txt⟩=H at *
  generalize iZ t=N1 at *
  generalize wcZ src=T1 at *
  generalize wcZ txt=T2 at *
  go_enter Tryz.func141,Tryz.ntmps141
  go_upto_region 3 with fail
  have hba:Blk (w.alloc (.cells #[.int .u64 t, .int .u8 l, .string src, .string txt] 72)) w.heap.size 72 #[.int .u64 t, .int .u8 l, .string src, .string txt]:=Blk.made _ _ _
  have hbw:Below w.heap.size w (w.alloc (.cells #[.int .u64 t, .int .u8 l, .string src, .string txt] 72)):=aZ (Below.refl _ _)
  have hzw:(w.alloc (.cells #[.int .u64 t, .int .u8 l, .string src, .string txt] 72)).heap.size=w.heap.size+1:=by simp
  generalize w.alloc (.cells #[.int .u64 t, .int .u8 l, .string src, .string txt] 72)=wa at *
  have HBA:=hid hba
  have HBW:=hid hbw
  have hzw2:w.heap.size<wa.heap.size:=by omega
  have HS:Hid (∀wx,Below wa.heap.size wa wx->wx.cell? ⟨w.heap.size,0,none⟩=some (.int .u64 t)/\wx.cell? ⟨w.heap.size,1,none⟩=some (.int .u8 l)):=fun wx h=>⟨(hba.step h).cell 0,(hba.step h).cell 1⟩
  clear hba hbw hzw
  go_region_held3 (fun wx=>wx.cell? ⟨w.heap.size,0,none⟩=some (.int .u64 t)/\wx.cell? ⟨w.heap.size,1,none⟩=some (.int .u8 l)) (first|exact HS.out _ ((Below.refl _ _).drew)|exact HS.out _ HB4|exact HS.out _ HB1|exact HS.out _ (Below.drew (aZ (Below.refl _ _)))|exact HS.out _ (eZ (Below.size HB1) HB1)|(refine HS.out _ ?_;(repeat(first|(with_reducible first|exact Below.refl _ _|assumption|refine Below.drew ?_|refine below_drewN ?_ _|refine aZ ?_|refine cZ (by assumption) ?_)|((with_reducible first|refine jZ ?_ ?_|refine eZ ?_ ?_|refine gZ (by assumption) ?_ ?_);(focus(first|(simp;done)|(simp;omega)|omega|(simp at *;omega))))))))
   (first|(go_at_call 93;(with_reducible refine(D1.out _).mono ?_);rintro e w1 ⟨v,rfl,ho1,hb1⟩;obtain⟨A1,c1,rfl⟩:=bZ ho1;have HB1:Below wa.heap.size wa w1:=gZ hb1 (by simp) (by(repeat(first|(with_reducible first|exact Below.refl _ _|assumption|refine Below.drew ?_|refine below_drewN ?_ _|refine aZ ?_|refine cZ (by assumption) ?_)|((with_reducible first|refine jZ ?_ ?_|refine eZ ?_ ?_|refine gZ (by assumption) ?_ ?_);(focus(first|(simp;done)|(simp;omega)|omega|(simp at *;omega)))))));have hz1:=HB1.size;have HO1:w1.ownsRow wa.heap.size 5 1 (.slice A1 N1.length c1) N1.length (dZ .u8 N1):=nZ ho1 (by simp))|(refine ttZ rfl (.tmp 9) (.tmp 12) 29 rfl wa.heap.size 5 j0 _ 1 1 Tryz.underlying29 hj0 hy0 hy1 hy2 rfl (by decide) (.slice A1 N1.length c1) N1.length (dZ .u8 N1) (by rfl) (by first|exact HO1|exact HO1.alloc _) _ 1 1 [.int .u8 l] (by rfl) (by first|exact Src.of_blk (g:=w1.heap.size) (Blk.made _ _ _) 1 1 1 rfl|exact Src.of_blk (g:=wa.heap.size) ((Blk.drew (Blk.made _ _ _)).step hb1) 1 1 1 rfl|exact Src.of_blk (g:=wa.heap.size) (Blk.step (Blk.made _ _ _) hb1) 1 1 1 rfl) (by intro u hu;simp at hu;rcases hu with rfl;rfl) (by unfold maxLen;omega) (by omega) (by first|omega|(simp;done)|(simp;omega)) ?_;intro A4 c4 w4 hown4 hg4;have HB4:Below wa.heap.size wa w4:=Below.grown (by first|exact HB1|exact HB1.alloc hz1 _) hg4 (by first|omega|(simp;done)|(simp;omega)) (fun y hy=>(World.ownsRow.lt HO1 y hy).1)))
  all_goals
   have P4:Hid (Part.Ok (⟨A4,c4,H⟩:Part) w4):=by
    rw[HH.out]
    have e1:(N1++ [l]).length=N1.length+1:=by rw[List.length_append];rfl
    refine lZ (base:=wa.heap.size) (ls:=N1++ [l]) (n:=(N1++ [l]).length) ?_ rfl
    rw[e1,reZ]
    exact hown4
   have HB4':Hid (Below w.heap.size w w4):=HBW.out.trans (HB4.mono (by omega))
   have HS2:Hid (∀wx,Below w4.heap.size w4 wx->wx.cell? ⟨w.heap.size,2,none⟩=some (.string src)/\wx.cell? ⟨w.heap.size,3,none⟩=some (.string txt)):=fun wx h=>⟨((HBA.out.step HB4).step h).cell 2,((HBA.out.step HB4).step h).cell 3⟩
   have hs3:∀a1 a2 a3 a4 a5 a6,acZ [(⟨a1,a2,H⟩:Part),⟨a3,a4,T1⟩,⟨a5,a6,T2⟩]<=1000000:=fun _ _ _ _ _ _=>by simp[acZ];omega
   have HHL:Hid (H.length=N1.length+1):=by show _=_;rw[HH.out,List.length_append];rfl
   have hH1:H.length=N1.length+1:=HHL.out
   rw[<-hH1]
   clear HS HBA HB4 hown4 hg4 HO1 hb1 ho1 HB1 hz1 HBW D1 hH1 HHL HH
   go_upto_region 4 with fail
   go_region_held3 (fun wx=>wx.cell? ⟨w.heap.size,2,none⟩=some (.string src)/\wx.cell? ⟨w.heap.size,3,none⟩=some (.string txt)) (first|exact HS2.out _ ((Below.refl _ _).drew)|exact HS2.out _ BA|exact HS2.out _ BB|(refine HS2.out _ ?_;(repeat(first|(with_reducible first|exact Below.refl _ _|assumption|refine Below.drew ?_|refine below_drewN ?_ _|refine aZ ?_|refine cZ (by assumption) ?_)|((with_reducible first|refine jZ ?_ ?_|refine eZ ?_ ?_|refine gZ (by assumption) ?_ ?_);(focus(first|(simp;done)|(simp;omega)|omega|(simp at *;omega)))))))) (first|(go_at_call 191;first|((with_reducible refine(D2.out _).mono ?_);rintro e wA ⟨vA,rfl,hoA,hbA⟩;obtain⟨AA,cA,rfl⟩:=bZ hoA;have BA:Below w4.heap.size w4 wA:=gZ hbA (by first|omega|(simp;done)|(simp;omega)) (by(repeat(first|(with_reducible first|exact Below.refl _ _|assumption|refine Below.drew ?_|refine below_drewN ?_ _|refine aZ ?_|refine cZ (by assumption) ?_)|((with_reducible first|refine jZ ?_ ?_|refine eZ ?_ ?_|refine gZ (by assumption) ?_ ?_);(focus(first|(simp;done)|(simp;omega)|omega|(simp at *;omega)))))));have zA:=BA.size;have PA:Part.Ok (⟨AA,cA,T1⟩:Part) wA:=lZ hoA rfl;have kA:=hbA)|((with_reducible refine(D3.out _).mono ?_);rintro e wB ⟨vB,rfl,hoB,hbB⟩;obtain⟨AB,cB,rfl⟩:=bZ hoB;have BB:Below w4.heap.size w4 wB:=gZ hbB (by first|omega|(simp;done)|(simp;omega)) (by(repeat(first|(with_reducible first|exact Below.refl _ _|assumption|refine Below.drew ?_|refine below_drewN ?_ _|refine aZ ?_|refine cZ (by assumption) ?_)|((with_reducible first|refine jZ ?_ ?_|refine eZ ?_ ?_|refine gZ (by assumption) ?_ ?_);(focus(first|(simp;done)|(simp;omega)|omega|(simp at *;omega)))))));have zB:=BB.size;have PB:Part.Ok (⟨AB,cB,T2⟩:Part) wB:=lZ hoB rfl;have kB:=hbB))|(go_at_call 38;(refine(mdZ _ _ 3 [(⟨A4,c4,H⟩:Part),(⟨AA,cA,T1⟩:Part),(⟨AB,cB,T2⟩:Part)] rfl (by omega) (hs3 _ _ _ _ _ _) (fun p hp=>by{rcases List.mem_cons.1 hp with rfl|hp;exact P4.out.step (by(repeat(first|(with_reducible first|exact Below.refl _ _|assumption|refine Below.drew ?_|refine below_drewN ?_ _|refine aZ ?_|refine cZ (by assumption) ?_)|((with_reducible first|refine jZ ?_ ?_|refine eZ ?_ ?_|refine gZ (by assumption) ?_ ?_);(focus(first|(simp;done)|(simp;omega)|omega|(simp at *;omega)))))));rcases List.mem_cons.1 hp with rfl|hp;exact PA.step (by(repeat(first|(with_reducible first|exact Below.refl _ _|assumption|refine Below.drew ?_|refine below_drewN ?_ _|refine aZ ?_|refine cZ (by assumption) ?_)|((with_reducible first|refine jZ ?_ ?_|refine eZ ?_ ?_|refine gZ (by assumption) ?_ ?_);(focus(first|(simp;done)|(simp;omega)|omega|(simp at *;omega)))))));rcases List.mem_cons.1 hp with rfl|hp;exact PB.step (by(repeat(first|(with_reducible first|exact Below.refl _ _|assumption|refine Below.drew ?_|refine below_drewN ?_ _|refine aZ ?_|refine cZ (by assumption) ?_)|((with_reducible first|refine jZ ?_ ?_|refine eZ ?_ ?_|refine gZ (by assumption) ?_ ?_);(focus(first|(simp;done)|(simp;omega)|omega|(simp at *;omega)))))));cases hp}) (by first|exact Blk.made _ _ _|exact Blk.drew (Blk.made _ _ _))).mono ?_);rintro e w7 ⟨v7,rfl,ho7,hb7⟩;obtain⟨A7,c7,rfl⟩:=bZ ho7;have B7:Below w4.heap.size w4 w7:=gZ hb7 (by first|omega|(simp;done)|(simp;omega)) (by(repeat(first|(with_reducible first|exact Below.refl _ _|assumption|refine Below.drew ?_|refine below_drewN ?_ _|refine aZ ?_|refine cZ (by assumption) ?_)|((with_reducible first|refine jZ ?_ ?_|refine eZ ?_ ?_|refine gZ (by assumption) ?_ ?_);(focus(first|(simp;done)|(simp;omega)|omega|(simp at *;omega)))))))))
   have HB7:Hid (Below w.heap.size w w7):=HB4'.out.trans (B7.mono HB4'.out.size)
   have HO7:=hid (nZ ho7 (show w.heap.size<=_ by have:=HB4'.out.size;have:=zA;have:=zB;first|omega|(simp;omega)))
   go_wp2_with fail
   go_ret
   refine⟨_,rfl,?_,HB7.out⟩
   have h:=HO7.out
   simp only[List.flatMap_cons,List.flatMap_nil,List.append_nil]at h
   rw[List.length_append,List.length_append]at h ⊢
   exact h
 |false=>
  have hhf:qjZ false ⟨(t:Nat),(l:Nat),src,txt⟩= []:=rfl
  rw[hhf,List.nil_append]
  clear hhl hhf D1
  generalize wcZ src=T1 at *
  generalize wcZ txt=T2 at *
  go_enter Tryz.func141,Tryz.ntmps141
  go_upto_region 4 with fail
  have hba:Blk (w.alloc (.cells #[.int .u64 t, .int .u8 l, .string src, .string txt] 72)) w.heap.size 72 #[.int .u64 t, .int .u8 l, .string src, .string txt]:=Blk.made _ _ _
  have hbw:Below w.heap.size w (w.alloc (.cells #[.int .u64 t, .int .u8 l, .string src, .string txt] 72)):=aZ (Below.refl _ _)
  have hzw:(w.alloc (.cells #[.int .u64 t, .int .u8 l, .string src, .string txt] 72)).heap.size=w.heap.size+1:=by simp
  generalize w.alloc (.cells #[.int .u64 t, .int .u8 l, .string src, .string txt] 72)=wa at *
  have hzw2:w.heap.size<wa.heap.size:=by omega
  have HBW:=hid hbw
  have HS2:Hid (∀wx,Below wa.heap.size wa wx->wx.cell? ⟨w.heap.size,2,none⟩=some (.string src)/\wx.cell? ⟨w.heap.size,3,none⟩=some (.string txt)):=fun wx h=>⟨(hba.step h).cell 2,(hba.step h).cell 3⟩
  have P4:Hid (Part.Ok (⟨none,0,([]:List Nat)⟩:Part) wa):=⟨Row.zero,fun _=>⟨rfl,rfl⟩⟩
  have hs3:∀ (a1:Option Addr) (a2:Nat) a3 a4 a5 a6,acZ [(⟨a1,a2,([]:List Nat)⟩:Part),⟨a3,a4,T1⟩,⟨a5,a6,T2⟩]<=1000000:=fun _ _ _ _ _ _=>by simp[acZ];omega
  clear hba hbw hzw
  go_region_held3 (fun wx=>wx.cell? ⟨w.heap.size,2,none⟩=some (.string src)/\wx.cell? ⟨w.heap.size,3,none⟩=some (.string txt)) (first|exact HS2.out _ ((Below.refl _ _).drew)|exact HS2.out _ BA|exact HS2.out _ BB|(refine HS2.out _ ?_;(repeat(first|(with_reducible first|exact Below.refl _ _|assumption|refine Below.drew ?_|refine below_drewN ?_ _|refine aZ ?_|refine cZ (by assumption) ?_)|((with_reducible first|refine jZ ?_ ?_|refine eZ ?_ ?_|refine gZ (by assumption) ?_ ?_);(focus(first|(simp;done)|(simp;omega)|omega|(simp at *;omega)))))))) (first|(go_at_call 191;first|((with_reducible refine(D2.out _).mono ?_);rintro e wA ⟨vA,rfl,hoA,hbA⟩;obtain⟨AA,cA,rfl⟩:=bZ hoA;have BA:Below wa.heap.size wa wA:=gZ hbA (by first|omega|(simp;done)|(simp;omega)) (by(repeat(first|(with_reducible first|exact Below.refl _ _|assumption|refine Below.drew ?_|refine below_drewN ?_ _|refine aZ ?_|refine cZ (by assumption) ?_)|((with_reducible first|refine jZ ?_ ?_|refine eZ ?_ ?_|refine gZ (by assumption) ?_ ?_);(focus(first|(simp;done)|(simp;omega)|omega|(simp at *;omega)))))));have zA:=BA.size;have PA:Part.Ok (⟨AA,cA,T1⟩:Part) wA:=lZ hoA rfl;have kA:=hbA)|((with_reducible refine(D3.out _).mono ?_);rintro e wB ⟨vB,rfl,hoB,hbB⟩;obtain⟨AB,cB,rfl⟩:=bZ hoB;have BB:Below wa.heap.size wa wB:=gZ hbB (by first|omega|(simp;done)|(simp;omega)) (by(repeat(first|(with_reducible first|exact Below.refl _ _|assumption|refine Below.drew ?_|refine below_drewN ?_ _|refine aZ ?_|refine cZ (by assumption) ?_)|((with_reducible first|refine jZ ?_ ?_|refine eZ ?_ ?_|refine gZ (by assumption) ?_ ?_);(focus(first|(simp;done)|(simp;omega)|omega|(simp at *;omega)))))));have zB:=BB.size;have PB:Part.Ok (⟨AB,cB,T2⟩:Part) wB:=lZ hoB rfl;have kB:=hbB))|(go_at_call 38;(refine(mdZ _ _ 3 [(⟨none,0,([]:List Nat)⟩:Part),(⟨AA,cA,T1⟩:Part),(⟨AB,cB,T2⟩:Part)] rfl (by omega) (hs3 _ _ _ _ _ _) (fun p hp=>by{rcases List.mem_cons.1 hp with rfl|hp;exact P4.out.step (by(repeat(first|(with_reducible first|exact Below.refl _ _|assumption|refine Below.drew ?_|refine below_drewN ?_ _|refine aZ ?_|refine cZ (by assumption) ?_)|((with_reducible first|refine jZ ?_ ?_|refine eZ ?_ ?_|refine gZ (by assumption) ?_ ?_);(focus(first|(simp;done)|(simp;omega)|omega|(simp at *;omega)))))));rcases List.mem_cons.1 hp with rfl|hp;exact PA.step (by(repeat(first|(with_reducible first|exact Below.refl _ _|assumption|refine Below.drew ?_|refine below_drewN ?_ _|refine aZ ?_|refine cZ (by assumption) ?_)|((with_reducible first|refine jZ ?_ ?_|refine eZ ?_ ?_|refine gZ (by assumption) ?_ ?_);(focus(first|(simp;done)|(simp;omega)|omega|(simp at *;omega)))))));rcases List.mem_cons.1 hp with rfl|hp;exact PB.step (by(repeat(first|(with_reducible first|exact Below.refl _ _|assumption|refine Below.drew ?_|refine below_drewN ?_ _|refine aZ ?_|refine cZ (by assumption) ?_)|((with_reducible first|refine jZ ?_ ?_|refine eZ ?_ ?_|refine gZ (by assumption) ?_ ?_);(focus(first|(simp;done)|(simp;omega)|omega|(simp at *;omega)))))));cases hp}) (by first|exact Blk.made _ _ _|exact Blk.drew (Blk.made _ _ _))).mono ?_);rintro e w7 ⟨v7,rfl,ho7,hb7⟩;obtain⟨A7,c7,rfl⟩:=bZ ho7;have B7:Below wa.heap.size wa w7:=gZ hb7 (by first|omega|(simp;done)|(simp;omega)) (by(repeat(first|(with_reducible first|exact Below.refl _ _|assumption|refine Below.drew ?_|refine below_drewN ?_ _|refine aZ ?_|refine cZ (by assumption) ?_)|((with_reducible first|refine jZ ?_ ?_|refine eZ ?_ ?_|refine gZ (by assumption) ?_ ?_);(focus(first|(simp;done)|(simp;omega)|omega|(simp at *;omega)))))))))
  have HB7:Hid (Below w.heap.size w w7):=HBW.out.trans (B7.mono HBW.out.size)
  have HO7:=hid (nZ ho7 (show w.heap.size<=_ by have:=HBW.out.size;have:=zA;have:=zB;first|omega|(simp;omega)))
  go_wp2_with fail
  go_ret
  refine⟨_,rfl,?_,HB7.out⟩
  have h:=HO7.out
  simp only[List.flatMap_cons,List.flatMap_nil,List.append_nil,List.nil_append]at h
  rw[List.length_append]at h ⊢
  exact h
theorem tZ{w:World}{base n c:Nat}{A:Option Addr}{xs:List Value}(h:w.ownsRow base 5 1 (.slice A n c) n xs):Src w A n c 1 xs:=by
 obtain⟨h0,h1⟩:=h
 refine⟨h0,?_⟩
 rcases h1 with ⟨hv,_⟩|⟨g,cap,cur,hv,_,hh,_,_,_,htake⟩
 ·injection hv with e1 e2 e3
  exact .inl ⟨e1,e2,e3⟩
 ·injection hv with e1 e2 e3
  refine .inr ⟨⟨g,0,none⟩,e1,fun j u hu=> ?_⟩
  rw[add_none,Nat.zero_add,Blk.cell hh]
  rw[<-htake,List.getElem?_take]at hu
  split at hu
  ·simpa using hu
  ·cases hu
theorem zbZb(w:World)(wh:Bool)(r:Rec)(hr:ccZ r)(hl:bcZ r=false):
 Calls Tryz.prog 203 #[.bool wh,r.val] w (xiZ wh r w):=by
 obtain⟨j0,hj0,hy0,hy1,hy2⟩:=info_parts hbZ
 obtain⟨h1,h2⟩:=feZ hl
 obtain⟨t1,t2,l1,l2⟩:=hr
 have b1:=phZ (s:=r.source) (by omega)
 have b2:=phZ (s:=r.text) (by omega)
 unfold xiZ wdZ
 obtain⟨tm,lv,src,txt⟩:=r
 obtain⟨t,rfl⟩:=Int.eq_ofNat_of_zero_le t1
 obtain⟨l,rfl⟩:=Int.eq_ofNat_of_zero_le l1
 unfold Rec.val
 simp only at *
 clear hl
 have D1:=hid (fun wx=>lcZ wx t (by omega))
 have D2:=hid (fun wx=>fnZ wx src (by omega))
 have D3:=hid (fun wx=>fnZ wx txt (by omega))
 generalize wcZ src=T1 at *
 generalize wcZ txt=T2 at *
 cases wh with
 |true=>
  have HH:Hid (qjZ true ⟨(t:Nat),(l:Nat),src,txt⟩=iZ t++ [l]):=rfl
  have hnl:=mZ (x:=t) (by omega)
  generalize qjZ true ⟨(t:Nat),(l:Nat),src,txt⟩=H at *
  generalize iZ t=N1 at *
  go_enter Tryz.func203,Tryz.ntmps203
  go_wp2_with fail
  have hba:Blk (w.alloc (.cells #[.int .u64 t, .int .u8 l, .string src, .string txt] 72)) w.heap.size 72 #[.int .u64 t, .int .u8 l, .string src, .string txt]:=Blk.made _ _ _
  have hbw:Below w.heap.size w (w.alloc (.cells #[.int .u64 t, .int .u8 l, .string src, .string txt] 72)):=aZ (Below.refl _ _)
  generalize w.alloc (.cells #[.int .u64 t, .int .u8 l, .string src, .string txt] 72)=wa at *
  have HBA:=hid hba
  have HBW:=hid hbw
  clear hba hbw
  refine(D1.out _).mono ?_
  rintro e w1 ⟨v1,rfl,ho1,hb1⟩
  obtain⟨A1,c1,rfl⟩:=bZ ho1
  have HB1:=hid hb1
  have HS1:Hid (Src w1 A1 N1.length c1 1 (dZ .u8 N1)):=tZ ho1
  have HO1:Hid (w1.ownsRow wa.heap.size 5 1 (.slice none 0 0) 0 []):=World.ownsRow_nil _ _ _ _
  have hz1:=hb1.size
  clear ho1 hb1 D1
  go_wp2_with(first|(at_builtin;refine hZ rfl (.tmp 7) (.tmp 10) 29 rfl wa.heap.size 5 j0 _ 1 1 Tryz.underlying29 hj0 hy0 hy1 hy2 rfl (by decide) _ _ _ (by rfl) HO1.out _ _ _ _ (by rfl) HS1.out (qZ _ _) (by unfold maxLen;omega) (by omega) hz1 ?_;intro v2 w2 hown2 hg2 hat2;have HB2:Hid (Below wa.heap.size wa w2):=HB1.out.grown hg2 hz1 (fun y hy=>(World.ownsRow.lt HO1.out y hy).1);have HO2:Hid (w2.ownsRow wa.heap.size 5 1 v2 N1.length (dZ .u8 N1)):=(by have h:=hown2;rw[Nat.zero_add]at h;exact h);have hz2:=HB2.out.size;have k1:w2.cell? ⟨w.heap.size,1,none⟩=some (.int .u8 l):=(HBA.out.step HB2.out).cell 1;clear hown2 hg2 hat2 HO1 HS1 HB1 hz1)|(at_builtin;refine hZ rfl (.tmp 12) (.tmp 15) 29 rfl wa.heap.size 5 j0 _ 1 1 Tryz.underlying29 hj0 hy0 hy1 hy2 rfl (by decide) _ _ _ (by rfl) (HO2.out.alloc _) _ 1 1 [.int .u8 l] (by rfl) (Src.of_blk (g:=w2.heap.size) (Blk.made _ _ _) 1 1 1 rfl) (by intro u hu;simp at hu;rcases hu with rfl;rfl) (by unfold maxLen;omega) (by omega) (by simp;omega) ?_;intro V4 w4 hown4 hg4 hat4;have HB4:Hid (Below wa.heap.size wa w4):=(HB2.out.alloc hz2 _).grown hg4 (by simp;omega) (fun y hy=>(World.ownsRow.lt HO2.out y hy).1);have HO4':Hid (w4.ownsRow wa.heap.size 5 1 V4 (N1.length+1) (dZ .u8 N1++ [.int .u8 l])):=hown4;have k2:w4.cell? ⟨w.heap.size,2,none⟩=some (.string src):=(HBA.out.step HB4.out).cell 2;clear hown4 hg4 hat4 HO2 HB2 hz2 k1))
  obtain⟨h0,hh0⟩:∃h0,h0=N1.length+1:=⟨_,rfl⟩
  have hh0b:h0<=11:=by omega
  have HHL:Hid (H.length=h0):=by show _=_;rw[hh0,HH.out,List.length_append];rfl
  have HO4:Hid (w4.ownsRow wa.heap.size 5 1 V4 h0 (dZ .u8 H)):=by rw[hh0,HH.out,reZ];exact HO4'.out
  clear hh0 HO4' HH
  refine(D2.out _).mono ?_
  rintro e w5 ⟨v5,rfl,ho5,hb5⟩
  obtain⟨A5,c5,rfl⟩:=bZ ho5
  have HS5:Hid (Src w5 A5 T1.length c5 1 (dZ .u8 T1)):=tZ ho5
  have HB5:Hid (Below wa.heap.size wa w5):=gZ hb5 HB4.out.size HB4.out
  have HO5:Hid (w5.ownsRow wa.heap.size 5 1 V4 h0 (dZ .u8 H)):=fZ HO4.out (fun y hy=>hb5.block y (World.ownsRow.lt HO4.out y hy).2)
  have hz5:=HB5.out.size
  clear ho5 hb5 HO4 HB4 k2
  go_wp2_with(at_builtin;refine hZ rfl (.tmp 17) (.tmp 20) 29 rfl wa.heap.size 5 j0 _ 1 1 Tryz.underlying29 hj0 hy0 hy1 hy2 rfl (by decide) _ _ _ (by rfl) HO5.out _ _ _ _ (by rfl) HS5.out (qZ _ _) (by unfold maxLen;omega) (by omega) hz5 ?_;intro v6 w6 hown6 hg6 hat6;have HB6:Hid (Below wa.heap.size wa w6):=HB5.out.grown hg6 hz5 (fun y hy=>(World.ownsRow.lt HO5.out y hy).1);have HO6:Hid (w6.ownsRow wa.heap.size 5 1 v6 (h0+T1.length) (dZ .u8 H++dZ .u8 T1)):=hown6;have k3:w6.cell? ⟨w.heap.size,3,none⟩=some (.string txt):=(HBA.out.step HB6.out).cell 3;clear hown6 hg6 hat6 HO5 HS5 HB5 hz5)
  refine(D3.out _).mono ?_
  rintro e w7 ⟨v7,rfl,ho7,hb7⟩
  obtain⟨A7,c7,rfl⟩:=bZ ho7
  have HS7:Hid (Src w7 A7 T2.length c7 1 (dZ .u8 T2)):=tZ ho7
  have HB7:Hid (Below wa.heap.size wa w7):=gZ hb7 HB6.out.size HB6.out
  have HO7:Hid (w7.ownsRow wa.heap.size 5 1 v6 (h0+T1.length) (dZ .u8 H++dZ .u8 T1)):=fZ HO6.out (fun y hy=>hb7.block y (World.ownsRow.lt HO6.out y hy).2)
  have hz7:=HB7.out.size
  clear ho7 hb7 HO6 HB6 k3
  go_wp2_with(at_builtin;refine hZ rfl (.tmp 22) (.tmp 25) 29 rfl wa.heap.size 5 j0 _ 1 1 Tryz.underlying29 hj0 hy0 hy1 hy2 rfl (by decide) _ _ _ (by rfl) HO7.out _ _ _ _ (by rfl) HS7.out (qZ _ _) (by unfold maxLen;omega) (by omega) hz7 ?_;intro v8 w8 hown8 hg8 hat8;have HB8:Hid (Below wa.heap.size wa w8):=HB7.out.grown hg8 hz7 (fun y hy=>(World.ownsRow.lt HO7.out y hy).1);have HO8:Hid (w8.ownsRow wa.heap.size 5 1 v8 (h0+T1.length+T2.length) (dZ .u8 H++dZ .u8 T1++dZ .u8 T2)):=hown8;clear hown8 hg8 hat8 HO7 HS7 HB7 hz7)
  go_ret
  refine⟨_,rfl,?_,HBW.out.trans (HB8.out.mono HBW.out.size)⟩
  have h:=nZ HO8.out HBW.out.size
  have e1:(H++(T1++T2)).length=h0+T1.length+T2.length:=by rw[List.length_append,List.length_append,HHL.out];omega
  have e2:dZ .u8 (H++(T1++T2))=dZ .u8 H++dZ .u8 T1++dZ .u8 T2:=by simp[dZ]
  rw[e1,e2]
  exact h
 |false=>
  have hhf:qjZ false ⟨(t:Nat),(l:Nat),src,txt⟩= []:=rfl
  rw[hhf]
  obtain⟨H,hH⟩:∃H:List Nat,H= []:=⟨_,rfl⟩
  obtain⟨h0,hh0⟩:∃h0:Nat,h0=0:=⟨_,rfl⟩
  have HHL:Hid (H.length=h0):=by show _=_;rw[hH,hh0];rfl
  have hh0b:h0<=11:=by omega
  have HNL:Hid (∀wx B,World.ownsRow wx B 5 1 (.slice none 0 0) h0 (dZ .u8 H)):=fun wx B=>by rw[hH,hh0];exact World.ownsRow_nil _ _ _ _
  rw[<-hH]
  clear hhf D1 hH hh0
  go_enter Tryz.func203,Tryz.ntmps203
  go_wp2_with fail
  have hba:Blk (w.alloc (.cells #[.int .u64 t, .int .u8 l, .string src, .string txt] 72)) w.heap.size 72 #[.int .u64 t, .int .u8 l, .string src, .string txt]:=Blk.made _ _ _
  have hbw:Below w.heap.size w (w.alloc (.cells #[.int .u64 t, .int .u8 l, .string src, .string txt] 72)):=aZ (Below.refl _ _)
  generalize w.alloc (.cells #[.int .u64 t, .int .u8 l, .string src, .string txt] 72)=wa at *
  have HBA:=hid hba
  have HBW:=hid hbw
  clear hba hbw
  have HO4:Hid (wa.ownsRow wa.heap.size 5 1 (.slice none 0 0) h0 (dZ .u8 H)):=HNL.out _ _
  have HB4:Hid (Below wa.heap.size wa wa):=Below.refl _ _
  have k2:True:=trivial
  refine(D2.out _).mono ?_
  rintro e w5 ⟨v5,rfl,ho5,hb5⟩
  obtain⟨A5,c5,rfl⟩:=bZ ho5
  have HS5:Hid (Src w5 A5 T1.length c5 1 (dZ .u8 T1)):=tZ ho5
  have HB5:Hid (Below wa.heap.size wa w5):=gZ hb5 HB4.out.size HB4.out
  have HO5:Hid (w5.ownsRow wa.heap.size 5 1 (.slice none 0 0) h0 (dZ .u8 H)):=fZ HO4.out (fun y hy=>hb5.block y (World.ownsRow.lt HO4.out y hy).2)
  have hz5:=HB5.out.size
  clear ho5 hb5 HO4 HB4 k2
  go_wp2_with(at_builtin;refine hZ rfl (.tmp 17) (.tmp 20) 29 rfl wa.heap.size 5 j0 _ 1 1 Tryz.underlying29 hj0 hy0 hy1 hy2 rfl (by decide) _ _ _ (by rfl) HO5.out _ _ _ _ (by rfl) HS5.out (qZ _ _) (by unfold maxLen;omega) (by omega) hz5 ?_;intro v6 w6 hown6 hg6 hat6;have HB6:Hid (Below wa.heap.size wa w6):=HB5.out.grown hg6 hz5 (fun y hy=>(World.ownsRow.lt HO5.out y hy).1);have HO6:Hid (w6.ownsRow wa.heap.size 5 1 v6 (h0+T1.length) (dZ .u8 H++dZ .u8 T1)):=hown6;have k3:w6.cell? ⟨w.heap.size,3,none⟩=some (.string txt):=(HBA.out.step HB6.out).cell 3;clear hown6 hg6 hat6 HO5 HS5 HB5 hz5)
  refine(D3.out _).mono ?_
  rintro e w7 ⟨v7,rfl,ho7,hb7⟩
  obtain⟨A7,c7,rfl⟩:=bZ ho7
  have HS7:Hid (Src w7 A7 T2.length c7 1 (dZ .u8 T2)):=tZ ho7
  have HB7:Hid (Below wa.heap.size wa w7):=gZ hb7 HB6.out.size HB6.out
  have HO7:Hid (w7.ownsRow wa.heap.size 5 1 v6 (h0+T1.length) (dZ .u8 H++dZ .u8 T1)):=fZ HO6.out (fun y hy=>hb7.block y (World.ownsRow.lt HO6.out y hy).2)
  have hz7:=HB7.out.size
  clear ho7 hb7 HO6 HB6 k3
  go_wp2_with(at_builtin;refine hZ rfl (.tmp 22) (.tmp 25) 29 rfl wa.heap.size 5 j0 _ 1 1 Tryz.underlying29 hj0 hy0 hy1 hy2 rfl (by decide) _ _ _ (by rfl) HO7.out _ _ _ _ (by rfl) HS7.out (qZ _ _) (by unfold maxLen;omega) (by omega) hz7 ?_;intro v8 w8 hown8 hg8 hat8;have HB8:Hid (Below wa.heap.size wa w8):=HB7.out.grown hg8 hz7 (fun y hy=>(World.ownsRow.lt HO7.out y hy).1);have HO8:Hid (w8.ownsRow wa.heap.size 5 1 v8 (h0+T1.length+T2.length) (dZ .u8 H++dZ .u8 T1++dZ .u8 T2)):=hown8;clear hown8 hg8 hat8 HO7 HS7 HB7 hz7)
  go_ret
  refine⟨_,rfl,?_,HBW.out.trans (HB8.out.mono HBW.out.size)⟩
  have h:=nZ HO8.out HBW.out.size
  have e1:(H++(T1++T2)).length=h0+T1.length+T2.length:=by rw[List.length_append,List.length_append,HHL.out];omega
  have e2:dZ .u8 (H++(T1++T2))=dZ .u8 H++dZ .u8 T1++dZ .u8 T2:=by simp[dZ]
  rw[e1,e2]
  exact h
end Go.Proofs.YtmlaajebadfkoaaGreatDoor.Recs
namespace Go.Proofs.YtmlaajebadfkoaaGreatDoor.Recs
open Go.RowKit Mem Own Canon NumPut
open Go.Proofs.YtmlaajebadfkoaaGreatDoor.Block (lZ)
def vZ(wh:Bool)(l:List Rec):List Nat:=l.flatMap (wdZ wh)
theorem vsZ{wh:Bool}{l:List Rec}{k:Nat}{r:Rec}(hr:l[k]? =some r):vZ wh (l.take (k+1))=vZ wh (l.take k)++wdZ wh r:=by
 unfold vZ
 rw[List.take_add_one,hr,List.flatMap_append]
 simp
theorem arZ(wh:Bool){l:List Rec}(h:∀r∈l,ccZ r):∀x∈vZ wh l,x<=255:=fun x hx=>by
 obtain⟨r,hr,hx⟩:=List.mem_flatMap.1 hx
 exact hqZb wh (h r hr) x hx
theorem xvZ(wh:Bool):∀ {l:List Rec},(∀r∈l,ccZ r)->(∀r∈l,bcZ r=false)->((vZ wh l).length:Int)<=nbZ l+l.length
 | [],_,_=>by simp[vZ,blZ]
 |r :: l,h,hl=>by
  have h1:=(iuZ wh (h r (by simp)) (hl r (by simp))).1
  have ih:=xvZ wh (l:=l) (fun x hx=>h x (by simp[hx])) (fun x hx=>hl x (by simp[hx]))
  have e:nbZ (r :: l)=weigh r+nbZ l:=by
   simp only[nbZ,List.map_cons,List.foldl_cons]
   rw[kqZ]
   omega
  have e2:(vZ wh (r :: l)).length=(wdZ wh r).length+(vZ wh l).length:=by unfold vZ;rw[List.flatMap_cons,List.length_append]
  rw[e,e2]
  unfold weigh
  simp only[List.length_cons]
  push_cast
  omega
theorem wsZ(wh:Bool)(l:List Rec)(k:Nat):(vZ wh (l.take k)).length<=(vZ wh l).length:=by
 conv=>rhs;rw[<-List.take_append_drop k l]
 unfold vZ
 rw[List.flatMap_append,List.length_append]
 omega
def yiZ(wh:Bool)(l:List Rec)(w:World)(e:Ending)(w':World):Prop:=
 ∃v,e= .returned v/\w'.ownsRow w.heap.size 5 1 v (vZ wh l).length (dZ .u8 (vZ wh l))/\Below w.heap.size w w'
theorem vkZb(w:World)(wh:Bool)(A:Option Addr)(n c:Nat)(l:List Rec)(hn:l.length=n)(hN:n<=9223372036854775807)(hok:∀r∈l,ccZ r)(hl:∀r∈l,bcZ r=false)(hb:(vZ wh l).length<=1000000000)(ha:Row w w.heap.size A n 4 (xbZ l)):
 Calls Tryz.prog 85 #[.bool wh, .slice A n c] w (yiZ wh l w):=by
 obtain⟨j0,hj0,hy0,hy1,hy2⟩:=info_parts hbZ
 have HN:=hid hn
 have HM:=hid (fun k=>Nat.le_trans (wsZ wh l k) hb)
 have HD:=hid (fun wx r (h:r∈l)=>vfZb wx wh r (hok r h) (hl r h))
 unfold xiZ at HD
 unfold yiZ
 clear hn hok hl hb
 go_enter Tryz.func85,Tryz.ntmps85
 go_wp2_with fail
 go_loopw [5,10] (fun u i wr=>∃ (k q:Nat),k<=n/\q<=1000000000/\i= .int .i64 k/\Hid ((vZ wh (l.take k)).length=q)/\Hid (wr.ownsRow w.heap.size 5 1 u q (dZ .u8 (vZ wh (l.take k))))/\Hid (Below w.heap.size w wr)) (fun _ i _=>n-(intOf i).toNat)
 case atStart=>exact⟨0,0,by omega,by omega,rfl,rfl,World.ownsRow_nil _ _ _ _,Below.refl _ _⟩
 case round=>
  obtain⟨k,q,hk,hq,rfl,HQ,HO,HB⟩:=hrel
  have hz:=HB.out.size
  by_cases hlt:k<n
  ·obtain⟨b,off,r,rfl,hbb,hg,c0,c1,c2,c3⟩:=Row.rec (ha.below HB.out) HN.out hlt
   have D:=hid (fun wx=>HD.out wx r (List.mem_of_getElem? hg))
   have HT:=hid (vsZ (wh:=wh) hg)
   have hq2:q+(wdZ wh r).length<=1000000000:=by
    have h:=HM.out (k+1)
    rw[HT.out,List.length_append,HQ.out]at h
    exact h
   have hol:(wdZ wh r).length<=1000000000:=by omega
   unfold Rec.val at D
   have x0:(0:Int)<=(k:Int):=by omega
   have x1:(k:Int)<(n:Int):=by omega
   generalize wdZ wh r=O at *
   obtain⟨m,hm⟩:∃m,m=O.length:=⟨_,rfl⟩
   rw[<-hm]at D hq2 hol
   have HML:=hid hm
   clear hg hm
   go_wp2_with fail
   refine(D.out _).mono ?_
   rintro e w1 ⟨v1,rfl,ho1,hb1⟩
   obtain⟨A1,d1,rfl⟩:=bZ ho1
   have HS1:Hid (Src w1 A1 m d1 1 (dZ .u8 O)):=tZ ho1
   have HB1:Hid (Below w.heap.size w w1):=cZ hb1 (aZ HB.out)
   have HO1:Hid (w1.ownsRow w.heap.size 5 1 u5 q (dZ .u8 (vZ wh (l.take k)))):=fZ (HO.out.alloc (.cells #[.int .u64 r.time, .int .u8 r.level, .string r.source, .string r.text] 72)) (fun y hy=>hb1.block y (by have:=(World.ownsRow.lt HO.out y hy).2;simp;omega))
   have hz1:=HB1.out.size
   clear ho1 hb1 D c0 c1 c2 c3 HO HB
   go_wp2_with(at_builtin;refine hZ rfl (.tmp 14) (.tmp 17) 29 rfl w.heap.size 5 j0 _ 1 1 Tryz.underlying29 hj0 hy0 hy1 hy2 rfl (by decide) _ _ _ (by rfl) HO1.out _ _ _ _ (by rfl) HS1.out (qZ _ _) (by unfold maxLen;omega) (by omega) hz1 ?_;intro v4 w4 hown4 hg4 hat4)
   have HB4:Hid (Below w.heap.size w w4):=HB1.out.grown hg4 hz1 (fun y hy=>(World.ownsRow.lt HO1.out y hy).1)
   have HO4:Hid (w4.ownsRow w.heap.size 5 1 v4 (q+m) (dZ .u8 (vZ wh (l.take (k+1))))):=by
    rw[HT.out,show dZ .u8 (vZ wh (l.take k)++O)=dZ .u8 (vZ wh (l.take k))++dZ .u8 O by simp[dZ]]
    exact hown4
   clear hown4 hg4 hat4
   go_roundw
   case measure=>go_light;simp[intOf];omega
   case rel=>go_light;exact⟨k+1,q+m,by omega,hq2,by first|rfl|go_num,by show _=_;rw[HT.out,List.length_append,HQ.out,HML.out],HO4.out,HB4.out⟩
  ·obtain rfl:k=n:=by omega
   have h1:l.take k=l:=List.take_of_length_le (by rw[HN.out];exact Nat.le_refl _)
   rw[h1]at HQ HO
   clear h1
   go_wp2_with fail
   go_ret
   exact⟨_,rfl,by rw[HQ.out];exact HO.out,HB.out⟩
theorem rbytes_any(w:World)(wh:Bool)(A:Option Addr)(n c:Nat)(l:List Rec)(hn:l.length=n)(hN:n<=9223372036854775807)(hok:∀r∈l,ccZ r)(hl:∀r∈l,bcZ r=false)(hb:(vZ wh l).length<=1000000000)(ha:Row w w.heap.size A n 4 (xbZ l)):
 Calls Tryz.prog 149 #[.bool wh, .slice A n c] w (yiZ wh l w):=by
 obtain⟨j0,hj0,hy0,hy1,hy2⟩:=info_parts hbZ
 have HN:=hid hn
 have HM:=hid (fun k=>Nat.le_trans (wsZ wh l k) hb)
 have HD:=hid (fun wx r (h:r∈l)=>zbZb wx wh r (hok r h) (hl r h))
 unfold xiZ at HD
 unfold yiZ
 clear hn hok hl hb
 go_enter Tryz.func149,Tryz.ntmps149
 go_wp2_with fail
 go_loopw [5,6] (fun u i wr=>∃ (k q:Nat),k<=n/\q<=1000000000/\i= .int .i64 k/\Hid ((vZ wh (l.take k)).length=q)/\Hid (wr.ownsRow w.heap.size 5 1 u q (dZ .u8 (vZ wh (l.take k))))/\Hid (Below w.heap.size w wr)) (fun _ i _=>n-(intOf i).toNat)
 case atStart=>exact⟨0,0,by omega,by omega,rfl,rfl,World.ownsRow_nil _ _ _ _,Below.refl _ _⟩
 case round=>
  obtain⟨k,q,hk,hq,rfl,HQ,HO,HB⟩:=hrel
  have hz:=HB.out.size
  by_cases hlt:k<n
  ·obtain⟨b,off,r,rfl,hbb,hg,c0,c1,c2,c3⟩:=Row.rec (ha.below HB.out) HN.out hlt
   have D:=hid (fun wx=>HD.out wx r (List.mem_of_getElem? hg))
   have HT:=hid (vsZ (wh:=wh) hg)
   have hq2:q+(wdZ wh r).length<=1000000000:=by
    have h:=HM.out (k+1)
    rw[HT.out,List.length_append,HQ.out]at h
    exact h
   have hol:(wdZ wh r).length<=1000000000:=by omega
   unfold Rec.val at D
   have x0:(0:Int)<=(k:Int):=by omega
   have x1:(k:Int)<(n:Int):=by omega
   generalize wdZ wh r=O at *
   obtain⟨m,hm⟩:∃m,m=O.length:=⟨_,rfl⟩
   rw[<-hm]at D hq2 hol
   have HML:=hid hm
   clear hg hm
   go_wp2_with fail
   refine(D.out _).mono ?_
   rintro e w1 ⟨v1,rfl,ho1,hb1⟩
   obtain⟨A1,d1,rfl⟩:=bZ ho1
   have HS1:Hid (Src w1 A1 m d1 1 (dZ .u8 O)):=tZ ho1
   have HB1:Hid (Below w.heap.size w w1):=cZ hb1 HB.out
   have HO1:Hid (w1.ownsRow w.heap.size 5 1 u5 q (dZ .u8 (vZ wh (l.take k)))):=fZ HO.out (fun y hy=>hb1.block y (World.ownsRow.lt HO.out y hy).2)
   have hz1:=HB1.out.size
   clear ho1 hb1 D c0 c1 c2 c3 HO HB
   go_wp2_with(at_builtin;refine hZ rfl (.tmp 13) (.tmp 19) 29 rfl w.heap.size 5 j0 _ 1 1 Tryz.underlying29 hj0 hy0 hy1 hy2 rfl (by decide) _ _ _ (by rfl) HO1.out _ _ _ _ (by rfl) HS1.out (qZ _ _) (by unfold maxLen;omega) (by omega) hz1 ?_;intro v4 w4 hown4 hg4 hat4)
   have HB4:Hid (Below w.heap.size w w4):=HB1.out.grown hg4 hz1 (fun y hy=>(World.ownsRow.lt HO1.out y hy).1)
   have HO4:Hid (w4.ownsRow w.heap.size 5 1 v4 (q+m) (dZ .u8 (vZ wh (l.take (k+1))))):=by
    rw[HT.out,show dZ .u8 (vZ wh (l.take k)++O)=dZ .u8 (vZ wh (l.take k))++dZ .u8 O by simp[dZ]]
    exact hown4
   clear hown4 hg4 hat4
   go_roundw
   case measure=>go_light;simp[intOf];omega
   case rel=>go_light;exact⟨k+1,q+m,by omega,hq2,by first|rfl|go_num,by show _=_;rw[HT.out,List.length_append,HQ.out,HML.out],HO4.out,HB4.out⟩
  ·obtain rfl:k=n:=by omega
   have h1:l.take k=l:=List.take_of_length_le (by rw[HN.out];exact Nat.le_refl _)
   rw[h1]at HQ HO
   clear h1
   go_wp2_with fail
   go_ret
   exact⟨_,rfl,by rw[HQ.out];exact HO.out,HB.out⟩
end Go.Proofs.YtmlaajebadfkoaaGreatDoor.Recs
namespace Go.Proofs.YtmlaajebadfkoaaGreatDoor.Recs
open Go.RowKit Mem Own Canon NumPut
def goG(S:Nat):Nat->Nat->List Nat->List Nat
 |_,c,[]=> [c]
 |h,c,x :: t=>if S<h+x then c :: goG S x 1 t else goG S (h+x) (c+1) t
def gdZ(S:Nat):List Nat->List Nat
 | []=> []
 |x :: t=>goG S x 1 t
def fdZ(wh:Bool)(l:List Rec):List Nat:=l.map fun r=>(wdZ wh r).length
theorem jlZ{wh:Bool}{l:List Rec}{k:Nat}{r:Rec}(hr:l[k]? =some r):(fdZ wh l).drop k=(wdZ wh r).length :: (fdZ wh l).drop (k+1):=by
 obtain⟨hk,e⟩:=List.getElem?_eq_some_iff.1 hr
 have hk2:k<(fdZ wh l).length:=by unfold fdZ;rw[List.length_map];exact hk
 rw[List.drop_eq_getElem_cons hk2]
 congr 1
 simp[fdZ,e]
theorem vyZ{wh:Bool}{l:List Rec}{n:Nat}(hn:l.length=n):(fdZ wh l).drop n= []:=List.drop_of_length_le (by unfold fdZ;rw[List.length_map];omega)
theorem vpZ{w:World}{base g cg q z:Nat}{done:List Nat}(h:w.ownsRow base 3 1 (.slice (some ⟨g,0,none⟩) (q+1) cg) (q+1) (dZ .i64 (done++ [z])))(hq:done.length=q):w.cell? ⟨g,q,none⟩=some (.int .i64 (z:Nat)):=by
 rw[(Lz.own_cells h (show q<q+1 by omega)).1]
 simp only[dZ,List.getElem?_map]
 rw[List.getElem?_append_right (by omega),hq]
 simp
theorem brZ{w:World}{base g cg q z:Nat}{done:List Nat}(h:w.ownsRow base 3 1 (.slice (some ⟨g,0,none⟩) (q+1) cg) (q+1) (dZ .i64 (done++ [z])))(hq:done.length=q):(w.setCell ⟨g,q,none⟩ (.int .i64 (z+1:Nat))).ownsRow base 3 1 (.slice (some ⟨g,0,none⟩) (q+1) cg) (q+1) (dZ .i64 (done++ [z+1])):=by
 have h1:=Lz.gfZb h (.int .i64 (z+1:Nat)) (show q<q+1 by omega)
 have e:(dZ .i64 (done++ [z])).set q (.int .i64 (z+1:Nat))=dZ .i64 (done++ [z+1]):=by
  have hl:q=(dZ .i64 done).length:=by unfold dZ;rw[List.length_map,hq]
  have e1:dZ .i64 (done++ [z])=dZ .i64 done++ [.int .i64 (z:Nat)]:=by simp[dZ]
  rw[e1,hl,List.set_append_right _ _ (Nat.le_refl _),Nat.sub_self]
  simp[dZ]
 rw[e]at h1
 exact h1
theorem wyZ:(Tryz.prog.info? 3).map (fun i=>(i.zero,i.size,i.bytes))=some (some (.int .i64 0),1,8):=by kernel_rfl
def whZ(S:Nat)(wh:Bool)(l:List Rec)(w:World)(e:Ending)(w':World):Prop:=
 ∃v,e= .returned v/\w'.ownsRow w.heap.size 3 1 v (gdZ S (fdZ wh l)).length (dZ .i64 (gdZ S (fdZ wh l)))/\Below w.heap.size w w'
theorem deZb(w:World)(S:Nat)(wh:Bool)(A:Option Addr)(n c:Nat)(l:List Rec)(hS:1<=S)(hS2:S<=1000000)(hn:l.length=n)(hN:n<=1000000)(hok:∀r∈l,ccZ r)(hl:∀r∈l,bcZ r=false)(ha:Row w w.heap.size A n 4 (xbZ l)):
 Calls Tryz.prog 147 #[.int .i64 S, .bool wh, .slice A n c] w (whZ S wh l w):=by
 obtain⟨j0,hj0,hy0,hy1,hy2⟩:=info_parts wyZ
 have HN:=hid hn
 have HX:=hid (fun r (h:r∈l)=>(iuZ wh (hok r h) (hl r h)).1)
 have HX2:=hid (fun r (h:r∈l)=>feZ (hl r h))
 have HD:=hid (fun wx r (h:r∈l)=>zbZb wx wh r (hok r h) (hl r h))
 have HE:=hid (vyZ (wh:=wh) hn)
 unfold xiZ at HD
 unfold whZ
 obtain⟨R,hR⟩:∃R,R=gdZ S (fdZ wh l):=⟨_,rfl⟩
 have HR:=hid hR
 rw[<-hR]
 have g0:decide ((S:Int)<1)=false:=by simp;omega
 have g0':decide (S<1)=false:=by simp;omega
 clear hn hok hl hR
 go_enter Tryz.func147,Tryz.ntmps147
 go_wp2_with fail
 go_loopw [7,8] (fun u i wr=>∃ (k:Nat) (done:List Nat),k<=n/\done.length<=k/\i= .int .i64 k/\Hid (done++gdZ S ((fdZ wh l).drop k)=R)/\Hid (wr.ownsRow w.heap.size 3 1 u done.length (dZ .i64 done))/\Hid (Below w.heap.size w wr)) (fun _ i _=>n-(intOf i).toNat)
 case atStart=>exact⟨0,[],by omega,by simp,rfl,HR.out.symm,World.ownsRow_nil _ _ _ _,Below.refl _ _⟩
 case round=>
  obtain⟨k,done,hk,hdl,rfl,HG,HO,HB⟩:=hrel
  obtain⟨w0,rfl⟩:∃w0:World,w0=wr:=⟨_,rfl⟩
  have hz:=HB.out.size
  by_cases hlt:k<n
  ·obtain⟨b,off,r,rfl,hbb,hg,c0,c1,c2,c3⟩:=Row.rec (ha.below HB.out) HN.out hlt
   have D:=hid (fun wx=>HD.out wx r (List.mem_of_getElem? hg))
   unfold Rec.val at D
   have hx:=HX.out r (List.mem_of_getElem? hg)
   have hx2:=HX2.out r (List.mem_of_getElem? hg)
   have HG0:Hid (done++goG S (wdZ wh r).length 1 ((fdZ wh l).drop (k+1))=R):=by have h:=HG.out;rw[jlZ hg,gdZ]at h;exact h
   have x0:(0:Int)<=(k:Int):=by omega
   have x1:(k:Int)<(n:Int):=by omega
   have hx3:(wdZ wh r).length<=8017:=by omega
   generalize wdZ wh r=O at *
   obtain⟨s0,hs0⟩:∃s0,s0=O.length:=⟨_,rfl⟩
   rw[<-hs0]at D hx3 HG0
   clear hg hx hx2 hs0 HG
   go_wp2_with fail
   refine(D.out _).mono ?_
   rintro e w1 ⟨v1,rfl,ho1,hb1⟩
   obtain⟨A1,d1,rfl⟩:=bZ ho1
   have HB1:Hid (Below w.heap.size w w1):=cZ hb1 HB.out
   have HO1:Hid (w1.ownsRow w.heap.size 3 1 u7 done.length (dZ .i64 done)):=fZ HO.out (fun y hy=>hb1.block y (World.ownsRow.lt HO.out y hy).2)
   clear ho1 hb1 D c0 c1 c2 c3 HO HB hz
   go_wp2_with fail
   go_loopw [9,10] (fun mv sv wx=>∃ (m s:Nat),1<=m/\k+m<=n/\s<=1010000/\mv= .int .i64 m/\sv= .int .i64 s/\Hid (done++goG S s m ((fdZ wh l).drop (k+m))=R)/\Hid (wx.ownsRow w.heap.size 3 1 u7 done.length (dZ .i64 done))/\Hid (Below w.heap.size w wx)) (fun mv _ _=>n-(intOf mv).toNat)
   case atStart=>exact⟨1,s0,by omega,by omega,by omega,rfl,rfl,HG0.out,HO1.out,HB1.out⟩
   case round=>
    clear HO1 HB1 HG0
    obtain⟨m,s,hm1,hmn,hs,rfl,rfl,HG,HO,HB⟩:=hrel
    obtain⟨km,hkm⟩:∃km,km=k+m:=⟨_,rfl⟩
    rw[<-hkm]at HG
    have t1:IntKind.i64.wrap ((k:Int)+(m:Int))=(km:Int):=by rw[IntWalk.i64_in _ (by omega)];omega
    have hz:=HB.out.size
    by_cases hlt2:km<n
    ·obtain⟨b2,off2,r2,hAe,hbb2,hg,c0,c1,c2,c3⟩:=Row.rec (ha.below HB.out) HN.out hlt2
     injection hAe with hAe
     injection hAe with e1 e2
     subst e1 e2
     have gk:decide ((km:Int)<(n:Int))=true:=by simp;omega
     have gk':decide (km<n)=true:=by simp;omega
     have D:=hid (fun wx=>HD.out wx r2 (List.mem_of_getElem? hg))
     unfold Rec.val at D
     have hx:=HX.out r2 (List.mem_of_getElem? hg)
     have hx2:=HX2.out r2 (List.mem_of_getElem? hg)
     have hG:=HG.out
     rw[jlZ hg,goG]at hG
     have y0:(0:Int)<=(km:Int):=by omega
     have y1:(km:Int)<(n:Int):=by omega
     have hx3:(wdZ wh r2).length<=8017:=by omega
     have HG9:Hid (gdZ S ((fdZ wh l).drop km)=goG S (wdZ wh r2).length 1 ((fdZ wh l).drop (km+1))):=by show _=_;rw[jlZ hg,gdZ]
     have HC:Hid (∀wx,Below w.heap.size w wx->wx.cell? ⟨b,off+km*4,none⟩=some (.int .u64 r2.time)/\wx.cell? ⟨b,off+km*4+1,none⟩=some (.int .u8 r2.level)/\wx.cell? ⟨b,off+km*4+2,none⟩=some (.string r2.source)/\wx.cell? ⟨b,off+km*4+3,none⟩=some (.string r2.text)):=fun wx h=>by
      have e0:=HB.out.cell (p:=⟨b,off+km*4,none⟩) hbb
      have e1:=HB.out.cell (p:=⟨b,off+km*4+1,none⟩) hbb
      have e2:=HB.out.cell (p:=⟨b,off+km*4+2,none⟩) hbb
      have e3:=HB.out.cell (p:=⟨b,off+km*4+3,none⟩) hbb
      exact⟨(h.cell (p:=⟨b,_,none⟩) hbb).trans (e0.symm.trans c0),(h.cell (p:=⟨b,_,none⟩) hbb).trans (e1.symm.trans c1),(h.cell (p:=⟨b,_,none⟩) hbb).trans (e2.symm.trans c2),(h.cell (p:=⟨b,_,none⟩) hbb).trans (e3.symm.trans c3)⟩
     generalize wdZ wh r2=O2 at *
     obtain⟨x,hx0⟩:∃x,x=O2.length:=⟨_,rfl⟩
     rw[<-hx0]at D hx3 hG HG9
     have t2:IntKind.i64.wrap ((s:Int)+(x:Int))=((s+x:Nat):Int):=by rw[IntWalk.i64_in _ (by omega)];omega
     clear hg hx hx2 hx0
     by_cases hf:S<s+x
     ·rw[if_pos hf]at hG
      rw[<-HG9.out]at hG
      have HG2:=hid hG
      have gs:decide (((s+x:Nat):Int)<=(S:Int))=false:=by simp;omega
      obtain⟨sx,hsx⟩:∃sx,sx=s+x:=⟨_,rfl⟩
      rw[<-hsx]at t2 gs
      have gs':decide (sx<=S)=false:=by simpa using gs
      have t3:IntKind.i64.wrap ((k:Int)+(m:Int))=(km:Int):=t1
      have hkmn:km<=n:=by omega
      have HKM:=hid hkm
      clear hG HG hf hsx HG9 hkm
      go_wp2_with fail
      refine(D.out _).mono ?_
      rintro e w2 ⟨v2,rfl,ho2,hb2⟩
      obtain⟨A2,d2,rfl⟩:=bZ ho2
      have HB2:Hid (Below w.heap.size w w2):=cZ hb2 HB.out
      have HO2:Hid (w2.ownsRow w.heap.size 3 1 u7 done.length (dZ .i64 done)):=fZ HO.out (fun y hy=>hb2.block y (World.ownsRow.lt HO.out y hy).2)
      have hz2:=HB2.out.size
      clear ho2 hb2 D c0 c1 c2 c3 HO HB hz HC
      go_wp2_with(at_builtin;refine hZ rfl (.tmp 58) (.tmp 60) 38 rfl w.heap.size 3 j0 _ 1 8 Tryz.underlying38 hj0 hy0 hy1 hy2 rfl (by decide) _ _ _ (by rfl) (HO2.out.alloc _) _ 1 1 [.int .i64 (m:Nat)] (by rfl) (Src.of_blk (g:=w2.heap.size) (Blk.made _ _ _) 1 1 1 rfl) (by intro u hu;simp at hu;rcases hu with rfl;rfl) (by unfold maxLen;omega) (by omega) (by simp;omega) ?_;intro v4 w4 hown4 hg4 hat4)
      have HB4:Hid (Below w.heap.size w w4):=(aZ HB2.out).grown hg4 (by simp;omega) (fun y hy=>(World.ownsRow.lt HO2.out y hy).1)
      have HO4:Hid (w4.ownsRow w.heap.size 3 1 v4 (done++ [m]).length (dZ .i64 (done++ [m]))):=by rw[List.length_append,reZ];exact hown4
      clear hown4 hg4 hat4
      go_roundw
      case measure=>go_light;have:=HKM.out;simp[intOf];omega
      case rel=>go_light;exact⟨km,done++ [m],hkmn,by rw[List.length_append];simp;have:=HKM.out;omega,by first|rfl|go_num,by show _=_;rw[List.append_assoc];exact HG2.out,HO4.out,HB4.out⟩
     ·rw[if_neg hf]at hG
      have HG2:=hid hG
      have gs:decide (((s+x:Nat):Int)<=(S:Int))=true:=by simp;omega
      have hsxl:s+x<=1010000:=by omega
      obtain⟨sx,hsx⟩:∃sx,sx=s+x:=⟨_,rfl⟩
      rw[<-hsx]at t2 gs HG2 hsxl
      have gs':decide (sx<=S)=true:=by simpa using gs
      have t4:IntKind.i64.wrap ((m:Int)+1)=((m+1:Nat):Int):=by rw[IntWalk.i64_in _ (by omega)];omega
      have HKM:=hid hkm
      have hk3:k+(m+1)<=n:=by omega
      clear hG HG hf hsx HG9 hkm
      go_wp2_with fail
      refine(D.out _).mono ?_
      rintro e w2 ⟨v2,rfl,ho2,hb2⟩
      obtain⟨A2,d2,rfl⟩:=bZ ho2
      have HB2:Hid (Below w.heap.size w w2):=cZ hb2 HB.out
      have HO2:Hid (w2.ownsRow w.heap.size 3 1 u7 done.length (dZ .i64 done)):=fZ HO.out (fun y hy=>hb2.block y (World.ownsRow.lt HO.out y hy).2)
      obtain⟨k0,k1,k2,k3⟩:=HC.out w2 HB2.out
      clear ho2 hb2 c0 c1 c2 c3 HO HB hz
      go_wp2_with fail
      refine(D.out _).mono ?_
      rintro e w3 ⟨v3,rfl,ho3,hb3⟩
      obtain⟨A3,d3,rfl⟩:=bZ ho3
      have HB3:Hid (Below w.heap.size w w3):=cZ hb3 HB2.out
      have HO3:Hid (w3.ownsRow w.heap.size 3 1 u7 done.length (dZ .i64 done)):=fZ HO2.out (fun y hy=>hb3.block y (World.ownsRow.lt HO2.out y hy).2)
      clear ho3 hb3 D k0 k1 k2 k3 HO2 HB2 HC
      go_wp2_with fail
      go_roundw
      case measure=>go_light;simp[intOf];omega
      case rel=>go_light;exact⟨m+1,sx,by omega,hk3,hsxl,by first|rfl|go_num,by first|rfl|go_num,by show _=_;rw[show k+(m+1)=km+1 by have:=HKM.out;omega];exact HG2.out,HO3.out,HB3.out⟩
    ·have hkn:km=n:=by omega
     have gk:decide ((km:Int)<(n:Int))=false:=by simp;omega
     have gk':decide (km<n)=false:=by simp;omega
     have hG:=HG.out
     rw[hkn,HE.out,goG]at hG
     have HG2:Hid (done++ [m]=R):=hG
     have hmn2:k+m=n:=by omega
     have HMN:=hid hmn2
     have hkmn:km<=n:=by omega
     have HKM:=hid hkm
     have HKN:=hid hkn
     clear hG HG hkm hkn hmn2
     go_wp2_with(at_builtin;refine hZ rfl (.tmp 58) (.tmp 60) 38 rfl w.heap.size 3 j0 _ 1 8 Tryz.underlying38 hj0 hy0 hy1 hy2 rfl (by decide) _ _ _ (by rfl) (HO.out.alloc _) _ 1 1 [.int .i64 (m:Nat)] (by rfl) (Src.of_blk (g:=wr.heap.size) (Blk.made _ _ _) 1 1 1 rfl) (by intro u hu;simp at hu;rcases hu with rfl;rfl) (by unfold maxLen;omega) (by omega) (by simp;omega) ?_;intro v4 w4 hown4 hg4 hat4)
     have HB4:Hid (Below w.heap.size w w4):=(aZ HB.out).grown hg4 (by simp;omega) (fun y hy=>(World.ownsRow.lt HO.out y hy).1)
     have HO4:Hid (w4.ownsRow w.heap.size 3 1 v4 (done++ [m]).length (dZ .i64 (done++ [m]))):=by rw[List.length_append,reZ];exact hown4
     clear hown4 hg4 hat4
     go_roundw
     case measure=>go_light;have:=HKM.out;simp[intOf];omega
     case rel=>go_light;exact⟨km,done++ [m],hkmn,by rw[List.length_append];simp;have:=HKM.out;omega,by first|rfl|go_num,by show _=_;rw[HKN.out,HE.out,gdZ,List.append_nil];exact HG2.out,HO4.out,HB4.out⟩
  ·obtain rfl:k=n:=by omega
   have hG:=HG.out
   rw[HE.out,gdZ,List.append_nil]at hG
   have HG2:=hid hG
   clear hG HG
   go_wp2_with fail
   go_ret
   exact⟨_,rfl,by rw[<-HG2.out];exact HO.out,HB.out⟩
theorem numL_snoc(k:IntKind)(l:List Nat)(x:Nat):dZ k (l++ [x])=dZ k l++ [.int k (x:Nat)]:=by simp[dZ]
theorem biZb(w:World)(S:Nat)(wh:Bool)(A:Option Addr)(n c:Nat)(l:List Rec)(hS:1<=S)(hS2:S<=1000000)(hn:l.length=n)(hN:n<=1000000)(hok:∀r∈l,ccZ r)(hl:∀r∈l,bcZ r=false)(ha:Row w w.heap.size A n 4 (xbZ l)):
 Calls Tryz.prog 83 #[.int .i64 S, .bool wh, .slice A n c] w (whZ S wh l w):=by
 obtain⟨j0,hj0,hy0,hy1,hy2⟩:=info_parts wyZ
 have HN:=hid hn
 have HX:=hid (fun r (h:r∈l)=>(iuZ wh (hok r h) (hl r h)).1)
 have HX2:=hid (fun r (h:r∈l)=>feZ (hl r h))
 have HD:=hid (fun wx r (h:r∈l)=>vfZb wx wh r (hok r h) (hl r h))
 have HE:=hid (vyZ (wh:=wh) hn)
 unfold xiZ at HD
 unfold whZ
 obtain⟨R,hR⟩:∃R,R=gdZ S (fdZ wh l):=⟨_,rfl⟩
 have HR:=hid hR
 rw[<-hR]
 have hmx:max (1:Int) (S:Int)=(S:Int):=by omega
 clear hn hok hl hR
 go_enter Tryz.func83,Tryz.ntmps83
 go_wp2_with fail
 go_loopw [7,8,14] (fun u hv i wr=>∃ (k q h:Nat) (out:List Nat),k<=n/\q<=k/\h<=1010000/\i= .int .i64 k/\hv= .int .i64 h/\Hid (out.length=q)/\Hid ((k=0/\out= []/\h=0)∨(0<k/\∃done z,out=done++ [z]/\z<=k/\done++goG S h z ((fdZ wh l).drop k)=R))/\Hid (wr.ownsRow w.heap.size 3 1 u q (dZ .i64 out))/\Hid (Below w.heap.size w wr)) (fun _ _ i _=>n-(intOf i).toNat)
 case atStart=>exact⟨0,0,0,[],by omega,by omega,by omega,rfl,rfl,rfl, .inl ⟨rfl,rfl,rfl⟩,World.ownsRow_nil _ _ _ _,Below.refl _ _⟩
 case round=>
  obtain⟨k,q,h,out,hk,hqk,hh,rfl,rfl,HQ,HC,HO,HB⟩:=hrel
  obtain⟨uA,uc,rfl⟩:=bZ HO.out
  have hz:=HB.out.size
  by_cases hlt:k<n
  ·obtain⟨b,off,r,rfl,hbb,hg,c0,c1,c2,c3⟩:=Row.rec (ha.below HB.out) HN.out hlt
   have D:=hid (fun wx=>HD.out wx r (List.mem_of_getElem? hg))
   unfold Rec.val at D
   have hx:=HX.out r (List.mem_of_getElem? hg)
   have hx2:=HX2.out r (List.mem_of_getElem? hg)
   have x0:(0:Int)<=(k:Int):=by omega
   have x1:(k:Int)<(n:Int):=by omega
   have hx3:(wdZ wh r).length<=8017:=by omega
   have HGD:=hid (jlZ (wh:=wh) hg)
   generalize wdZ wh r=O at *
   obtain⟨x,hx0⟩:∃x,x=O.length:=⟨_,rfl⟩
   rw[<-hx0]at D hx3 HGD
   have s1:IntKind.i64.wrap ((h:Int)+(x:Int))=((h+x:Nat):Int):=by rw[IntWalk.i64_in _ (by omega)];omega
   have s2:IntKind.i64.wrap ((0:Int)+(x:Int))=(x:Int):=by rw[IntWalk.i64_in _ (by omega)];omega
   clear hg hx hx2 hx0
   by_cases hnew:k=0∨S<h+x
   ·
    have HNX:Hid (∃done2,out=done2/\done2++goG S x 1 ((fdZ wh l).drop (k+1))=R):=by
     rcases HC.out with ⟨h1,h2,h3⟩|⟨h1,done,z,h2,h3,h4⟩
     ·refine⟨[],h2,?_⟩
      have e:=HR.out
      have e2:=HGD.out
      rw[h1,List.drop_zero]at e2
      rw[e2,gdZ]at e
      rw[h1]
      exact e.symm
     ·refine⟨out,rfl,?_⟩
      have hf:S<h+x:=by rcases hnew with hnew|hnew;omega;exact hnew
      rw[HGD.out,goG,if_pos hf]at h4
      rw[h2,List.append_assoc]
      exact h4
    have HNX2:Hid (out++goG S x 1 ((fdZ wh l).drop (k+1))=R):=by
     obtain⟨d2,h1,h2⟩:=HNX.out
     rw[h1];exact h2
    obtain⟨hx',hhx⟩:∃hx',hx'=h+x:=⟨_,rfl⟩
    rw[<-hhx]at s1 hnew
    by_cases hq0:q=0
    ·have gq:((q:Int)==0)=true:=by simp[hq0]
     clear hnew hhx HNX HC hq0
     go_wp2_with fail
     refine(D.out _).mono ?_
     rintro e w1 ⟨v1,rfl,ho1,hb1⟩
     obtain⟨A1,d1,rfl⟩:=bZ ho1
     have HB1:Hid (Below w.heap.size w w1):=cZ hb1 (aZ HB.out)
     have HO1:Hid (w1.ownsRow w.heap.size 3 1 (.slice uA q uc) q (dZ .i64 out)):=fZ (HO.out.alloc (.cells #[.int .u64 r.time, .int .u8 r.level, .string r.source, .string r.text] 72)) (fun y hy=>hb1.block y (by have:=(World.ownsRow.lt HO.out y hy).2;simp;omega))
     have hz1:=HB1.out.size
     obtain⟨z,hz0⟩:∃z:Nat,z=0:=⟨_,rfl⟩
     have HZ:=hid hz0
     have hz1b:z<=0:=by omega
     obtain⟨done2,hd2⟩:∃done2,done2=out:=⟨_,rfl⟩
     obtain⟨q2,hq2⟩:∃q2,q2=q:=⟨_,rfl⟩
     have HQ4:Hid (done2.length=q2):=by rw[hd2,hq2];exact HQ.out
     have HD2:=hid hd2
     have HQ2:=hid hq2
     have hq2b:q2<=k:=by omega
     clear ho1 hb1 D c0 c1 c2 c3 HO HB hz hz0 hd2 hq2
     go_wp2_with(at_builtin;refine hZ rfl (.tmp 33) (.tmp 34) 38 rfl w.heap.size 3 j0 _ 1 8 Tryz.underlying38 hj0 hy0 hy1 hy2 rfl (by decide) _ _ _ (by rfl) (HO1.out.alloc _) _ 1 1 [.int .i64 0] (by rfl) (Src.of_blk (g:=w1.heap.size) (Blk.made _ _ _) 1 1 1 rfl) (by intro u hu;simp at hu;rcases hu with rfl;rfl) (by unfold maxLen;omega) (by omega) (by simp;omega) ?_;intro v4 w4 hown4 hg4 hat4;have HB4:Hid (Below w.heap.size w w4):=(aZ HB1.out).grown hg4 (by simp;omega) (fun y hy=>(World.ownsRow.lt HO1.out y hy).1);have HO4:Hid (w4.ownsRow w.heap.size 3 1 v4 (q2+1) (dZ .i64 (done2++ [z]))):=(by rw[HD2.out,HQ2.out,numL_snoc,HZ.out];exact hown4);have hqe:=HQ2.out;subst hqe;clear hown4 hg4 hat4 HO1 HB1 hz1;have HZ4:=HB4.out.size;obtain⟨g,cg,rfl,hg0,_⟩:=HO4.out.form (by omega);have hcell:w4.cell? ⟨g,q2,none⟩=some (.int .i64 (z:Nat)):=vpZ HO4.out HQ4.out;have hfz:=(Lz.own_cells HO4.out (show q2<q2+1 by omega)).2.1;have HO5:Hid ((w4.setCell ⟨g,q2,none⟩ (.int .i64 (z+1:Nat))).ownsRow w.heap.size 3 1 (.slice (some ⟨g,0,none⟩) (q2+1) cg) (q2+1) (dZ .i64 (done2++ [z+1]))):=brZ HO4.out HQ4.out;have HB5:Hid (Below w.heap.size w (w4.setCell ⟨g,q2,none⟩ (.int .i64 (z+1:Nat)))):=jZ hg0 HB4.out;have u1:IntKind.i64.wrap (((q2+1:Nat):Int)-1)=(q2:Int):=(by rw[IntWalk.i64_in _ (by omega)];omega);have u1':IntKind.i64.wrap ((q2:Int)+1-1)=(q2:Int):=(by rw[IntWalk.i64_in _ (by omega)];omega);have u2:IntKind.i64.wrap ((z:Int)+1)=((z+1:Nat):Int):=(by rw[IntWalk.i64_in _ (by omega)];omega);have y0:(0:Int)<=(q2:Int):=(by omega);have y1:(q2:Int)<((q2+1:Nat):Int):=(by omega))
     go_roundw
     case measure=>go_light;simp[intOf];omega
     case rel=>go_light;exact⟨k+1,q2+1,x,done2++ [z+1],by omega,by omega,by omega,by first|rfl|go_num,by first|rfl|go_num,by show _=_;rw[List.length_append,HQ4.out];rfl, .inr ⟨by omega,done2,z+1,rfl,by omega,by have e:=HNX2.out;rw[<-HD2.out]at e;rw[HZ.out];exact e⟩,HO5.out,HB5.out⟩
    ·have gq:((q:Int)==0)=false:=by rw[beq_eq_false_iff_ne];omega
     have hkp:¬k=0:=by omega
     have hf:S<hx':=by rcases hnew with hnew|hnew;exact absurd hnew hkp;exact hnew
     have gs:decide ((S:Int)<(hx':Int))=true:=by simp;omega
     have gs':decide (S<hx')=true:=by simp;omega
     clear hnew hhx HNX HC hf hkp hq0
     go_wp2_with fail
     refine(D.out _).mono ?_
     rintro e w1 ⟨v1,rfl,ho1,hb1⟩
     obtain⟨A1,d1,rfl⟩:=bZ ho1
     have HB1:Hid (Below w.heap.size w w1):=cZ hb1 (aZ HB.out)
     have HO1:Hid (w1.ownsRow w.heap.size 3 1 (.slice uA q uc) q (dZ .i64 out)):=fZ (HO.out.alloc (.cells #[.int .u64 r.time, .int .u8 r.level, .string r.source, .string r.text] 72)) (fun y hy=>hb1.block y (by have:=(World.ownsRow.lt HO.out y hy).2;simp;omega))
     have hz1:=HB1.out.size
     obtain⟨z,hz0⟩:∃z:Nat,z=0:=⟨_,rfl⟩
     have HZ:=hid hz0
     have hz1b:z<=0:=by omega
     obtain⟨done2,hd2⟩:∃done2,done2=out:=⟨_,rfl⟩
     obtain⟨q2,hq2⟩:∃q2,q2=q:=⟨_,rfl⟩
     have HQ4:Hid (done2.length=q2):=by rw[hd2,hq2];exact HQ.out
     have HD2:=hid hd2
     have HQ2:=hid hq2
     have hq2b:q2<=k:=by omega
     clear ho1 hb1 D c0 c1 c2 c3 HO HB hz hz0 hd2 hq2
     go_wp2_with(at_builtin;refine hZ rfl (.tmp 33) (.tmp 34) 38 rfl w.heap.size 3 j0 _ 1 8 Tryz.underlying38 hj0 hy0 hy1 hy2 rfl (by decide) _ _ _ (by rfl) (HO1.out.alloc _) _ 1 1 [.int .i64 0] (by rfl) (Src.of_blk (g:=w1.heap.size) (Blk.made _ _ _) 1 1 1 rfl) (by intro u hu;simp at hu;rcases hu with rfl;rfl) (by unfold maxLen;omega) (by omega) (by simp;omega) ?_;intro v4 w4 hown4 hg4 hat4;have HB4:Hid (Below w.heap.size w w4):=(aZ HB1.out).grown hg4 (by simp;omega) (fun y hy=>(World.ownsRow.lt HO1.out y hy).1);have HO4:Hid (w4.ownsRow w.heap.size 3 1 v4 (q2+1) (dZ .i64 (done2++ [z]))):=(by rw[HD2.out,HQ2.out,numL_snoc,HZ.out];exact hown4);have hqe:=HQ2.out;subst hqe;clear hown4 hg4 hat4 HO1 HB1 hz1;have HZ4:=HB4.out.size;obtain⟨g,cg,rfl,hg0,_⟩:=HO4.out.form (by omega);have hcell:w4.cell? ⟨g,q2,none⟩=some (.int .i64 (z:Nat)):=vpZ HO4.out HQ4.out;have hfz:=(Lz.own_cells HO4.out (show q2<q2+1 by omega)).2.1;have HO5:Hid ((w4.setCell ⟨g,q2,none⟩ (.int .i64 (z+1:Nat))).ownsRow w.heap.size 3 1 (.slice (some ⟨g,0,none⟩) (q2+1) cg) (q2+1) (dZ .i64 (done2++ [z+1]))):=brZ HO4.out HQ4.out;have HB5:Hid (Below w.heap.size w (w4.setCell ⟨g,q2,none⟩ (.int .i64 (z+1:Nat)))):=jZ hg0 HB4.out;have u1:IntKind.i64.wrap (((q2+1:Nat):Int)-1)=(q2:Int):=(by rw[IntWalk.i64_in _ (by omega)];omega);have u1':IntKind.i64.wrap ((q2:Int)+1-1)=(q2:Int):=(by rw[IntWalk.i64_in _ (by omega)];omega);have u2:IntKind.i64.wrap ((z:Int)+1)=((z+1:Nat):Int):=(by rw[IntWalk.i64_in _ (by omega)];omega);have y0:(0:Int)<=(q2:Int):=(by omega);have y1:(q2:Int)<((q2+1:Nat):Int):=(by omega))
     go_roundw
     case measure=>go_light;simp[intOf];omega
     case rel=>go_light;exact⟨k+1,q2+1,x,done2++ [z+1],by omega,by omega,by omega,by first|rfl|go_num,by first|rfl|go_num,by show _=_;rw[List.length_append,HQ4.out];rfl, .inr ⟨by omega,done2,z+1,rfl,by omega,by have e:=HNX2.out;rw[<-HD2.out]at e;rw[HZ.out];exact e⟩,HO5.out,HB5.out⟩
   ·
    have hk0:¬k=0:=by omega
    have hf:¬S<h+x:=by omega
    obtain⟨done2,z,hout,hzk,hgo⟩:∃done z,out=done++ [z]/\z<=k/\done++goG S h z ((fdZ wh l).drop k)=R:=by
     rcases HC.out with ⟨h1,_,_⟩|⟨_,h2⟩
     ·exact absurd h1 hk0
     ·exact h2
    rw[HGD.out,goG,if_neg hf]at hgo
    have hql:=HQ.out
    rw[hout,List.length_append]at hql
    obtain⟨q2,hq2⟩:∃q2,q2=done2.length:=⟨_,rfl⟩
    have hqq:q=q2+1:=by rw[hq2,<-hql];rfl
    subst hqq
    have gq:(((q2+1:Nat):Int)==0)=false:=by rw[beq_eq_false_iff_ne];omega
    have gq':((q2:Int)+1==0)=false:=by rw[beq_eq_false_iff_ne];omega
    obtain⟨hx',hhx⟩:∃hx',hx'=h+x:=⟨_,rfl⟩
    rw[<-hhx]at s1 hf hgo
    have gs:decide ((S:Int)<(hx':Int))=false:=by simp;omega
    have gs':decide (S<hx')=false:=by simp;omega
    have hxl:hx'<=1010000:=by omega
    have HGO:=hid hgo
    have HOUT:=hid hout
    have HQ4:Hid (done2.length=q2):=hq2.symm
    clear hgo hout hql hq2 hf hnew hk0 hhx HC HGD
    go_wp2_with fail
    refine(D.out _).mono ?_
    rintro e w4 ⟨v1,rfl,ho1,hb1⟩
    obtain⟨A1,d1,rfl⟩:=bZ ho1
    have HB4:Hid (Below w.heap.size w w4):=cZ hb1 (aZ HB.out)
    have HO4:Hid (w4.ownsRow w.heap.size 3 1 (.slice uA (q2+1) uc) (q2+1) (dZ .i64 (done2++ [z]))):=by
     rw[<-HOUT.out]
     exact fZ (HO.out.alloc (.cells #[.int .u64 r.time, .int .u8 r.level, .string r.source, .string r.text] 72)) (fun y hy=>hb1.block y (by have:=(World.ownsRow.lt HO.out y hy).2;simp;omega))
    clear ho1 hb1 D c0 c1 c2 c3 HO HB hz HOUT HQ
    have HZ4:=HB4.out.size
    obtain⟨g,cg,hg9,hg0,_⟩:=HO4.out.form (by omega)
    injection hg9 with hg91 hg92 hg93
    subst hg91 hg93
    have hcell:w4.cell? ⟨g,q2,none⟩=some (.int .i64 (z:Nat)):=vpZ HO4.out HQ4.out
    have hfz:=(Lz.own_cells HO4.out (show q2<q2+1 by omega)).2.1
    have HO5:Hid ((w4.setCell ⟨g,q2,none⟩ (.int .i64 (z+1:Nat))).ownsRow w.heap.size 3 1 (.slice (some ⟨g,0,none⟩) (q2+1) uc) (q2+1) (dZ .i64 (done2++ [z+1]))):=brZ HO4.out HQ4.out
    have HB5:Hid (Below w.heap.size w (w4.setCell ⟨g,q2,none⟩ (.int .i64 (z+1:Nat)))):=jZ hg0 HB4.out
    have u1:IntKind.i64.wrap (((q2+1:Nat):Int)-1)=(q2:Int):=(by rw[IntWalk.i64_in _ (by omega)];omega)
    have u1':IntKind.i64.wrap ((q2:Int)+1-1)=(q2:Int):=(by rw[IntWalk.i64_in _ (by omega)];omega)
    have u2:IntKind.i64.wrap ((z:Int)+1)=((z+1:Nat):Int):=(by rw[IntWalk.i64_in _ (by omega)];omega)
    have y0:(0:Int)<=(q2:Int):=(by omega)
    have y1:(q2:Int)<((q2+1:Nat):Int):=(by omega)
    go_wp2_with fail
    go_roundw
    case measure=>go_light;simp[intOf];omega
    case rel=>go_light;exact⟨k+1,q2+1,hx',done2++ [z+1],by omega,by omega,hxl,by first|rfl|go_num,by first|rfl|go_num,by show _=_;rw[List.length_append,HQ4.out];rfl, .inr ⟨by omega,done2,z+1,rfl,by omega,HGO.out⟩,HO5.out,HB5.out⟩
  ·obtain rfl:k=n:=by omega
   have HF:Hid (out=R):=by
    rcases HC.out with ⟨h1,h2,_⟩|⟨_,done,z,h2,_,h4⟩
    ·have e:=HR.out
     have e2:=HE.out
     rw[h1,List.drop_zero]at e2
     rw[e2,gdZ]at e
     rw[h2];exact e.symm
    ·rw[HE.out,goG]at h4
     rw[h2];exact h4
   clear HC
   go_wp2_with fail
   go_ret
   exact⟨_,rfl,by rw[<-HF.out,HQ.out];exact HO.out,HB.out⟩
end Go.Proofs.YtmlaajebadfkoaaGreatDoor.Recs
namespace Go.Proofs.YtmlaajebadfkoaaGreatDoor.Recs
open NumPut
def rjZ(d:Nat):Nat:=if d<9223372036854775808 then 2*d else 36893488147419103231-2*d
def juZ(a b:Nat):Nat:=(a+18446744073709551616-b) % 18446744073709551616
theorem coZ{d:Nat}(h:d<18446744073709551616):rjZ d<18446744073709551616:=by unfold rjZ;split<;>omega
theorem ywZ(a b:Nat):juZ a b<18446744073709551616:=Nat.mod_lt _ (by omega)
def jbZ(g:Nat->Nat->List Nat):Nat->List Nat->List Nat
 |_,[]=> []
 |was,t :: l=>g was t++jbZ g t l
theorem xsZ(g:Nat->Nat->List Nat):∀ (l:List Nat) (was t:Nat),jbZ g was (l++ [t])=jbZ g was l++g (l.getLast?.getD was) t
 | [],was,t=>by simp[jbZ]
 |x :: l,was,t=>by
  rw[List.cons_append,jbZ,xsZ g l x t,jbZ,List.append_assoc]
  have e:(x :: l).getLast?.getD was=l.getLast?.getD x:=by
   cases l with
   |nil=>rfl
   |cons z s=>simp[List.getLast?_cons]
  rw[e]
theorem yvZ{g:Nat->Nat->List Nat}(h:∀a b,(g a b).length<=10):∀ (l:List Nat) (was:Nat),(jbZ g was l).length<=10*l.length
 | [],_=>by simp[jbZ]
 |t :: l,was=>by
  have:=yvZ h l t
  have:=h was t
  rw[jbZ,List.length_append,List.length_cons]
  omega
theorem xyZ{g:Nat->Nat->List Nat}(h:∀a b,∀y∈g a b,y<=255):∀ (l:List Nat) (was:Nat),∀y∈jbZ g was l,y<=255
 | [],_,y,hy=>by simp[jbZ]at hy
 |t :: l,was,y,hy=>by
  rw[jbZ]at hy
  rcases List.mem_append.1 hy with hy|hy
  ·exact h was t y hy
  ·exact xyZ h l t y hy
def stepT(was t:Nat):List Nat:=iZ (rjZ (juZ t was))
theorem wkZb(a b:Nat):(stepT a b).length<=10:=mZ (coZ (ywZ b a))
theorem xnZb(a b:Nat):∀y∈stepT a b,y<=255:=fun y hy=>mbZ _ y hy
def lead(x:Nat):List Nat->Nat
 | []=>0
 |y :: t=>if y=x then lead x t+1 else 0
theorem wfZb(x:Nat):∀l,lead x l<=l.length
 | []=>by simp[lead]
 |y :: t=>by
  have:=wfZb x t
  rw[lead]
  split<;>simp<;>omega
theorem kiZ(x:Nat):∀ (l:List Nat) (j:Nat),(∀i,i<j->l[i]? =some x)->l[j]? ≠some x->lead x l=j
 | [],0,_,_=>rfl
 | [],j+1,h,_=>by have:=h 0 (by omega);simp at this
 |y :: t,0,_,h=>by
  rw[lead,if_neg]
  intro e
  exact h (by rw[e];rfl)
 |y :: t,j+1,h,h2=>by
  have:=h 0 (by omega)
  rw[lead,if_pos (by simpa using this),kiZ x t j (fun i hi=>by have:=h (i+1) (by omega);simpa using this) (by simpa using h2)]
def lvB:List Nat->List Nat
 | []=> []
 |x :: t=>x :: (iZ (lead x t+1)++lvB (t.drop (lead x t)))
termination_by l=>l.length
decreasing_by simp only[List.length_drop,List.length_cons];omega
def lvP:Option Nat->List Nat->List Nat
 |none,l=>lvB l
 |some p,l=>lvB (l.drop (lead p l))
theorem ynZb(x:Nat)(t:List Nat):lvP (some x) (x :: t)=lvP (some x) t:=by
 show lvB ((x :: t).drop (lead x (x :: t)))=lvB (t.drop (lead x t))
 rw[lead,if_pos rfl,List.drop_succ_cons]
theorem xfZb{p:Option Nat}{x:Nat}(t:List Nat)(h:p≠some x):lvP p (x :: t)=x :: (iZ (lead x t+1)++lvP (some x) t):=by
 cases p with
 |none=>unfold lvP;simp only;rw[lvB]
 |some q=>
  unfold lvP
  simp only
  rw[lead,if_neg (fun e=>h (by rw[e])),List.drop_zero,lvB]
theorem yfZb:∀ (n:Nat) (l:List Nat),l.length<=n->(∀x∈l,x<=255)->l.length<18446744073709551616->(lvB l).length<=11*l.length
 |_,[],_,_,_=>by rw[lvB];simp
 |n+1,x :: t,h,h8,h64=>by
  have hl:=wfZb x t
  simp only[List.length_cons]at h h64
  have:=mZ (x:=lead x t+1) (by omega)
  have ih:=yfZb n (t.drop (lead x t)) (by rw[List.length_drop];omega) (fun y hy=>h8 y (List.mem_cons_of_mem _ (List.mem_of_mem_drop hy))) (by rw[List.length_drop];omega)
  rw[List.length_drop]at ih
  rw[lvB]
  simp only[List.length_cons,List.length_append]
  omega
theorem xkZb:∀ (n:Nat) (l:List Nat),l.length<=n->(∀x∈l,x<=255)->∀y∈lvB l,y<=255
 |_,[],_,_,y,hy=>by rw[lvB]at hy;cases hy
 |n+1,x :: t,h,h8,y,hy=>by
  rw[lvB]at hy
  simp only[List.length_cons]at h
  rcases List.mem_cons.1 hy with rfl|hy
  ·exact h8 _ (by simp)
  ·rcases List.mem_append.1 hy with hy|hy
   ·exact mbZ _ y hy
   ·exact xkZb n (t.drop (lead x t)) (by rw[List.length_drop];omega) (fun y hy=>h8 y (List.mem_cons_of_mem _ (List.mem_of_mem_drop hy))) y hy
def fbZ(l:List Rec):List Nat:=l.map fun r=>r.time.toNat
def yZ(l:List Rec):List Nat:=l.map fun r=>r.level.toNat
def neZ(l:List Rec):List Nat:=jbZ stepT 0 (fbZ l)++lvB (yZ l)
theorem zvZ{l:List Rec}(h:∀r∈l,ccZ r):∀x∈yZ l,x<=255:=fun x hx=>by
 obtain⟨r,hr,rfl⟩:=List.mem_map.1 hx
 have:=h r hr
 obtain⟨_,_,h1,h2⟩:=this
 omega
theorem kuZ{l:List Rec}(h:∀r∈l,ccZ r):∀x∈neZ l,x<=255:=fun x hx=>by
 rcases List.mem_append.1 hx with hx|hx
 ·exact xyZ xnZb _ _ x hx
 ·exact xkZb _ _ (Nat.le_refl _) (zvZ h) x hx
theorem wkZ{l:List Rec}(h:∀r∈l,ccZ r)(hn:l.length<=1000000):(neZ l).length<=21*l.length:=by
 have h1:=yvZ wkZb (fbZ l) 0
 have h2:=yfZb _ (yZ l) (Nat.le_refl _) (zvZ h) (by unfold yZ;rw[List.length_map];omega)
 unfold fbZ at h1
 unfold yZ at h2
 rw[List.length_map]at h1 h2
 unfold neZ
 rw[List.length_append]
 unfold fbZ yZ
 omega
end Go.Proofs.YtmlaajebadfkoaaGreatDoor.Recs
namespace Go.Proofs.YtmlaajebadfkoaaGreatDoor.Opts
open Go.RowKit Mem
def sfZ(o:Opt):Int:=if(16<=o.block/\o.block<=32768)/\(1<=o.bucket/\o.bucket<=64)/\(o.data=0/\o.parity=0/\o.chunk=0)then 0 else 9
theorem wpZ{o:Opt}(h:sfZ o≠0):sfZ o=9:=by
 unfold sfZ at h ⊢
 split
 ·rename_i hc;rw[if_pos hc]at h;exact absurd rfl h
 ·rfl
def Opt.body(o:Opt):Opt:=⟨o.block,o.plain,o.bucket,0,0,0⟩
def hfZ(o:Opt):Int:=sfZ o.body
theorem qnZ(w:World)(o:Opt):
 Calls Tryz.prog 36 #[.int .i64 2,o.val] w fun e w'=>e= .returned (.int .i64 (sfZ o))/\Below w.heap.size w w':=by
 obtain⟨bl,pl,bu,da,pa,ch⟩:=o
 unfold Opt.val sfZ
 simp only
 have D:=hid (fun wx=>tpZ wx bl 16 32768)
 have DB:=hid (fun wx=>tpZ wx bu 1 64)
 have HE:=gqZb pl pl bl bl 0 0 da 0 pa 0 ch 0
 by_cases hb:16<=bl/\bl<=32768
 ·rw[decide_eq_true hb]at D
  by_cases hu:1<=bu/\bu<=64
  ·rw[decide_eq_true hu]at DB
   by_cases hz:da=0/\pa=0/\ch=0
   ·rw[if_pos ⟨hb,hu,hz⟩]
    have hd:decide (bl=bl/\pl=pl/\(0:Int)=0/\da=0/\pa=0/\ch=0)=true:=decide_eq_true ⟨rfl,rfl,rfl,hz⟩
    rw[hd]at HE
    clear hb hz hd hu
    go_enter Tryz.func36,Tryz.ntmps36
    go_wp2_with fail
    refine(D.out _).mono ?_
    rintro e w1 ⟨rfl,rfl⟩
    go_wp2_with fail
    refine(DB.out _).mono ?_
    rintro e w1 ⟨rfl,rfl⟩
    go_wp2_with fail
    go_ret
    exact⟨rfl,by(repeat(first|(with_reducible first|exact Below.refl _ _|assumption|refine Below.drew ?_|refine below_drewN ?_ _|refine aZ ?_|refine cZ (by assumption) ?_)|((with_reducible first|refine jZ ?_ ?_|refine eZ ?_ ?_|refine gZ (by assumption) ?_ ?_);(focus(first|(simp;done)|(simp;omega)|omega|(simp at *;omega))))))⟩
   ·rw[if_neg (fun h=>hz h.2.2)]
    have hd:decide (bl=bl/\pl=pl/\(0:Int)=0/\da=0/\pa=0/\ch=0)=false:=decide_eq_false (fun h=>hz h.2.2.2)
    rw[hd]at HE
    clear hb hz hd hu
    go_enter Tryz.func36,Tryz.ntmps36
    go_wp2_with fail
    refine(D.out _).mono ?_
    rintro e w1 ⟨rfl,rfl⟩
    go_wp2_with fail
    refine(DB.out _).mono ?_
    rintro e w1 ⟨rfl,rfl⟩
    go_wp2_with fail
    go_ret
    exact⟨rfl,by(repeat(first|(with_reducible first|exact Below.refl _ _|assumption|refine Below.drew ?_|refine below_drewN ?_ _|refine aZ ?_|refine cZ (by assumption) ?_)|((with_reducible first|refine jZ ?_ ?_|refine eZ ?_ ?_|refine gZ (by assumption) ?_ ?_);(focus(first|(simp;done)|(simp;omega)|omega|(simp at *;omega))))))⟩
  ·rw[decide_eq_false hu]at DB
   rw[if_neg (fun h=>hu h.2.1)]
   clear hb hu HE
   go_enter Tryz.func36,Tryz.ntmps36
   go_wp2_with fail
   refine(D.out _).mono ?_
   rintro e w1 ⟨rfl,rfl⟩
   go_wp2_with fail
   refine(DB.out _).mono ?_
   rintro e w1 ⟨rfl,rfl⟩
   go_wp2_with fail
   go_ret
   exact⟨rfl,by(repeat(first|(with_reducible first|exact Below.refl _ _|assumption|refine Below.drew ?_|refine below_drewN ?_ _|refine aZ ?_|refine cZ (by assumption) ?_)|((with_reducible first|refine jZ ?_ ?_|refine eZ ?_ ?_|refine gZ (by assumption) ?_ ?_);(focus(first|(simp;done)|(simp;omega)|omega|(simp at *;omega))))))⟩
 ·rw[decide_eq_false hb]at D
  rw[if_neg (fun h=>hb h.1)]
  clear hb HE DB
  go_enter Tryz.func36,Tryz.ntmps36
  go_wp2_with fail
  refine(D.out _).mono ?_
  rintro e w1 ⟨rfl,rfl⟩
  go_wp2_with fail
  go_ret
  exact⟨rfl,by(repeat(first|(with_reducible first|exact Below.refl _ _|assumption|refine Below.drew ?_|refine below_drewN ?_ _|refine aZ ?_|refine cZ (by assumption) ?_)|((with_reducible first|refine jZ ?_ ?_|refine eZ ?_ ?_|refine gZ (by assumption) ?_ ?_);(focus(first|(simp;done)|(simp;omega)|omega|(simp at *;omega))))))⟩
theorem kmZ(w:World)(o:Opt):
 Calls Tryz.prog 40 #[.int .i64 2,o.val] w fun e w'=>e= .returned (.int .i64 (sfZ o))/\Below w.heap.size w w':=by
 obtain⟨bl,pl,bu,da,pa,ch⟩:=o
 unfold Opt.val sfZ
 simp only
 by_cases h1:bl<16
 ·rw[if_neg (by omega)]
  have g1:decide (bl<16)=true:=by simpa using h1
  go_enter Tryz.func40,Tryz.ntmps40
  go_wp2_with fail
  go_ret
  exact⟨rfl,by(repeat(first|(with_reducible first|exact Below.refl _ _|assumption|refine Below.drew ?_|refine below_drewN ?_ _|refine aZ ?_|refine cZ (by assumption) ?_)|((with_reducible first|refine jZ ?_ ?_|refine eZ ?_ ?_|refine gZ (by assumption) ?_ ?_);(focus(first|(simp;done)|(simp;omega)|omega|(simp at *;omega))))))⟩
 have g1:decide (bl<16)=false:=by simpa using h1
 by_cases h2:32768<bl
 ·rw[if_neg (by omega)]
  have g2:decide (32768<bl)=true:=by simpa using h2
  clear h1
  go_enter Tryz.func40,Tryz.ntmps40
  go_wp2_with fail
  go_ret
  exact⟨rfl,by(repeat(first|(with_reducible first|exact Below.refl _ _|assumption|refine Below.drew ?_|refine below_drewN ?_ _|refine aZ ?_|refine cZ (by assumption) ?_)|((with_reducible first|refine jZ ?_ ?_|refine eZ ?_ ?_|refine gZ (by assumption) ?_ ?_);(focus(first|(simp;done)|(simp;omega)|omega|(simp at *;omega))))))⟩
 have g2:decide (32768<bl)=false:=by simpa using h2
 by_cases h3:bu<1
 ·rw[if_neg (by omega)]
  have g3:decide (bu<1)=true:=by simpa using h3
  clear h1 h2
  go_enter Tryz.func40,Tryz.ntmps40
  go_wp2_with fail
  go_ret
  exact⟨rfl,by(repeat(first|(with_reducible first|exact Below.refl _ _|assumption|refine Below.drew ?_|refine below_drewN ?_ _|refine aZ ?_|refine cZ (by assumption) ?_)|((with_reducible first|refine jZ ?_ ?_|refine eZ ?_ ?_|refine gZ (by assumption) ?_ ?_);(focus(first|(simp;done)|(simp;omega)|omega|(simp at *;omega))))))⟩
 have g3:decide (bu<1)=false:=by simpa using h3
 by_cases h4:64<bu
 ·rw[if_neg (by omega)]
  have g4:decide (64<bu)=true:=by simpa using h4
  clear h1 h2 h3
  go_enter Tryz.func40,Tryz.ntmps40
  go_wp2_with fail
  go_ret
  exact⟨rfl,by(repeat(first|(with_reducible first|exact Below.refl _ _|assumption|refine Below.drew ?_|refine below_drewN ?_ _|refine aZ ?_|refine cZ (by assumption) ?_)|((with_reducible first|refine jZ ?_ ?_|refine eZ ?_ ?_|refine gZ (by assumption) ?_ ?_);(focus(first|(simp;done)|(simp;omega)|omega|(simp at *;omega))))))⟩
 have g4:decide (64<bu)=false:=by simpa using h4
 by_cases h5:da=0
 ·by_cases h6:pa=0
  ·by_cases h7:ch=0
   ·rw[if_pos ⟨by omega,by omega,h5,h6,h7⟩]
    subst h5 h6 h7
    clear h1 h2 h3 h4
    go_enter Tryz.func40,Tryz.ntmps40
    go_wp2_with fail
    go_ret
    exact⟨rfl,by(repeat(first|(with_reducible first|exact Below.refl _ _|assumption|refine Below.drew ?_|refine below_drewN ?_ _|refine aZ ?_|refine cZ (by assumption) ?_)|((with_reducible first|refine jZ ?_ ?_|refine eZ ?_ ?_|refine gZ (by assumption) ?_ ?_);(focus(first|(simp;done)|(simp;omega)|omega|(simp at *;omega))))))⟩
   ·rw[if_neg (by omega)]
    have g7:(ch != 0)=true:=by simpa using h7
    subst h5 h6
    clear h1 h2 h3 h4 h7
    go_enter Tryz.func40,Tryz.ntmps40
    go_wp2_with fail
    go_ret
    exact⟨rfl,by(repeat(first|(with_reducible first|exact Below.refl _ _|assumption|refine Below.drew ?_|refine below_drewN ?_ _|refine aZ ?_|refine cZ (by assumption) ?_)|((with_reducible first|refine jZ ?_ ?_|refine eZ ?_ ?_|refine gZ (by assumption) ?_ ?_);(focus(first|(simp;done)|(simp;omega)|omega|(simp at *;omega))))))⟩
  ·rw[if_neg (by omega)]
   have g6:(pa != 0)=true:=by simpa using h6
   subst h5
   clear h1 h2 h3 h4 h6
   go_enter Tryz.func40,Tryz.ntmps40
   go_wp2_with fail
   go_ret
   exact⟨rfl,by(repeat(first|(with_reducible first|exact Below.refl _ _|assumption|refine Below.drew ?_|refine below_drewN ?_ _|refine aZ ?_|refine cZ (by assumption) ?_)|((with_reducible first|refine jZ ?_ ?_|refine eZ ?_ ?_|refine gZ (by assumption) ?_ ?_);(focus(first|(simp;done)|(simp;omega)|omega|(simp at *;omega))))))⟩
 ·rw[if_neg (by omega)]
  have g5:(da != 0)=true:=by simpa using h5
  clear h1 h2 h3 h4 h5
  go_enter Tryz.func40,Tryz.ntmps40
  go_wp2_with fail
  go_ret
  exact⟨rfl,by(repeat(first|(with_reducible first|exact Below.refl _ _|assumption|refine Below.drew ?_|refine below_drewN ?_ _|refine aZ ?_|refine cZ (by assumption) ?_)|((with_reducible first|refine jZ ?_ ?_|refine eZ ?_ ?_|refine gZ (by assumption) ?_ ?_);(focus(first|(simp;done)|(simp;omega)|omega|(simp at *;omega))))))⟩
theorem xpZ(w:World)(o:Opt):
 Calls Tryz.prog 43 #[o.val] w fun e w'=>e= .returned (.int .i64 (hfZ o))/\Below w.heap.size w w':=by
 have D:=hid (fun wx=>qnZ wx o.body)
 unfold hfZ
 obtain⟨bl,pl,bu,da,pa,ch⟩:=o
 unfold Opt.body Opt.val at D
 unfold Opt.val Opt.body
 simp only at D ⊢
 generalize sfZ ⟨bl,pl,bu,0,0,0⟩=E at *
 go_enter Tryz.func43,Tryz.ntmps43
 go_wp2_with fail
 refine(D.out _).mono ?_
 rintro e w1 ⟨rfl,hb⟩
 have HB:=hid hb
 clear hb D
 go_wp2_with fail
 go_ret
 exact⟨rfl,cZ HB.out (aZ (Below.refl _ _))⟩
theorem rnZ(w:World)(o:Opt):
 Calls Tryz.prog 50 #[o.val] w fun e w'=>e= .returned (.int .i64 (hfZ o))/\Below w.heap.size w w':=by
 have D:=hid (fun wx=>kmZ wx o.body)
 unfold hfZ
 obtain⟨bl,pl,bu,da,pa,ch⟩:=o
 unfold Opt.body Opt.val at D
 unfold Opt.val Opt.body
 simp only at D ⊢
 generalize sfZ ⟨bl,pl,bu,0,0,0⟩=E at *
 go_enter Tryz.func50,Tryz.ntmps50
 go_wp2_with fail
 refine(D.out _).mono ?_
 rintro e w1 ⟨rfl,hb⟩
 have HB:=hid hb
 clear hb D
 go_wp2_with fail
 go_ret
 exact⟨rfl,cZ HB.out (aZ (Below.refl _ _))⟩
end Go.Proofs.YtmlaajebadfkoaaGreatDoor.Opts
