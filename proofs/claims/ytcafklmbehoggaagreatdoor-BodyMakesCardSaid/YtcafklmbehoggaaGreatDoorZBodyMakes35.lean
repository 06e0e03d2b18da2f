/- Small steps of an archive of version 1: its mark, its flag; the plain  -/
import Derived.Test.YtcafklmbehoggaaGreatDoorZBodyMakes28
import Derived.Test.YtcafklmbehoggaaGreatDoorZBodyMakes27
import Derived.Test.YtcafklmbehoggaaGreatDoorZBodyMakes3
import Derived.Test.YtcafklmbehoggaaGreatDoorZBodyMakes34
import Derived.Test.YtcafklmbehoggaaGreatDoorZBodyMakes31
import Derived.Test.YtcafklmbehoggaaGreatDoorZBodyMakes29
import Derived.Lib.SmallJoins
import Derived.Deep.DeepCutAuto
namespace Go.Proofs.YtcafklmbehoggaaGreatDoor end Go.Proofs.YtcafklmbehoggaaGreatDoor open Go.Proofs.YtcafklmbehoggaaGreatDoor
set_option maxHeartbeats 8000000
set_option maxRecDepth 100000
namespace Go.Proofs.YtcafklmbehoggaaGreatDoor.One
open Go.RowKit Mem Own Canon NumPut Crc
open Recs Opts
open Go.Proofs.YtcafklmbehoggaaGreatDoor.Block (frameB WPost kZ dhZ)
theorem vpZ(S:Nat):∀ (t:List Nat) (h c:Nat),(goG S h c t).sum=c+t.length
 | [],_,c=>by simp[goG]
 |x :: t,h,c=>by
  rw[goG]
  split
  ·rw[List.sum_cons,vpZ S t];simp;omega
  ·rw[vpZ S t];simp;omega
theorem wpZ(S:Nat):∀ (t:List Nat) (h c:Nat),1≤c→∀x∈goG S h c t,1≤x
 | [],_,c,hc,x,hx=>by rw[goG,List.mem_singleton]at hx;omega
 |y :: t,h,c,hc,x,hx=>by
  rw[goG]at hx
  split at hx
  ·rcases List.mem_cons.1 hx with rfl|hx
   ·exact hc
   ·exact wpZ S t _ 1 (by omega) x hx
  ·exact wpZ S t _ (c+1) (by omega) x hx
theorem ojZ(S:Nat)(l:List Nat):(groupsP S l).sum=l.length:=by
 cases l with
 |nil=>rfl
 |cons x t=>rw[groupsP,vpZ];simp;omega
theorem tfZ(S:Nat)(l:List Nat):∀x∈groupsP S l,1≤x:=by
 cases l with
 |nil=>intro x hx;cases hx
 |cons y t=>exact wpZ S t y 1 (by omega)
theorem pjZ:∀ {l:List Nat},(∀x∈l,1≤x)→l.length≤l.sum
 | [],_=>by simp
 |x :: l,h=>by
  have h1:=h x (by simp)
  have h2:=pjZ (l:=l) (fun y hy=>h y (by simp[hy]))
  rw[List.length_cons,List.sum_cons]
  omega
theorem pgZ(wh:Bool)(l:List Rec):(lensB wh l).length=l.length:=by unfold lensB;rw[List.length_map]
end Go.Proofs.YtcafklmbehoggaaGreatDoor.One
namespace Go.Proofs.YtcafklmbehoggaaGreatDoor.One
open Go.RowKit Mem Own Canon NumPut Crc
open Recs Opts
open Go.Proofs.YtcafklmbehoggaaGreatDoor.Block (frameB WPost kZ xeZ dhZ)
theorem zeZ{l:List Rec}(h:chkE l=0):∀r∈l,longB r=false:=by
 unfold chkE at h
 split at h
 ·cases h
 ·split at h
  ·cases h
  ·rename_i h1
   intro r hr
   cases hb:longB r
   ·rfl
   ·exact absurd (List.any_eq_true.2 ⟨r,hr,hb⟩) h1
theorem hhZ{l:List Rec}{m i:Nat}(h:i<m)(j:Nat):recF (l.take m) i j=recF l i j:=by
 have e:(l.take m).getD i recd=l.getD i recd:=by
  rw[List.getD_eq_getElem?_getD,List.getD_eq_getElem?_getD,List.getElem?_take,if_pos h]
 unfold recF
 rw[e]
theorem ufZ(l:List Rec)(k i j:Nat):recF l (k+i) j=recF (l.drop k) i j:=by
 have e:(l.drop k).getD i recd=l.getD (k+i) recd:=by
  rw[List.getD_eq_getElem?_getD,List.getD_eq_getElem?_getD,List.getElem?_drop]
 unfold recF
 rw[e]
theorem mkZ(wh:Bool){l l':List Rec}(h:l.Sublist l'):(bytesB wh l).length≤(bytesB wh l').length:=by
 induction h with
 |slnil=>exact Nat.le_refl _
 |cons a _ ih=>unfold bytesB at *;rw[List.flatMap_cons,List.length_append];omega
 |cons_cons a _ ih=>unfold bytesB at *;rw[List.flatMap_cons,List.flatMap_cons,List.length_append,List.length_append];omega
theorem yrZ{bs:List Nat}(plain:Bool)(h:bs.length≤16000):(frameB bs plain).length≤bs.length+25:=by
 have hb:(Block.fBody bs plain).length≤bs.length:=by
  unfold Block.fBody
  split
  ·rename_i hc
   rw[Bool.and_eq_true]at hc
   have h2:=hc.2
   unfold Block.sqz at h2
   simp at h2
   omega
  ·omega
 have h1:=lZ (x:=bs.length) (by omega)
 have h2:=lZ (x:=(Block.fBody bs plain).length) (by omega)
 unfold frameB Block.fAll Block.fHead
 simp only[List.length_append,List.length_singleton]
 have:(tailN (sumN (([Block.fWay bs plain]++numB bs.length++numB (Block.fBody bs plain).length)++Block.fBody bs plain))).length=4:=rfl
 omega
theorem nkZ(wh:Bool)(l:List Rec)(m:Nat):(bytesB wh (l.take m)).length+(bytesB wh (l.drop m)).length=(bytesB wh l).length:=by
 conv=>rhs;rw[←List.take_append_drop m l]
 unfold bytesB
 rw[List.flatMap_append,List.length_append]
end Go.Proofs.YtcafklmbehoggaaGreatDoor.One
namespace Go.Proofs.YtcafklmbehoggaaGreatDoor.One
open Go.RowKit Mem Own Canon NumPut Crc
open Recs Opts
open Go.Proofs.YtcafklmbehoggaaGreatDoor.Block (frameB WPost kZ xeZ yoZ own_one)
def FrsAt(w:World)(base:Nat)(ps:List Part):Prop:=∀p∈ps,w.ownsRow base 5 1 p.v p.ls.length (numL .u8 p.ls)
theorem FrsAt.step{w w':World}{base:Nat}{ps:List Part}(h:FrsAt w base ps)(hb:Below w.heap.size w w'):FrsAt w' base ps:=fun p hp=>eZ (h p hp) (fun y hy=>hb.block y (World.ownsRow.lt (h p hp) y hy).2)
theorem yZ{w w':World}{base base' s s' n n':Nat}{e e':TypeId}{v v':Value}{xs xs':List Value}(h:w.ownsRow base e s v n xs)(ho:w.ownsRow base' e' s' v' n' xs')(hne:e≠e')(hg:w.grownBy w' v'.ownBlock):w'.ownsRow base e s v n xs:=
 eZ h (fun y hy=>hg.block y (World.ownsRow.lt h y hy).2 (fun e=>by
  rcases zZ h ho hne with h0|h0
  ·rw[h0]at hy;cases hy
  ·exact h0 (hy.trans e)))
theorem FrsAt.grown{w w':World}{base base' n:Nat}{v:Value}{xs:List Value}{ps:List Part}(h:FrsAt w base ps)(ho:w.ownsRow base' 29 1 v n xs)(hg:w.grownBy w' v.ownBlock):FrsAt w' base ps:=fun p hp=>
 yZ (h p hp) ho (by decide) hg
theorem FrsAt.snoc{w:World}{base:Nat}{ps:List Part}{p:Part}(h:FrsAt w base ps)(hp:w.ownsRow base 5 1 p.v p.ls.length (numL .u8 p.ls)):FrsAt w base (ps++ [p]):=fun q hq=>by
 rcases List.mem_append.1 hq with hq|hq
 ·exact h q hq
 ·rw[List.mem_singleton.1 hq];exact hp
theorem agZ:(Tryz.prog.info? 29).map (fun i=>(i.zero,i.size,i.bytes))=some (some (.slice none 0 0),1,24):=by kernel_rfl
end Go.Proofs.YtcafklmbehoggaaGreatDoor.One
namespace Go.Proofs.YtcafklmbehoggaaGreatDoor.One
open Go.RowKit Mem Own Canon NumPut Crc
open Recs Opts
open Go.Proofs.YtcafklmbehoggaaGreatDoor.Block (frameB kZ)
theorem lyZ{fs:List (List Nat)}{x:List Nat}(h:x∈fs):x.length≤fs.flatten.length:=by
 induction fs with
 |nil=>cases h
 |cons y t ih=>
  rw[List.flatten_cons,List.length_append]
  rcases List.mem_cons.1 h with rfl|h
  ·omega
  ·have:=ih h;omega
end Go.Proofs.YtcafklmbehoggaaGreatDoor.One
namespace Go.Proofs.YtcafklmbehoggaaGreatDoor.One
open Go.RowKit Mem Own Canon NumPut Crc
open Recs Opts
open Go.Proofs.YtcafklmbehoggaaGreatDoor.Block (frameB kZ)
theorem jnZ{l:List Rec}(h:chkE l≠0):chkE l=6:=by
 unfold chkE at h ⊢
 split
 ·rfl
 ·split
  ·rfl
  ·split
   ·rfl
   ·rename_i h1 h2 h3
    rw[if_neg h1,if_neg h2,if_neg h3]at h
    exact absurd rfl h
end Go.Proofs.YtcafklmbehoggaaGreatDoor.One
namespace Go.Proofs.YtcafklmbehoggaaGreatDoor.Body
open Recs Opts Crc Idx
open Go.Proofs.YtcafklmbehoggaaGreatDoor.NumPut (numB lZ sZ)
open Go.Proofs.YtcafklmbehoggaaGreatDoor.Block (frameB)
open Go.Proofs.YtcafklmbehoggaaGreatDoor.One (ojZ tfZ pjZ pgZ)
def framesW(wh pl:Bool):List Nat→List Rec→List (List Nat)
 | [],_=> []
 |c :: t,l=>frameB (bytesB wh (l.take c)) pl :: framesW wh pl t (l.drop c)
def countsF(o:Opt)(l:List Rec):List Nat:=groupsP o.block.toNat (lensB false l)
def pairsP:List Nat→List Nat→List Nat
 |a :: g,b :: s=>numB a++(numB b++pairsP g s)
 |_,_=> []
def putC(b:List Nat):List Nat:=b++tailN (sumN b)
def dirP(n:Nat)(G S:List Nat)(x y:Nat):List Nat:=numB n++(numB G.length++(pairsP G S++(numB x++numB y)))
def joinP(n:Nat)(G:List Nat)(FS:List (List Nat))(cols idx:List Nat):List Nat:=
 FS.flatten++(putC cols++(putC idx++(putC (dirP n G (FS.map List.length) (putC cols).length (putC idx).length)++fix4 (putC (dirP n G (FS.map List.length) (putC cols).length (putC idx).length)).length)))
def ixR(o:Opt)(l:List Rec):List Nat:=ixO o.bucket.toNat l.length (allT (l.map termsR)) ((allT (l.map termsR)).map (idsT (l.map termsR)))
def makeB(o:Opt)(l:List Rec):List Nat:=joinP l.length (countsF o l) (framesW false o.plain (countsF o l) l) (colsB l) (ixR o l)
theorem jbZ(b:List Nat):(putC b).length=b.length+4:=by unfold putC;rw[List.length_append];rfl
theorem xpZ{b:List Nat}(h:∀x∈b,x≤255):∀x∈putC b,x≤255:=fun x hx=>by
 rcases List.mem_append.1 hx with hx|hx
 ·exact h x hx
 ·have:=uoZ _ x hx;omega
theorem cmZ:∀ (g s:List Nat) (a b:Nat),g.length=s.length→pairsP (g++ [a]) (s++ [b])=pairsP g s++(numB a++numB b)
 | [],[],a,b,_=>by simp[pairsP]
 |x :: g,y :: s,a,b,h=>by
  rw[List.cons_append,List.cons_append,pairsP,cmZ g s a b (by simpa using h),pairsP]
  simp only[List.append_assoc]
 | [],_ :: _,_,_,h=>by simp at h
 |_ :: _,[],_,_,h=>by simp at h
theorem dmZ{g s:List Nat}{k a b:Nat}(ha:g[k]? =some a)(hb:s[k]? =some b):pairsP (g.take (k+1)) (s.take (k+1))=pairsP (g.take k) (s.take k)++(numB a++numB b):=by
 obtain⟨hk,_⟩:=List.getElem?_eq_some_iff.1 ha
 obtain⟨hk2,_⟩:=List.getElem?_eq_some_iff.1 hb
 rw[List.take_add_one,ha,List.take_add_one,hb]
 exact cmZ _ _ a b (by rw[List.length_take,List.length_take];omega)
theorem zoZ:∀ (g s:List Nat),(∀x∈g,x<18446744073709551616)→(∀x∈s,x<18446744073709551616)→(pairsP g s).length≤20*g.length
 | [],_,_,_=>by simp[pairsP]
 |_ :: _,[],_,_=>by simp[pairsP]
 |x :: g,y :: s,h1,h2=>by
  have a:=lZ (h1 x List.mem_cons_self)
  have b:=lZ (h2 y List.mem_cons_self)
  have c:=zoZ g s (fun z hz=>h1 z (List.mem_cons_of_mem _ hz)) (fun z hz=>h2 z (List.mem_cons_of_mem _ hz))
  rw[pairsP,List.length_append,List.length_append,List.length_cons]
  omega
theorem zrZ:∀ (g s:List Nat),∀x∈pairsP g s,x≤255
 | [],_,x,h=>by simp[pairsP]at h
 |_ :: _,[],x,h=>by simp[pairsP]at h
 |a :: g,b :: s,x,h=>by
  rw[pairsP]at h
  rcases List.mem_append.1 h with h|h
  ·exact sZ _ x h
  ·rcases List.mem_append.1 h with h|h
   ·exact sZ _ x h
   ·exact zrZ g s x h
theorem ypZ(n:Nat)(G S:List Nat)(x y:Nat):∀z∈dirP n G S x y,z≤255:=fun z h=>by
 unfold dirP at h
 simp only[List.mem_append]at h
 rcases h with h|h|h|h|h
 ·exact sZ _ z h
 ·exact sZ _ z h
 ·exact zrZ _ _ z h
 ·exact sZ _ z h
 ·exact sZ _ z h
theorem hgZb{n:Nat}{G S:List Nat}{x y:Nat}(hn:n≤1000000000)(hg:G.length≤1000000000)(h1:∀z∈G,z≤1000000000)(h2:∀z∈S,z≤1000000000)(hx:x≤1000000000)(hy:y≤1000000000):(dirP n G S x y).length≤40+20*G.length:=by
 have a:=lZ (x:=n) (by omega)
 have b:=lZ (x:=G.length) (by omega)
 have c:=lZ (x:=x) (by omega)
 have d:=lZ (x:=y) (by omega)
 have e:=zoZ G S (fun z hz=>by have:=h1 z hz;omega) (fun z hz=>by have:=h2 z hz;omega)
 unfold dirP
 simp only[List.length_append]
 omega
theorem afZ(wh pl:Bool):∀ (cs:List Nat) (l:List Rec),(framesW wh pl cs l).length=cs.length
 | [],_=>rfl
 |c :: t,l=>by rw[framesW,List.length_cons,afZ wh pl t,List.length_cons]
theorem qhZ(wh pl:Bool):∀ (cs:List Nat) (l:List Rec),(bytesB wh l).length≤16000→(framesW wh pl cs l).flatten.length≤(bytesB wh l).length+25*cs.length
 | [],_,_=>by simp[framesW]
 |c :: t,l,h=>by
  have hs:=One.nkZ wh l c
  have ih:=qhZ wh pl t (l.drop c) (by omega)
  have hf:=One.yrZ (bs:=bytesB wh (l.take c)) pl (by omega)
  rw[framesW,List.flatten_cons,List.length_append,List.length_cons]
  omega
theorem rhZ(o:Opt)(l:List Rec):(countsF o l).sum=l.length:=by unfold countsF;rw[ojZ,pgZ]
theorem shZ(o:Opt)(l:List Rec):(countsF o l).length≤l.length:=by
 have:=pjZ (tfZ o.block.toNat (lensB false l))
 rw[ojZ,pgZ]at this
 exact this
theorem apZ:∀ {l:List Nat} {x:Nat},x∈l→x≤l.sum
 |y :: t,x,h=>by
  rw[List.sum_cons]
  rcases List.mem_cons.1 h with rfl|h
  ·omega
  ·have:=apZ h;omega
end Go.Proofs.YtcafklmbehoggaaGreatDoor.Body
namespace Go.Proofs.YtcafklmbehoggaaGreatDoor.Body
open Go.RowKit Mem Own Canon Recs
open NumPut
open Go.Proofs.YtcafklmbehoggaaGreatDoor.Block (kZ)
theorem igZb{l:List Nat}{k x:Nat}(h:l[k]? =some x):(l.take (k+1)).sum=(l.take k).sum+x:=by
 rw[List.take_add_one,h]
 simp
theorem swZ(l:List Nat)(k:Nat):(l.take k).sum≤l.sum:=by
 conv=>rhs;rw[←List.take_append_drop k l]
 rw[List.sum_append]
 omega
theorem sum_any(w:World)(A:Option Addr)(n c:Nat)(ls:List Nat)(hn:ls.length=n)(hN:n≤1000000)(hs:ls.sum≤1000000000)(ha:Row w w.heap.size A n 1 (numF .i64 ls)):
 Calls Tryz.prog 56 #[.slice A n c] w fun e w'=>e= .returned (.int .i64 (ls.sum:Nat))∧w'=w:=by
 have HN:=Lib.hid hn
 obtain⟨R,hR⟩:∃R,R=ls.sum:=⟨_,rfl⟩
 have HR:=Lib.hid hR
 rw[←hR]at hs ⊢
 clear hn hR
 go_enter Tryz.func56,Tryz.ntmps56
 go_wp2_with fail
 go_loopw [3,8] (fun sv iv wx=>∃k s:Nat,k≤n∧s≤R∧iv= .int .i64 k∧sv= .int .i64 s∧Hid (s=(ls.take k).sum)∧wx=w) (fun _ iv _=>n-(intOf iv).toNat)
 case atStart=>exact⟨0,0,by omega,by omega,rfl,rfl,rfl,rfl⟩
 case round=>
  obtain⟨k,s,hk,hsR,rfl,rfl,HS,rfl⟩:=hrel
  by_cases hlt:k<n
  ·have gk:decide ((k:Int)<(n:Int))=true:=by simp;omega
   have gk':decide (k<n)=true:=by simp;omega
   have x0:(0:Int)≤(k:Int):=by omega
   have x1:(k:Int)<(n:Int):=by omega
   obtain⟨b,off,x,rfl,_,hx,ck⟩:=qZ ha HN.out hlt
   have hst:=igZb hx
   have hle:=swZ ls (k+1)
   rw[hst,←HS.out,←HR.out]at hle
   have HS2:Hid (s+x=(ls.take (k+1)).sum):=by show _=_;rw[hst,HS.out]
   have s1:IntKind.i64.wrap ((s:Int)+(x:Int))=((s+x:Nat):Int):=by rw[IntWalk.i64_in _ (by omega)];omega
   clear hst hx HS
   go_wp2_with fail
   go_roundw
   case measure=>go_light;simp[intOf];omega
   case rel=>go_light;exact⟨k+1,s+x,by omega,hle,by first|rfl|go_num,by first|rfl|go_num,HS2.out,by first|rfl|trivial⟩
  ·obtain rfl:k=n:=by omega
   have gk:decide ((k:Int)<(k:Int))=false:=by simp
   have gk':decide (k<k)=false:=by simp
   have hsr:s=R:=by rw[HS.out,HR.out,List.take_of_length_le (by rw[HN.out];exact Nat.le_refl _)]
   subst hsr
   clear HS HR hlt
   go_wp2_with fail
   go_ret
   exact⟨rfl,rfl⟩
theorem zuZ(w:World)(db g cG cS x y base:Nat)(AG AS:Option Addr)(G S:List Nat)(hg:G.length=g)(hs:S.length=g)(hgl:g≤20000)(hG:G.sum≤1000000000)(hS:∀z∈S,z≤1000000000)(hx:x≤1000000000)(hy:y≤1000000000)
 (hb:Blk w db 72 #[.slice AG g cG, .slice AS g cS, .int .i64 (x:Nat), .int .i64 (y:Nat)])(hrG:Row w base AG g 1 (numF .i64 G))(hrS:Row w base AS g 1 (numF .i64 S))(hbase:base≤w.heap.size):
 Calls Tryz.prog 41 #[.pointer (some ⟨db,0,none⟩)] w fun e w'=>∃v,e= .returned v∧w'.ownsRow w.heap.size 5 1 v (dirP G.sum G S x y).length (numL .u8 (dirP G.sum G S x y))∧Below w.heap.size w w':=by
 have DS:=Lib.hid (fun wx (h:Below w.heap.size w wx)=>sum_any wx AG g cG G hg (by omega) hG (((hrG.mono hbase).below h).mono h.size))
 have D1:=Lib.hid (fun wx=>gbZ wx G.sum (by omega))
 have D2:=Lib.hid (fun wx=>gbZ wx g (by omega))
 have l1:=lZ (x:=G.sum) (by omega)
 have l2:=lZ (x:=g) (by omega)
 have hDP:dirP G.sum G S x y=numB G.sum++(numB g++(pairsP G S++(numB x++numB y))):=by unfold dirP;rw[hg]
 obtain⟨s,hss⟩:∃s,s=G.sum:=⟨_,rfl⟩
 rw[←hss]at DS D1 l1 hG hDP ⊢
 have HDP:=Lib.hid hDP
 have u1:IntKind.u64.wrap (s:Int)=(s:Int):=by rw[IntKind.wrap_u64];omega
 have u2:IntKind.u64.wrap (g:Int)=(g:Int):=by rw[IntKind.wrap_u64];omega
 have hGl:∀z∈G,z≤1000000000:=fun z hz=>Nat.le_trans (apZ hz) (by omega)
 have HGL:=Lib.hid hGl
 have HSL:=Lib.hid hS
 have HG:=Lib.hid hg
 have HS:=Lib.hid hs
 have HRG:Hid (Row w base AG g 1 (numF .i64 G)):=hrG
 have HRS:Hid (Row w base AS g 1 (numF .i64 S)):=hrS
 have HBK:=Lib.hid hb
 have HC:Hid (∀wx,Below w.heap.size w wx→wx.cell? ⟨db,0,none⟩=some (.slice AG g cG)):=fun wx h=>(hb.step h).cell 0
 have HSS:=Lib.hid hss
 have c0:=hb.cell 0
 have hdb:=hb.lt
 simp only[List.getElem?_toArray,List.getElem?_cons_zero]at c0
 clear hg hs hS hDP hb hrG hrS hGl hss
 generalize numB s=N1 at *
 generalize numB g=N2 at *
 have hs2:∀a1 a2 a3 a4,sumL [(⟨a1,a2,N1⟩:Part),⟨a3,a4,N2⟩]≤1000000:=fun _ _ _ _=>by simp[sumL];omega
 go_enter Tryz.func41,Tryz.ntmps41
 go_upto_region 1 with fail
 go_cut [3] (fun v wx=>Hid (wx.ownsRow w.heap.size 5 1 v (N1.length+N2.length) (numL .u8 (N1++N2)))∧Hid (Below w.heap.size w wx))
 case first=>
  go_region_held3 (fun wx=>wx.cell? ⟨db,0,none⟩=some (.slice AG g cG)) (first|exact HC.out _ ((Below.refl _ _).drew)|(refine HC.out _ ?_;(repeat (first|(with_reducible exact Below.refl _ _)|(with_reducible assumption)|(with_reducible refine Below.drew ?_)|(with_reducible refine dZ ?_ _)|((with_reducible refine iZ ?_ ?_);(focus (first|(simp;done)|(simp;omega)|omega|(simp at *;omega))))|(with_reducible refine bZ ?_)|(with_reducible refine cZ (by assumption) ?_)|((with_reducible refine fZ ?_ ?_);(focus (first|(simp;done)|(simp;omega)|omega|(simp at *;omega))))|((with_reducible refine hZ (by assumption) ?_ ?_);(focus (first|(simp;done)|(simp;omega)|omega|(simp at *;omega)))))))) (first|(go_at_call 56;(with_reducible refine(DS.out _ (by(repeat (first|(with_reducible exact Below.refl _ _)|(with_reducible assumption)|(with_reducible refine Below.drew ?_)|(with_reducible refine dZ ?_ _)|((with_reducible refine iZ ?_ ?_);(focus (first|(simp;done)|(simp;omega)|omega|(simp at *;omega))))|(with_reducible refine bZ ?_)|(with_reducible refine cZ (by assumption) ?_)|((with_reducible refine fZ ?_ ?_);(focus (first|(simp;done)|(simp;omega)|omega|(simp at *;omega))))|((with_reducible refine hZ (by assumption) ?_ ?_);(focus (first|(simp;done)|(simp;omega)|omega|(simp at *;omega)))))))).mono ?_);rintro e wF ⟨rfl,rfl⟩)|(go_at_call 83;first|((with_reducible refine(D1.out _).mono ?_);rintro e wA ⟨vA,rfl,hoA,hbA⟩;obtain⟨AA,cA,rfl⟩:=aZ hoA;have PA:Part.Ok (⟨AA,cA,N1⟩:Part) wA:=kZ hoA rfl)|((with_reducible refine(D2.out _).mono ?_);rintro e wB ⟨vB,rfl,hoB,hbB⟩;obtain⟨AB,cB,rfl⟩:=aZ hoB;have PB:Part.Ok (⟨AB,cB,N2⟩:Part) wB:=kZ hoB rfl))|(go_at_call 43;(refine(rbZ _ _ 2 [(⟨AA,cA,N1⟩:Part),(⟨AB,cB,N2⟩:Part)] rfl (by omega) (hs2 _ _ _ _) (fun p hp=>by{rcases List.mem_cons.1 hp with rfl|hp;exact PA.step (by(repeat (first|(with_reducible exact Below.refl _ _)|(with_reducible assumption)|(with_reducible refine Below.drew ?_)|(with_reducible refine dZ ?_ _)|((with_reducible refine iZ ?_ ?_);(focus (first|(simp;done)|(simp;omega)|omega|(simp at *;omega))))|(with_reducible refine bZ ?_)|(with_reducible refine cZ (by assumption) ?_)|((with_reducible refine fZ ?_ ?_);(focus (first|(simp;done)|(simp;omega)|omega|(simp at *;omega))))|((with_reducible refine hZ (by assumption) ?_ ?_);(focus (first|(simp;done)|(simp;omega)|omega|(simp at *;omega)))))));rcases List.mem_cons.1 hp with rfl|hp;exact PB.step (by(repeat (first|(with_reducible exact Below.refl _ _)|(with_reducible assumption)|(with_reducible refine Below.drew ?_)|(with_reducible refine dZ ?_ _)|((with_reducible refine iZ ?_ ?_);(focus (first|(simp;done)|(simp;omega)|omega|(simp at *;omega))))|(with_reducible refine bZ ?_)|(with_reducible refine cZ (by assumption) ?_)|((with_reducible refine fZ ?_ ?_);(focus (first|(simp;done)|(simp;omega)|omega|(simp at *;omega))))|((with_reducible refine hZ (by assumption) ?_ ?_);(focus (first|(simp;done)|(simp;omega)|omega|(simp at *;omega)))))));cases hp}) (by first|exact Blk.made _ _ _|exact Blk.made_at _ _ _ (by simp)|exact Blk.drew (Blk.made _ _ _)|exact Blk.drew (Blk.made_at _ _ _ (by simp)))).mono ?_);rintro e w7 ⟨v7,rfl,ho7,hb7⟩;obtain⟨A7,c7,rfl⟩:=aZ ho7;have B7:Below w.heap.size w w7:=cZ hb7 (by(repeat (first|(with_reducible exact Below.refl _ _)|(with_reducible assumption)|(with_reducible refine Below.drew ?_)|(with_reducible refine dZ ?_ _)|((with_reducible refine iZ ?_ ?_);(focus (first|(simp;done)|(simp;omega)|omega|(simp at *;omega))))|(with_reducible refine bZ ?_)|(with_reducible refine cZ (by assumption) ?_)|((with_reducible refine fZ ?_ ?_);(focus (first|(simp;done)|(simp;omega)|omega|(simp at *;omega))))|((with_reducible refine hZ (by assumption) ?_ ?_);(focus (first|(simp;done)|(simp;omega)|omega|(simp at *;omega)))))))))
  all_goals
   have HO7:Hid (w7.ownsRow w.heap.size 5 1 (.slice A7 (N1.length+N2.length) c7) (N1.length+N2.length) (numL .u8 (N1++N2))):=by
    have h:=mZ ho7 (show w.heap.size≤_ from Below.size (by(repeat (first|(with_reducible exact Below.refl _ _)|(with_reducible assumption)|(with_reducible refine Below.drew ?_)|(with_reducible refine dZ ?_ _)|((with_reducible refine iZ ?_ ?_);(focus (first|(simp;done)|(simp;omega)|omega|(simp at *;omega))))|(with_reducible refine bZ ?_)|(with_reducible refine cZ (by assumption) ?_)|((with_reducible refine fZ ?_ ?_);(focus (first|(simp;done)|(simp;omega)|omega|(simp at *;omega))))|((with_reducible refine hZ (by assumption) ?_ ?_);(focus (first|(simp;done)|(simp;omega)|omega|(simp at *;omega))))))))
    simp only[List.flatMap_cons,List.flatMap_nil,List.append_nil,List.length_append]at h
    exact h
   have HB7:=Lib.hid B7
   go_wp2_with fail
   go_meet
   case rel=>go_light;exact⟨HO7.out,HB7.out⟩
 case rest=>
  obtain⟨HO9,HB9⟩:=hcut
  have c0':=HC.out _ HB9.out
  clear c0
  go_wp2_with fail
  have HO0:Hid (wc.ownsRow w.heap.size 5 1 u3 (N1++N2++pairsP (G.take 0) (S.take 0)).length (numL .u8 (N1++N2++pairsP (G.take 0) (S.take 0)))):=by
   have e:N1++N2++pairsP (G.take 0) (S.take 0)=N1++N2:=by simp[pairsP]
   show World.ownsRow _ _ _ _ _ _ _
   rw[e,List.length_append]
   exact HO9.out
  have HL0:Hid ((N1++N2++pairsP (G.take 0) (S.take 0)).length≤20+20*0):=by
   show _≤_
   simp[pairsP]
   omega
  clear c0' HO9
  go_loopw [3,27] (fun ov iv wr=>∃k:Nat,k≤g∧iv= .int .i64 k∧Hid (wr.ownsRow w.heap.size 5 1 ov (N1++N2++pairsP (G.take k) (S.take k)).length (numL .u8 (N1++N2++pairsP (G.take k) (S.take k))))∧Hid ((N1++N2++pairsP (G.take k) (S.take k)).length≤20+20*k)∧Hid (Below w.heap.size w wr)) (fun _ iv _=>g-(intOf iv).toNat)
  case atStart=>exact⟨0,by omega,rfl,HO0.out,HL0.out,HB9.out⟩
  case round=>
   obtain⟨k,hk,rfl,HO,HL,HB⟩:=hrel
   clear HO0 HL0 HB9
   obtain⟨wi,rfl⟩:∃wi:World,wi=wr:=⟨_,rfl⟩
   have hz:=HB.out.size
   by_cases hlt:k<g
   ·have gk:decide ((k:Int)<(g:Int))=true:=by simp;omega
    have gk':decide (k<g)=true:=by simp;omega
    obtain⟨A3,c3,rfl⟩:=aZ HO.out
    have x0:(0:Int)≤(k:Int):=by omega
    have x1:(k:Int)<(g:Int):=by omega
    obtain⟨bg,og,n,rfl,hbg,hn,cn⟩:=qZ (HRG.out.keep fun p hp=>HB.out.cell (p:=p) (Nat.lt_of_lt_of_le hp hbase)) HG.out hlt
    obtain⟨bs,os,z,rfl,hbs,hz',cz⟩:=qZ (HRS.out.keep fun p hp=>HB.out.cell (p:=p) (Nat.lt_of_lt_of_le hp hbase)) HS.out hlt
    have hnl:=HGL.out n (List.mem_of_getElem? hn)
    have hzl:=HSL.out z (List.mem_of_getElem? hz')
    have hst:=dmZ hn hz'
    have DA:=Lib.hid (fun wx=>gbZ wx n (by omega))
    have DB:=Lib.hid (fun wx=>gbZ wx z (by omega))
    have u3:IntKind.u64.wrap (n:Int)=(n:Int):=by rw[IntKind.wrap_u64];omega
    have u4:IntKind.u64.wrap (z:Int)=(z:Int):=by rw[IntKind.wrap_u64];omega
    have la:=lZ (x:=n) (by omega)
    have lb:=lZ (x:=z) (by omega)
    have HC2:Hid (∀wx,Below wi.heap.size wi wx→wx.cell? ⟨db,1,none⟩=some (.slice (some ⟨bs,os,none⟩) g cS)∧wx.cell? ⟨bs,os+k,none⟩=some (.int .i64 (z:Nat))):=fun wx h=>⟨((HBK.out.step HB.out).step h).cell 1,(h.cell (p:=⟨bs,os+k,none⟩) (by show bs<_;omega)).trans cz⟩
    have PO:Hid (∀wx,Below wi.heap.size wi wx→Part.Ok (⟨A3,c3,N1++N2++pairsP (G.take k) (S.take k)⟩:Part) wx):=fun wx hb=>(kZ HO.out rfl).step hb
    generalize numB n=NA at *
    generalize numB z=NB at *
    have HSE:Hid (N1++N2++pairsP (G.take (k+1)) (S.take (k+1))=N1++N2++pairsP (G.take k) (S.take k)++(NA++NB)):=by show _=_;rw[hst];simp only[List.append_assoc]
    have hol:=HL.out
    generalize N1++N2++pairsP (G.take k) (S.take k)=OUT at *
    have hs3:∀a1 a2 a3 a4 a5 a6,sumL [(⟨a1,a2,OUT⟩:Part),⟨a3,a4,NA⟩,⟨a5,a6,NB⟩]≤1000000:=fun _ _ _ _ _ _=>by simp[sumL];omega
    have c1:=(HC2.out wi (Below.refl _ _)).1
    clear hn hz' hst hnl hzl
    go_upto_region 5 with fail
    go_region_held3 (fun wx=>wx.cell? ⟨db,1,none⟩=some (.slice (some ⟨bs,os,none⟩) g cS)∧wx.cell? ⟨bs,os+k,none⟩=some (.int .i64 (z:Nat))) (first|exact HC2.out _ ((Below.refl _ _).drew)|(refine HC2.out _ ?_;(repeat (first|(with_reducible exact Below.refl _ _)|(with_reducible assumption)|(with_reducible refine Below.drew ?_)|(with_reducible refine dZ ?_ _)|((with_reducible refine iZ ?_ ?_);(focus (first|(simp;done)|(simp;omega)|omega|(simp at *;omega))))|(with_reducible refine bZ ?_)|(with_reducible refine cZ (by assumption) ?_)|((with_reducible refine fZ ?_ ?_);(focus (first|(simp;done)|(simp;omega)|omega|(simp at *;omega))))|((with_reducible refine hZ (by assumption) ?_ ?_);(focus (first|(simp;done)|(simp;omega)|omega|(simp at *;omega)))))))) (first|(go_at_call 83;first|((with_reducible refine(DA.out _).mono ?_);rintro e wA ⟨vA,rfl,hoA,hbA⟩;obtain⟨AA,cA,rfl⟩:=aZ hoA;have PA:Part.Ok (⟨AA,cA,NA⟩:Part) wA:=kZ hoA rfl)|((with_reducible refine(DB.out _).mono ?_);rintro e wB ⟨vB,rfl,hoB,hbB⟩;obtain⟨AB,cB,rfl⟩:=aZ hoB;have PB:Part.Ok (⟨AB,cB,NB⟩:Part) wB:=kZ hoB rfl))|(go_at_call 43;(refine(rbZ _ _ 3 [(⟨A3,c3,OUT⟩:Part),(⟨AA,cA,NA⟩:Part),(⟨AB,cB,NB⟩:Part)] rfl (by omega) (hs3 _ _ _ _ _ _) (fun p hp=>by{rcases List.mem_cons.1 hp with rfl|hp;exact PO.out _ (by(repeat (first|(with_reducible exact Below.refl _ _)|(with_reducible assumption)|(with_reducible refine Below.drew ?_)|(with_reducible refine dZ ?_ _)|((with_reducible refine iZ ?_ ?_);(focus (first|(simp;done)|(simp;omega)|omega|(simp at *;omega))))|(with_reducible refine bZ ?_)|(with_reducible refine cZ (by assumption) ?_)|((with_reducible refine fZ ?_ ?_);(focus (first|(simp;done)|(simp;omega)|omega|(simp at *;omega))))|((with_reducible refine hZ (by assumption) ?_ ?_);(focus (first|(simp;done)|(simp;omega)|omega|(simp at *;omega)))))));rcases List.mem_cons.1 hp with rfl|hp;exact PA.step (by(repeat (first|(with_reducible exact Below.refl _ _)|(with_reducible assumption)|(with_reducible refine Below.drew ?_)|(with_reducible refine dZ ?_ _)|((with_reducible refine iZ ?_ ?_);(focus (first|(simp;done)|(simp;omega)|omega|(simp at *;omega))))|(with_reducible refine bZ ?_)|(with_reducible refine cZ (by assumption) ?_)|((with_reducible refine fZ ?_ ?_);(focus (first|(simp;done)|(simp;omega)|omega|(simp at *;omega))))|((with_reducible refine hZ (by assumption) ?_ ?_);(focus (first|(simp;done)|(simp;omega)|omega|(simp at *;omega)))))));rcases List.mem_cons.1 hp with rfl|hp;exact PB.step (by(repeat (first|(with_reducible exact Below.refl _ _)|(with_reducible assumption)|(with_reducible refine Below.drew ?_)|(with_reducible refine dZ ?_ _)|((with_reducible refine iZ ?_ ?_);(focus (first|(simp;done)|(simp;omega)|omega|(simp at *;omega))))|(with_reducible refine bZ ?_)|(with_reducible refine cZ (by assumption) ?_)|((with_reducible refine fZ ?_ ?_);(focus (first|(simp;done)|(simp;omega)|omega|(simp at *;omega))))|((with_reducible refine hZ (by assumption) ?_ ?_);(focus (first|(simp;done)|(simp;omega)|omega|(simp at *;omega)))))));cases hp}) (by first|exact Blk.made _ _ _|exact Blk.made_at _ _ _ (by simp)|exact Blk.drew (Blk.made _ _ _)|exact Blk.drew (Blk.made_at _ _ _ (by simp)))).mono ?_);rintro e w7 ⟨v7,rfl,ho7,hb7⟩;obtain⟨A7,c7,rfl⟩:=aZ ho7;have B7:Below wi.heap.size wi w7:=cZ hb7 (by(repeat (first|(with_reducible exact Below.refl _ _)|(with_reducible assumption)|(with_reducible refine Below.drew ?_)|(with_reducible refine dZ ?_ _)|((with_reducible refine iZ ?_ ?_);(focus (first|(simp;done)|(simp;omega)|omega|(simp at *;omega))))|(with_reducible refine bZ ?_)|(with_reducible refine cZ (by assumption) ?_)|((with_reducible refine fZ ?_ ?_);(focus (first|(simp;done)|(simp;omega)|omega|(simp at *;omega))))|((with_reducible refine hZ (by assumption) ?_ ?_);(focus (first|(simp;done)|(simp;omega)|omega|(simp at *;omega)))))))))
    all_goals
     have HO7:Hid (w7.ownsRow w.heap.size 5 1 (.slice A7 (OUT.length+(NA.length+NB.length)) c7) (OUT.length+(NA.length+NB.length)) (numL .u8 (OUT++(NA++NB)))):=by
      have h:=mZ ho7 (show w.heap.size≤_ from Nat.le_trans hz (Below.size (by(repeat (first|(with_reducible exact Below.refl _ _)|(with_reducible assumption)|(with_reducible refine Below.drew ?_)|(with_reducible refine dZ ?_ _)|((with_reducible refine iZ ?_ ?_);(focus (first|(simp;done)|(simp;omega)|omega|(simp at *;omega))))|(with_reducible refine bZ ?_)|(with_reducible refine cZ (by assumption) ?_)|((with_reducible refine fZ ?_ ?_);(focus (first|(simp;done)|(simp;omega)|omega|(simp at *;omega))))|((with_reducible refine hZ (by assumption) ?_ ?_);(focus (first|(simp;done)|(simp;omega)|omega|(simp at *;omega)))))))))
      simp only[List.flatMap_cons,List.flatMap_nil,List.append_nil,List.length_append]at h
      exact h
     have HB7:Hid (Below w.heap.size w w7):=hZ B7 hz HB.out
     have HL7:Hid ((OUT++(NA++NB)).length≤20+20*(k+1)):=by show _≤_;rw[List.length_append,List.length_append];omega
     clear ho7 hb7 PA PB B7 HO HB HL PO hoA hoB hbA hbB HC2 cn cz c1
     go_wp2_with fail
     go_roundw
     case measure=>go_light;simp[intOf];omega
     case rel=>go_light;exact⟨k+1,by omega,by first|rfl|go_num,by rw[HSE.out,List.length_append,List.length_append];exact HO7.out,by rw[HSE.out];exact HL7.out,HB7.out⟩
   ·obtain rfl:k=g:=by omega
    have gk:decide ((k:Int)<(k:Int))=false:=by simp
    have gk':decide (k<k)=false:=by simp
    have eG:G.take k=G:=List.take_of_length_le (by rw[HG.out];exact Nat.le_refl _)
    have eS:S.take k=S:=List.take_of_length_le (by rw[HS.out];exact Nat.le_refl _)
    rw[eG,eS]at HO HL
    obtain⟨A3,c3,rfl⟩:=aZ HO.out
    have DA:=Lib.hid (fun wx=>gbZ wx x (by omega))
    have DB:=Lib.hid (fun wx=>gbZ wx y (by omega))
    have u3:IntKind.u64.wrap (x:Int)=(x:Int):=by rw[IntKind.wrap_u64];omega
    have u4:IntKind.u64.wrap (y:Int)=(y:Int):=by rw[IntKind.wrap_u64];omega
    have la:=lZ (x:=x) (by omega)
    have lb:=lZ (x:=y) (by omega)
    have HC2:Hid (∀wx,Below wi.heap.size wi wx→wx.cell? ⟨db,2,none⟩=some (.int .i64 (x:Nat))∧wx.cell? ⟨db,3,none⟩=some (.int .i64 (y:Nat))):=fun wx h=>⟨((HBK.out.step HB.out).step h).cell 2,((HBK.out.step HB.out).step h).cell 3⟩
    have PO:Hid (∀wx,Below wi.heap.size wi wx→Part.Ok (⟨A3,c3,N1++N2++pairsP G S⟩:Part) wx):=fun wx hb=>(kZ HO.out rfl).step hb
    generalize numB x=NA at *
    generalize numB y=NB at *
    have hol:=HL.out
    have HSE:Hid (dirP s G S x y=N1++N2++pairsP G S++(NA++NB)):=by show _=_;rw[HDP.out];simp only[List.append_assoc]
    generalize N1++N2++pairsP G S=OUT at *
    have hs3:∀a1 a2 a3 a4 a5 a6,sumL [(⟨a1,a2,OUT⟩:Part),⟨a3,a4,NA⟩,⟨a5,a6,NB⟩]≤1000000:=fun _ _ _ _ _ _=>by simp[sumL];omega
    clear eG eS HDP
    go_upto_region 7 with fail
    go_region_held3 (fun wx=>wx.cell? ⟨db,2,none⟩=some (.int .i64 (x:Nat))∧wx.cell? ⟨db,3,none⟩=some (.int .i64 (y:Nat))) (first|exact HC2.out _ ((Below.refl _ _).drew)|(refine HC2.out _ ?_;(repeat (first|(with_reducible exact Below.refl _ _)|(with_reducible assumption)|(with_reducible refine Below.drew ?_)|(with_reducible refine dZ ?_ _)|((with_reducible refine iZ ?_ ?_);(focus (first|(simp;done)|(simp;omega)|omega|(simp at *;omega))))|(with_reducible refine bZ ?_)|(with_reducible refine cZ (by assumption) ?_)|((with_reducible refine fZ ?_ ?_);(focus (first|(simp;done)|(simp;omega)|omega|(simp at *;omega))))|((with_reducible refine hZ (by assumption) ?_ ?_);(focus (first|(simp;done)|(simp;omega)|omega|(simp at *;omega)))))))) (first|(go_at_call 83;first|((with_reducible refine(DA.out _).mono ?_);rintro e wA ⟨vA,rfl,hoA,hbA⟩;obtain⟨AA,cA,rfl⟩:=aZ hoA;have PA:Part.Ok (⟨AA,cA,NA⟩:Part) wA:=kZ hoA rfl)|((with_reducible refine(DB.out _).mono ?_);rintro e wB ⟨vB,rfl,hoB,hbB⟩;obtain⟨AB,cB,rfl⟩:=aZ hoB;have PB:Part.Ok (⟨AB,cB,NB⟩:Part) wB:=kZ hoB rfl))|(go_at_call 43;(refine(rbZ _ _ 3 [(⟨A3,c3,OUT⟩:Part),(⟨AA,cA,NA⟩:Part),(⟨AB,cB,NB⟩:Part)] rfl (by omega) (hs3 _ _ _ _ _ _) (fun p hp=>by{rcases List.mem_cons.1 hp with rfl|hp;exact PO.out _ (by(repeat (first|(with_reducible exact Below.refl _ _)|(with_reducible assumption)|(with_reducible refine Below.drew ?_)|(with_reducible refine dZ ?_ _)|((with_reducible refine iZ ?_ ?_);(focus (first|(simp;done)|(simp;omega)|omega|(simp at *;omega))))|(with_reducible refine bZ ?_)|(with_reducible refine cZ (by assumption) ?_)|((with_reducible refine fZ ?_ ?_);(focus (first|(simp;done)|(simp;omega)|omega|(simp at *;omega))))|((with_reducible refine hZ (by assumption) ?_ ?_);(focus (first|(simp;done)|(simp;omega)|omega|(simp at *;omega)))))));rcases List.mem_cons.1 hp with rfl|hp;exact PA.step (by(repeat (first|(with_reducible exact Below.refl _ _)|(with_reducible assumption)|(with_reducible refine Below.drew ?_)|(with_reducible refine dZ ?_ _)|((with_reducible refine iZ ?_ ?_);(focus (first|(simp;done)|(simp;omega)|omega|(simp at *;omega))))|(with_reducible refine bZ ?_)|(with_reducible refine cZ (by assumption) ?_)|((with_reducible refine fZ ?_ ?_);(focus (first|(simp;done)|(simp;omega)|omega|(simp at *;omega))))|((with_reducible refine hZ (by assumption) ?_ ?_);(focus (first|(simp;done)|(simp;omega)|omega|(simp at *;omega)))))));rcases List.mem_cons.1 hp with rfl|hp;exact PB.step (by(repeat (first|(with_reducible exact Below.refl _ _)|(with_reducible assumption)|(with_reducible refine Below.drew ?_)|(with_reducible refine dZ ?_ _)|((with_reducible refine iZ ?_ ?_);(focus (first|(simp;done)|(simp;omega)|omega|(simp at *;omega))))|(with_reducible refine bZ ?_)|(with_reducible refine cZ (by assumption) ?_)|((with_reducible refine fZ ?_ ?_);(focus (first|(simp;done)|(simp;omega)|omega|(simp at *;omega))))|((with_reducible refine hZ (by assumption) ?_ ?_);(focus (first|(simp;done)|(simp;omega)|omega|(simp at *;omega)))))));cases hp}) (by first|exact Blk.made _ _ _|exact Blk.made_at _ _ _ (by simp)|exact Blk.drew (Blk.made _ _ _)|exact Blk.drew (Blk.made_at _ _ _ (by simp)))).mono ?_);rintro e w7 ⟨v7,rfl,ho7,hb7⟩;obtain⟨A7,c7,rfl⟩:=aZ ho7;have B7:Below wi.heap.size wi w7:=cZ hb7 (by(repeat (first|(with_reducible exact Below.refl _ _)|(with_reducible assumption)|(with_reducible refine Below.drew ?_)|(with_reducible refine dZ ?_ _)|((with_reducible refine iZ ?_ ?_);(focus (first|(simp;done)|(simp;omega)|omega|(simp at *;omega))))|(with_reducible refine bZ ?_)|(with_reducible refine cZ (by assumption) ?_)|((with_reducible refine fZ ?_ ?_);(focus (first|(simp;done)|(simp;omega)|omega|(simp at *;omega))))|((with_reducible refine hZ (by assumption) ?_ ?_);(focus (first|(simp;done)|(simp;omega)|omega|(simp at *;omega)))))))))
    all_goals
     have HO7:Hid (w7.ownsRow w.heap.size 5 1 (.slice A7 (OUT.length+(NA.length+NB.length)) c7) (OUT.length+(NA.length+NB.length)) (numL .u8 (OUT++(NA++NB)))):=by
      have h:=mZ ho7 (show w.heap.size≤_ from Nat.le_trans hz (Below.size (by(repeat (first|(with_reducible exact Below.refl _ _)|(with_reducible assumption)|(with_reducible refine Below.drew ?_)|(with_reducible refine dZ ?_ _)|((with_reducible refine iZ ?_ ?_);(focus (first|(simp;done)|(simp;omega)|omega|(simp at *;omega))))|(with_reducible refine bZ ?_)|(with_reducible refine cZ (by assumption) ?_)|((with_reducible refine fZ ?_ ?_);(focus (first|(simp;done)|(simp;omega)|omega|(simp at *;omega))))|((with_reducible refine hZ (by assumption) ?_ ?_);(focus (first|(simp;done)|(simp;omega)|omega|(simp at *;omega)))))))))
      simp only[List.flatMap_cons,List.flatMap_nil,List.append_nil,List.length_append]at h
      exact h
     have HB7:Hid (Below w.heap.size w w7):=hZ B7 hz HB.out
     clear ho7 hb7 PA PB B7 HO HB HL PO hoA hoB hbA hbB HC2
     go_wp2_with fail
     go_ret
     exact⟨.slice A7 (OUT.length+(NA.length+NB.length)) c7,rfl,by rw[HSE.out,List.length_append,List.length_append];exact HO7.out,HB7.out⟩
end Go.Proofs.YtcafklmbehoggaaGreatDoor.Body
namespace Go.Proofs.YtcafklmbehoggaaGreatDoor.Body
open Go.RowKit Mem Own Canon Recs Idx
open Go.Proofs.YtcafklmbehoggaaGreatDoor.One (FrsAt FrsAt.step FrsAt.grown FrsAt.snoc yZ)
open NumPut
open Go.Proofs.YtcafklmbehoggaaGreatDoor.Ef (mayI igZ)
structure MSt (base db:Nat) (vG pv vS:Value) (ps:List Part) (W:World):Prop where
 dir:Blk W db 72 #[vG,vS, .int .i64 0, .int .i64 0]
 pr:W.ownsRow base 29 1 pv ps.length (ps.map Part.v)
 fr:FrsAt W base ps
 sr:W.ownsRow base 3 1 vS ps.length (numL .i64 (ps.map fun p=>p.ls.length))
 gb:base≤db
section
variable {base db:Nat} {vG pv vS pv' vS':Value} {ps:List Part} {W w' w8 w9:World} {p:Part} {o1 o2:Obj}
theorem MSt.step(h:MSt base db vG pv vS ps W)(b:Below W.heap.size W w'):MSt base db vG pv vS ps w':=
 ⟨h.dir.step b,eZ h.pr fun y hy=>b.block y (World.ownsRow.lt h.pr y hy).2,h.fr.step b,eZ h.sr fun y hy=>b.block y (World.ownsRow.lt h.sr y hy).2,h.gb⟩
theorem MSt.mid(h:MSt base db vG pv vS ps W)(g8:(W.alloc o1).grownBy w8 pv.ownBlock):Blk w8 db 72 #[vG,vS, .int .i64 0, .int .i64 0]∧w8.ownsRow base 3 1 vS ps.length (numL .i64 (ps.map fun p=>p.ls.length)):=
 ⟨(h.dir.alloc o1).grown g8 (Ne.symm (jZ h.pr h.dir (by decide))),yZ (h.sr.alloc o1) (h.pr.alloc o1) (by decide) g8⟩
theorem MSt.round(h:MSt base db vG pv vS ps W)(hp:W.ownsRow base 5 1 p.v p.ls.length (numL .u8 p.ls))(g8:(W.alloc o1).grownBy w8 pv.ownBlock)(o8:w8.ownsRow base 29 1 pv' (ps.length+1) (ps.map Part.v++ [p.v]))
 (g9:(w8.alloc o2).grownBy w9 vS.ownBlock)(o9:w9.ownsRow base 3 1 vS' (ps.length+1) (numL .i64 (ps.map fun p=>p.ls.length)++ [.int .i64 (p.ls.length:Nat)])):
 MSt base db vG pv' vS' (ps++ [p]) (w9.setCell ⟨db,1,none⟩ vS')∧Below base W (w9.setCell ⟨db,1,none⟩ vS'):=by
 obtain⟨d8,s8⟩:=h.mid g8
 have d9:Blk w9 db 72 #[vG,vS, .int .i64 0, .int .i64 0]:=(d8.alloc o2).grown g9 (Ne.symm (jZ s8 d8 (by decide)))
 have hp8:=yZ (hp.alloc o1) (h.pr.alloc o1) (by decide) g8
 have hp9:=yZ (hp8.alloc o2) (s8.alloc o2) (by decide) g9
 have f8:FrsAt w8 base ps:=(h.fr.step (bZ (Below.refl _ _))).grown (h.pr.alloc o1) g8
 have f9:FrsAt w9 base ps:=fun q hq=>yZ ((f8 q hq).alloc o2) (s8.alloc o2) (by decide) g9
 have o89:=yZ (o8.alloc o2) (s8.alloc o2) (by decide) g9
 have hB:base≤W.heap.size:=by have:=h.dir.lt;have:=h.gb;omega
 have far:∀ {s n:Nat} {e:TypeId} {v:Value} {xs:List Value},w9.ownsRow base e s v n xs→e≠72→(w9.setCell ⟨db,1,none⟩ vS').ownsRow base e s v n xs:=fun ho hne=>
  eZ ho fun y hy=>Below.heap_setCell _ _ _ y fun e=>jZ ho d9 hne (by rw[hy,e])
 refine⟨⟨by simpa using d9.set 1 vS',?_,fun q hq=> ?_,?_,h.gb⟩,?_⟩
 ·rw[List.length_append,List.map_append]
  exact far o89 (by decide)
 ·rcases List.mem_append.1 hq with hq|hq
  ·exact far (f9 q hq) (by decide)
  ·rw[List.mem_singleton.1 hq]
   exact far hp9 (by decide)
 ·have e1:numL .i64 ((ps++ [p]).map fun p=>p.ls.length)=numL .i64 (ps.map fun p=>p.ls.length)++ [.int .i64 (p.ls.length:Nat)]:=by simp[numL]
  rw[List.length_append,e1]
  exact far o9 (by decide)
 ·have hz8:base≤w8.heap.size:=Nat.le_trans hB (Nat.le_trans (by simp) g8.size)
  exact((((Below.refl base W).alloc hB _).grown g8 (by simp;omega) fun y hy=>(World.ownsRow.lt h.pr y hy).1).alloc hz8 _ |>.grown g9 (by simp;omega) fun y hy=>(World.ownsRow.lt s8 y hy).1).setCell (p:=⟨db,1,none⟩) h.gb _
theorem MSt.stores(h:MSt base db vG pv vS ps W)(x y:Value):
 Blk ((W.setCell ⟨db,2,none⟩ x).setCell ⟨db,3,none⟩ y) db 72 #[vG,vS,x,y]∧Below base W ((W.setCell ⟨db,2,none⟩ x).setCell ⟨db,3,none⟩ y)∧
  ∀ {b s n:Nat} {e:TypeId} {v:Value} {xs:List Value},W.ownsRow b e s v n xs→e≠72→((W.setCell ⟨db,2,none⟩ x).setCell ⟨db,3,none⟩ y).ownsRow b e s v n xs:=by
 refine⟨by simpa using (h.dir.set 2 x).set 3 y,((Below.refl base W).setCell (p:=⟨db,2,none⟩) h.gb _).setCell (p:=⟨db,3,none⟩) h.gb _,fun ho hne=> ?_⟩
 refine eZ ho fun z hz=> ?_
 have hd:z≠db:=fun e=>jZ ho h.dir hne (by rw[hz,e])
 exact(Below.heap_setCell _ _ _ z hd).trans (Below.heap_setCell _ _ _ z hd)
end
theorem asZ:∀ (l:List Str) (was:Str),(∀s∈l,was<s)→(∀s∈l,1≤s.length∧s.length≤25)→Rising l→risesT was l=true
 | [],_,_,_,_=>rfl
 |s :: t,was,h,hs,hr=>by
  obtain⟨h1,h2⟩:=List.pairwise_cons.1 hr
  rw[risesT,Bool.and_eq_true]
  refine⟨?_,asZ t s h1 (fun x hx=>hs x (List.mem_cons_of_mem _ hx)) h2⟩
  unfold mayT
  rw[Bool.and_eq_true,Bool.and_eq_true,decide_eq_true_iff,decide_eq_true_iff,decide_eq_true_iff]
  exact⟨(hs s List.mem_cons_self).1,(hs s List.mem_cons_self).2,h s List.mem_cons_self⟩
theorem bsZ{l:List Rec}{s:Str}(h:s∈allT (l.map termsR)):1≤s.length∧s.length≤25:=by
 obtain⟨t,ht,hs⟩:=(ssZ s _).1 h
 obtain⟨r,_,rfl⟩:=List.mem_map.1 ht
 exact voZ hs
theorem zpZ{l:List Rec}(h:(allT (l.map termsR)).length≤1048576):mayD (allT (l.map termsR))=true:=by
 unfold mayD
 rw[Bool.and_eq_true]
 refine⟨asZ _ _ (fun s hs=> ?_) (fun s hs=>bsZ hs) (hlZ _),decide_eq_true h⟩
 have:=(bsZ hs).1
 cases s with
 |nil=>simp at this
 |cons x t=>exact List.nil_lt_cons x t
theorem whZb(ts:List (List Str))(u:Str):mayI ts.length none (idsT ts u)=true:=by
 refine igZ _ _ none (fun x hx=> ?_) ?_ (fun y hy=>by cases hy)
 ·unfold idsT at hx
  exact List.mem_range.1 (List.mem_filter.1 hx).1
 ·unfold idsT
  exact List.Pairwise.filter _ List.pairwise_lt_range
theorem avZ(l:List Rec):mayLs l.length ((allT (l.map termsR)).map (idsT (l.map termsR)))=true∧∀x∈(allT (l.map termsR)).map (idsT (l.map termsR)),x≠ []∧x.length≤l.length:=by
 refine⟨List.all_eq_true.2 fun x hx=> ?_,fun x hx=> ?_⟩
 ·obtain⟨u,_,rfl⟩:=List.mem_map.1 hx
  have:=whZb (l.map termsR) u
  rw[List.length_map]at this
  exact this
 ·obtain⟨u,hu,rfl⟩:=List.mem_map.1 hx
  have h2:=tpZ (l.map termsR) u
  rw[List.length_map]at h2
  exact⟨(upZ _ u).1 hu,h2⟩
theorem bvZ(s:Str):∀x∈textS s,x≤255:=fun x h=>by
 unfold textS natS at h
 rcases List.mem_append.1 h with h|h
 ·exact sZ _ x h
 ·obtain⟨c,_,rfl⟩:=List.mem_map.1 h
  have:=c.toNat_lt
  omega
theorem cvZ:∀ (t:List Str) (was:Str),∀x∈restB was t,x≤255
 | [],_,x,h=>by simp[restB]at h
 |s :: t,was,x,h=>by
  rw[restB]at h
  simp only[List.mem_append]at h
  rcases h with (h|h)|h
  ·exact sZ _ x h
  ·exact bvZ _ x h
  ·exact cvZ t s x h
theorem taZb(l:List Str):∀x∈bucketB l,x≤255:=fun x h=>by
 cases l with
 |nil=>simp[bucketB]at h
 |cons s t=>
  rw[bucketB]at h
  rcases List.mem_append.1 h with h|h
  ·exact bvZ _ x h
  ·exact cvZ t s x h
theorem jgZb(size:Nat)(l:List Str):∀x∈dictO size l,x≤255:=fun x h=>by
 unfold dictO at h
 simp only[List.mem_append,List.mem_flatMap]at h
 rcases h with (h|⟨c,_,h⟩)|⟨c,_,h⟩
 ·exact sZ _ x h
 ·exact sZ _ x h
 ·exact taZb _ x h
theorem viZb(bound:Nat)(l:List Nat):∀x∈Ef.efO bound l,x≤255:=fun x h=>by
 unfold Ef.efO at h
 split at h
 ·exact sZ _ x h
 ·rcases List.mem_append.1 h with h|h
  ·exact sZ _ x h
  ·obtain⟨k,_,rfl⟩:=List.mem_map.1 h
   exact Huff.efZ _ k
theorem dvZ(o:Opts.Opt)(l:List Rec):∀x∈ixR o l,x≤255:=fun x h=>by
 unfold ixR ixO listsO at h
 rcases List.mem_append.1 h with h|h
 ·exact jgZb _ _ x h
 ·obtain⟨c,_,h⟩:=List.mem_flatMap.1 h
  exact viZb _ _ x h
theorem clZ{o:Opts.Opt}(h:Opts.optB o=0):16≤o.block∧o.block≤32768∧1≤o.bucket∧o.bucket≤64:=by
 unfold Opts.optB Opts.optE2 at h
 split at h
 ·rename_i hc
  exact⟨hc.1.1,hc.1.2,hc.2.1.1,hc.2.1.2⟩
 ·cases h
end Go.Proofs.YtcafklmbehoggaaGreatDoor.Body
namespace Go.Proofs.YtcafklmbehoggaaGreatDoor.Body
open Go.RowKit Mem Own Canon NumPut Crc
open Recs Opts
open Go.Proofs.YtcafklmbehoggaaGreatDoor.Block (frameB WPost kZ)
open Go.Proofs.YtcafklmbehoggaaGreatDoor.One (FrsAt FrsAt.step FrsAt.grown FrsAt.snoc yZ zeZ hhZ ufZ agZ)
def FramesPost20(pl:Bool)(G:List Nat)(l:List Rec)(w:World)(e:Ending)(w':World):Prop:=
 ∃v vG ps,e= .returned (.tuple #[v,vG])∧w'.ownsRow w.heap.size 29 1 v (framesW false pl G l).length (ps.map Part.v)∧FrsAt w' w.heap.size ps∧ps.map Part.ls=framesW false pl G l∧w'.ownsRow w.heap.size 3 1 vG G.length (numL .i64 G)∧Below w.heap.size w w'
theorem gsZ(w:World)(o:Opt)(A:Option Addr)(n c:Nat)(l:List Rec)(ho:optB o=0)(hn:l.length=n)(hN:n≤1000)(hc:n≤c)(hok:∀r∈l,RecOk r)(hk:chkE l=0)(hb:(bytesB false l).length≤16000)(ht:TabAt w)(ha:Row w w.heap.size A n 4 (recF l)):
 Calls Tryz.prog 45 #[o.val, .slice A n c] w (FramesPost20 o.plain (countsF o l) l w):=by
 obtain⟨j0,hj0,hy0,hy1,hy2⟩:=info_parts agZ
 have hlong:=zeZ hk
 obtain⟨hb1,hb2,_,_⟩:=clZ ho
 have hgl:=shZ o l
 have hgs:=rhZ o l
 have hgp:∀x∈countsF o l,1≤x:=One.tfZ _ _
 rw[hn]at hgl
 obtain⟨blk,pl,bu,da,pa,ch⟩:=o
 simp only at hb1 hb2
 obtain⟨S,rfl⟩:=Int.eq_ofNat_of_zero_le (show 0≤blk by omega)
 have D3:=Lib.hid (fun wx (hx:Below w.heap.size w wx)=>kwZ wx S false A n c l (by omega) (by omega) hn (by omega) hok hlong ((ha.below hx).mono hx.size))
 unfold GroupsPost at D3
 have hcE:groupsP S (lensB false l)=countsF ⟨(S:Nat),pl,bu,da,pa,ch⟩ l:=rfl
 rw[hcE]at D3
 unfold FramesPost20 Opt.val
 simp only
 generalize countsF ⟨(S:Nat),pl,bu,da,pa,ch⟩ l=G at *
 rw[afZ]
 obtain⟨g,hg⟩:∃g,g=G.length:=⟨_,rfl⟩
 rw[←hg]at hgl D3 ⊢
 have HGL:=Lib.hid hg
 have HGS:=Lib.hid hgs
 have HPOS:=Lib.hid hgp
 have HT:=Lib.hid ht
 have HOK:=Lib.hid hok
 have HLO:=Lib.hid hlong
 have HN:=Lib.hid hn
 obtain⟨FR,hFR⟩:∃FR,FR=framesW false pl G l:=⟨_,rfl⟩
 have HFR:=Lib.hid hFR
 rw[←hFR]
 clear ho hk hcE hg hgs hgp ht hok hlong hFR
 go_enter Tryz.func45,Tryz.ntmps45
 go_wp2_with fail
 have hba:Blk (w.alloc (.cells #[.int .i64 S, .bool pl, .int .i64 bu, .int .i64 da, .int .i64 pa, .int .i64 ch] 23)) w.heap.size 23 #[.int .i64 S, .bool pl, .int .i64 bu, .int .i64 da, .int .i64 pa, .int .i64 ch]:=Blk.made _ _ _
 have hbw:Below w.heap.size w (w.alloc (.cells #[.int .i64 S, .bool pl, .int .i64 bu, .int .i64 da, .int .i64 pa, .int .i64 ch] 23)):=bZ (Below.refl _ _)
 have hzw:(w.alloc (.cells #[.int .i64 S, .bool pl, .int .i64 bu, .int .i64 da, .int .i64 pa, .int .i64 ch] 23)).heap.size=w.heap.size+1:=by simp
 generalize w.alloc (.cells #[.int .i64 S, .bool pl, .int .i64 bu, .int .i64 da, .int .i64 pa, .int .i64 ch] 23)=wa at *
 have hzw2:w.heap.size<wa.heap.size:=by omega
 have HWASZ:Hid (w.heap.size≤wa.heap.size):=by show _≤_;omega
 have HS:Hid (∀wx,Below wa.heap.size wa wx→wx.cell? ⟨w.heap.size,1,none⟩=some (.bool pl)):=fun wx h=>(hba.step h).cell 1
 have HWA:Hid (∀wx,Below wa.heap.size wa wx→Below w.heap.size w wx):=fun wx h=>hbw.trans (h.mono hbw.size)
 have E3:=Lib.hid (D3.out wa hbw)
 clear hba hbw hzw D3
 refine E3.out.mono ?_
 rintro e w4 ⟨vG,rfl,hoG,hb3⟩
 obtain⟨AG,cG,rfl⟩:=aZ hoG
 have B4:Hid (Below wa.heap.size wa w4):=hb3
 have HOG4:=Lib.hid hoG
 have HS4:Hid (∀wx,Below w4.heap.size w4 wx→wx.cell? ⟨w.heap.size,1,none⟩=some (.bool pl)):=fun wx h=>HS.out wx (cZ h B4.out)
 have HBW4:Hid (Below w.heap.size w w4):=HWA.out _ B4.out
 clear hb3 hoG E3
 go_wp2_with fail
 go_loopw [7,8,9] (fun ov av iv wx=>∃ (k at_:Nat) (ps:List Part),k≤g∧at_≤n∧iv= .int .i64 k∧av= .int .i64 at_∧Hid (ps.map Part.ls++framesW false pl (G.drop k) (l.drop at_)=FR)∧Hid (ps.length=k)∧Hid (at_+(G.drop k).sum=n)∧Hid (wx.ownsRow w4.heap.size 29 1 ov k (ps.map Part.v))∧Hid (FrsAt wx w4.heap.size ps)∧Hid (Below w4.heap.size w4 wx)) (fun _ _ iv _=>g-(intOf iv).toNat)
 case atStart=>exact⟨0,0,[],by omega,by omega,rfl,rfl,HFR.out.symm,rfl,by show _=_;rw[List.drop_zero,HGS.out,HN.out];omega,World.ownsRow_nil _ _ _ _,(fun p hp=>by cases hp),Below.refl _ _⟩
 case round=>
  obtain⟨k,at_,ps,hkg,hat,rfl,rfl,HF,HPL,HSM,HO,HFS,HB⟩:=hrel
  have hz:=HB.out.size
  by_cases hlt:k<g
  ·have hkl:k<G.length:=by rw[←HGL.out];exact hlt
   obtain⟨m,hm⟩:∃m,m=G[k]:=⟨_,rfl⟩
   have hdr:G.drop k=m :: G.drop (k+1):=by rw[hm];exact List.drop_eq_getElem_cons hkl
   have hsm:=HSM.out
   have hf:=HF.out
   rw[hdr]at hsm hf
   rw[List.sum_cons]at hsm
   rw[framesW,List.drop_drop]at hf
   have HOGx:Hid (wr.ownsRow wa.heap.size 3 1 (.slice AG g cG) g (numL .i64 G)):=eZ HOG4.out (fun y hy=>HB.out.block y (World.ownsRow.lt HOG4.out y hy).2)
   obtain⟨gb,gc,hAG,hgb,_⟩:=HOGx.out.form (by omega)
   injection hAG with e1 e2 e3
   subst e1 e3
   have cg:wr.cell? ⟨gb,k,none⟩=some (.int .i64 (m:Nat)):=by
    rw[(Lz.own_cells HOGx.out hlt).1]
    simp[numL,List.getElem?_eq_getElem hkl,hm]
   have HCG:Hid (∀wx,Below wr.heap.size wr wx→wx.cell? ⟨gb,k,none⟩=some (.int .i64 (m:Nat))):=fun wx h=>by
    have h2:wx.ownsRow wa.heap.size 3 1 (.slice (some ⟨gb,0,none⟩) g cG) g (numL .i64 G):=eZ HOGx.out (fun y hy=>h.block y (World.ownsRow.lt HOGx.out y hy).2)
    rw[(Lz.own_cells h2 hlt).1]
    simp[numL,List.getElem?_eq_getElem hkl,hm]
   have hml:at_+m≤n:=by omega
   have ks:=fun wx=>ktZ (P:=Tryz.prog) (t:=24) (s:=4) Tryz.underlying24 (fun _=>by kernel_rfl) A n c .i64 .i64 (at_:Int) ((at_+m:Nat):Int) at_ (at_+m) rfl rfl (by omega) (by omega) wx
   rw[Nat.add_sub_cancel_left]at ks
   have s1:IntKind.i64.wrap ((at_:Int)+(m:Int))=((at_+m:Nat):Int):=by rw[IntWalk.i64_in _ (by omega)];omega
   have hsub:((l.drop at_).take m).Sublist l:=(List.take_sublist _ _).trans (List.drop_sublist _ _)
   have hb3:(bytesB false ((l.drop at_).take m)).length≤16000:=Nat.le_trans (One.mkZ false hsub) hb
   have hb8:=ckZ false (l:=(l.drop at_).take m) (fun r hr=>HOK.out r (hsub.subset hr))
   have hrow:Row w w.heap.size (cutA A at_ c 4) m 4 (recF ((l.drop at_).take m)):=ha.cut at_ m hml hc (fun i j hi _=>by rw[ufZ,hhZ hi])
   have E1:=Lib.hid (fun wx (hx:Below w.heap.size w wx)=>Recs.rbytes_any wx false (cutA A at_ c 4) m (c-at_) ((l.drop at_).take m) (by rw[List.length_take,List.length_drop,HN.out];omega) (by omega) (fun r hr=>HOK.out r (hsub.subset hr)) (fun r hr=>HLO.out r (hsub.subset hr)) (by omega) ((hrow.below hx).mono hx.size))
   have E2:=Lib.hid (fun wx A2 c2 (hx:Below w.heap.size w wx) (h:wx.ownsRow w4.heap.size 5 1 (.slice A2 (bytesB false ((l.drop at_).take m)).length c2) (bytesB false ((l.drop at_).take m)).length (numL .u8 (bytesB false ((l.drop at_).take m))))=>Block.yoZ wx A2 _ c2 _ pl rfl hb3 (fun e=>(leZ h).1 e) hb8 (HT.out.step hx) (Part.Ok.row (kZ h rfl)))
   unfold BytesPost at E1
   unfold WPost at E2
   have HF2:=Lib.hid hf
   have HSM2:Hid (at_+m+(G.drop (k+1)).sum=n):=by show _=_;omega
   have hwx:Below w.heap.size w wr:=HBW4.out.trans (HB.out.mono HBW4.out.size)
   have HWX:=Lib.hid hwx
   have x0:(0:Int)≤(k:Int):=by omega
   have x1:(k:Int)<(g:Int):=by omega
   have kp:=HS4.out wr HB.out
   generalize bytesB false ((l.drop at_).take m)=BB at *
   generalize frameB BB pl=FF at *
   obtain⟨bl,hbl⟩:∃bl,bl=BB.length:=⟨_,rfl⟩
   rw[←hbl]at E1 E2
   generalize cutA A at_ c 4=AC at *
   generalize c-at_=cc at *
   obtain⟨am,ham⟩:∃am,am=at_+m:=⟨_,rfl⟩
   rw[←ham]at ks s1 hml HSM2 HF2
   have HAM:=Lib.hid ham
   clear hkl hm hdr hsm hf HSM HF hb8 hwx hbl hb3 hrow hsub ham
   go_upto_region 7 with fail
   go_region_held3 (fun wx=>wx.cell? ⟨w.heap.size,1,none⟩=some (.bool pl)∧wx.cell? ⟨gb,k,none⟩=some (.int .i64 (m:Nat))) (first|exact⟨kp,cg⟩|exact kp2|exact kp3) (first|(go_at_call 96;(with_reducible refine(E1.out _ (Below.drew HWX.out)).mono ?_);rintro e wA ⟨vA,rfl,hoA,hbA⟩;obtain⟨AA,cA,rfl⟩:=aZ hoA;have BA:Below w4.heap.size w4 wA:=cZ hbA (Below.drew HB.out);have HOA:wA.ownsRow w4.heap.size 5 1 (.slice AA bl cA) bl (numL .u8 BB):=mZ hoA (by simpa using hz);have BWA:Below w.heap.size w wA:=cZ hbA (Below.drew HWX.out);have BRA:Below wr.heap.size wr wA:=cZ hbA (Below.drew (Below.refl _ _));have kp2:wA.cell? ⟨w.heap.size,1,none⟩=some (.bool pl)∧wA.cell? ⟨gb,k,none⟩=some (.int .i64 (m:Nat)):=⟨HS4.out wA BA,HCG.out wA BRA⟩)|(go_at_call 95;(with_reducible refine(E2.out _ _ _ BWA HOA).mono ?_);rintro e wB ⟨vB,rfl,hoB,hbB⟩;obtain⟨AB,cB,rfl⟩:=aZ hoB;have BB2:Below w4.heap.size w4 wB:=cZ hbB BA;have BRB:Below wr.heap.size wr wB:=cZ hbB BRA;have kp3:wB.cell? ⟨w.heap.size,1,none⟩=some (.bool pl)∧wB.cell? ⟨gb,k,none⟩=some (.int .i64 (m:Nat)):=⟨HS4.out wB BB2,HCG.out wB BRB⟩))
   all_goals
    have cg2:=kp3.2
    have HOy:Hid (wB.ownsRow w4.heap.size 29 1 u7 k (ps.map Part.v)):=eZ HO.out (fun y hy=>BRB.block y (World.ownsRow.lt HO.out y hy).2)
    have HFy:Hid (FrsAt wB w4.heap.size ps):=HFS.out.step BRB
    have HPy:Hid (wB.ownsRow w4.heap.size 5 1 (.slice AB FF.length cB) FF.length (numL .u8 FF)):=mZ hoB (by have:=BA.size;omega)
    have HBy:=Lib.hid BB2
    have hzy:=BB2.size
    have HGy:Hid (wB.ownsRow wa.heap.size 3 1 (.slice (some ⟨gb,0,none⟩) g cG) g (numL .i64 G)):=eZ HOGx.out (fun y hy=>BRB.block y (World.ownsRow.lt HOGx.out y hy).2)
    obtain⟨fl2,hfl⟩:∃fl2,fl2=FF.length:=⟨_,rfl⟩
    rw[←hfl]at HPy ⊢
    have HFL:=Lib.hid hfl
    have HCM:Hid ((numL .i64 G)[k]? =some (.int .i64 (m:Nat))):=by
     have h:=(Lz.own_cells HGy.out hlt).1
     rw[cg2]at h
     exact h.symm
    clear hbA hoA BA HOA BWA BRA kp2 hbB hoB BB2 BRB kp3 kp cg cg2 E1 E2 HCG hfl
    go_wp2_with(at_builtin;refine gZ rfl (.tmp 38) (.tmp 40) 56 rfl w4.heap.size 29 j0 _ 1 24 Tryz.underlying56 hj0 hy0 hy1 hy2 rfl (by decide) _ _ _ (by rfl) (HOy.out.alloc _) _ 1 1 [.slice AB fl2 cB] (by rfl) (Src.of_blk (g:=wB.heap.size) (Blk.made _ _ _) 1 1 1 rfl) (by intro u hu;simp at hu;rcases hu with rfl;rfl) (by unfold maxLen;omega) (by omega) (by simp;omega) ?_;intro v8 w8 hown8 hg8 hat8;have HB8:Hid (Below w4.heap.size w4 w8):=Below.grown (HBy.out.alloc hzy _) hg8 (by simp;omega) (fun y hy=>(World.ownsRow.lt HOy.out y hy).1);have HO8:Hid (w8.ownsRow w4.heap.size 29 1 v8 (k+1) (ps.map Part.v++ [.slice AB fl2 cB])):=hown8;have HG8:w8.ownsRow wa.heap.size 3 1 (.slice (some ⟨gb,0,none⟩) g cG) g (numL .i64 G):=yZ (HGy.out.alloc _) (HOy.out.alloc _) (by decide) hg8;have cg8:w8.cell? ⟨gb,k,none⟩=some (.int .i64 (m:Nat)):=(Lz.own_cells HG8 hlt).1.trans HCM.out;have HP8:Hid (w8.ownsRow w4.heap.size 5 1 (.slice AB fl2 cB) fl2 (numL .u8 FF)):=yZ (HPy.out.alloc _) (HOy.out.alloc _) (by decide) hg8;have HF8:Hid (FrsAt w8 w4.heap.size ps):=FrsAt.grown (HFy.out.step (bZ (Below.refl _ _))) (HOy.out.alloc _) hg8;clear hown8 hg8 hat8 HG8)
    go_roundw
    case measure=>go_light;simp[intOf];omega
    case rel=>go_light;exact⟨k+1,am,ps++ [⟨AB,cB,FF⟩],by omega,hml,by first|rfl|go_num,by first|rfl|go_num,by show _=_;rw[List.map_append,List.append_assoc];exact HF2.out,by show _=_;rw[List.length_append,HPL.out];rfl,HSM2.out,by show World.ownsRow _ _ _ _ _ _ _;rw[List.map_append];show World.ownsRow _ _ _ _ _ _ (ps.map Part.v++ [.slice AB FF.length cB]);rw[←HFL.out];exact HO8.out,HF8.out.snoc (by show World.ownsRow _ _ _ _ (.slice AB FF.length cB) FF.length (numL .u8 FF);rw[←HFL.out];exact HP8.out),HB8.out⟩
  ·obtain rfl:k=g:=by omega
   have hf:=HF.out
   rw[List.drop_of_length_le (by rw[←HGL.out];exact Nat.le_refl _),framesW,List.append_nil]at hf
   have HF2:=Lib.hid hf
   have HWX:Hid (Below w.heap.size w wr):=HBW4.out.trans (HB.out.mono HBW4.out.size)
   clear hf HF
   go_wp2_with fail
   go_ret2
   exact⟨_,_,ps,rfl,mZ HO.out HBW4.out.size,(fun p hp=>mZ (HFS.out p hp) HBW4.out.size),HF2.out,eZ (mZ HOG4.out HWASZ.out) (fun y hy=>HB.out.block y (World.ownsRow.lt HOG4.out y hy).2),HWX.out⟩
end Go.Proofs.YtcafklmbehoggaaGreatDoor.Body
namespace Go.Proofs.YtcafklmbehoggaaGreatDoor.Body
open Go.RowKit Mem Own Canon NumPut Crc
open Recs Idx
open Go.Proofs.YtcafklmbehoggaaGreatDoor.Block (kZ)
open Go.Proofs.YtcafklmbehoggaaGreatDoor.One (FrsAt FrsAt.step)
structure JS (base:Nat) (O D:List Nat) (vo vd:Value) (W:World):Prop where
 oo:W.ownsRow base 5 1 vo O.length (numL .u8 O)
 od:W.ownsRow base 5 1 vd D.length (numL .u8 D)
 ap:Apt vo vd
section
variable {base:Nat} {O D X:List Nat} {vo vd v':Value} {W w':World}
theorem JS.step(h:JS base O D vo vd W)(b:Below W.heap.size W w'):JS base O D vo vd w':=
 ⟨eZ h.oo fun y hy=>b.block y (World.ownsRow.lt h.oo y hy).2,eZ h.od fun y hy=>b.block y (World.ownsRow.lt h.od y hy).2,h.ap⟩
theorem JS.dirA(h:JS base O D vo vd W)(hB:base≤W.heap.size)(g:W.grownBy w' vd.ownBlock)(o:w'.ownsRow base 5 1 v' (D.length+X.length) (numL .u8 D++numL .u8 X))(t:v'.ownBlock=vd.ownBlock∨v'.ownBlock=some W.heap.size):
 JS base O (D++X) vo v' w'∧Below base W w':=by
 obtain⟨a,b⟩:=xZ h.oo h.ap.symm g t
 refine⟨⟨a,?_,b.symm⟩,(Below.refl base W).grown g hB fun y hy=>(World.ownsRow.lt h.od y hy).1⟩
 rw[List.length_append,show numL .u8 (D++X)=numL .u8 D++numL .u8 X by simp[numL]]
 exact o
theorem JS.outA(h:JS base O D vo vd W)(hB:base≤W.heap.size)(g:W.grownBy w' vo.ownBlock)(o:w'.ownsRow base 5 1 v' (O.length+X.length) (numL .u8 O++numL .u8 X))(t:v'.ownBlock=vo.ownBlock∨v'.ownBlock=some W.heap.size):
 JS base (O++X) D v' vd w'∧Below base W w':=by
 obtain⟨a,b⟩:=xZ h.od h.ap g t
 refine⟨⟨?_,a,b⟩,(Below.refl base W).grown g hB fun y hy=>(World.ownsRow.lt h.oo y hy).1⟩
 rw[List.length_append,show numL .u8 (O++X)=numL .u8 O++numL .u8 X by simp[numL]]
 exact o
end
structure JE (base:Nat) (vo vd u:Value) (m:Nat) (ys:List Value) (W:World):Prop where
 own:W.ownsRow base 5 1 u m ys
 ao:Apt vo u
 ad:Apt vd u
section
variable {base m:Nat} {O D X:List Nat} {vo vd v' u:Value} {ys:List Value} {W w':World}
theorem JE.new(h:JS base O D vo vd W)(hB:base≤W.heap.size)(o:w'.ownsRow W.heap.size 5 1 u m ys):JE base vo vd u m ys w':=
 ⟨mZ o hB,(mdZ o (Nat.le_refl _) fun x hx=>(World.ownsRow.lt h.oo x hx).2).symm,(mdZ o (Nat.le_refl _) fun x hx=>(World.ownsRow.lt h.od x hx).2).symm⟩
theorem JE.step(h:JE base vo vd u m ys W)(b:Below W.heap.size W w'):JE base vo vd u m ys w':=⟨eZ h.own fun y hy=>b.block y (World.ownsRow.lt h.own y hy).2,h.ao,h.ad⟩
theorem JE.dirA(h:JE base vo vd u m ys W)(g:W.grownBy w' vd.ownBlock)(t:v'.ownBlock=vd.ownBlock∨v'.ownBlock=some W.heap.size):JE base vo v' u m ys w':=by
 obtain⟨a,b⟩:=xZ h.own h.ad g t
 exact⟨a,h.ao,b⟩
theorem JE.outA(h:JE base vo vd u m ys W)(g:W.grownBy w' vo.ownBlock)(t:v'.ownBlock=vo.ownBlock∨v'.ownBlock=some W.heap.size):JE base v' vd u m ys w':=by
 obtain⟨a,b⟩:=xZ h.own h.ao g t
 exact⟨a,b,h.ad⟩
end
theorem src_part{w:World}{p:Part}(h:p.Ok w):Src w p.A p.ls.length p.c 1 (numL .u8 p.ls):=by
 refine⟨by simp[numL],?_⟩
 by_cases h0:0<p.ls.length
 ·obtain⟨b,off,hA,_,hc⟩:=h.row h0
  refine .inr ⟨_,hA,fun j u hu=> ?_⟩
  have hj:j<p.ls.length:=by
   refine Decidable.byContradiction fun hn=> ?_
   have hn':(numL .u8 p.ls).length≤j:=by simp[numL];omega
   rw[List.getElem?_eq_none hn']at hu
   cases hu
  have hcj:=hc j 0 hj (by omega)
  rw[Nat.mul_one,Nat.add_zero]at hcj
  rw[add_none,hcj,←hu]
  have hg:=Huff.qcZ (k:= .u8) hj
  rw[Nat.mul_one,Nat.add_zero]at hg
  rw[hg]
 ·cases hA:p.A with
  |none=>exact .inl ⟨rfl,(h.nil hA).1,(h.nil hA).2⟩
  |some a=>
   refine .inr ⟨a,rfl,fun j u hu=> ?_⟩
   have h1:(numL .u8 p.ls).length=0:=by rw[show(numL .u8 p.ls).length=p.ls.length by simp[numL]];omega
   rw[List.getElem?_eq_none (by rw[h1];exact Nat.zero_le _)]at hu
   cases hu
theorem emZ(w:World)(n g base cF cG cc cx:Nat)(AF AG AC AX:Option Addr)(ps:List Part)(G CB IX:List Nat)(hn:n≤1000000)(hg:g≤20000)(hpl:ps.length=g)(hGl:G.length=g)(hGb:∀z∈G,z≤1000000)(hfl:(ps.map Part.ls).flatten.length≤500000)(hcl:CB.length≤900000)(hxl:IX.length≤900000)(hc8:∀x∈CB,x≤255)(hx8:∀x∈IX,x≤255)
 (ho:w.ownsRow base 29 1 (.slice AF g cF) g (ps.map Part.v))(hfs:FrsAt w base ps)(hG:Row w w.heap.size AG g 1 (numF .i64 G))(hC:Part.Ok (⟨AC,cc,CB⟩:Part) w)(hX:Part.Ok (⟨AX,cx,IX⟩:Part) w):
 Calls Tryz.prog 30 #[.int .i64 (n:Nat), .slice AF g cF, .slice AG g cG, .slice AC CB.length cc, .slice AX IX.length cx] w fun e w'=>∃v,e= .returned v∧w'.ownsRow w.heap.size 5 1 v (joinP n G (ps.map Part.ls) CB IX).length (numL .u8 (joinP n G (ps.map Part.ls) CB IX))∧Below w.heap.size w w':=by
 obtain⟨j0,hj0,hy0,hy1,hy2⟩:=info_parts rZ
 have D1:=Lib.hid (fun wx=>abZ wx n (by omega))
 have D2:=Lib.hid (fun wx=>abZ wx g (by omega))
 have l1:=lZ (x:=n) (by omega)
 have l2:=lZ (x:=g) (by omega)
 have u1:IntKind.u64.wrap (n:Int)=(n:Int):=by rw[IntKind.wrap_u64];omega
 have u2:IntKind.u64.wrap (g:Int)=(g:Int):=by rw[IntKind.wrap_u64];omega
 obtain⟨SZ,hSZ⟩:∃SZ,SZ=(ps.map Part.ls).map List.length:=⟨_,rfl⟩
 have hSl:SZ.length=g:=by rw[hSZ,List.length_map,List.length_map];exact hpl
 have HJP:Hid (joinP n G (ps.map Part.ls) CB IX=(ps.map Part.ls).flatten++(putC CB++(putC IX++(putC (dirP n G SZ (putC CB).length (putC IX).length)++fix4 (putC (dirP n G SZ (putC CB).length (putC IX).length)).length)))):=by show _=_;unfold joinP;rw[hSZ]
 have HDP:Hid (∀x y,dirP n G SZ x y=numB n++numB g++pairsP G SZ++(numB x++numB y)):=fun x y=>by unfold dirP;rw[hGl];simp only[List.append_assoc]
 have HPL:=Lib.hid hpl
 have HGL:=Lib.hid hGl
 have HSL:=Lib.hid hSl
 have HGB:=Lib.hid hGb
 have HFL:=Lib.hid hfl
 have HC8:=Lib.hid hc8
 have HX8:=Lib.hid hx8
 have HO:=Lib.hid ho
 have HFS:=Lib.hid hfs
 have HRG:Hid (Row w w.heap.size AG g 1 (numF .i64 G)):=hG
 have HC:=Lib.hid hC
 have HX:=Lib.hid hX
 have HSZ:=Lib.hid hSZ
 clear hpl hGl hSl hGb hfl hc8 hx8 ho hfs hG hC hX hSZ
 go_enter Tryz.func30,Tryz.ntmps30
 go_wp2_with fail
 refine(D1.out _).mono ?_
 rintro e w1 ⟨v1,rfl,ho1,hb1⟩
 have HJ1:Hid (JS w.heap.size [] (numB n) (.slice none 0 0) v1 w1):=⟨World.ownsRow_nil _ _ _ _,ho1,fun _ h=>by cases h⟩
 obtain⟨A1,c1,rfl⟩:=aZ ho1
 have HB:=Lib.hid hb1
 clear ho1 hb1 D1
 obtain⟨NA,hNA⟩:∃NA,NA=numB g:=⟨_,rfl⟩
 rw[←hNA]at D2 l2
 have DNA:=Lib.hid D2.out
 have HJ:=Lib.hid HJ1.out
 have HNA:=Lib.hid hNA
 clear D2 HJ1 hNA
 go_wp2_with fail
 refine(DNA.out _).mono ?_
 rintro e wA ⟨vA,rfl,hoA,hbA⟩
 obtain⟨AA,cA,rfl⟩:=aZ hoA
 have HSA:Hid (Src wA AA NA.length cA 1 (numL .u8 NA)):=pZ hoA
 have HJA:=Lib.hid (HJ.out.step hbA)
 have HBA:Hid (Below w.heap.size w wA):=hZ hbA HB.out.size HB.out
 have hzA:=HBA.out.size
 clear hoA hbA DNA HJ HB
 go_wp2_with(at_builtin;refine gZ rfl (.tmp 21) (.tmp 25) 29 rfl w.heap.size 5 j0 _ 1 1 Tryz.underlying29 hj0 hy0 hy1 hy2 rfl (by decide) _ _ _ (by rfl) HJA.out.od _ _ _ _ (by rfl) HSA.out (nZ _ _) (by unfold maxLen;omega) (by omega) hzA ?_;intro v2 w2 hown2 hg2 hat2;have q:=HJA.out.dirA hzA hg2 hown2 hat2;obtain⟨A2,c2,rfl⟩:=aZ hown2;have HJ2:=Lib.hid q.1;have HB2:Hid (Below w.heap.size w w2):=HBA.out.trans q.2;clear q hown2 hg2 hat2 HJA HSA HBA)
 have HDIR0:Hid (numB n++NA=numB n++numB g++pairsP (G.take 0) (SZ.take 0)):=by show _=_;rw[HNA.out];simp[pairsP]
 rw[HDIR0.out]at HJ2
 have HJ3:Hid (JS w.heap.size ((ps.take 0).map Part.ls).flatten (numB n++numB g++pairsP (G.take 0) (SZ.take 0)) (.slice none 0 0) (.slice A2 ((numB n).length+NA.length) c2) w2):=HJ2.out
 have HLD0:Hid ((numB n++numB g++pairsP (G.take 0) (SZ.take 0)).length≤20+20*0):=by
  show _≤_
  rw[←HDIR0.out,List.length_append]
  omega
 clear HJ2
 go_wp2_with fail
 go_loopw [11,12,13] (fun ov dv iv wr=>∃k:Nat,k≤g∧iv= .int .i64 k∧Hid (JS w.heap.size ((ps.take k).map Part.ls).flatten (numB n++numB g++pairsP (G.take k) (SZ.take k)) ov dv wr)∧Hid ((numB n++numB g++pairsP (G.take k) (SZ.take k)).length≤20+20*k)∧Hid (Below w.heap.size w wr)) (fun _ _ iv _=>g-(intOf iv).toNat)
 case atStart=>exact⟨0,by omega,rfl,HJ3.out,HLD0.out,HB2.out⟩
 case round=>
  obtain⟨k,hk,rfl,HJ,HLD,HB⟩:=hrel
  clear HJ3 HLD0 HB2 HDIR0
  obtain⟨wi,rfl⟩:∃wi:World,wi=wr:=⟨_,rfl⟩
  have hz:=HB.out.size
  by_cases hlt:k<g
  ·have gk:decide ((k:Int)<(g:Int))=true:=by simp;omega
   have gk':decide (k<g)=true:=by simp;omega
   have x0:(0:Int)≤(k:Int):=by omega
   have x1:(k:Int)<(g:Int):=by omega
   obtain⟨bg,og,m,rfl,hbg,hm,cm⟩:=qZ (HRG.out.below HB.out) HGL.out hlt
   have hkl:k<ps.length:=by rw[HPL.out];exact hlt
   obtain⟨P,hP⟩:∃P,P=ps[k]:=⟨_,rfl⟩
   have hPk:ps[k]? =some P:=by rw[hP];exact List.getElem?_eq_getElem hkl
   have hOw:wi.ownsRow base 29 1 (.slice AF g cF) g (ps.map Part.v):=eZ HO.out fun y hy=>HB.out.block y (World.ownsRow.lt HO.out y hy).2
   obtain⟨gf,gc,hAF,_,_⟩:=hOw.form (by omega)
   injection hAF with e1 e2 e3
   subst e1 e3
   have hgf:gf<w.heap.size:=(World.ownsRow.lt HO.out gf rfl).2
   have cf:w.cell? ⟨gf,k,none⟩=some P.v:=(Lz.own_cells HO.out hlt).1.trans (by rw[List.getElem?_map,hPk];rfl)
   have HCF:Hid (∀wx,Below w.heap.size w wx→wx.cell? ⟨gf,k,none⟩=some P.v):=fun wx h=>(h.cell (p:=⟨gf,k,none⟩) hgf).trans cf
   have HPO:Hid (∀wx,Below w.heap.size w wx→Part.Ok P wx):=fun wx h=>(kZ (HFS.out P (by rw[hP];exact List.getElem_mem hkl)) rfl).step h
   have hml:=HGB.out m (List.mem_of_getElem? hm)
   have hSk:SZ[k]? =some P.ls.length:=by rw[HSZ.out,List.getElem?_map,List.getElem?_map,hPk];rfl
   have hpl1:P.ls.length≤500000:=Nat.le_trans (One.lyZ (List.mem_map.2 ⟨P,by rw[hP];exact List.getElem_mem hkl,rfl⟩)) HFL.out
   have hst:=dmZ hm hSk
   have hot:((ps.take (k+1)).map Part.ls).flatten=((ps.take k).map Part.ls).flatten++P.ls:=by rw[List.take_add_one,hPk];simp
   have hol:((ps.take k).map Part.ls).flatten.length≤500000:=by
    refine Nat.le_trans ?_ HFL.out
    conv=>rhs;rw[←List.take_append_drop k ps]
    rw[List.map_append,List.flatten_append,List.length_append]
    omega
   have DNA:=Lib.hid (fun wx=>abZ wx m (by omega))
   have DNB:=Lib.hid (fun wx=>abZ wx P.ls.length (by omega))
   have la:=lZ (x:=m) (by omega)
   have lb:=lZ (x:=P.ls.length) (by omega)
   have u3:IntKind.u64.wrap (m:Int)=(m:Int):=by rw[IntKind.wrap_u64];omega
   obtain⟨pA,pc,pls⟩:=P
   simp only[Part.v]at HCF hot hst hpl1 hSk lb DNB HPO
   have u4:IntKind.u64.wrap (pls.length:Int)=(pls.length:Int):=by rw[IntKind.wrap_u64];omega
   have HSE:Hid (numB n++numB g++pairsP (G.take (k+1)) (SZ.take (k+1))=numB n++numB g++pairsP (G.take k) (SZ.take k)++numB m++numB pls.length):=by show _=_;rw[hst];simp only[List.append_assoc]
   obtain⟨NB,hNB⟩:∃NB,NB=numB pls.length:=⟨_,rfl⟩
   rw[←hNB]at HSE DNB lb
   obtain⟨NA,hNA⟩:∃NA,NA=numB m:=⟨_,rfl⟩
   rw[←hNA]at HSE DNA la
   have HOE:Hid (((ps.take (k+1)).map Part.ls).flatten=((ps.take k).map Part.ls).flatten++pls):=hot
   have hdl:=HLD.out
   generalize numB n++numB g++pairsP (G.take k) (SZ.take k)=DI at *
   generalize ((ps.take k).map Part.ls).flatten=OU at *
   obtain⟨Ao,co,rfl⟩:=aZ HJ.out.oo
   obtain⟨Ad,cd,rfl⟩:=aZ HJ.out.od
   clear hm hkl hP hPk hOw cf hml hSk hst hot hNA hNB HLD
   go_wp2_with fail
   refine(DNA.out _).mono ?_
   rintro e wA ⟨vA,rfl,hoA,hbA⟩
   obtain⟨AA,cA,rfl⟩:=aZ hoA
   have HSA:Hid (Src wA AA NA.length cA 1 (numL .u8 NA)):=pZ hoA
   have HJA:=Lib.hid (HJ.out.step hbA)
   have HBA:Hid (Below w.heap.size w wA):=hZ hbA HB.out.size HB.out
   have hzA:=HBA.out.size
   clear hoA hbA DNA HJ HB
   go_wp2_with(at_builtin;refine gZ rfl (.tmp 33) (.tmp 39) 29 rfl w.heap.size 5 j0 _ 1 1 Tryz.underlying29 hj0 hy0 hy1 hy2 rfl (by decide) _ _ _ (by rfl) HJA.out.od _ _ _ _ (by rfl) HSA.out (nZ _ _) (by unfold maxLen;omega) (by omega) hzA ?_;intro v2 w2 hown2 hg2 hat2;have q2:=HJA.out.dirA hzA hg2 hown2 hat2;obtain⟨A2,c2,rfl⟩:=aZ hown2;have HJ2:=Lib.hid q2.1;have HB2:Hid (Below w.heap.size w w2):=HBA.out.trans q2.2;have hz2:=HB2.out.size;clear q2 hown2 hg2 hat2;have cf2:=HCF.out w2 HB2.out)
   clear HJA HSA HBA hzA
   have hd2:(DI++NA).length≤30+20*k:=by rw[List.length_append];omega
   refine(DNB.out _).mono ?_
   rintro e wB ⟨vB,rfl,hoB,hbB⟩
   obtain⟨AB,cB,rfl⟩:=aZ hoB
   have HSB:Hid (Src wB AB NB.length cB 1 (numL .u8 NB)):=pZ hoB
   have HJB:=Lib.hid (HJ2.out.step hbB)
   have HBB:Hid (Below w.heap.size w wB):=hZ hbB HB2.out.size HB2.out
   have hzB:=HBB.out.size
   clear hoB hbB DNB HJ2 HB2
   have cfB:=HCF.out wB HBB.out
   go_wp2_with(first|(at_builtin;refine gZ rfl (.tmp 41) (.tmp 48) 29 rfl w.heap.size 5 j0 _ 1 1 Tryz.underlying29 hj0 hy0 hy1 hy2 rfl (by decide) _ _ _ (by rfl) HJB.out.od _ _ _ _ (by rfl) HSB.out (nZ _ _) (by unfold maxLen;omega) (by omega) hzB ?_;intro v3 w3 hown3 hg3 hat3;have q3:=HJB.out.dirA hzB hg3 hown3 hat3;obtain⟨A3,c3,rfl⟩:=aZ hown3;have HJ3:=Lib.hid q3.1;have HB3:Hid (Below w.heap.size w w3):=HBB.out.trans q3.2;have hz3:=HB3.out.size;clear q3 hown3 hg3 hat3;have cf3:=HCF.out w3 HB3.out;have HS3:Src w3 pA pls.length pc 1 (numL .u8 pls):=src_part (HPO.out w3 HB3.out))|(at_builtin;refine gZ rfl (.tmp 50) (.tmp 54) 29 rfl w.heap.size 5 j0 _ 1 1 Tryz.underlying29 hj0 hy0 hy1 hy2 rfl (by decide) _ _ _ (by rfl) HJ3.out.oo _ _ _ _ (by rfl) HS3 (nZ _ _) (by unfold maxLen;omega) (by omega) hz3 ?_;intro v4 w4 hown4 hg4 hat4;have q4:=HJ3.out.outA hz3 hg4 hown4 hat4;obtain⟨A4,c4,rfl⟩:=aZ hown4;have HJ4:=Lib.hid q4.1;have HB4:Hid (Below w.heap.size w w4):=HB3.out.trans q4.2;have hz4:=HB4.out.size;clear q4 hown4 hg4 hat4;skip))
   have hj4:=HJ4.out
   simp only[List.length_append]at hj4
   have HJ5:=Lib.hid hj4
   clear hj4
   have HLD4:Hid ((DI++NA++NB).length≤20+20*(k+1)):=by show _≤_;rw[List.length_append];omega
   go_roundw
   case measure=>go_light;simp[intOf];omega
   case rel=>go_light;exact⟨k+1,by omega,by first|rfl|go_num,by rw[HSE.out,HOE.out];exact HJ5.out,by rw[HSE.out];exact HLD4.out,HB4.out⟩
  ·obtain rfl:k=g:=by omega
   have gk:decide ((k:Int)<(k:Int))=false:=by simp
   have gk':decide (k<k)=false:=by simp
   have eG:G.take k=G:=List.take_of_length_le (by rw[HGL.out];exact Nat.le_refl _)
   have eS:SZ.take k=SZ:=List.take_of_length_le (by rw[HSL.out];exact Nat.le_refl _)
   have eP:ps.take k=ps:=List.take_of_length_le (by rw[HPL.out];exact Nat.le_refl _)
   rw[eG,eS]at HJ HLD
   rw[eP]at HJ
   have hdl:=HLD.out
   have hol:=HFL.out
   have HDE:=Lib.hid (HDP.out (putC CB).length (putC IX).length)
   have hd8:=ypZ n G SZ (putC CB).length (putC IX).length
   rw[jbZ CB,jbZ IX]at HDE hd8 HJP
   generalize dirP n G SZ (CB.length+4) (IX.length+4)=DD at *
   generalize numB n++numB k++pairsP G SZ=DI at *
   generalize (ps.map Part.ls).flatten=OU at *
   obtain⟨Ao,co,rfl⟩:=aZ HJ.out.oo
   obtain⟨Ad,cd,rfl⟩:=aZ HJ.out.od
   have HCw:=Lib.hid (HC.out)
   have E1:=Lib.hid (rput_any wi AC CB.length cc CB rfl (by omega) HC.out.nil HC8.out ((HC.out.row.below HB.out).mono hz))
   have E2:=Lib.hid (fun wx (h:Below w.heap.size w wx)=>rput_any wx AX IX.length cx IX rfl (by omega) HX.out.nil HX8.out ((HX.out.row.below h).mono h.size))
   unfold PutPost at E1 E2
   obtain⟨cl,hcl4⟩:∃cl,cl=CB.length+4:=⟨_,rfl⟩
   obtain⟨il,hil4⟩:∃il,il=IX.length+4:=⟨_,rfl⟩
   rw[←hcl4]at E1 HDE
   rw[←hil4]at E2 HDE
   have hclb:cl≤900004:=by omega
   have hilb:il≤900004:=by omega
   have HCL4:=Lib.hid hcl4
   have HIL4:=Lib.hid hil4
   clear eG eS eP HLD hcl4 hil4 HDP HSZ HCw
   go_wp2_with fail
   refine E1.out.mono ?_
   rintro e w5 ⟨v5,rfl,ho5,hb5⟩
   obtain⟨A5,c5,rfl⟩:=aZ ho5
   have HB5:Hid (Below w.heap.size w w5):=hZ hb5 hz HB.out
   have HJ5:=Lib.hid (HJ.out.step hb5)
   have HO5:Hid (w5.ownsRow w.heap.size 5 1 (.slice A5 cl c5) cl (numL .u8 (putC CB))):=mZ ho5 hz
   have HE5:Hid (JE w.heap.size (.slice Ao OU.length co) (.slice Ad DI.length cd) (.slice A5 cl c5) cl (numL .u8 (putC CB)) w5):=JE.new HJ.out hz ho5
   have E2':=Lib.hid (E2.out w5 HB5.out)
   have hz5:=HB5.out.size
   clear ho5 hb5 E1 E2 HJ HB HO5 hz
   go_wp2_with fail
   refine E2'.out.mono ?_
   rintro e w6 ⟨v6,rfl,ho6,hb6⟩
   obtain⟨A6,c6,rfl⟩:=aZ ho6
   have HB6:Hid (Below w.heap.size w w6):=hZ hb6 hz5 HB5.out
   have HE6:Hid (JE w.heap.size (.slice Ao OU.length co) (.slice Ad DI.length cd) (.slice A6 il c6) il (numL .u8 (putC IX)) w6):=JE.new HJ5.out hz5 ho6
   have HE56:=Lib.hid (HE5.out.step hb6)
   have HJ6:=Lib.hid (HJ5.out.step hb6)
   have hz6:=HB6.out.size
   have DN1:=Lib.hid (fun wx=>abZ wx cl (by omega))
   have DN2:=Lib.hid (fun wx=>abZ wx il (by omega))
   have la:=lZ (x:=cl) (by omega)
   have lb:=lZ (x:=il) (by omega)
   have u3:IntKind.u64.wrap (cl:Int)=(cl:Int):=by rw[IntKind.wrap_u64];omega
   have u4:IntKind.u64.wrap (il:Int)=(il:Int):=by rw[IntKind.wrap_u64];omega
   generalize numB cl=N1 at *
   generalize numB il=N2 at *
   clear ho6 hb6 E2' HJ5 HB5 HE5 hz5
   go_wp2_with fail
   refine(DN1.out _).mono ?_
   rintro e w7 ⟨v7,rfl,ho7,hb7⟩
   obtain⟨A7,c7,rfl⟩:=aZ ho7
   have HS7:Hid (Src w7 A7 N1.length c7 1 (numL .u8 N1)):=pZ ho7
   have HJ7:=Lib.hid (HJ6.out.step hb7)
   have HE57:=Lib.hid (HE56.out.step hb7)
   have HE67:=Lib.hid (HE6.out.step hb7)
   have HB7:Hid (Below w.heap.size w w7):=hZ hb7 hz6 HB6.out
   have hz7:=HB7.out.size
   clear ho7 hb7 DN1 HJ6 HE56 HE6 HB6 hz6
   go_wp2_with(at_builtin;refine gZ rfl (.tmp 60) (.tmp 64) 29 rfl w.heap.size 5 j0 _ 1 1 Tryz.underlying29 hj0 hy0 hy1 hy2 rfl (by decide) _ _ _ (by rfl) HJ7.out.od _ _ _ _ (by rfl) HS7.out (nZ _ _) (by unfold maxLen;omega) (by omega) hz7 ?_;intro v8 w8 hown8 hg8 hat8;have HE58:=Lib.hid (HE57.out.dirA hg8 hat8);have HE68:=Lib.hid (HE67.out.dirA hg8 hat8);have q8:=HJ7.out.dirA hz7 hg8 hown8 hat8;obtain⟨A8,c8,rfl⟩:=aZ hown8;have HJ8:=Lib.hid q8.1;have HB8:Hid (Below w.heap.size w w8):=HB7.out.trans q8.2;have hz8:=HB8.out.size;clear q8 hown8 hg8 hat8;skip)
   have hd8l:(DI++N1).length≤400030:=by rw[List.length_append];omega
   clear HS7 HJ7 HE57 HE67 HB7 hz7
   refine(DN2.out _).mono ?_
   rintro e w9 ⟨v9,rfl,ho9,hb9⟩
   obtain⟨A9,c9,rfl⟩:=aZ ho9
   have HS9:Hid (Src w9 A9 N2.length c9 1 (numL .u8 N2)):=pZ ho9
   have HJ9:=Lib.hid (HJ8.out.step hb9)
   have HE59:=Lib.hid (HE58.out.step hb9)
   have HE69:=Lib.hid (HE68.out.step hb9)
   have HB9:Hid (Below w.heap.size w w9):=hZ hb9 hz8 HB8.out
   have hz9:=HB9.out.size
   clear ho9 hb9 DN2 HJ8 HE58 HE68 HB8 hz8
   go_wp2_with(at_builtin;refine gZ rfl (.tmp 66) (.tmp 70) 29 rfl w.heap.size 5 j0 _ 1 1 Tryz.underlying29 hj0 hy0 hy1 hy2 rfl (by decide) _ _ _ (by rfl) HJ9.out.od _ _ _ _ (by rfl) HS9.out (nZ _ _) (by unfold maxLen;omega) (by omega) hz9 ?_;intro v10 w10 hown10 hg10 hat10;have HE510:=Lib.hid (HE59.out.dirA hg10 hat10);have HE610:=Lib.hid (HE69.out.dirA hg10 hat10);have q10:=HJ9.out.dirA hz9 hg10 hown10 hat10;obtain⟨A10,c10,rfl⟩:=aZ hown10;have HJ10:=Lib.hid q10.1;have HB10:Hid (Below w.heap.size w w10):=HB9.out.trans q10.2;have hz10:=HB10.out.size;clear q10 hown10 hg10 hat10;skip)
   clear HS9 HJ9 HE59 HE69 HB9 hz9
   have hDD:DD=DI++N1++N2:=by rw[HDE.out,List.append_assoc]
   have hdd:DD.length=DI.length+N1.length+N2.length:=by rw[hDD,List.length_append,List.length_append]
   have od:=HJ10.out.od
   rw[←hDD]at od
   have od2:=od
   rw[hdd]at od2
   simp only[List.length_append]at od2
   have P10:Part.Ok (⟨A10,c10,DD⟩:Part) w10:=by
    have h:=kZ (A:=A10) (c:=c10) (ls:=DD) (n:=DI.length+N1.length+N2.length) od2 hdd
    exact h
   have E11:=Lib.hid (rput_any w10 A10 (DI.length+N1.length+N2.length) c10 DD hdd (by omega) (fun e=>by have h:=P10.nil e;exact⟨by rw[←hdd];exact h.1,h.2⟩) hd8 (by have h:=P10.row;simp only[hdd]at h;exact h))
   unfold PutPost at E11
   obtain⟨dl,hdl4⟩:∃dl,dl=DD.length+4:=⟨_,rfl⟩
   rw[←hdl4]at E11
   have hdlb:dl≤400060:=by omega
   have HDL4:=Lib.hid hdl4
   clear hDD hdd od od2 P10 hdl4 HDE
   refine E11.out.mono ?_
   rintro e w11 ⟨v11,rfl,ho11,hb11⟩
   obtain⟨A11,c11,rfl⟩:=aZ ho11
   have HE11:Hid (JE w.heap.size (.slice Ao OU.length co) (.slice A10 ((DI++N1).length+N2.length) c10) (.slice A11 dl c11) dl (numL .u8 (putC DD)) w11):=JE.new HJ10.out hz10 ho11
   have HE511:=Lib.hid (HE510.out.step hb11)
   have HE611:=Lib.hid (HE610.out.step hb11)
   have HJ11:=Lib.hid (HJ10.out.step hb11)
   have HB11:Hid (Below w.heap.size w w11):=hZ hb11 hz10 HB10.out
   have hz11:=HB11.out.size
   have HS5:Hid (Src w11 A5 cl c5 1 (numL .u8 (putC CB))):=pZ HE511.out.own
   have hl5:(OU++putC CB).length≤1500000:=by rw[List.length_append,jbZ,←HCL4.out];omega
   have hl6:(OU++putC CB++putC IX).length≤2500000:=by rw[List.length_append,jbZ,←HIL4.out];omega
   have hl7:(OU++putC CB++putC IX++putC DD).length≤3000000:=by rw[List.length_append,jbZ,←HDL4.out];omega
   have f5:(putC CB).length=cl:=by rw[jbZ,HCL4.out]
   have f6:(putC IX).length=il:=by rw[jbZ,HIL4.out]
   have f7:(putC DD).length=dl:=by rw[jbZ,HDL4.out]
   have HF5:=Lib.hid f5
   have HF6:=Lib.hid f6
   have HF7:=Lib.hid f7
   generalize putC CB=KC at *
   generalize putC IX=KX at *
   generalize putC DD=KD at *
   clear ho11 hb11 E11 HJ10 HE510 HE610 HB10 hz10 f5 f6 f7
   go_wp2_with(first|(at_builtin;refine gZ rfl (.tmp 73) (.tmp 74) 29 rfl w.heap.size 5 j0 _ 1 1 Tryz.underlying29 hj0 hy0 hy1 hy2 rfl (by decide) _ _ _ (by rfl) HJ11.out.oo _ _ _ _ (by rfl) HS5.out (nZ _ _) (by unfold maxLen;omega) (by omega) hz11 ?_;intro v12 w12 hown12 hg12 hat12;rw[←HF5.out]at hown12;have HE612:=Lib.hid (HE611.out.outA hg12 hat12);have HE1112:=Lib.hid (HE11.out.outA hg12 hat12);have HS6:Src w12 A6 il c6 1 (numL .u8 KX):=pZ HE612.out.own;have q12:=HJ11.out.outA hz11 hg12 hown12 hat12;obtain⟨A12,c12,rfl⟩:=aZ hown12;have hj12:=q12.1;(try simp only[List.length_append]at hj12);have HJ12:=Lib.hid hj12;clear hj12;have HB12:Hid (Below w.heap.size w w12):=HB11.out.trans q12.2;have hz12:=HB12.out.size;clear q12 hown12 hg12 hat12;skip)|(at_builtin;refine gZ rfl (.tmp 76) (.tmp 77) 29 rfl w.heap.size 5 j0 _ 1 1 Tryz.underlying29 hj0 hy0 hy1 hy2 rfl (by decide) _ _ _ (by rfl) HJ12.out.oo _ _ _ _ (by rfl) HS6 (nZ _ _) (by unfold maxLen;omega) (by omega) hz12 ?_;intro v13 w13 hown13 hg13 hat13;rw[←HF6.out]at hown13;have HE1113:=Lib.hid (HE1112.out.outA hg13 hat13);have HS7:Src w13 A11 dl c11 1 (numL .u8 KD):=pZ HE1113.out.own;have q13:=HJ12.out.outA hz12 hg13 hown13 hat13;obtain⟨A13,c13,rfl⟩:=aZ hown13;have hj13:=q13.1;(try simp only[List.length_append]at hj13);have HJ13:=Lib.hid hj13;clear hj13;have HB13:Hid (Below w.heap.size w w13):=HB12.out.trans q13.2;have hz13:=HB13.out.size;clear q13 hown13 hg13 hat13;skip)|(at_builtin;refine gZ rfl (.tmp 79) (.tmp 80) 29 rfl w.heap.size 5 j0 _ 1 1 Tryz.underlying29 hj0 hy0 hy1 hy2 rfl (by decide) _ _ _ (by rfl) HJ13.out.oo _ _ _ _ (by rfl) HS7 (nZ _ _) (by unfold maxLen;omega) (by omega) hz13 ?_;intro v14 w14 hown14 hg14 hat14;rw[←HF7.out]at hown14;have q14:=HJ13.out.outA hz13 hg14 hown14 hat14;obtain⟨A14,c14,rfl⟩:=aZ hown14;have hj14:=q14.1;(try simp only[List.length_append]at hj14);have HJ14:=Lib.hid hj14;clear hj14;have HB14:Hid (Below w.heap.size w w14):=HB13.out.trans q14.2;have hz14:=HB14.out.size;clear q14 hown14 hg14 hat14;skip))
   have HJO:Hid (joinP n G (ps.map Part.ls) CB IX=OU++KC++KX++KD++fix4 dl):=by show _=_;rw[HJP.out,HF7.out];simp only[List.append_assoc]
   have E15:=Lib.hid (owZ w14 dl (by omega))
   have u5:IntKind.u64.wrap (dl:Int)=(dl:Int):=by rw[IntKind.wrap_u64];omega
   clear HJ11 HJ12 HJ13 HB11 HB12 HB13 HE11 HE511 HE611 HE612 HE1112 HE1113 HS5 HS6 HS7 HJP
   refine E15.out.mono ?_
   rintro e w15 ⟨v15,rfl,ho15,hb15⟩
   obtain⟨A15,c15,rfl⟩:=aZ ho15
   have HS15:Hid (Src w15 A15 4 c15 1 (numL .u8 (fix4 dl))):=pZ ho15
   have HJ15:=Lib.hid (HJ14.out.step hb15)
   have HB15:Hid (Below w.heap.size w w15):=hZ hb15 hz14 HB14.out
   have hz15:=HB15.out.size
   clear ho15 hb15 E15 HJ14 HB14
   have HO16:Hid (w15.ownsRow w.heap.size 5 1 (.slice A14 (OU.length+(KC.length+KX.length)+KD.length) c14) (OU++KC++KX++KD).length (numL .u8 (OU++KC++KX++KD))):=by
    have h:=HJ15.out.oo
    show World.ownsRow _ _ _ _ _ _ _
    rw[show OU.length+(KC.length+KX.length)+KD.length=OU.length+KC.length+KX.length+KD.length by omega]
    exact h
   clear HJ15
   go_wp2_with(at_builtin;refine gZ rfl (.tmp 89) (.tmp 90) 29 rfl w.heap.size 5 j0 _ 1 1 Tryz.underlying29 hj0 hy0 hy1 hy2 rfl (by decide) _ _ _ (by rfl) HO16.out _ _ _ _ (by rfl) HS15.out (nZ _ _) (by unfold maxLen;omega) (by omega) hz15 ?_;intro v17 w17 hown17 hg17 hat17)
   have HB17:Hid (Below w.heap.size w w17):=HB15.out.grown hg17 hz15 (fun y hy=>(World.ownsRow.lt HO16.out y hy).1)
   go_ret
   refine⟨v17,rfl,?_,HB17.out⟩
   rw[HJO.out]
   have e1:(OU++KC++KX++KD++fix4 dl).length=(OU++KC++KX++KD).length+4:=by rw[List.length_append];rfl
   have e2:numL .u8 (OU++KC++KX++KD++fix4 dl)=numL .u8 (OU++KC++KX++KD)++numL .u8 (fix4 dl):=by simp[numL]
   rw[e1,e2]
   exact hown17
end Go.Proofs.YtcafklmbehoggaaGreatDoor.Body
namespace Go.Proofs.YtcafklmbehoggaaGreatDoor.Body
open Recs Idx Opts
open Go.Proofs.YtcafklmbehoggaaGreatDoor.NumPut (numB lZ)
open Go.Proofs.YtcafklmbehoggaaGreatDoor.Ef (efO mayI efBits acZ wdZ efW)
open Go.Proofs.YtcafklmbehoggaaGreatDoor.Huff (vZ)
theorem kgZb{bound:Nat}{l:List Nat}(hb:bound≤20000)(hm:mayI bound none l=true)(h0:l≠ [])(hn:l.length≤bound):(efO bound l).length≤10+(3*bound+7) / 8:=by
 have h1:1≤l.length:=List.length_pos_iff.2 h0
 have hq:1≤bound / l.length:=(Nat.one_le_div_iff (by omega)).2 hn
 have hW:l.length*efW bound l.length≤bound:=by
  have h3:=Ef.uhZ (q:=bound / l.length) (by omega)
  have h4:efW bound l.length<2 ^ efW bound l.length:=Nat.lt_two_pow_self
  unfold efW at h4 ⊢
  have h5:l.length*Nat.log2 (bound / l.length)≤l.length*(bound / l.length):=Nat.mul_le_mul_left _ (by omega)
  exact Nat.le_trans h5 (Nat.mul_div_le _ _)
 have hlow:=acZ (efW bound l.length) l
 have hlt:=wdZ bound l none hm
 have hp:=(lkZ bound l none hm).1
 have hhi:=kkZ (l.map (·/ 2 ^ efW bound l.length)) 0 bound (Nat.zero_le _) (fun x hx=>by
  obtain⟨y,hy,rfl⟩:=List.mem_map.1 hx
  exact⟨Nat.zero_le _,Nat.le_trans (Nat.div_le_self _ _) (by have:=hlt y hy;omega)⟩) (List.Pairwise.map _ (fun a b h=>Nat.div_le_div_right h) hp)
 rw[List.length_map]at hhi
 have hn2:=lZ (x:=l.length) (by omega)
 unfold efO
 rw[if_neg h0,List.length_append,vZ]
 unfold efBits
 rw[List.length_append,hlow]
 omega
theorem fmZ{bound C:Nat}:∀ {ls:List (List Nat)},(∀x∈ls,(efO bound x).length≤C)→(listsO bound ls).length≤C*ls.length
 | [],_=>by simp[listsO]
 |x :: t,h=>by
  have ih:=fmZ (ls:=t) (fun y hy=>h y (List.mem_cons_of_mem _ hy))
  have hx:=h x List.mem_cons_self
  unfold listsO at ih ⊢
  rw[List.flatMap_cons,List.length_append,List.length_cons,Nat.mul_add]
  omega
theorem lgZb(ts:List (List Str)):(allT ts).length≤(ts.map List.length).sum:=by
 have h:∀ (ts:List (List Str)) (acc:List Str),(ts.foldl putAll acc).length≤acc.length+(ts.map List.length).sum:=fun ts=>by
  induction ts with
  |nil=>intro acc;simp
  |cons t ts ih=>
   intro acc
   have h1:=ih (putAll acc t)
   have h2:=ofZ t acc
   rw[List.foldl_cons,List.map_cons,List.sum_cons]
   omega
 have:=h ts []
 simpa[allT]using this
theorem okZ:∀l:List Rec,((((l.map termsR).map List.length).sum:Nat):Int)≤weight l
 | []=>by simp[lfZ]
 |r :: l=>by
  have ih:=okZ l
  have e:weight (r :: l)=weigh r+weight l:=by
   simp only[weight,List.map_cons,List.foldl_cons]
   rw[tjZ]
   omega
  have h:=jkZ r.text.data.toList r.source.data.toList
  have h1:r.text.data.toList.length=r.text.size:=Array.length_toList
  have h2:r.source.data.toList.length=r.source.size:=Array.length_toList
  rw[h1,h2]at h
  rw[List.map_cons,List.map_cons,List.sum_cons,e]
  have h3:(termsR r).length≤r.text.size+r.source.size:=h
  unfold weigh
  omega
theorem evZ{o:Opt}{l:List Rec}{n:Nat}(hn:l.length=n)(h1:(n:Int)≤30)(h2:weight l≤1500):(allT (l.map termsR)).length≤20000∧(optB o=0→(ixR o l).length≤99000):=by
 have hT:(allT (l.map termsR)).length≤1500:=by
  have a:=lgZb (l.map termsR)
  have b:=okZ l
  omega
 refine⟨by omega,fun ho=> ?_⟩
 obtain⟨_,_,hb3,hb4⟩:=clZ ho
 have hok:=avZ l
 have hmay:=zpZ (l:=l) (by omega)
 have hs:∀s∈allT (l.map termsR),s.length≤25:=fun s hs=>(oeZ hmay s hs).2
 have a:=diZ hs (size:=o.bucket.toNat) (by omega) (by omega) (nCh o.bucket.toNat (allT (l.map termsR)).length)
 have b:=njZ hs (size:=o.bucket.toNat) (by omega) (nCh o.bucket.toNat (allT (l.map termsR)).length)
 have c:=fkZ (size:=o.bucket.toNat) (n:=(allT (l.map termsR)).length) (by omega)
 have d:=fmZ (bound:=l.length) (C:=22) (ls:=(allT (l.map termsR)).map (idsT (l.map termsR))) (fun x hx=>by
  have h3:=hok.2 x hx
  have h4:=kgZb (bound:=l.length) (l:=x) (by omega) (List.all_eq_true.1 hok.1 x hx) h3.1 h3.2
  omega)
 rw[List.length_map]at d
 have e:dictO o.bucket.toNat (allT (l.map termsR))=hdB o.bucket.toNat (allT (l.map termsR)) (nCh o.bucket.toNat (allT (l.map termsR)).length)++bdB o.bucket.toNat (allT (l.map termsR)) (nCh o.bucket.toNat (allT (l.map termsR)).length):=kjZ (by omega) _
 unfold ixR ixO
 rw[List.length_append,e,List.length_append]
 omega
end Go.Proofs.YtcafklmbehoggaaGreatDoor.Body
