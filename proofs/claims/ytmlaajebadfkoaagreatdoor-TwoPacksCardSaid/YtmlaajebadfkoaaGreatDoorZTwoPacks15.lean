/- Rows of texts: what a part of one leads to; the walk of the reference' -/
import Derived.Test.YtmlaajebadfkoaaGreatDoorZTwoPacks14
import Derived.Test.YtmlaajebadfkoaaGreatDoorZTwoPacks3
namespace Go.Proofs.YtmlaajebadfkoaaGreatDoor end Go.Proofs.YtmlaajebadfkoaaGreatDoor open Go.Proofs.YtmlaajebadfkoaaGreatDoor
open Go.Lib (hid)
set_option maxHeartbeats 2000000
set_option maxRecDepth 100000
namespace Go.Proofs.YtmlaajebadfkoaaGreatDoor.Idx
open Go.RowKit Mem Own Canon Sift
open Go.Proofs.YtmlaajebadfkoaaGreatDoor.Crc (grZ)
section
variable {w:World} {base n c s:Nat} {e:TypeId} {A:Option Addr} {xs:List Value}
theorem src_head(h:w.ownsRow base e 1 (.slice A n c) n xs)(m:Nat)(hm:m<=n):Src w A m c 1 (xs.take m):=by
 have hl:=h.1
 refine⟨by rw[List.length_take,hl];omega,?_⟩
 rcases h.2 with ⟨hv,h0⟩|⟨g,cap,cur,hv,_⟩
 ·injection hv with e1 e2 e3
  subst e1 e2 e3
  exact .inl ⟨rfl,by omega,rfl⟩
 ·injection hv with e1 e2 e3
  subst e1 e3
  refine .inr ⟨_,rfl,fun j u hu=> ?_⟩
  have hj:j<m:=by
   have:=(List.getElem?_eq_some_iff.1 hu).1
   rw[List.length_take]at this
   omega
  rw[Mem.add_none,Nat.zero_add,h.cellAt j (by omega)]
  rwa [List.getElem?_take,if_pos hj]at hu
theorem raZb(h:w.ownsRow base e 1 (.slice A n c) n xs)(k:Nat)(hk:k<=n):Src w (ycZ A k c 1) (n-k) (c-k) 1 (xs.drop k):=by
 have hl:=h.1
 refine⟨by rw[List.length_drop,hl];omega,?_⟩
 rcases h.2 with ⟨hv,h0⟩|⟨g,cap,cur,hv,_,_,hc,_⟩
 ·injection hv with e1 e2 e3
  subst e1 e2 e3
  obtain rfl:k=0:=by omega
  exact .inl ⟨rfl,rfl,rfl⟩
 ·injection hv with e1 e2 e3
  subst e1 e3
  have hcell:∀j u,(xs.drop k)[j]? =some u->w.cell? ⟨g,k+j,none⟩=some u:=fun j u hu=>by
   rw[List.getElem?_drop]at hu
   have hj:=(List.getElem?_eq_some_iff.1 hu).1
   rw[h.cellAt (k+j) (by omega)]
   exact hu
  unfold ycZ
  split
  ·refine .inr ⟨_,rfl,fun j u hu=> ?_⟩
   have hj:=(List.getElem?_eq_some_iff.1 hu).1
   rw[List.length_drop]at hj
   omega
  ·exact .inr ⟨_,rfl,fun j u hu=>by show w.cell? (Addr.add (Addr.add ⟨g,0,none⟩ (k*1)) j)=_;rw[Mem.add_none,Mem.add_none,Nat.zero_add,Nat.mul_one];exact hcell j u hu⟩
theorem saZb(h:w.ownsRow base e 1 (.slice A n c) n xs):n<=c/\∀a,A=some a->a.add 0=a:=by
 rcases h.2 with ⟨hv,h0⟩|⟨g,cap,cur,hv,_,_,hc,_⟩
 ·injection hv with e1 e2 e3
  subst e1 e2 e3
  exact⟨Nat.le_refl _,fun a ha=>by cases ha⟩
 ·injection hv with e1 e2 e3
  subst e1 e3
  exact⟨hc,fun a ha=>by injection ha with ha;subst ha;exact Mem.add_none _ _ _⟩
end
theorem voZ(l:List Str):∀u∈abZ l,u.oneCell'=true:=by
 intro u hu
 obtain⟨x,_,rfl⟩:=List.mem_map.1 hu
 rfl
theorem fhZ{l:List Str}{i:Nat}{x:Str}(h:l[i]? =some x):(abZ l)[i]? =some (.string (bs x)):=by simp[abZ,h]
theorem kmZb(a b:List Str):abZ (a++b)=abZ a++abZ b:=by simp[abZ]
theorem ayZ(a:List Str)(k:Nat):(abZ a).take k=abZ (a.take k):=by simp[abZ,List.map_take]
theorem byZ(a:List Str)(k:Nat):(abZ a).drop k=abZ (a.drop k):=by simp[abZ,List.map_drop]
theorem rtZ(a:List Str):(abZ a).length=a.length:=by simp[abZ]
theorem yuZ(x s:Str):Op.bytesLess (bs x).toList (bs s).toList=decide (x<s):=by rw[ByteArray.toList_eq,ByteArray.toList_eq,miZ,miZ,bytesLess_eq]
theorem str_eq(x s:Str):((bs x).toList==(bs s).toList)=decide (x=s):=by
 rw[ByteArray.toList_eq,ByteArray.toList_eq,miZ,miZ]
 exact Bool.eq_iff_iff.2 (by simp)
def qlZ(ts:List Str)(base:Nat)(w:World)(e:Ending)(w':World):Prop:=
 ∃v,e= .returned v/\w'.ownsRow base 9 1 v ts.length (abZ ts)/\Below w.heap.size w w'
theorem woZ(w:World)(base:Nat)(A:Option Addr)(n c:Nat)(ls:List Str)(s:Str)(hn:ls.length=n)(hN:n<=3000000000)(hbase:base<=w.heap.size)(hown:w.ownsRow base 9 1 (.slice A n c) n (abZ ls)):
 Calls Tryz.prog 134 #[.slice A n c, .string (bs s)] w (qlZ (lfZ ls s) base w):=by
 obtain⟨j0,hj0,hy0,hy1,hy2⟩:=info_parts zlZ
 have HN:=hid hn
 have HO:=hid hown
 obtain⟨hcap,hadd⟩:=saZb hown
 have HP:Hid (∀k,k<=ls.length->(∀i,(h:i<k)->(h':i<ls.length)->ls[i]<s)->(∀x,ls[k]? =some x->¬x<s)->lfZ ls s=if ls[k]? =some s then ls else ls.take k++s :: ls.drop k):=afZb s ls
 unfold qlZ
 generalize lfZ ls s=R at *
 clear hn hown
 go_enter Tryz.func134,Tryz.ntmps134
 go_wp2_with fail
 go_loopw [5] (fun iv wx=>∃k:Nat,k<=n/\iv= .int .i64 k/\Hid (∀i,(h:i<k)->(h':i<ls.length)->ls[i]<s)/\wx=w) (fun iv _=>n-(intOf iv).toNat)
 case atStart=>exact⟨0,by omega,rfl,fun i h=>absurd h (by omega),rfl⟩
 case round=>
  obtain⟨k,hk,rfl,HS,rfl⟩:=hrel
  by_cases hlt:k<n
  ·have gk:decide ((k:Int)<(n:Int))=true:=by simp;omega
   have gk':decide (k<n)=true:=by simp;omega
   have x0:(0:Int)<=(k:Int):=by omega
   have x1:(k:Int)<(n:Int):=by omega
   obtain⟨g,cg,hAg,hbg,_⟩:=HO.out.form (by omega)
   injection hAg with hA1 hA2 hA3
   subst hA1 hA3
   obtain⟨x,hx⟩:∃x,ls[k]? =some x:=⟨_,List.getElem?_eq_getElem (by have:=HN.out;omega)⟩
   have ck:wr.cell? ⟨g,k,none⟩=some (.string (bs x)):=by rw[HO.out.cellAt k (by omega)];exact fhZ hx
   have HX:=hid hx
   clear hx
   by_cases hxs:x<s
   ·have gx:Op.bytesLess (bs x).toList (bs s).toList=true:=by rw[yuZ];simpa using hxs
    have HS2:Hid (∀i,(h:i<k+1)->(h':i<ls.length)->ls[i]<s):=fun i h h'=>by
     by_cases e:i<k
     ·exact HS.out i e h'
     ·obtain rfl:i=k:=by omega
      have:=HX.out
      rw[List.getElem?_eq_getElem h']at this
      injection this with this
      rw[this]
      exact hxs
    have s2:IntKind.i64.wrap ((k:Int)+1)=((k+1:Nat):Int):=by rw[IntWalk.i64_in _ (by omega)];omega
    clear HS hxs
    go_wp2_with fail
    go_roundw
    case measure=>go_light;simp[intOf];omega
    case rel=>go_light;exact⟨k+1,by omega,by first|rfl|go_num,HS2.out,by first|rfl|trivial⟩
   ·have gx:Op.bytesLess (bs x).toList (bs s).toList=false:=by rw[yuZ];simpa using hxs
    have HLX:Hid (∀y,ls[k]? =some y->¬y<s):=fun y hy=>by
     have h:=HX.out
     rw[hy]at h
     injection h with h
     rw[h]
     exact hxs
    clear hxs
    by_cases he:x=s
    ·have ge:((bs x).toList==(bs s).toList)=true:=by rw[str_eq];simpa using he
     have HR:Hid (R=ls):=by
      have h:=HP.out k (by have:=HN.out;omega) HS.out HLX.out
      rw[if_pos (by rw[HX.out,he])]at h
      exact h
     clear HP HS HLX HX he
     go_wp2_with fail
     go_ret
     exact⟨_,rfl,by rw[HR.out,HN.out];exact HO.out,Below.refl _ _⟩
    ·have ge:((bs x).toList==(bs s).toList)=false:=by rw[str_eq];simpa using he
     have HNE:Hid (¬ls[k]? =some s):=fun h=>by
      have h2:=HX.out
      rw[h]at h2
      injection h2 with h2
      exact he h2.symm
     clear HX he
     have HR:Hid (R=ls.take k++s :: ls.drop k):=by
      have h:=HP.out k (by have:=HN.out;omega) HS.out HLX.out
      rw[if_neg HNE.out]at h
      exact h
     have ks1:=fun wx=>grZ (P:=Tryz.prog) (t:=41) (s:=1) Tryz.underlying41 (fun _=>by kernel_rfl) (some ⟨g,0,none⟩) n c .i64 (k:Int) k rfl (by omega) hadd wx
     have ks2:=fun wx=>qiZ (P:=Tryz.prog) (t:=41) (s:=1) Tryz.underlying41 (fun _=>by kernel_rfl) (some ⟨g,0,none⟩) n c .i64 (k:Int) k rfl hk wx
     have HS1:Hid (Src wr (some ⟨g,0,none⟩) k c 1 (abZ (ls.take k))):=by rw[<-ayZ];exact src_head HO.out k hk
     have HS2:Hid (∀wx,Below wr.heap.size wr wx->Src wx (ycZ (some ⟨g,0,none⟩) k c 1) (n-k) (c-k) 1 (abZ (ls.drop k))):=fun wx hb=>by
      rw[<-byZ]
      exact raZb (fZ HO.out (fun y hy=>hb.block y (World.ownsRow.lt HO.out y hy).2)) k hk
     generalize ycZ (some ⟨g,0,none⟩) k c 1=A5 at *
     generalize c-k=c5 at *
     obtain⟨m5,hm5⟩:∃m5,m5=n-k:=⟨_,rfl⟩
     rw[<-hm5]at HS2 ks2
     have hkm:k+m5=n:=by omega
     have HKM:=hid hkm
     have hml:k+1+m5<=3000000001:=by omega
     have hkb:k<=3000000000:=by omega
     clear HP HS HLX HNE hadd HO hm5 hkm
     go_wp2_with(first|(at_builtin;refine hZ rfl (.tmp 34) (.tmp 37) 41 rfl wr.heap.size 9 j0 _ 1 16 Tryz.underlying41 hj0 hy0 hy1 hy2 rfl (by decide) (.slice none 0 0) 0 [] (by rfl) (World.ownsRow_nil _ _ _ _) _ _ _ _ (by rfl) HS1.out (voZ _) (by unfold maxLen;omega) (by omega) (Nat.le_refl _) ?_;intro v4 w4 hown4 hg4 hat4;obtain⟨A4,k4,rfl⟩:=bZ hown4;have HB4:Hid (Below wr.heap.size wr w4):=(Below.refl _ _).grown hg4 (Nat.le_refl _) (fun y hy=>by cases hy);have hz4:=HB4.out.size;rw[Nat.zero_add,List.nil_append]at hown4;have HO4:=hid hown4;clear hown4 hg4 hat4)|(at_builtin;refine hZ rfl (.tmp 39) (.tmp 41) 41 rfl wr.heap.size 9 j0 _ 1 16 Tryz.underlying41 hj0 hy0 hy1 hy2 rfl (by decide) _ _ _ (by rfl) (HO4.out.alloc _) _ 1 1 [.string (bs s)] (by rfl) (Src.of_blk (Blk.made _ _ _) 1 1 1 rfl) (by intro u hu;simp at hu;rcases hu with rfl;rfl) (by unfold maxLen;omega) (by omega) (by simp;omega) ?_;intro v6 w6 hown6 hg6 hat6;obtain⟨A6,k6,rfl⟩:=bZ hown6;have HB6:Hid (Below wr.heap.size wr w6):=(eZ hz4 HB4.out).grown hg6 (by simp;omega) (fun y hy=>(World.ownsRow.lt HO4.out y hy).1);have hz6:=HB6.out.size;have HO6:=hid hown6;have HS6:=hid (HS2.out _ HB6.out);clear hown6 hg6 hat6)|(at_builtin;refine hZ rfl (.tmp 43) (.tmp 46) 41 rfl wr.heap.size 9 j0 _ 1 16 Tryz.underlying41 hj0 hy0 hy1 hy2 rfl (by decide) _ _ _ (by rfl) HO6.out _ _ _ _ (by rfl) HS6.out (voZ _) (by unfold maxLen;omega) (by omega) hz6 ?_;intro v8 w8 hown8 hg8 hat8;have HB8:Hid (Below wr.heap.size wr w8):=HB6.out.grown hg8 hz6 (fun y hy=>(World.ownsRow.lt HO6.out y hy).1);have HO8:=hid hown8;clear hown8 hg8 hat8))
     go_ret
     refine⟨_,rfl,?_,HB8.out⟩
     have h:=nZ HO8.out hbase
     rw[HR.out]
     have e1:(abZ (ls.take k)++ [.string (bs s)]++abZ (ls.drop k))=abZ (ls.take k++s :: ls.drop k):=by simp[abZ]
     have e2:(ls.take k++s :: ls.drop k).length=k+1+m5:=by
      have h1:=HN.out
      have h2:=HKM.out
      rw[List.length_append,List.length_cons,List.length_take,List.length_drop]
      omega
     rw[e2,<-e1]
     exact h
  ·have gk:decide ((k:Int)<(n:Int))=false:=by simp;omega
   have gk':decide (k<n)=false:=by simp;omega
   have HLX:Hid (∀y,ls[k]? =some y->¬y<s):=fun y hy=>by
    rw[List.getElem?_eq_none (by rw[HN.out];omega)]at hy
    cases hy
   have HNE:Hid (¬ls[k]? =some s):=by show ¬_;rw[List.getElem?_eq_none (by rw[HN.out];omega)];simp
   have HR:Hid (R=ls.take k++s :: ls.drop k):=by
    have h:=HP.out k (by have:=HN.out;omega) HS.out HLX.out
    rw[if_neg HNE.out]at h
    exact h
   have ks1:=fun wx=>grZ (P:=Tryz.prog) (t:=41) (s:=1) Tryz.underlying41 (fun _=>by kernel_rfl) A n c .i64 (k:Int) k rfl (by omega) hadd wx
   have ks2:=fun wx=>qiZ (P:=Tryz.prog) (t:=41) (s:=1) Tryz.underlying41 (fun _=>by kernel_rfl) A n c .i64 (k:Int) k rfl hk wx
   have HS1:Hid (Src wr A k c 1 (abZ (ls.take k))):=by rw[<-ayZ];exact src_head HO.out k hk
   have HS2:Hid (∀wx,Below wr.heap.size wr wx->Src wx (ycZ A k c 1) (n-k) (c-k) 1 (abZ (ls.drop k))):=fun wx hb=>by
    rw[<-byZ]
    exact raZb (fZ HO.out (fun y hy=>hb.block y (World.ownsRow.lt HO.out y hy).2)) k hk
   generalize ycZ A k c 1=A5 at *
   generalize c-k=c5 at *
   obtain⟨m5,hm5⟩:∃m5,m5=n-k:=⟨_,rfl⟩
   rw[<-hm5]at HS2 ks2
   have hkm:k+m5=n:=by omega
   have HKM:=hid hkm
   have hml:k+1+m5<=3000000001:=by omega
   have hkb:k<=3000000000:=by omega
   clear HP HS HLX HNE hadd HO hm5 hkm
   go_wp2_with(first|(at_builtin;refine hZ rfl (.tmp 34) (.tmp 37) 41 rfl wr.heap.size 9 j0 _ 1 16 Tryz.underlying41 hj0 hy0 hy1 hy2 rfl (by decide) (.slice none 0 0) 0 [] (by rfl) (World.ownsRow_nil _ _ _ _) _ _ _ _ (by rfl) HS1.out (voZ _) (by unfold maxLen;omega) (by omega) (Nat.le_refl _) ?_;intro v4 w4 hown4 hg4 hat4;obtain⟨A4,k4,rfl⟩:=bZ hown4;have HB4:Hid (Below wr.heap.size wr w4):=(Below.refl _ _).grown hg4 (Nat.le_refl _) (fun y hy=>by cases hy);have hz4:=HB4.out.size;rw[Nat.zero_add,List.nil_append]at hown4;have HO4:=hid hown4;clear hown4 hg4 hat4)|(at_builtin;refine hZ rfl (.tmp 39) (.tmp 41) 41 rfl wr.heap.size 9 j0 _ 1 16 Tryz.underlying41 hj0 hy0 hy1 hy2 rfl (by decide) _ _ _ (by rfl) (HO4.out.alloc _) _ 1 1 [.string (bs s)] (by rfl) (Src.of_blk (Blk.made _ _ _) 1 1 1 rfl) (by intro u hu;simp at hu;rcases hu with rfl;rfl) (by unfold maxLen;omega) (by omega) (by simp;omega) ?_;intro v6 w6 hown6 hg6 hat6;obtain⟨A6,k6,rfl⟩:=bZ hown6;have HB6:Hid (Below wr.heap.size wr w6):=(eZ hz4 HB4.out).grown hg6 (by simp;omega) (fun y hy=>(World.ownsRow.lt HO4.out y hy).1);have hz6:=HB6.out.size;have HO6:=hid hown6;have HS6:=hid (HS2.out _ HB6.out);clear hown6 hg6 hat6)|(at_builtin;refine hZ rfl (.tmp 43) (.tmp 46) 41 rfl wr.heap.size 9 j0 _ 1 16 Tryz.underlying41 hj0 hy0 hy1 hy2 rfl (by decide) _ _ _ (by rfl) HO6.out _ _ _ _ (by rfl) HS6.out (voZ _) (by unfold maxLen;omega) (by omega) hz6 ?_;intro v8 w8 hown8 hg8 hat8;have HB8:Hid (Below wr.heap.size wr w8):=HB6.out.grown hg8 hz6 (fun y hy=>(World.ownsRow.lt HO6.out y hy).1);have HO8:=hid hown8;clear hown8 hg8 hat8))
   go_ret
   refine⟨_,rfl,?_,HB8.out⟩
   have h:=nZ HO8.out hbase
   rw[HR.out]
   have e1:(abZ (ls.take k)++ [.string (bs s)]++abZ (ls.drop k))=abZ (ls.take k++s :: ls.drop k):=by simp[abZ]
   have e2:(ls.take k++s :: ls.drop k).length=k+1+m5:=by
    have h1:=HN.out
    have h2:=HKM.out
    rw[List.length_append,List.length_cons,List.length_take,List.length_drop]
    omega
   rw[e2,<-e1]
   exact h
end Go.Proofs.YtmlaajebadfkoaaGreatDoor.Idx
namespace Go.Proofs.YtmlaajebadfkoaaGreatDoor.Idx
open Go.RowKit Mem Own Canon Sift
theorem lnZ{W:List Str}{k:Nat}{x:Str}(acc:List Str)(h:W[k]? =some x):zZ acc (W.take (k+1))=lfZ (zZ acc (W.take k)) x:=by
 rw[List.take_add_one,h]
 exact mdZb _ _ _
theorem amZ(s:Str):∀l,(lfZ l s).length<=l.length+1
 | []=>by simp[lfZ]
 |x :: t=>by
  have:=amZ s t
  rw[lfZ]
  split
  ·simp only[List.length_cons];omega
  ·split<;>simp
theorem elZ:∀ (l acc:List Str),(zZ acc l).length<=acc.length+l.length
 | [],acc=>by simp[zZ]
 |x :: t,acc=>by
  have h1:=elZ t (lfZ acc x)
  have h2:=amZ x acc
  unfold zZ at h1 ⊢
  rw[List.foldl_cons,List.length_cons]
  omega
theorem lkZ:∀ (l row:List UInt8),∀x∈split row l,1<=x.length/\x.length<=24
 | [],row,x,hx=>by
  rw[split]at hx
  unfold tell at hx
  split at hx
  ·cases hx
  ·rename_i h
   have:=List.length_pos_iff.2 h
   obtain rfl:x=row.take 24:=by simpa using hx
   rw[List.length_take]
   omega
 |c :: t,row,x,hx=>by
  rw[split]at hx
  split at hx
  ·exact lkZ t _ x hx
  ·rcases List.mem_append.1 hx with hx|hx
   ·exact lkZ [] row x (by rw[split];exact hx)
   ·exact lkZ t [] x hx
theorem mnZ(l:List UInt8):∀x∈words l,1<=x.length/\x.length<=24:=lkZ l []
theorem ygZb(w:World)(tm lv:Int)(so tx:ByteArray)(hs:so.size<=50000)(ht:tx.size<=50000):
 Calls Tryz.prog 133 #[.agg #[.int .u64 tm, .int .u8 lv, .string so, .string tx]] w (hgZ (eiZ tx.data.toList so.data.toList) w):=by
 have D1:=hid (fun wx=>vuZ wx tx (by omega))
 have D2:=hid (fun wx=>vuZ wx so (by omega))
 have hW1:(words tx.data.toList).length<=50000:=by
  have:=niZ tx.data.toList
  have h2:=Lib.size_eq tx
  omega
 have hW2:(words so.data.toList).length<=50000:=by
  have:=niZ so.data.toList
  have h2:=Lib.size_eq so
  omega
 have hT:eiZ tx.data.toList so.data.toList=zZ (zZ [] (words tx.data.toList)) ((words so.data.toList).map (cgZ :: ·)):=by unfold eiZ qoZ;rw[ozZ]
 have H24:Hid (∀x∈words so.data.toList,x.length<=24):=fun x hx=>(mnZ _ x hx).2
 unfold nqZ at D1 D2
 unfold hgZ
 generalize words tx.data.toList=W1 at *
 generalize words so.data.toList=W2 at *
 obtain⟨TS,hTS⟩:∃TS,TS=eiZ tx.data.toList so.data.toList:=⟨_,rfl⟩
 rw[<-hTS]at hT ⊢
 have HT:=hid hT
 have hss:so.size<=50000:=hs
 clear hT hTS hs ht
 go_enter Tryz.func133,Tryz.ntmps133
 go_wp2_with fail
 have hb0:Below w.heap.size w (w.alloc (.cells #[.int .u64 tm, .int .u8 lv, .string so, .string tx] 72)):=aZ (Below.refl _ _)
 have hbr:Blk (w.alloc (.cells #[.int .u64 tm, .int .u8 lv, .string so, .string tx] 72)) w.heap.size 72 #[.int .u64 tm, .int .u8 lv, .string so, .string tx]:=Blk.made _ _ _
 generalize w.alloc (.cells #[.int .u64 tm, .int .u8 lv, .string so, .string tx] 72)=wa at *
 refine(D1.out _).mono ?_
 rintro e w1 ⟨v1,rfl,ho1,hb1⟩
 obtain⟨A1,c1,rfl⟩:=bZ ho1
 have HW1:=hid ho1
 have HB1:Hid (Below w.heap.size w w1):=cZ hb1 hb0
 have HBR:=hid (hbr.step hb1)
 clear ho1 hb1 hb0 hbr D1
 go_wp2_with fail
 go_loopw [3,5] (fun u iv wr=>∃ (k n:Nat),k<=W1.length/\n<=0+k/\iv= .int .i64 k/\Hid ((zZ [] (W1.take k)).length=n)/\Hid (wr.ownsRow w1.heap.size 9 1 u n (abZ (zZ [] (W1.take k))))/\Hid (Below w1.heap.size w1 wr)) (fun _ iv _=>W1.length-(intOf iv).toNat)
 case atStart=>exact⟨0,0,by omega,by omega,rfl,rfl,World.ownsRow_nil _ _ _ _,Below.refl _ _⟩
 case round=>
  obtain⟨k,n,hk,hn,rfl,HL,HO,HB⟩:=hrel
  have hz:=HB.out.size
  by_cases hlt:k<W1.length
  ·obtain⟨x,hx⟩:∃x,W1[k]? =some x:=⟨_,List.getElem?_eq_getElem hlt⟩
   have HT1:=hid (lnZ (W:=W1) (k:=k) [] (show W1[k]? =some x by exact hx))
   have gk:decide ((k:Int)<(W1.length:Int))=true:=by simp;omega
   have gk':decide (k<W1.length)=true:=by simp;omega
   have x0:(0:Int)<=(k:Int):=by omega
   have x1:(k:Int)<(W1.length:Int):=by omega
   obtain⟨g,cg,hAg,hbg,_⟩:=HW1.out.form (by omega)
   injection hAg with hA1 hA2 hA3
   subst hA1 hA3
   have ck:wr.cell? ⟨g,k,none⟩=some (.string (bs x)):=by
    have h:=HW1.out.cellAt k (by omega)
    rw[<-fhZ hx,<-h]
    exact HB.out.cell (p:=⟨g,k,none⟩) (World.ownsRow.lt HW1.out g rfl).2
   obtain⟨A,c,rfl⟩:=bZ HO.out
   have hln:=amZ x (zZ [] (W1.take k))
   rw[HL.out]at hln
   have D:=hid (woZ wr w1.heap.size A n c (zZ [] (W1.take k)) x HL.out (by omega) hz HO.out)
   unfold qlZ at D
   rw[<-HT1.out]at D hln
   have s2:IntKind.i64.wrap ((k:Int)+1)=((k+1:Nat):Int):=by rw[IntWalk.i64_in _ (by omega)];omega
   obtain⟨R,hR⟩:∃R,R=zZ [] (W1.take (k+1)):=⟨_,rfl⟩
   rw[<-hR]at D hln
   have HR:=hid hR
   clear hx HT1 hR
   go_wp2_with fail
   refine D.out.mono ?_
   rintro e w4 ⟨v4,rfl,ho4,hb4⟩
   obtain⟨A4,c4,rfl⟩:=bZ ho4
   have HO4:=hid ho4
   have HB4:Hid (Below w1.heap.size w1 w4):=cZ hb4 HB.out
   clear ho4 hb4 D HO HB
   go_wp2_with fail
   go_roundw
   case measure=>go_light;simp[intOf];omega
   case rel=>go_light;exact⟨k+1,R.length,by omega,by omega,by first|rfl|go_num,by show _=_;rw[<-HR.out],by show World.ownsRow _ _ _ _ _ _ _;rw[<-HR.out];exact HO4.out,HB4.out⟩
  ·obtain rfl:k=W1.length:=by omega
   have gk:decide ((W1.length:Int)<(W1.length:Int))=false:=by simp
   have gk':decide (W1.length<W1.length)=false:=by simp
   have h1:W1.take W1.length=W1:=List.take_length
   rw[h1]at HL HO
   have c2:=(HBR.out.step HB.out).cell 2
   simp only[List.getElem?_toArray,List.getElem?_cons_zero,List.getElem?_cons_succ]at c2
   have hn1:=elZ W1 []
   rw[HL.out]at hn1
   simp only[List.length_nil]at hn1
   obtain⟨q1,hq1⟩:∃q1,q1=n:=⟨_,rfl⟩
   have hq50:q1<=50000:=by omega
   rw[<-hq1]at HL HO
   obtain⟨w3,rfl⟩:∃w3:World,w3=wr:=⟨_,rfl⟩
   have HBW3:Hid (Below w.heap.size w w3):=cZ HB.out HB1.out
   have HL0:=hid HL.out
   have HO0:=hid HO.out
   have hz13:=HB.out.size
   obtain⟨A0,c0,rfl⟩:=bZ HO0.out
   have HWZ:=hid HB1.out.size
   clear h1 hq1 hn1 HL HO HB HBR HB1 hlt hn hk HW1
   go_wp2_with fail
   refine(D2.out _).mono ?_
   rintro e w5 ⟨v2,rfl,ho2,hb2⟩
   obtain⟨A2,c2',rfl⟩:=bZ ho2
   have HW2:=hid ho2
   have HBW5:Hid (Below w.heap.size w w5):=cZ hb2 HBW3.out
   have HO1:Hid (w5.ownsRow w1.heap.size 9 1 (.slice A0 q1 c0) q1 (abZ (zZ [] W1))):=fZ HO0.out (fun y hy=>hb2.block y (World.ownsRow.lt HO0.out y hy).2)
   have HL1:Hid ((zZ (zZ [] W1) ((W2.map (cgZ :: ·)).take 0)).length=q1):=HL0.out
   have hz15:w1.heap.size<=w5.heap.size:=Nat.le_trans hz13 hb2.size
   have hwz:w.heap.size<=w1.heap.size:=HWZ.out
   clear ho2 hb2 D2 c2 HO0 HL0
   go_wp2_with fail
   go_loopw [3,6] (fun u iv wr=>∃ (k n:Nat),k<=W2.length/\n<=50000+k/\iv= .int .i64 k/\Hid ((zZ (zZ [] W1) ((W2.map (cgZ :: ·)).take k)).length=n)/\Hid (wr.ownsRow w1.heap.size 9 1 u n (abZ (zZ (zZ [] W1) ((W2.map (cgZ :: ·)).take k))))/\Hid (Below w5.heap.size w5 wr)) (fun _ iv _=>W2.length-(intOf iv).toNat)
   case atStart=>exact⟨0,q1,by omega,by omega,rfl,HL1.out,(by show World.ownsRow _ _ _ _ _ _ _;rw[List.take_zero];exact HO1.out),Below.refl _ _⟩
   case round=>
    obtain⟨k,n,hk,hn,rfl,HL,HO,HB⟩:=hrel
    have hz:=HB.out.size
    by_cases hlt:k<W2.length
    ·obtain⟨x,hx⟩:∃x,W2[k]? =some x:=⟨_,List.getElem?_eq_getElem hlt⟩
     have HT1:=hid (lnZ (W:=(W2.map (cgZ :: ·))) (k:=k) (zZ [] W1) (show(W2.map (cgZ :: ·))[k]? =some (cgZ :: x) by rw[List.getElem?_map,hx];rfl))
     have gk:decide ((k:Int)<(W2.length:Int))=true:=by simp;omega
     have gk':decide (k<W2.length)=true:=by simp;omega
     have x0:(0:Int)<=(k:Int):=by omega
     have x1:(k:Int)<(W2.length:Int):=by omega
     obtain⟨g,cg,hAg,hbg,_⟩:=HW2.out.form (by omega)
     injection hAg with hA1 hA2 hA3
     subst hA1 hA3
     have ck:wr.cell? ⟨g,k,none⟩=some (.string (bs x)):=by
      have h:=HW2.out.cellAt k (by omega)
      rw[<-fhZ hx,<-h]
      exact HB.out.cell (p:=⟨g,k,none⟩) (World.ownsRow.lt HW2.out g rfl).2
     have kc:=njZb x
     have hxs:(bs x).size<=100000:=by rw[ybZ];have:=H24.out x (List.mem_of_getElem? hx);omega
     obtain⟨A,c,rfl⟩:=bZ HO.out
     have hln:=amZ (cgZ :: x) (zZ (zZ [] W1) ((W2.map (cgZ :: ·)).take k))
     rw[HL.out]at hln
     have D:=hid (woZ wr w1.heap.size A n c (zZ (zZ [] W1) ((W2.map (cgZ :: ·)).take k)) (cgZ :: x) HL.out (by omega) (Nat.le_trans hz15 hz) HO.out)
     unfold qlZ at D
     rw[<-HT1.out]at D hln
     have s2:IntKind.i64.wrap ((k:Int)+1)=((k+1:Nat):Int):=by rw[IntWalk.i64_in _ (by omega)];omega
     obtain⟨R,hR⟩:∃R,R=zZ (zZ [] W1) ((W2.map (cgZ :: ·)).take (k+1)):=⟨_,rfl⟩
     rw[<-hR]at D hln
     have HR:=hid hR
     clear hx HT1 hR
     go_wp2_with fail
     refine D.out.mono ?_
     rintro e w4 ⟨v4,rfl,ho4,hb4⟩
     obtain⟨A4,c4,rfl⟩:=bZ ho4
     have HO4:=hid ho4
     have HB4:Hid (Below w5.heap.size w5 w4):=cZ hb4 HB.out
     clear ho4 hb4 D HO HB
     go_wp2_with fail
     go_roundw
     case measure=>go_light;simp[intOf];omega
     case rel=>go_light;exact⟨k+1,R.length,by omega,by omega,by first|rfl|go_num,by show _=_;rw[<-HR.out],by show World.ownsRow _ _ _ _ _ _ _;rw[<-HR.out];exact HO4.out,HB4.out⟩
    ·obtain rfl:k=W2.length:=by omega
     have gk:decide ((W2.length:Int)<(W2.length:Int))=false:=by simp
     have gk':decide (W2.length<W2.length)=false:=by simp
     have h2:(W2.map (cgZ :: ·)).take W2.length=W2.map (cgZ :: ·):=List.take_of_length_le (by rw[List.length_map];exact Nat.le_refl _)
     rw[h2,<-HT.out]at HL HO
     have HBF:Hid (Below w.heap.size w wr):=cZ HB.out HBW5.out
     have HOF:Hid (wr.ownsRow w.heap.size 9 1 u3 n (abZ TS)):=nZ HO.out hwz
     clear h2 HO HB HT
     go_wp2_with fail
     go_ret
     exact⟨_,rfl,by rw[HL.out];exact HOF.out,HBF.out⟩
end Go.Proofs.YtmlaajebadfkoaaGreatDoor.Idx
namespace Go.Proofs.YtmlaajebadfkoaaGreatDoor.Idx
open Go.RowKit Mem Own Canon Sift
def pgZ(ls:List Str)(i _j:Nat):Value:= .string (bs (ls.getD i []))
theorem lmZb(l:List Str)(i j:Nat)(hi:i<l.length)(hj:j<1):(abZ l)[i*1+j]? =some (pgZ l i j):=by
 obtain rfl:j=0:=by omega
 rw[Nat.mul_one,Nat.add_zero]
 unfold pgZ
 rw[List.getD_eq_getElem?_getD,List.getElem?_eq_getElem hi]
 exact fhZ (List.getElem?_eq_getElem hi)
theorem bmZ{w:World}{base n c:Nat}{A:Option Addr}{l:List Str}(h:w.ownsRow base 9 1 (.slice A n c) n (abZ l)):Row w w.heap.size A n 1 (pgZ l):=
 Row.of_own h rfl fun i j hi hj=>lmZb l i j (by have:=h.1;rw[rtZ]at this;omega) hj
theorem Row.str{w:World}{B n:Nat}{A:Option Addr}{l:List Str}(h:Row w B A n 1 (pgZ l))(hn:l.length=n){k:Nat}(hk:k<n):
 ∃b off x,A=some ⟨b,off,none⟩/\b<B/\l[k]? =some x/\w.cell? ⟨b,off+k,none⟩=some (.string (bs x)):=by
 obtain⟨b,off,rfl,hb,hc⟩:=h (by omega)
 have c0:=hc k 0 hk (by omega)
 rw[Nat.mul_one,Nat.add_zero]at c0
 unfold pgZ at c0
 rw[List.getD_eq_getElem?_getD,List.getElem?_eq_getElem (show k<l.length by omega)]at c0
 exact⟨b,off,_,rfl,hb,List.getElem?_eq_getElem (by omega),c0⟩
theorem taZb(w:World)(A:Option Addr)(n c:Nat)(ls:List Str)(s:Str)(hn:ls.length=n)(hN:n<=1000000)(ha:Row w w.heap.size A n 1 (pgZ ls)):
 Calls Tryz.prog 135 #[.slice A n c, .string (bs s)] w fun e w'=>e= .returned (.bool (ls.contains s))/\w'=w:=by
 have HN:=hid hn
 have HY:Hid (∀k:Nat,ls[k]? =some s->ls.contains s=true):=fun k h=>by rw[List.contains_iff_mem];exact List.mem_of_getElem? h
 have HNO:Hid ((∀ (i:Nat) (x:Str),ls[i]? =some x->x≠s)->ls.contains s=false):=fun(h:∀ (i:Nat) (x:Str),ls[i]? =some x->x≠s)=>by
  rw[Bool.eq_false_iff]
  intro hc
  rw[List.contains_iff_mem]at hc
  obtain⟨i,hi,e⟩:=List.getElem_of_mem hc
  exact h i _ (List.getElem?_eq_getElem hi) e
 generalize ls.contains s=R at *
 clear hn
 go_enter Tryz.func135,Tryz.ntmps135
 go_wp2_with fail
 go_loopw [5] (fun iv wx=>∃k:Nat,k<=n/\iv= .int .i64 k/\Hid (∀ (i:Nat) (x:Str),i<k->ls[i]? =some x->x≠s)/\wx=w) (fun iv _=>n-(intOf iv).toNat)
 case atStart=>exact⟨0,by omega,rfl,fun i x h=>absurd h (by omega),rfl⟩
 case round=>
  obtain⟨k,hk,rfl,HS,rfl⟩:=hrel
  by_cases hlt:k<n
  ·have gk:decide ((k:Int)<(n:Int))=true:=by simp;omega
   have gk':decide (k<n)=true:=by simp;omega
   have x0:(0:Int)<=(k:Int):=by omega
   have x1:(k:Int)<(n:Int):=by omega
   obtain⟨b,off,x,rfl,_,hx,ck⟩:=Row.str ha HN.out hlt
   by_cases he:x=s
   ·have ge:((bs x).toList==(bs s).toList)=true:=by rw[str_eq];simpa using he
    have hr:=HY.out k (by rw[hx,he])
    subst hr
    clear HS hx he HY HNO
    go_wp2_with fail
    go_ret
    exact⟨rfl,rfl⟩
   ·have ge:((bs x).toList==(bs s).toList)=false:=by rw[str_eq];simpa using he
    have HS2:Hid (∀i y,i<k+1->ls[i]? =some y->y≠s):=fun i y h hy=>by
     by_cases e:i<k
     ·exact HS.out i y e hy
     ·obtain rfl:i=k:=by omega
      rw[hx]at hy
      injection hy with hy
      rw[<-hy]
      exact he
    have s2:IntKind.i64.wrap ((k:Int)+1)=((k+1:Nat):Int):=by rw[IntWalk.i64_in _ (by omega)];omega
    clear HS hx he
    go_wp2_with fail
    go_roundw
    case measure=>go_light;simp[intOf];omega
    case rel=>go_light;exact⟨k+1,by omega,by first|rfl|go_num,HS2.out,by first|rfl|trivial⟩
  ·obtain rfl:k=n:=by omega
   have gk:decide ((k:Int)<(k:Int))=false:=by simp
   have gk':decide (k<k)=false:=by simp
   have hr:=HNO.out (fun i x hx=>HS.out i x (by have:=(List.getElem?_eq_some_iff.1 hx).1;have:=HN.out;omega) hx)
   subst hr
   clear HS HY HNO hlt
   go_wp2_with fail
   go_ret
   exact⟨rfl,rfl⟩
end Go.Proofs.YtmlaajebadfkoaaGreatDoor.Idx
