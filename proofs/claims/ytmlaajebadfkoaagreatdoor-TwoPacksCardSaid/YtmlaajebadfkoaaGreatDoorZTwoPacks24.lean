/- The walk of package lens' used: the used numbers, those that are less  -/
import Derived.Test.YtmlaajebadfkoaaGreatDoorZTwoPacks23
import Derived.Test.YtmlaajebadfkoaaGreatDoorZTwoPacks3
import Derived.Test.YtmlaajebadfkoaaGreatDoorZTwoPacks2
namespace Go.Proofs.YtmlaajebadfkoaaGreatDoor end Go.Proofs.YtmlaajebadfkoaaGreatDoor open Go.Proofs.YtmlaajebadfkoaaGreatDoor
open Go.Lib (hid)
set_option maxHeartbeats 4000000
set_option maxRecDepth 100000
namespace Go.Proofs.YtmlaajebadfkoaaGreatDoor.Lens
open Go.RowKit Mem Own Srt Canon
theorem uwZ(x:Nat)(w:World):Calls Tryz.prog 318 #[.int .u32 x] w fun e w'=>e= .returned (.bool false)/\w=w':=by
 go_enter Tryz.func318,Tryz.ntmps318
 go_wp2_with fail
 go_ret
 exact⟨rfl,rfl⟩
theorem zdZb(a b:Nat)(w:World):Calls Tryz.prog 309 #[.int .u32 a, .int .u32 b] w fun e w'=>e= .returned (.int .i64 (mhZ a b))/\w=w':=by
 rcases Nat.lt_trichotomy a b with h|h|h
 ·have e:mhZ a b= -1:=by unfold mhZ;rw[if_pos h]
  rw[e]
  clear e
  go_enter Tryz.func309,Tryz.ntmps309
  go_wp2_with(go_at_call 318;refine(uwZ _ _).mono ?_;rintro e w' ⟨rfl,rfl⟩)
  go_ret
  exact⟨rfl,rfl⟩
 ·have e:mhZ a b=0:=by unfold mhZ;rw[if_neg (by omega),if_neg (by omega)]
  rw[e]
  subst h
  clear e
  go_enter Tryz.func309,Tryz.ntmps309
  go_wp2_with(go_at_call 318;refine(uwZ _ _).mono ?_;rintro e w' ⟨rfl,rfl⟩)
  go_ret
  exact⟨rfl,rfl⟩
 ·have e:mhZ a b=1:=by unfold mhZ;rw[if_neg (by omega),if_pos h]
  rw[e]
  have h':¬a<b:=by omega
  clear e
  go_enter Tryz.func309,Tryz.ntmps309
  go_wp2_with(go_at_call 318;refine(uwZ _ _).mono ?_;rintro e w' ⟨rfl,rfl⟩)
  go_ret
  exact⟨rfl,rfl⟩
abbrev kOf(ks:List Nat):Nat->Nat:=fun s=>ks.getD s 0
theorem gnZb(w:World)(Bo B n c x y:Nat)(A:Option Addr)(ks:List Nat)(hn:ks.length=n)(hx:x<n)(hy:y<n)(hb:w.cell? ⟨Bo,0,none⟩=some (.slice A n c))(ha:Row w B A n 1 (rZ .u32 ks)):
 Calls Tryz.prog 308 #[.int .i64 x, .int .i64 y, .pointer (some ⟨Bo,0,none⟩)] w fun e w'=>e= .returned (.int .i64 (mhZ (kOf ks x) (kOf ks y)))/\∃q,w'=w.drewN q:=by
 obtain⟨b,off,v1,rfl,hbb,hv1,c1⟩:=bbZ ha hn hx
 obtain⟨b',off',v2,e2,hbb',hv2,c2⟩:=bbZ ha hn hy
 injection e2 with e2
 injection e2 with e3 e4
 subst e3 e4
 have k1:kOf ks x=v1:=by simp[kOf,List.getD_eq_getElem?_getD,hv1]
 have k2:kOf ks y=v2:=by simp[kOf,List.getD_eq_getElem?_getD,hv2]
 rw[k1,k2]
 have x1:(0:Int)<=(x:Int):=by omega
 have x2:(x:Int)<(n:Int):=by omega
 have x3:(0:Int)<=(y:Int):=by omega
 have x4:(y:Int)<(n:Int):=by omega
 clear k1 k2 hv1 hv2 hn ha
 go_enter Tryz.func308,Tryz.ntmps308
 go_wp2_with fail
 go_quiet ((go_at_call 309;exact Calls.quiet_of_same ((zdZb _ _ _).mono (fun _ _ h=>⟨h.1,h.2.symm⟩))))
 go_wp2_with fail
 go_ret
 exact⟨rfl,_,rfl⟩
theorem oyZ:(Tryz.prog.info? 3).map (fun i=>(i.zero,i.size,i.bytes))=some (some (.int .i64 0),1,8):=by kernel_rfl
def npZ(ks:List Nat)(w:World)(e:Ending)(w':World):Prop:=
 ∃A c,e= .returned (.slice A (pZ (kOf ks) ks.length).length c)/\Row w' w'.heap.size A (pZ (kOf ks) ks.length).length 1 (rZ .i64 (pZ (kOf ks) ks.length))/\Below w.heap.size w w'
theorem hnZb{w:World}{base g n c:Nat}{l:List Nat}(h:w.ownsRow base 3 1 (.slice (some ⟨g,0,none⟩) n c) n (dZ .i64 l))(hl:l.length=n):Dat w g n (fun i=>l.getD i 0):=by
 rcases h.2 with ⟨hv,_⟩|⟨g',cap,cur,hv,_,hh,hnc,_,hcs,htake⟩
 ·cases hv
 ·injection hv with e1 e2 e3
  injection e1 with e1
  injection e1 with e1
  subst e1
  refine⟨cur,hh,by omega,fun i hi=> ?_⟩
  have h1:(dZ .i64 l)[i]? =some (.int .i64 (l.getD i 0:Nat)):=by
   rw[dZ,List.getElem?_map,List.getElem?_eq_getElem (by omega),List.getD_eq_getElem?_getD,List.getElem?_eq_getElem (by omega)]
   rfl
  rw[<-htake,List.getElem?_take]at h1
  split at h1
  ·simpa using h1
  ·cases h1
theorem inZb(l:List Nat):seg (fun i=>l.getD i 0) 0 l.length=l:=by
 refine List.ext_getElem (by rw[seg_length];rfl) fun i h1 h2=> ?_
 rw[dgZ,Nat.zero_add,List.getD_eq_getElem?_getD,List.getElem?_eq_getElem h2]
 rfl
theorem fqZb{k f:Nat->Nat}{n:Nat}(h:Sor k f 0 n):(seg f 0 n).Pairwise (Lt k):=by
 rw[List.pairwise_iff_getElem]
 intro i j hi hj hij
 rw[seg_length]at hj
 rw[dgZ,dgZ,Nat.zero_add,Nat.zero_add]
 exact h i j (Nat.zero_le _) hij (by omega)
theorem ohZb{w:World}{g n:Nat}{k f:Nat->Nat}{m:Nat}(hd:Dat w g n f)(h:Ok k (fun i=>(used k m).getD i 0) f 0 n)(hn:(used k m).length=n):(pZ k m).length=n/\Row w w.heap.size (some ⟨g,0,none⟩) n 1 (rZ .i64 (pZ k m)):=by
 have e:seg f 0 n=pZ k m:=nbZb (fqZb h.1) (by
  have h2:=h.2
  rw[<-hn,inZb,hn]at h2
  exact h2)
 have hl:(pZ k m).length=n:=by rw[<-e,seg_length];rfl
 refine⟨hl,fun _=>⟨g,0,rfl,hd.lt,fun i j hi hj=> ?_⟩⟩
 obtain rfl:j=0:=by omega
 rw[Nat.mul_one,Nat.add_zero,Nat.zero_add,hd.cell hi]
 unfold rZ
 rw[<-e,List.getD_eq_getElem?_getD,List.getElem?_eq_getElem (by rw[seg_length];omega),dgZ,Nat.zero_add]
 rfl
theorem auZ{k:Nat->Nat}{m:Nat}:∀i j,i<j->j<(used k m).length->(used k m).getD i 0<(used k m).getD j 0:=by
 intro i j hij hj
 have h:=List.pairwise_iff_getElem.1 (pnZ k m) i j (by omega) hj hij
 rw[List.getD_eq_getElem?_getD,List.getD_eq_getElem?_getD,List.getElem?_eq_getElem (by omega),List.getElem?_eq_getElem hj]
 exact h
theorem obZb{k:Nat->Nat}{m:Nat}:All m (used k m).length (fun i=>(used k m).getD i 0):=fun i hi=>by
 show(used k m).getD i 0<m
 rw[List.getD_eq_getElem?_getD,List.getElem?_eq_getElem hi]
 exact(ztZ.1 (List.getElem_mem hi)).1
theorem buZ(w:World)(A:Option Addr)(n c:Nat)(ks:List Nat)(hn:ks.length=n)(hN:n<=100000)(ha:Row w w.heap.size A n 1 (rZ .u32 ks)):
 Calls Tryz.prog 297 #[.slice A n c] w (npZ ks w):=by
 obtain⟨j0,hj0,hy0,hy1,hy2⟩:=info_parts oyZ
 have HN:=hid hn
 have HA:=hid ha
 clear hn ha
 go_enter Tryz.func297,Tryz.ntmps297
 go_wp2_with fail
 have bl0:Blk (w.alloc (.cells #[.slice A n c] 288)) w.heap.size 288 #[.slice A n c]:=Blk.made _ _ _
 have bel0:Below w.heap.size w (w.alloc (.cells #[.slice A n c] 288)):=aZ (Below.refl _ _)
 go_loopw [3,8] (fun v i wr=>∃ (t q:Nat),t<=n/\q<=t/\i= .int .i64 t/\Hid ((used (kOf ks) t).length=q)/\wr.ownsRow (w.heap.size+1) 3 1 v q (dZ .i64 (used (kOf ks) t))/\Blk wr w.heap.size 288 #[.slice A n c]/\Below w.heap.size w wr) (fun _ i _=>n-(intOf i).toNat)
 case atStart=>exact⟨0,0,by omega,by omega,rfl,rfl,World.ownsRow_nil _ _ _ _,bl0,bel0⟩
 case round=>
  clear bl0 bel0
  obtain⟨t,q,ht,hq,rfl,hql,hown,bl,bel⟩:=hrel
  have hbl:=bl.lt
  by_cases hlt:t<n
  ·obtain⟨b,off,x,rfl,hbb,hx,c0⟩:=bbZ (HA.out.below bel) HN.out hlt
   have hkx:kOf ks t=x:=by simp[kOf,List.getD_eq_getElem?_getD,hx]
   have hus:used (kOf ks) (t+1)=if x=0 then used (kOf ks) t else used (kOf ks) t++ [t]:=by rw[used,hkx]
   have HUS:=hid hus
   have x0:(0:Int)<=(t:Int):=by omega
   have x1:(t:Int)<(n:Int):=by omega
   clear hx hkx hus
   by_cases hx0:x=0
   ·have HU:Hid (used (kOf ks) (t+1)=used (kOf ks) t):=by show _=_;rw[HUS.out,if_pos hx0]
    subst hx0
    clear HUS
    go_wp2_with fail
    go_roundw
    case rel=>go_light;exact⟨t+1,q,by omega,by omega,by go_num,by show _=_;rw[HU.out];exact hql.out,by rw[HU.out];exact hown,bl,bel⟩
    case measure=>go_light;simp[intOf];omega
   ·have HU:Hid (used (kOf ks) (t+1)=used (kOf ks) t++ [t]):=by show _=_;rw[HUS.out,if_neg hx0]
    have xp:0<x:=by omega
    obtain⟨va,vc,rfl⟩:=bZ hown
    have HO:=hid hown
    have BL:=hid bl
    have BEL:=hid bel
    have hbs:=bel.size
    clear HUS hx0 hown bel bl
    go_wp2_with(at_builtin;refine hZ rfl (.tmp 15) (.tmp 17) 38 rfl (w.heap.size+1) 3 j0 _ 1 8 Tryz.underlying38 hj0 hy0 hy1 hy2 rfl (by decide) _ _ _ (by rfl) (HO.out.alloc _) _ 1 1 [.int .i64 t] (by rfl) (Src.of_blk (Blk.made _ _ _) 1 1 1 rfl) (by intro u hu;simp at hu;subst hu;rfl) (by unfold maxLen;omega) (by omega) (by simp;omega) ?_;intro v4 w4 hown4 hg4 hat4)
    go_roundw
    case measure=>go_light;simp[intOf];omega
    case rel=>
     go_light
     have hr:∀k,(Value.slice va q vc).ownBlock=some k->w.heap.size+1<=k:=fun k hk=>(World.ownsRow.lt HO.out k hk).1
     refine⟨t+1,q+1,by omega,by omega,by go_num,?_,?_,?_,?_⟩
     ·show _=_;rw[HU.out,List.length_append,hql.out];rfl
     ·rw[HU.out,dZ,List.map_append];exact hown4
     ·exact(BL.out.alloc _).grown hg4 (fun h=>by have:=hr _ h.symm;omega)
     ·exact(eZ hbs BEL.out).grown hg4 (by simp;omega) (fun k hk=>by have:=hr k hk;omega)
  ·obtain rfl:t=n:=by omega
   have hz:=bel.size
   have hcell:=bl.cell 0
   rcases hown.2 with ⟨rfl,hxs⟩|⟨g,cap,cur,rfl,hg,hh,hnc,hcap,hcs,htake⟩
   ·subst hxs
    have e0:pZ (kOf ks) t= []:=List.eq_nil_of_length_eq_zero (by rw[(tgZ _ _).length_eq];exact hql.out)
    have E0:=hid e0
    clear e0 hown
    go_wp2_with fail
    refine(twZ _ _).mono ?_
    rintro e w5 ⟨rfl,rfl⟩
    go_wp2_with fail
    go_ret
    refine⟨none,0,?_,?_,bel⟩
    ·rw[HN.out,E0.out];rfl
    ·rw[HN.out,E0.out];exact Row.zero
   ·have hd:Dat wr g q (fun i=>(used (kOf ks) t).getD i 0):=hnZb hown hql.out
    have hcm:CmpOk w.heap.size g t wr (kOf ks):=by
     intro x y w2 hx hy hk
     refine gnZb w2 w.heap.size w.heap.size t c x y A ks HN.out hx hy ((World.cell?_of_block (a:=⟨w.heap.size,0,none⟩) (hk.block _ ⟨hbl,by show w.heap.size≠g;omega⟩)).trans hcell) ?_
     exact(HA.out.below bel).keep fun p hp=>World.cell?_of_block (hk.block _ ⟨by omega,by omega⟩)
    have C:=swZ wr w.heap.size g q cap t (kOf ks) _ (by omega) (fun i j h1 h2=>auZ i j h1 (by rw[hql.out];exact h2)) (by have:=obZb (k:=kOf ks) (m:=t);rw[hql.out]at this;exact this) hd hcm
    have hgl:=hd.lt
    have CC:=hid C
    clear C hcm hd hh hcs htake hown
    go_wp2_with fail
    refine CC.out.mono ?_
    rintro e w5 ⟨rfl,f',hp,hok⟩
    obtain⟨hl,hrow⟩:=ohZb hp.1 hok hql.out
    have HL:=hid hl
    have hb5:Below w.heap.size w w5:=bel.trans (hp.2.below (fun b hb=>⟨by omega,by omega⟩))
    clear hp hok hl
    go_wp2_with fail
    go_ret
    refine⟨some ⟨g,0,none⟩,cap,?_,?_,hb5⟩
    ·rw[HN.out,HL.out];rfl
    ·rw[HN.out,HL.out];exact hrow
end Go.Proofs.YtmlaajebadfkoaaGreatDoor.Lens
namespace Go.Proofs.YtmlaajebadfkoaaGreatDoor.Lens
open Srt Canon
def vdZ(ks:List Nat)(L s:Nat):Nat:=
 if(pZ (kOf ks) ks.length).length<2 then if s∈pZ (kOf ks) ks.length then 1 else 0
 else gcZ (kOf ks) (pZ (kOf ks) ks.length) (L-1) (2*(pZ (kOf ks) ks.length).length-2) s
theorem opZ(ks:List Nat)(L:Nat):hiZ ks L=(List.range ks.length).map (vdZ ks L):=by
 unfold hiZ
 show(if(pZ (kOf ks) ks.length).length<2 then _ else _)=_
 split
 ·rename_i h
  refine List.map_congr_left fun s _=> ?_
  unfold vdZ
  rw[if_pos h]
 ·rename_i h
  refine List.map_congr_left fun s _=> ?_
  unfold vdZ
  rw[if_neg h]
theorem ok_parts{ks:List Nat}{limit:Int}(h:pcZ ks limit=0):
 ks.length<=300/\∃L:Nat,limit=L/\1<=L/\L<=15/\(pZ (kOf ks) ks.length).length<=2 ^ L/\kcZ ks limit=(List.range ks.length).map (vdZ ks L):=by
 have h0:=h
 unfold pcZ at h
 split at h
 ·cases h
 ·rename_i h1
  split at h
  ·cases h
  ·rename_i h2
   obtain⟨L,rfl⟩:∃L:Nat,limit=L:=⟨limit.toNat,by omega⟩
   refine⟨by omega,L,rfl,by omega,by omega,Nat.le_of_not_lt h2,?_⟩
   unfold kcZ
   rw[if_pos h0,Int.toNat_natCast,opZ]
theorem pjZ{ks:List Nat}{limit:Int}(h:pcZ ks limit=0):(kcZ ks limit).length=ks.length:=by
 obtain⟨_,L,_,_,_,_,e⟩:=ok_parts h
 rw[e];simp
theorem cuZ{ks:List Nat}{L s:Nat}(h:s ∉ pZ (kOf ks) ks.length):vdZ ks L s=0:=by
 unfold vdZ
 split
 ·rfl
 ·exact dnZb _ _ _ h
theorem pbZb{k f:Nat->Nat}(h:∀s,k s=0->f s=0):∀n,((List.range n).map f).sum=sm f (used k n)
 |0=>rfl
 |n+1=>by
  rw[List.range_succ,List.map_append,List.sum_append,pbZb h n,used]
  split
  ·rename_i h0
   simp[h n h0]
  ·rw[uiZ];simp[sm]
theorem pyZ{k f:Nat->Nat}(h:∀s,k s=0->f s=0)(n:Nat):((List.range n).map f).sum=sm f (pZ k n):=by
 rw[pbZb h n,aqZb (tgZ k n)]
theorem tsZ{ks:List Nat}{L s:Nat}(h:kOf ks s=0):vdZ ks L s=0:=cuZ fun hs=>(qfZ.1 hs).2 h
theorem boZ{ks:List Nat}{L s:Nat}(h1:1<=L)(h:(pZ (kOf ks) ks.length).length<=2 ^ L)(hs:s∈pZ (kOf ks) ks.length):1<=vdZ ks L s/\vdZ ks L s<=L:=by
 unfold vdZ
 split
 ·omega
 ·have h2:=(full (hdZ (kOf ks) ks.length) (by omega) h1 h).2 s hs
  have h3:=rwZ (k:=kOf ks) (S:=pZ (kOf ks) ks.length) (L-1) (2*(pZ (kOf ks) ks.length).length-2) s
  omega
theorem jkZb{ks:List Nat}{L:Nat}(h1:1<=L)(h:(pZ (kOf ks) ks.length).length<=2 ^ L)(h2:2<=(pZ (kOf ks) ks.length).length):sm (fun s=>2 ^ (L-vdZ ks L s)) (pZ (kOf ks) ks.length)=2 ^ L:=by
 have h3:=(full (hdZ (kOf ks) ks.length) h2 h1 h).1
 rw[<-h3]
 refine ugZ fun s _=> ?_
 unfold vdZ
 rw[if_neg (by omega)]
theorem phZb{ks:List Nat}{limit:Int}(h:pcZ ks limit=0):leZ (kcZ ks limit)=if(pZ (kOf ks) ks.length).length=0 then 0 else if(pZ (kOf ks) ks.length).length=1 then 16384 else 32768:=by
 obtain⟨hn,L,rfl,h1,h2,h3,e⟩:=ok_parts h
 unfold leZ
 rw[e,List.map_map,pyZ (k:=kOf ks) (fun s hs=>by simp[tsZ hs])]
 have e1:sm ((fun x=>if x=0 then 0 else 2 ^ (15-x)) ∘ vdZ ks L) (pZ (kOf ks) ks.length)=sm (fun s=>2 ^ (15-vdZ ks L s)) (pZ (kOf ks) ks.length):=ugZ fun s hs=>by
  have:=(boZ h1 h3 hs).1
  show(if vdZ ks L s=0 then 0 else _)=_
  rw[if_neg (by omega)]
 rw[e1]
 by_cases q0:(pZ (kOf ks) ks.length).length=0
 ·rw[if_pos q0,List.eq_nil_of_length_eq_zero q0];rfl
 ·rw[if_neg q0]
  by_cases q1:(pZ (kOf ks) ks.length).length=1
  ·rw[if_pos q1]
   have hx:∀s∈pZ (kOf ks) ks.length,2 ^ (15-vdZ ks L s)=16384:=fun s hs=>by
    have:vdZ ks L s=1:=by unfold vdZ;rw[if_pos (by omega),if_pos hs]
    rw[this]
   rw[ugZ (g:=fun _=>16384) hx,ckZ,q1]
  ·rw[if_neg q1]
   have hx:∀s∈pZ (kOf ks) ks.length,2 ^ (15-vdZ ks L s)=2 ^ (15-L)*2 ^ (L-vdZ ks L s):=fun s hs=>by
    have:=(boZ h1 h3 hs).2
    rw[<-Nat.pow_add];congr 1;omega
   rw[ugZ hx,krZb,jkZb h1 h3 (by omega),<-Nat.pow_add,show 15-L+L=15 by omega]
theorem qhZb{ks:List Nat}{limit:Int}(h:pcZ ks limit=0):(kcZ ks limit).countP (fun x=>decide (x≠0))=(pZ (kOf ks) ks.length).length:=by
 obtain⟨hn,L,rfl,h1,h2,h3,e⟩:=ok_parts h
 have key:∀n,((List.range n).map (vdZ ks L)).countP (fun x=>decide (x≠0))=((List.range n).map fun s=>if vdZ ks L s=0 then 0 else 1).sum:=by
  intro n
  induction n with
  |zero=>rfl
  |succ n ih=>
   rw[List.range_succ,List.map_append,List.map_append,List.countP_append,List.sum_append,ih]
   by_cases hz:vdZ ks L n=0<;>simp[hz]
 rw[e,key,pyZ (k:=kOf ks) (fun s hs=>by rw[if_pos (tsZ hs)])]
 have hx:∀s∈pZ (kOf ks) ks.length,(if vdZ ks L s=0 then 0 else 1)=1:=fun s hs=>by
  have:=(boZ h1 h3 hs).1
  rw[if_neg (by omega)]
 rw[ugZ (g:=fun _=>1) hx,ckZ,Nat.mul_one]
theorem rhZb{n s:Nat}{f:Nat->Nat}(h:s<n):((List.range n).map f).getD s 0=f s:=by
 rw[List.getD_eq_getElem?_getD,List.getElem?_map,List.getElem?_range h];rfl
end Go.Proofs.YtmlaajebadfkoaaGreatDoor.Lens
namespace Go.Proofs.YtmlaajebadfkoaaGreatDoor.Lens
open Srt Canon
theorem jnZb{ks:List Nat}(hE:pcZ ks 15=0)(hn:ks.length<=300):zbZ (kcZ ks 15)=true:=by
 refine abZb (by rw[pjZ hE];exact hn) fun x hx=> ?_
 obtain⟨_,L,hL,h1,h2,h3,e⟩:=ok_parts hE
 rw[e]at hx
 obtain⟨s,_,rfl⟩:=List.mem_map.1 hx
 by_cases hm:s∈pZ (kOf ks) ks.length
 ·have:=(boZ h1 h3 hm).2;omega
 ·rw[cuZ hm];omega
theorem duZ{ks:List Nat}(hE:pcZ ks 15=0)(hn:ks.length<=300):okB (kcZ ks 15)=true:=by
 have hg:=jnZb hE hn
 have hu:=qhZb hE
 have hk:=phZb hE
 have hc:=cvZ hg
 have h0:jeZ (kcZ ks 15)=0:=by
  rw[hc,if_pos]
  by_cases q0:(pZ (kOf ks) ks.length).length=0
  ·left;unfold Canon.used;rw[hu,q0]
  ·by_cases q1:(pZ (kOf ks) ks.length).length=1
   ·right;left
    refine⟨by unfold Canon.used;rw[hu,q1],?_⟩
    have:cnt (kcZ ks 15) 1=(kcZ ks 15).countP (fun x=>decide (x≠0)):=by
     unfold cnt
     refine List.countP_congr fun x hx=> ?_
     obtain⟨_,L,hL,h1,h2,h3,e⟩:=ok_parts hE
     rw[e]at hx
     obtain⟨s,_,rfl⟩:=List.mem_map.1 hx
     have hle:vdZ ks L s<=1:=by
      unfold vdZ
      rw[if_pos (by omega)]
      split<;>omega
     simp
     omega
    rw[this,hu,q1]
   ·right;right
    rw[hk,if_neg q0,if_neg q1]
 unfold jeZ at h0
 split at h0
 ·assumption
 ·cases h0
end Go.Proofs.YtmlaajebadfkoaaGreatDoor.Lens
namespace Go.Proofs.YtmlaajebadfkoaaGreatDoor.Lens
open Go.RowKit Mem Own Srt Canon
def itL(X:List It):List Value:=X.flatMap fun x=> [.int .u64 (x.1:Nat), .bool (ecZ x)]
def itF(X:List It):Nat->Nat->Value:=fun i j=>if j=0 then .int .u64 ((X.getD i (0,[])).1:Nat)else .bool (ecZ (X.getD i (0,[])))
theorem hlZ(a b:List It):itL (a++b)=itL a++itL b:=by simp[itL]
theorem ovZ(X:List It):(itL X).length=X.length*2:=by
 induction X with
 |nil=>rfl
 |cons x t ih=>simp only[itL,List.flatMap_cons,List.length_append,List.length_cons,List.length_nil]at ih ⊢;omega
theorem zrZ:∀ (X:List It) (i j:Nat),i<X.length->j<2->(itL X)[i*2+j]? =some (itF X i j)
 | [],i,j,h,_=>by simp at h
 |x :: t,0,j,_,hj=>by
  have:j=0∨j=1:=by omega
  rcases this with rfl|rfl<;>simp[itL,itF]
 |x :: t,i+1,j,h,hj=>by
  have:=zrZ t i j (by simpa using h) hj
  rw[itL,List.flatMap_cons,show(i+1)*2+j=(i*2+j)+2 by omega,List.getElem?_append_right (by simp)]
  simpa[itF,itL]using this
def Its(X:List It)(t:Nat)(cs:Array Value):Prop:=cs.size=X.length*2/\∀i j,i<t->j<2->cs[i*2+j]? =some (itF X i j)
theorem Its.put{X:List It}{t:Nat}{cs:Array Value}(h:Its X t cs)(ht:t<X.length){a b:Value}(ha:a=itF X t 0)(hb:b=itF X t 1):Its X (t+1) ((cs.setIfInBounds (t*2) a).setIfInBounds (t*2+1) b):=by
 refine⟨by simpa using h.1,fun i j hi hj=> ?_⟩
 have hs:=h.1
 rw[Array.getElem?_setIfInBounds,Array.getElem?_setIfInBounds]
 by_cases e1:t*2+1=i*2+j
 ·have:i=t:=by omega
  have hj1:j=1:=by omega
  subst this hj1
  rw[if_pos rfl,if_pos (by simp;omega),hb]
 ·rw[if_neg e1]
  by_cases e2:t*2=i*2+j
  ·have:i=t:=by omega
   have hj1:j=0:=by omega
   subst this hj1
   rw[if_pos (by omega),if_pos (by omega),ha]
  ·rw[if_neg e2]
   exact h.2 i j (by omega) hj
theorem qyZ:(Tryz.prog.info? 372).map (fun i=>(i.zero,i.size,i.bytes))=some (some (.agg #[.int .u64 0, .bool false]),2,16):=by kernel_rfl
theorem kkZb(n:Nat)(hn:n<=100000)(w:World):(Instr.makeSlice 367 (.int .i64 (n:Int)) (.int .i64 (n:Int))).run Tryz.prog w=
 .ok (.slice (some ⟨w.heap.size,0,none⟩) n n) (w.alloc (.cells (madeCells #[.int .u64 0, .bool false] (n*2)) 372)):=by
 obtain⟨i0,hi,hz0,hz1,hz2⟩:=info_parts qyZ
 have h:=run_make (P:=Tryz.prog) w 367 372 i0 (.agg #[.int .u64 0, .bool false]) Tryz.underlying367 hi hz0 .i64 .i64 (n:Int) (n:Int) (by omega) (Int.le_refl _) (by rw[hz2];omega) (by omega)
 simp only[Int.toNat_natCast]at h
 simpa[hz1,Value.cells]using h
def OwnIt(w:World)(base:Nat)(v:Value)(X:List It):Prop:=w.ownsRow base 372 2 v X.length (itL X)
theorem OwnIt.row{w:World}{base c:Nat}{A:Option Addr}{X:List It}(h:OwnIt w base (.slice A X.length c) X):Row w w.heap.size A X.length 2 (itF X):=Row.of_own h rfl fun i j hi hj=>zrZ X i j hi hj
theorem OwnIt.shape{w:World}{base:Nat}{v:Value}{X:List It}(h:OwnIt w base v X):∃A c,v= .slice A X.length c:=bZ h
def lkZb(X:List It)(w:World)(e:Ending)(w':World):Prop:=∃v,e= .returned v/\OwnIt w' w.heap.size v X/\Below w.heap.size w w'
theorem shZb(w:World)(A B:Option Addr)(n c m d:Nat)(ks S:List Nat)(hn:ks.length=n)(hm:S.length=m)(hN:n<=100000)(hM:m<=n)(hS:∀s∈S,s<n)(h32:∀x∈ks,x<4294967296)(ha:Row w w.heap.size A n 1 (rZ .u32 ks))(hb:Row w w.heap.size B m 1 (rZ .i64 S)):
 Calls Tryz.prog 298 #[.slice A n c, .slice B m d] w (lkZb (lv (kOf ks) S) w):=by
 have HN:=hid hn
 have HM:=hid hm
 have HA:=hid ha
 have HB:=hid hb
 have HS:=hid hS
 have H32:=hid h32
 have hmk:=kkZb m (by omega)
 clear hn hm ha hb hS h32
 go_enter Tryz.func298,Tryz.ntmps298
 go_wp2_with fail
 have bl0:Blk (w.alloc (.cells (madeCells #[.int .u64 0, .bool false] (m*2)) 372)) w.heap.size 372 _:=Blk.made _ _ _
 have bel0:Below w.heap.size w (w.alloc (.cells (madeCells #[.int .u64 0, .bool false] (m*2)) 372)):=aZ (Below.refl _ _)
 have hI:Hid (Its (lv (kOf ks) S) 0 (madeCells #[.int .u64 0, .bool false] (m*2))):=by
  refine⟨?_,fun i j hi _=>by omega⟩
  rw[ndZ,HM.out]
  simp[madeCells]
 go_loopw [13] (fun i wr=>∃ (t:Nat) (cs:Array Value),t<=m/\i= .int .i64 t/\Hid (Its (lv (kOf ks) S) t cs)/\Blk wr w.heap.size 372 cs/\Below w.heap.size w wr) (fun i _=>m-(intOf i).toNat)
 case atStart=>exact⟨0,_,by omega,rfl,hI,bl0,bel0⟩
 case round=>
  clear bl0 bel0 hI
  obtain⟨t,cs,ht,rfl,hI,bl,bel⟩:=hrel
  by_cases hlt:t<m
  ·obtain⟨b,off,s,rfl,hbb,hs,c0⟩:=bbZ (HB.out.below bel) HM.out hlt
   obtain⟨b',off',x,rfl,hbb',hx,c1⟩:=bbZ (HA.out.below bel) HN.out (HS.out s (List.mem_of_getElem? hs))
   have hsn:=HS.out s (List.mem_of_getElem? hs)
   have x0:(0:Int)<=(t:Int):=by omega
   have x1:(t:Int)<(m:Int):=by omega
   have x2:(0:Int)<=(s:Int):=by omega
   have x3:(s:Int)<(n:Int):=by omega
   have f0:=bl.frozen (t*2)
   have f1:=bl.frozen (t*2+1)
   have hsz:cs.size=m*2:=by have:=hI.out.1;rwa [ndZ,HM.out]at this
   have d0:=bl.cell (t*2)
   have d1:=bl.cell (t*2+1)
   rw[Array.getElem?_eq_getElem (by omega)]at d0 d1
   generalize cs[t*2]'(by omega)=o0 at d0
   generalize cs[t*2+1]'(by omega)=o1 at d1
   have h32:=H32.out x (List.mem_of_getElem? hx)
   have s1:IntKind.u64.wrap (x:Int)=(x:Int):=by rw[IntKind.wrap_u64];omega
   have hnx:Its (lv (kOf ks) S) (t+1) ((cs.setIfInBounds (t*2) (.int .u64 (x:Nat))).setIfInBounds (t*2+1) (.bool true)):=by
    have hg:(lv (kOf ks) S).getD t (0,[])=(x,[s]):=by
     rw[List.getD_eq_getElem?_getD,lv,List.getElem?_map,hs]
     simp[kOf,List.getD_eq_getElem?_getD,hx]
    refine hI.out.put (by rw[ndZ,HM.out];exact hlt) ?_ ?_
    ·unfold itF;rw[if_pos rfl,hg]
    ·unfold itF;rw[if_neg (by omega),hg];rfl
   have HNX:=hid hnx
   clear hsz hnx hs hx
   go_wp2_with fail
   go_roundw
   case rel=>go_light;exact⟨t+1,_,by omega,by go_num,HNX,(bl.set _ _).set _ _,jZ (p:=⟨w.heap.size,t*2+1,none⟩) (Nat.le_refl _) (jZ (p:=⟨w.heap.size,t*2,none⟩) (Nat.le_refl _) bel)⟩
   case measure=>go_light;simp[intOf];omega
  ·obtain rfl:t=m:=by omega
   go_wp2_with fail
   go_ret
   refine⟨_,rfl,?_,bel⟩
   have e:(lv (kOf ks) S).length=t:=by rw[ndZ,HM.out]
   refine⟨?_, .inr ⟨w.heap.size,t,cs,by rw[e];rfl,Nat.le_refl _,bl,by rw[e];exact Nat.le_refl _,by unfold maxLen;omega,by rw[hI.out.1,e],?_⟩⟩
   ·rw[ovZ]
   ·have hs:=hI.out.1
    rw[e]at hs
    refine List.ext_getElem? fun i=> ?_
    rw[List.getElem?_take]
    by_cases hi:i<(lv (kOf ks) S).length*2
    ·rw[if_pos hi]
     have h1:=hI.out.2 (i / 2) (i % 2) (by rw[e]at hi;omega) (by omega)
     have h2:=zrZ (lv (kOf ks) S) (i / 2) (i % 2) (by omega) (by omega)
     rw[show i / 2*2+i % 2=i by omega]at h1 h2
     rw[Array.getElem?_toList,h1,h2]
    ·rw[if_neg hi,List.getElem?_eq_none]
     rw[ovZ];omega
theorem pvZ{w:World}{B n:Nat}{A:Option Addr}{X:List It}(h:Row w B A n 2 (itF X))(hn:X.length=n){k:Nat}(hk:k<n):
 ∃b off x,A=some ⟨b,off,none⟩/\b<B/\X[k]? =some x/\w.cell? ⟨b,off+k*2,none⟩=some (.int .u64 (x.1:Nat))/\w.cell? ⟨b,off+k*2+1,none⟩=some (.bool (ecZ x)):=by
 obtain⟨b,off,e,hb,hc⟩:=h (by omega)
 have hl:k<X.length:=by omega
 have h0:=hc k 0 hk (by omega)
 have h1:=hc k 1 hk (by omega)
 have hg:X.getD k (0,[])=X[k]:=by rw[List.getD_eq_getElem?_getD,List.getElem?_eq_getElem hl];rfl
 rw[itF,if_pos rfl,hg]at h0
 rw[itF,if_neg (by omega),hg]at h1
 exact⟨b,off,X[k],e,hb,List.getElem?_eq_getElem hl,h0,h1⟩
def MAt(X Y:List It)(i k:Nat)(done:List It):Prop:=done++mrg (X.drop i) (vcZ (Y.drop k))=mrg X (vcZ Y)
theorem MAt.len{X Y:List It}{i k:Nat}{done:List It}(h:MAt X Y i k done):done.length<=X.length+Y.length:=by
 have:=congrArg List.length h
 rw[List.length_append,vhZ,vhZ,ffZ,ffZ]at this
 omega
theorem drop_at{α:Type}{l:List α}{i:Nat}{x:α}(h:l[i]? =some x):l.drop i=x :: l.drop (i+1):=by
 obtain⟨hi,rfl⟩:=List.getElem?_eq_some_iff.1 h
 exact List.drop_eq_getElem_cons hi
theorem MAt.leaf{X Y:List It}{i k:Nat}{done:List It}{x:It}(h:MAt X Y i k done)(hx:X[i]? =some x)(hc:Y.length<=k+1∨∃y z,Y[k]? =some y/\Y[k+1]? =some z/\x.1<=y.1+z.1):MAt X Y (i+1) k (done++ [x]):=by
 unfold MAt at h ⊢
 rw[<-h,drop_at hx,List.append_assoc]
 congr 1
 rcases hc with hc|⟨y,z,hy,hz,hle⟩
 ·rw[myZ (l:=Y.drop k) (by rw[List.length_drop];omega),jhZ,jhZ];rfl
 ·rw[drop_at hy,drop_at hz,khZ,ynZ (by exact hle)];rfl
theorem MAt.pair{X Y:List It}{i k:Nat}{done:List It}{y z:It}(h:MAt X Y i k done)(hy:Y[k]? =some y)(hz:Y[k+1]? =some z)(hc:X.length<=i∨∃x,X[i]? =some x/\¬x.1<=y.1+z.1):MAt X Y i (k+2) (done++ [(y.1+z.1,y.2++z.2)]):=by
 unfold MAt at h ⊢
 rw[<-h,drop_at hy,drop_at hz,khZ,List.append_assoc]
 congr 1
 rcases hc with hc|⟨x,hx,hgt⟩
 ·rw[List.drop_of_length_le hc,sgZ,sgZ];rfl
 ·rw[drop_at hx,znZ (by exact hgt)];rfl
theorem MAt.done{X Y:List It}{i k:Nat}{done:List It}(h:MAt X Y i k done)(hi:X.length<=i)(hk:Y.length<=k+1):done=mrg X (vcZ Y):=by
 unfold MAt at h
 rw[List.drop_of_length_le hi,sgZ,myZ (by rw[List.length_drop];omega),List.append_nil]at h
 exact h
theorem mkZb{y z:It}(hy:y.2≠ [])(hz:z.2≠ []):ecZ (y.1+z.1,y.2++z.2)=false:=by
 have h1:=List.length_pos_iff.2 hy
 have h2:=List.length_pos_iff.2 hz
 unfold ecZ
 rw[beq_eq_false_iff_ne,List.length_append]
 omega
theorem knZb(w:World)(A B:Option Addr)(n c m d M:Nat)(X Y:List It)(hn:X.length=n)(hm:Y.length=m)(hN:n<=1000)(hM:m<=1000)(hX:∀x∈X,ecZ x=true)(hY:∀y∈Y,y.2≠ []/\y.1<=M)(hM2:2*M<18446744073709551616)(ha:Row w w.heap.size A n 2 (itF X))(hb:Row w w.heap.size B m 2 (itF Y)):
 Calls Tryz.prog 299 #[.slice A n c, .slice B m d] w (lkZb (mrg X (vcZ Y)) w):=by
 have HN:=hid hn
 have HM:=hid hm
 have HA:=hid ha
 have HB:=hid hb
 have HX:=hid hX
 have HY:=hid hY
 obtain⟨j0,hj0,hy0,hy1,hy2⟩:=info_parts qyZ
 obtain⟨h2,hh2⟩:∃h2,h2=m / 2:=⟨_,rfl⟩
 have hmk:∀w,(Instr.makeSlice 367 (.int .i64 (0:Int)) (.int .i64 ((n:Int)+(m:Int) / 2))).run Tryz.prog w=
  .ok (.slice (some ⟨w.heap.size,0,none⟩) 0 (n+h2)) (w.alloc (.cells (madeCells #[.int .u64 0, .bool false] ((n+h2)*2)) 372)):=by
  intro w
  have h:=run_make (P:=Tryz.prog) w 367 372 j0 (.agg #[.int .u64 0, .bool false]) Tryz.underlying367 hj0 hy0 .i64 .i64 0 ((n:Int)+(m:Int) / 2) (by omega) (by omega) (by rw[hy2];omega) (by omega)
  rw[show((n:Int)+(m:Int) / 2).toNat=n+h2 by omega]at h
  simpa[hy1,Value.cells]using h
 have hh3:h2<=m:=by omega
 clear hn hm ha hb hX hY hh2
 go_enter Tryz.func299,Tryz.ntmps299
 go_wp2_with fail
 have hown0:(w.alloc (.cells (madeCells #[.int .u64 0, .bool false] ((n+h2)*2)) 372)).ownsRow w.heap.size 372 2 (.slice (some ⟨w.heap.size,0,none⟩) 0 (n+h2)) 0 (itL []):=World.ownsRow_made w _ _ (Nat.le_refl _) (by unfold maxLen;omega) (size_madeCells _ _)
 have bel0:Below w.heap.size w (w.alloc (.cells (madeCells #[.int .u64 0, .bool false] ((n+h2)*2)) 372)):=aZ (Below.refl _ _)
 go_loopw [5,6,7] (fun v iv kv wr=>∃ (i k q:Nat) (done:List It),i<=n/\k<=m/\q<=2001/\iv= .int .i64 i/\kv= .int .i64 k/\Hid (done.length=q)/\wr.ownsRow w.heap.size 372 2 v q (itL done)/\Hid (MAt X Y i k done)/\Below w.heap.size w wr) (fun _ i k _=>(n-(intOf i).toNat)+(m-(intOf k).toNat))
 case atStart=>exact⟨0,0,0,[],by omega,by omega,by omega,rfl,rfl,rfl,hown0,rfl,bel0⟩
 case round=>
  clear bel0 hown0 hmk
  obtain⟨i,k,q,done,hi,hk,hq,rfl,rfl,hql,hown,hat,bel⟩:=hrel
  have hbs:=bel.size
  have hq2:q<=n+m:=by have:=hat.out.len;rw[hql.out,HN.out,HM.out]at this;exact this
  obtain⟨va,vc,rfl⟩:=bZ hown
  have hr:Hid (∀k,(Value.slice va q vc).ownBlock=some k->w.heap.size<=k):=fun k hk=>(World.ownsRow.lt hown k hk).1
  have x0:(0:Int)<=(i:Int):=by omega
  have z0:(0:Int)<=(k:Int):=by omega
  by_cases hk1:k+1<m
  ·obtain⟨b,off,y,rfl,hbb,hy,c0,_⟩:=pvZ (HB.out.below bel) HM.out (k:=k) (by omega)
   obtain⟨b',off',z,e2,hbb',hz,c1,_⟩:=pvZ (HB.out.below bel) HM.out (k:=k+1) (by omega)
   injection e2 with e2
   injection e2 with e3 e4
   subst e3 e4
   have hyw:=HY.out y (List.mem_of_getElem? hy)
   have hzw:=HY.out z (List.mem_of_getElem? hz)
   have hlf:=mkZb hyw.1 hzw.1
   have hpair:=hat.out.pair hy hz
   have hleaf:=fun x hx hle=>hat.out.leaf (x:=x) hx (.inr ⟨y,z,hy,hz,hle⟩)
   have hy1':=hyw.2
   have hz1':=hzw.2
   obtain⟨ya,ys⟩:=y
   obtain⟨za,zs⟩:=z
   simp only at c0 c1 hlf hpair hleaf hy1' hz1'
   obtain⟨ww,hww⟩:∃ww,ww=ya+za:=⟨_,rfl⟩
   rw[<-hww]at hlf hpair hleaf
   have HPAIR:=hid hpair
   have HLEAF:=hid hleaf
   have HLF:=hid hlf
   have E:Hid ((ya:Int)+(za:Int)=(ww:Int)):=by show _=_;omega
   have s3:IntKind.u64.wrap ((ya:Int)+(za:Int))=(ya:Int)+(za:Int):=by rw[IntKind.wrap_u64];omega
   have s1:IntKind.i64.wrap ((k:Int)+1)=(k:Int)+1:=IntWalk.i64_in _ (by omega)
   have z1:(k:Int)<(m:Int):=by omega
   have z2:(0:Int)<=(k:Int)+1:=by omega
   have z3:(k:Int)+1<(m:Int):=by omega
   have z5:((k:Int)+1).toNat=k+1:=by omega
   have S135:Hid (((k:Int)+1).toNat=k+1/\IntKind.i64.wrap ((k:Int)+1)=(k:Int)+1/\IntKind.u64.wrap ((ya:Int)+(za:Int))=(ya:Int)+(za:Int)):=⟨z5,s1,s3⟩
   have HO:=hid hown
   have BEL:=hid bel
   clear hy hz hyw hzw hlf hpair hleaf hww s1 s3 z5 hown bel
   by_cases hin:i<n
   ·obtain⟨b2,off2,x,rfl,hbb2,hx,d0,d1⟩:=pvZ (HA.out.below BEL.out) HN.out hin
    obtain⟨xa,xs⟩:=x
    simp only at d0
    have x1:(i:Int)<(n:Int):=by omega
    have HXX:=hid hx
    obtain⟨lb,hlb⟩:∃lb,lb=ecZ (xa,xs):=⟨_,rfl⟩
    rw[<-hlb]at d1
    have HLB:=hid hlb
    clear hx hlb
    by_cases hle:xa<=ww
    ·go_wp2_with fail
     obtain⟨z5,s1,s3⟩:=S135.out
     go_quiet (fail)
     clear z5 s1 s3
     rw[E.out]
     have hown2:(wr.drewN nq).ownsRow w.heap.size 372 2 (.slice va q vc) q (itL done):=fZ HO.out (fun _ _=>rfl)
     have bel2:Below w.heap.size w (wr.drewN nq):=below_drewN BEL.out nq
     have d0':(wr.drewN nq).cell? ⟨b2,off2+i*2,none⟩=some (.int .u64 (xa:Nat)):=d0
     have d1':(wr.drewN nq).cell? ⟨b2,off2+i*2+1,none⟩=some (.bool lb):=d1
     have hbs2:w.heap.size<=(wr.drewN nq).heap.size:=hbs
     generalize wr.drewN nq=wq at *
     have HO2:=hid hown2
     have BEL2:=hid bel2
     clear hown2 bel2 d0 d1 c0 c1 HO BEL
     go_wp2_with(at_builtin;refine hZ rfl (.tmp 66) (.tmp 71) 367 rfl w.heap.size 372 j0 _ 2 16 Tryz.underlying367 hj0 hy0 hy1 hy2 rfl (by decide) _ _ _ (by rfl) (HO2.out.alloc _) _ 1 1 [.int .u64 (xa:Nat), .bool lb] (by rfl) (Src.of_blk (Blk.made _ _ _) 1 1 2 rfl) (by intro u hu;simp at hu;rcases hu with rfl|rfl<;>rfl) (by unfold maxLen;omega) (by omega) (by simp;omega) ?_;intro v4 w4 hown4 hg4 hat4)
     go_roundw
     case measure=>go_light;simp[intOf];omega
     case rel=>
      go_light
      refine⟨i+1,k,q+1,done++ [(xa,xs)],by omega,by omega,by omega,by go_num,rfl,?_,?_,HLEAF.out _ HXX.out hle,(eZ hbs2 BEL2.out).grown hg4 (by simp;omega) (fun k hk=>hr.out k hk)⟩
      ·show _=_;rw[List.length_append,hql.out];rfl
      ·rw[hlZ];rw[HLB.out]at hown4;exact hown4
    ·have hlt2:ww<xa:=by omega
     go_wp2_with fail
     obtain⟨z5,s1,s3⟩:=S135.out
     go_quiet (fail)
     clear z5 s1 s3
     rw[E.out]
     have hown2:(wr.drewN nq).ownsRow w.heap.size 372 2 (.slice va q vc) q (itL done):=fZ HO.out (fun _ _=>rfl)
     have bel2:Below w.heap.size w (wr.drewN nq):=below_drewN BEL.out nq
     have hbs2:w.heap.size<=(wr.drewN nq).heap.size:=hbs
     have d0':(wr.drewN nq).cell? ⟨b2,off2+i*2,none⟩=some (.int .u64 (xa:Nat)):=d0
     clear d0 d1
     generalize wr.drewN nq=wq at *
     have HO2:=hid hown2
     have BEL2:=hid bel2
     clear hown2 bel2 c0 c1 HO BEL
     go_wp2_with(at_builtin;refine hZ rfl (.tmp 75) (.tmp 78) 367 rfl w.heap.size 372 j0 _ 2 16 Tryz.underlying367 hj0 hy0 hy1 hy2 rfl (by decide) _ _ _ (by rfl) (HO2.out.alloc _) _ 1 1 [.int .u64 (ww:Nat), .bool false] (by rfl) (Src.of_blk (Blk.made _ _ _) 1 1 2 rfl) (by intro u hu;simp at hu;rcases hu with rfl|rfl<;>rfl) (by unfold maxLen;omega) (by omega) (by simp;omega) ?_;intro v4 w4 hown4 hg4 hat4)
     go_roundw
     case measure=>go_light;simp[intOf];omega
     case rel=>
      go_light
      refine⟨i,k+2,q+1,done++ [(ww,ys++zs)],by omega,by omega,by omega,rfl,by go_num,?_,?_,HPAIR.out (.inr ⟨_,HXX.out,by omega⟩),(eZ hbs2 BEL2.out).grown hg4 (by simp;omega) (fun k hk=>hr.out k hk)⟩
      ·show _=_;rw[List.length_append,hql.out];rfl
      ·rw[hlZ];rw[<-HLF.out]at hown4;exact hown4
   ·go_wp2_with fail
    obtain⟨z5,s1,s3⟩:=S135.out
    go_quiet (fail)
    clear z5 s1 s3
    rw[E.out]
    have hown2:(wr.drewN nq).ownsRow w.heap.size 372 2 (.slice va q vc) q (itL done):=fZ HO.out (fun _ _=>rfl)
    have bel2:Below w.heap.size w (wr.drewN nq):=below_drewN BEL.out nq
    have hbs2:w.heap.size<=(wr.drewN nq).heap.size:=hbs
    generalize wr.drewN nq=wq at *
    have HO2:=hid hown2
    have BEL2:=hid bel2
    clear hown2 bel2 c0 c1 HO BEL
    go_wp2_with(at_builtin;refine hZ rfl (.tmp 75) (.tmp 78) 367 rfl w.heap.size 372 j0 _ 2 16 Tryz.underlying367 hj0 hy0 hy1 hy2 rfl (by decide) _ _ _ (by rfl) (HO2.out.alloc _) _ 1 1 [.int .u64 (ww:Nat), .bool false] (by rfl) (Src.of_blk (Blk.made _ _ _) 1 1 2 rfl) (by intro u hu;simp at hu;rcases hu with rfl|rfl<;>rfl) (by unfold maxLen;omega) (by omega) (by simp;omega) ?_;intro v4 w4 hown4 hg4 hat4)
    go_roundw
    case measure=>go_light;simp[intOf];omega
    case rel=>
     go_light
     refine⟨i,k+2,q+1,done++ [(ww,ys++zs)],by omega,by omega,by omega,rfl,by go_num,?_,?_,HPAIR.out (.inl (by rw[HN.out];omega)),(eZ hbs2 BEL2.out).grown hg4 (by simp;omega) (fun k hk=>hr.out k hk)⟩
     ·show _=_;rw[List.length_append,hql.out];rfl
     ·rw[hlZ];rw[<-HLF.out]at hown4;exact hown4
  ·have hk2:m<=k+1:=by omega
   by_cases hin:i<n
   ·obtain⟨b2,off2,x,rfl,hbb2,hx,d0,d1⟩:=pvZ (HA.out.below bel) HN.out hin
    obtain⟨xa,xs⟩:=x
    simp only at d0
    have x1:(i:Int)<(n:Int):=by omega
    have HXX:=hid hx
    obtain⟨lb,hlb⟩:∃lb,lb=ecZ (xa,xs):=⟨_,rfl⟩
    rw[<-hlb]at d1
    have HLB:=hid hlb
    have HLEAF:=hid (hat.out.leaf (x:=(xa,xs)) hx (.inl (by rw[HM.out];exact hk2)))
    have HO2:=hid hown
    have BEL2:=hid bel
    have hbs2:=hbs
    clear hx hlb hown bel
    go_wp2_with(at_builtin;refine hZ rfl (.tmp 32) (.tmp 37) 367 rfl w.heap.size 372 j0 _ 2 16 Tryz.underlying367 hj0 hy0 hy1 hy2 rfl (by decide) _ _ _ (by rfl) (HO2.out.alloc _) _ 1 1 [.int .u64 (xa:Nat), .bool lb] (by rfl) (Src.of_blk (Blk.made _ _ _) 1 1 2 rfl) (by intro u hu;simp at hu;rcases hu with rfl|rfl<;>rfl) (by unfold maxLen;omega) (by omega) (by simp;omega) ?_;intro v4 w4 hown4 hg4 hat4)
    go_roundw
    case measure=>go_light;simp[intOf];omega
    case rel=>
     go_light
     refine⟨i+1,k,q+1,done++ [(xa,xs)],by omega,by omega,by omega,by go_num,rfl,?_,?_,HLEAF.out,(eZ hbs2 BEL2.out).grown hg4 (by simp;omega) (fun k hk=>hr.out k hk)⟩
     ·show _=_;rw[List.length_append,hql.out];rfl
     ·rw[hlZ];rw[HLB.out]at hown4;exact hown4
   ·have hdone:=hat.out.done (by rw[HN.out];omega) (by rw[HM.out];exact hk2)
    have hlen:(mrg X (vcZ Y)).length=q:=by rw[<-hdone];exact hql.out
    have HD:=hid hdone
    have HLN:=hid hlen
    clear hdone hlen
    go_wp2_with fail
    go_ret
    refine⟨_,rfl,?_,bel⟩
    show World.ownsRow _ _ _ _ _ _ _
    rw[HLN.out,<-HD.out]
    exact hown
end Go.Proofs.YtmlaajebadfkoaaGreatDoor.Lens
namespace Go.Proofs.YtmlaajebadfkoaaGreatDoor.Lens
open Go.RowKit Mem Own Srt Canon
def odZ(ks:List Nat)(limit:Int)(w:World)(e:Ending)(w':World):Prop:=
 ∃A c,e= .returned (.tuple #[.slice A (kcZ ks limit).length c, .int .i64 (pcZ ks limit)])/\Row w' w'.heap.size A (kcZ ks limit).length 1 (rZ .u8 (kcZ ks limit))/\Wf A (kcZ ks limit).length c/\Below w.heap.size w w'/\(0<(kcZ ks limit).length->∀p,A=some p->w.heap.size<=p.block)
theorem cfZ{ks:List Nat}{limit:Int}{w w':World}{e:Ending}{x:Int}(hx:x≠0)(h:pcZ ks limit=x)(he:e= .returned (.tuple #[.slice none 0 0, .int .i64 x]))(hb:Below w.heap.size w w'):odZ ks limit w e w':=by
 have h0:kcZ ks limit= []:=by unfold kcZ;rw[if_neg (by rw[h];exact hx)]
 refine⟨none,0,?_,?_,?_,hb,fun _ p hp=>by cases hp⟩
 ·rw[he,h0,h];rfl
 ·rw[h0];exact Row.zero
 ·rw[h0];exact Wf.nil
theorem lnZb(w:World)(A:Option Addr)(n c:Nat)(ks:List Nat)(limit:Int)(hn:ks.length=n)(hN:n<=9223372036854775807)(hl1: -9223372036854775808<=limit)(hl2:limit<=9223372036854775807)(h:n>300∨limit<1∨limit>15):
 Calls Tryz.prog 274 #[.slice A n c, .int .i64 limit] w (odZ ks limit w):=by
 have hE:Hid (pcZ ks limit=13):=by show _=_;unfold pcZ;rw[hn,if_pos h]
 clear hn
 by_cases h1:300<n
 ·clear h
  go_enter Tryz.func274,Tryz.ntmps274
  go_wp2_with fail
  go_ret2
  exact cfZ (by decide) hE.out rfl (Below.refl _ _)
 ·have g1:decide ((300:Int)<(n:Int))=false:=by simp;omega
  have g2:decide (300<n)=false:=by simp;omega
  by_cases h2:limit<1
  ·clear h
   have g3:decide (limit<1)=true:=by simpa using h2
   go_enter Tryz.func274,Tryz.ntmps274
   go_wp2_with fail
   go_ret2
   exact cfZ (by decide) hE.out rfl (Below.refl _ _)
  ·have h3:15<limit:=by omega
   have g3:decide (limit<1)=false:=by simp;omega
   have g4:decide (15<limit)=true:=by simpa using h3
   clear h
   go_enter Tryz.func274,Tryz.ntmps274
   go_wp2_with fail
   go_ret2
   exact cfZ (by decide) hE.out rfl (Below.refl _ _)
theorem euZ{L:Nat}(h:L<=15):wrap64 ((2:Int) ^ L)=((2 ^ L:Nat):Int):=by
 have h1:2 ^ L<=2 ^ 15:=Nat.pow_le_pow_right (by omega) h
 have e:(2:Int) ^ L=((2 ^ L:Nat):Int):=by simp
 rw[e]
 generalize 2 ^ L=p at *
 have h2:p<=32768:=h1
 unfold wrap64
 omega
theorem thZb(w:World)(A:Option Addr)(n c L:Nat)(ks:List Nat)(hn:ks.length=n)(hN:n<=300)(hl1:1<=L)(hl2:L<=15)(h:2 ^ L<(pZ (kOf ks) n).length)(ha:Row w w.heap.size A n 1 (rZ .u32 ks)):
 Calls Tryz.prog 274 #[.slice A n c, .int .i64 L] w (odZ ks L w):=by
 have hE:Hid (pcZ ks L=6):=by
  show _=_
  unfold pcZ
  rw[if_neg (by omega),if_pos]
  rw[hn];exact h
 have C:=buZ w A n c ks hn (by omega) ha
 unfold npZ at C
 have HN:=hid hn
 rw[hn]at C
 have C:=hid C
 have g1:decide ((300:Int)<(n:Int))=false:=by simp;omega
 have g2:decide (300<n)=false:=by simp;omega
 have g3:decide ((L:Int)<1)=false:=by simp;omega
 have g4:decide ((15:Int)<(L:Int))=false:=by simp;omega
 have g5:decide (L<1)=false:=by simp;omega
 have g6:decide (15<L)=false:=by simp;omega
 clear ha hn
 have t1:decide (wrap64 ((2:Int) ^ L)<((pZ (kOf ks) n).length:Int))=true:=by rw[euZ hl2];exact decide_eq_true (Int.ofNat_lt.2 h)
 generalize pZ (kOf ks) n=S at *
 go_enter Tryz.func274,Tryz.ntmps274
 go_wp2_with fail
 refine C.out.mono ?_
 rintro e w1 ⟨A1,c1,rfl,hrow,hb1⟩
 go_wp2_with fail
 go_ret2
 exact cfZ (by decide) hE.out rfl hb1
theorem qbZb:(Tryz.prog.info? 5).map (fun i=>(i.zero,i.size,i.bytes))=some (some (.int .u8 0),1,1):=by kernel_rfl
theorem pfZb(n:Nat)(hn:n<=8388608)(w:World):(Instr.makeSlice 29 (.int .i64 (n:Int)) (.int .i64 (n:Int))).run Tryz.prog w=
 .ok (.slice (some ⟨w.heap.size,0,none⟩) n n) (w.alloc (.cells (madeCells #[.int .u8 0] n) 5)):=by
 obtain⟨i0,hi,hz0,hz1,hz2⟩:=info_parts qbZb
 have h:=run_make (P:=Tryz.prog) w 29 5 i0 (.int .u8 0) Tryz.underlying29 hi hz0 .i64 .i64 (n:Int) (n:Int) (by omega) (Int.le_refl _) (by rw[hz2];omega) (by omega)
 simp only[Int.toNat_natCast]at h
 simpa[hz1,Value.cells]using h
def U8s(f:Nat->Nat)(n:Nat)(cs:Array Value):Prop:=cs.size=n/\∀i,i<n->cs[i]? =some (.int .u8 (f i:Nat))
theorem U8s.made(n:Nat):U8s (fun _=>0) n (madeCells #[.int .u8 0] n):=by
 refine⟨size_madeCells _ _,fun i hi=> ?_⟩
 simp[madeCells,hi,Nat.mod_one]
theorem U8s.set{f g:Nat->Nat}{n:Nat}{cs:Array Value}(h:U8s f n cs){i v:Nat}(hv:g i=v)(ho:∀j,j≠i->g j=f j):U8s g n (cs.setIfInBounds i (.int .u8 (v:Nat))):=by
 refine⟨by simpa using h.1,fun j hj=> ?_⟩
 have hs:=h.1
 rw[Array.getElem?_setIfInBounds]
 by_cases e:i=j
 ·subst e
  rw[if_pos rfl,if_pos (by omega),hv]
 ·rw[if_neg e,h.2 j hj,ho j (Ne.symm e)]
theorem U8s.row{w:World}{g n:Nat}{f:Nat->Nat}{cs:Array Value}{l:List Nat}(h:U8s f n cs)(hb:Blk w g 5 cs)(hl:l=(List.range n).map f):Row w w.heap.size (some ⟨g,0,none⟩) n 1 (rZ .u8 l):=by
 subst hl
 refine Row.of_blk hb hb.lt fun i j hi hj=> ?_
 obtain rfl:j=0:=by omega
 rw[Nat.mul_one,Nat.add_zero,h.2 i hi]
 unfold rZ
 rw[List.getD_eq_getElem?_getD,List.getElem?_map,List.getElem?_range hi]
 rfl
theorem imZ{ks:List Nat}{limit:Int}{w w':World}{e:Ending}{g n:Nat}{f:Nat->Nat}{cs:Array Value}(hE:pcZ ks limit=0)(hl:hiZ ks limit.toNat=(List.range n).map f)
 (h:U8s f n cs)(hb:Blk w' g 5 cs)(he:e= .returned (.tuple #[.slice (some ⟨g,0,none⟩) n n, .int .i64 0]))(hbel:Below w.heap.size w w')(hg:w.heap.size<=g):odZ ks limit w e w':=by
 have h0:kcZ ks limit=(List.range n).map f:=by unfold kcZ;rw[if_pos hE,hl]
 have hlen:(kcZ ks limit).length=n:=by rw[h0];simp
 refine⟨some ⟨g,0,none⟩,n,?_,?_,?_,hbel,fun _ p hp=>by cases hp;exact hg⟩
 ·rw[he,hE,hlen]
 ·rw[hlen];exact h.row hb h0
 ·rw[hlen];exact Wf.some (Nat.le_refl _)
theorem mnZb(w:World)(A:Option Addr)(n c L:Nat)(ks:List Nat)(hn:ks.length=n)(hN:n<=300)(hl1:1<=L)(hl2:L<=15)(h:(pZ (kOf ks) n).length<2)(ha:Row w w.heap.size A n 1 (rZ .u32 ks)):
 Calls Tryz.prog 274 #[.slice A n c, .int .i64 L] w (odZ ks L w):=by
 have hp2:2<=2 ^ L:=by have:=Nat.pow_le_pow_right (n:=2) (by omega) hl1;simpa using this
 have hE:Hid (pcZ ks L=0):=by
  show _=_
  unfold pcZ
  rw[if_neg (by omega),if_neg]
  rw[hn]
  show ¬2 ^ L<(pZ (kOf ks) n).length
  omega
 have C:=buZ w A n c ks hn (by omega) ha
 unfold npZ at C
 have HN:=hid hn
 rw[hn]at C
 have C:=hid C
 have g1:decide ((300:Int)<(n:Int))=false:=by simp;omega
 have g2:decide (300<n)=false:=by simp;omega
 have g3:decide ((L:Int)<1)=false:=by simp;omega
 have g4:decide ((15:Int)<(L:Int))=false:=by simp;omega
 have g5:decide (L<1)=false:=by simp;omega
 have g6:decide (15<L)=false:=by simp;omega
 have t1:decide (wrap64 ((2:Int) ^ L)<((pZ (kOf ks) n).length:Int))=false:=by rw[euZ hl2];exact decide_eq_false (by rw[Int.ofNat_lt];omega)
 have hV:Hid (hiZ ks L=(List.range n).map fun s=>if s∈pZ (kOf ks) n then 1 else 0):=by
  show _=_
  unfold hiZ
  rw[hn]
  show(if(pZ (kOf ks) n).length<2 then _ else _)=_
  rw[if_pos h]
 have HS:Hid (∀s∈pZ (kOf ks) n,s<n):=fun s hs=>(qfZ.1 hs).1
 have hmk:=pfZb n (by omega)
 clear ha hn
 generalize pZ (kOf ks) n=S at *
 have h2:S.length=0∨S.length=1:=by omega
 rcases h2 with h2|h2
 ·obtain rfl:S= []:=List.eq_nil_of_length_eq_zero h2
  clear h2 h
  simp only[List.length_nil]at C
  have t2:decide (wrap64 ((2:Int) ^ L)<0)=false:=t1
  clear t1
  go_enter Tryz.func274,Tryz.ntmps274
  go_wp2_with fail
  refine C.out.mono ?_
  rintro e w1 ⟨A1,c1,rfl,hrow,hb1⟩
  go_wp2_with fail
  go_ret2
  refine imZ hE.out (by rw[Int.toNat_natCast,hV.out]) (cs:=madeCells #[.int .u8 0] n) ?_ (Blk.made _ _ _) rfl (eZ hb1.size hb1) hb1.size
  have:=U8s.made n
  simpa using this
 ·obtain⟨s,rfl⟩:∃s,S= [s]:=List.length_eq_one_iff.1 h2
  clear h2 h
  simp only[List.length_cons,List.length_nil,Nat.zero_add]at C
  have t2:decide (wrap64 ((2:Int) ^ L)<1)=false:=t1
  clear t1
  have hs:=HS.out s (by simp)
  go_enter Tryz.func274,Tryz.ntmps274
  go_wp2_with fail
  refine C.out.mono ?_
  rintro e w1 ⟨A1,c1,rfl,hrow,hb1⟩
  obtain⟨b,off,x,rfl,hbb,hx,c0⟩:=bbZ hrow (by simp) (i:=0) (by omega)
  simp at hx
  subst hx
  have hz1:=hb1.size
  have bl:=Blk.made w1 5 (madeCells #[.int .u8 0] n)
  have hU:=U8s.made n
  have d0:=bl.cell s
  rw[hU.2 s hs]at d0
  have f0:=bl.frozen s
  have HU:Hid (U8s (fun i=>if i∈ [s]then 1 else 0) n ((madeCells #[.int .u8 0] n).setIfInBounds s (.int .u8 1))):=hU.set (v:=1) (by simp) (fun j hj=>by simp[hj])
  have hbl:=hb1
  clear hU
  have x2:(0:Int)<=(s:Int):=by omega
  have x3:(s:Int)<(n:Int):=by omega
  rw[Nat.add_zero]at c0
  go_wp2_with fail
  go_ret2
  exact imZ hE.out (by rw[Int.toNat_natCast,hV.out]) HU.out (Blk.made _ _ _) rfl (eZ hz1 hbl) hz1
def RowsAt(w:World)(base:Nat)(k:Nat->Nat)(S:List Nat)(lf v:Value)(vals:List Value):Prop:=
 OwnIt w base lf (lv k S)/\w.ownsRow base 367 1 v vals.length vals/\∀i x,vals[i]? =some x->OwnIt w base x (sZ (lv k S) i)
theorem OwnIt.kept{w w':World}{base:Nat}{v:Value}{X:List It}(h:OwnIt w base v X)(hk:∀g,v.ownBlock=some g->w'.heap[g]? =w.heap[g]?):OwnIt w' base v X:=fZ h hk
theorem RowsAt.kept{w w':World}{base:Nat}{k:Nat->Nat}{S:List Nat}{lf v:Value}{vals:List Value}(h:RowsAt w base k S lf v vals)(hk:∀g,base<=g->g<w.heap.size->w'.heap[g]? =w.heap[g]?):RowsAt w' base k S lf v vals:=by
 obtain⟨h1,h2,h3⟩:=h
 refine⟨h1.kept (fun g hg=> ?_),fZ h2 (fun g hg=> ?_),fun i x hx=>(h3 i x hx).kept (fun g hg=> ?_)⟩
 ·have:=World.ownsRow.lt h1 g hg
  exact hk g this.1 this.2
 ·have:=World.ownsRow.lt h2 g hg
  exact hk g this.1 this.2
 ·have:=World.ownsRow.lt (h3 i x hx) g hg
  exact hk g this.1 this.2
theorem RowsAt.push{w w':World}{base:Nat}{k:Nat->Nat}{S:List Nat}{lf v v' x:Value}{vals:List Value}(h:RowsAt w base k S lf v vals)(hx:OwnIt w base x (sZ (lv k S) vals.length))
 (ho:w'.ownsRow base 367 1 v' (vals.length+1) (vals++ [x]))(hg:w.grownBy w' v.ownBlock):RowsAt w' base k S lf v' (vals++ [x]):=by
 obtain⟨h1,h2,h3⟩:=h
 have keep:∀ (y:Value) (X:List It),OwnIt w base y X->OwnIt w' base y X:=fun y X hy=>hy.kept fun g hgy=>by
  refine hg.block g (World.ownsRow.lt hy g hgy).2 ?_
  rcases qcZ hy h2 (by decide)with h0|h0
  ·rw[h0]at hgy;cases hgy
  ·rw[<-hgy];exact h0
 refine⟨keep _ _ h1,by simpa using ho,fun i y hy=> ?_⟩
 rw[List.getElem?_append]at hy
 split at hy
 ·exact keep y _ (h3 i y hy)
 ·have hi:i-vals.length< [x].length:=(List.getElem?_eq_some_iff.1 hy).1
  have hm:=List.mem_of_getElem? hy
  simp at hm hi
  subst hm
  have:i=vals.length:=by omega
  rw[this]
  exact keep y _ hx
theorem RowsAt.at_{w:World}{base:Nat}{k:Nat->Nat}{S:List Nat}{lf v:Value}{vals:List Value}(h:RowsAt w base k S lf v vals){i:Nat}(hi:i<vals.length):
 ∃g cap A c,v= .slice (some ⟨g,0,none⟩) vals.length cap/\base<=g/\g<w.heap.size/\w.cell? ⟨g,i,none⟩=some (.slice A (sZ (lv k S) i).length c)/\OwnIt w base (.slice A (sZ (lv k S) i).length c) (sZ (lv k S) i):=by
 obtain⟨h1,h2,h3⟩:=h
 have hv:vals[i]? =some vals[i]:=List.getElem?_eq_getElem hi
 have ho:=h3 i _ hv
 obtain⟨A,c,hs⟩:=ho.shape
 rcases h2.2 with ⟨_,h0⟩|⟨g,cap,cur,hv',hb,hh,hnc,hcap,hcs,htake⟩
 ·omega
 ·refine⟨g,cap,A,c,hv',hb,Blk.lt hh,?_,by rw[hs]at ho;exact ho⟩
  have h4:vals[i]? =cur[i]? :=by
   have h5:(cur.toList.take (vals.length*1))[i]? =vals[i]? :=by rw[htake]
   rw[<-h5,List.getElem?_take,if_pos (by omega)];simp
  rw[Blk.cell (t:=367) hh,<-h4,hv,hs]
theorem OwnIt.cells{w:World}{base c:Nat}{A:Option Addr}{X:List It}(h:OwnIt w base (.slice A X.length c) X)(h0:0<X.length):
 ∃g,A=some ⟨g,0,none⟩/\base<=g/\g<w.heap.size/\X.length<=c/\c<=maxLen/\∀i x,X[i]? =some x->w.cell? ⟨g,i*2,none⟩=some (.int .u64 (x.1:Nat))/\w.cell? ⟨g,i*2+1,none⟩=some (.bool (ecZ x)):=by
 rcases h.2 with ⟨_,h1⟩|⟨g,cap,cur,hv,hb,hh,hnc,hcap,hcs,htake⟩
 ·omega
 ·injection hv with e1 e2 e3
  subst e1 e3
  refine⟨g,rfl,hb,Blk.lt hh,hnc,hcap,fun i x hx=> ?_⟩
  have hi:i<X.length:=(List.getElem?_eq_some_iff.1 hx).1
  have hg:X.getD i (0,[])=x:=by rw[List.getD_eq_getElem?_getD,hx];rfl
  have key:∀j,j<2->w.cell? ⟨g,i*2+j,none⟩=some (itF X i j):=fun j hj=>by
   rw[Blk.cell (t:=372) hh,<-zrZ X i j hi hj,<-htake,List.getElem?_take,if_pos (by omega)]
   simp
  have k0:=key 0 (by omega)
  have k1:=key 1 (by omega)
  rw[itF,if_pos rfl,hg]at k0
  rw[itF,if_neg (by omega),hg]at k1
  exact⟨k0,k1⟩
def ppZ(k:Nat->Nat)(S:List Nat):Nat->Nat->Nat->Nat
 |0,_,_=>0
 |R+1,t,s=>gcZ k S R t s
def rbZb(k:Nat->Nat)(S:List Nat)(R t:Nat):Prop:=R=0∨t<=(sZ (lv k S) (R-1)).length
theorem uhZb{k:Nat->Nat}{S:List Nat}(R t s:Nat)(ht:t<=(sZ (lv k S) R).length):
 ppZ k S (R+1) t s=(if s∈S.take (nl (sZ (lv k S) R) t)then 1 else 0)+ppZ k S R (2*(t-nl (sZ (lv k S) R) t)) s/\rbZb k S R (2*(t-nl (sZ (lv k S) R) t)):=by
 rcases R with _|R
 ·exact⟨rfl, .inl rfl⟩
 ·obtain⟨n,q,h1,h2,h3,h4,_⟩:=bkZ R t ht
  refine⟨rfl, .inr ?_⟩
  rw[h4,Nat.add_sub_cancel]
  rw[show t-n=q by omega]
  exact h3
def vzZ(k:Nat->Nat)(S:List Nat)(L:Nat)(R t:Nat)(f:Nat->Nat):Prop:=∀s,gcZ k S (L-1) (2*S.length-2) s=f s+ppZ k S R t s
def InAt(S:List Nat)(f0 f:Nat->Nat)(m:Nat):Prop:=∀s,f s=f0 s+if s∈S.take m then 1 else 0
theorem InAt.step{S:List Nat}{f0 f:Nat->Nat}{m s:Nat}(hS:S.Nodup)(h:InAt S f0 f m)(hs:S[m]? =some s):InAt S f0 (fun j=>if j=s then f s+1 else f j) (m+1)/\f s=f0 s:=by
 have hlt:m<S.length:=(List.getElem?_eq_some_iff.1 hs).1
 have htk:S.take (m+1)=S.take m++ [s]:=by rw[List.take_add_one,hs];rfl
 have hn:s ∉ S.take m:=by
  intro hm
  have h2:=hS.sublist (List.take_sublist (m+1) S)
  rw[htk,List.nodup_append]at h2
  exact h2.2.2 s hm s (by simp) rfl
 have h1:=h s
 rw[if_neg hn]at h1
 refine⟨fun j=> ?_,by omega⟩
 show(if j=s then f s+1 else f j)=_
 rw[htk]
 by_cases e:j=s
 ·subst e
  rw[if_pos rfl,if_pos (by simp)];omega
 ·rw[if_neg e,h j]
  simp[e]
theorem zrZb(X:List It)(i:Nat):nl X i<=i:=by
 unfold nl
 have:=List.countP_le_length (p:=ecZ) (l:=X.take i)
 rw[List.length_take]at this
 omega
theorem fuZ{P:Program}{t e:TypeId}{s:Nat}(ht:P.underlying t=some (.slice e))(hs:∀w,(sizeOf e).run P w= .ok s w)(A:Option Addr)(len cap:Nat)(kh:IntKind)(h:Int)(m:Nat)(hh:h=m)(hm:m<=cap)(w:World):
 (Instr.slice t (.slice A len cap) none (some (.int kh h)) none).run P w= .ok (.slice (ycZ A 0 cap s) m cap) w:=by
 subst hh
 have he:P.elem t=e:=by simp[Program.elem,ht]
 rw[run_slice_h w t A len cap (by rw[he];exact ht) kh (m:Int) (by omega) (by omega),he,hs]
 rfl
end Go.Proofs.YtmlaajebadfkoaaGreatDoor.Lens
namespace Go.Proofs.YtmlaajebadfkoaaGreatDoor.Lens
open Go.RowKit Mem Own Srt Canon
theorem nkZb:(Tryz.prog.info? 367).map (fun i=>(i.zero,i.size,i.bytes))=some (some (.slice none 0 0),1,24):=by kernel_rfl
def lenOf:Value->Nat
 | .slice _ n _=>n
 |_=>0
structure Syms (ks:List Nat) (n:Nat) (S:List Nat):Prop where
 sorted:S.Pairwise (Lt (kOf ks))
 nodup:S.Nodup
 below:∀s∈S,s<n
 small:∀s∈S,kOf ks s<=4294967295
 two:2<=S.length
 few:S.length<=300
 le:S.length<=n
theorem cnZ{ks S:List Nat}{n:Nat}(h:Syms ks n S){r:Nat}(hr:r<=14):(∀y∈sZ (lv (kOf ks) S) r,y.2≠ []/\y.1<=70368744161280)/\S.length<=(sZ (lv (kOf ks) S) r).length/\(sZ (lv (kOf ks) S) r).length<=2*S.length:=by
 have h2:=h.two
 refine⟨fun y hy=>⟨hpZ r y hy,?_⟩,?_,?_⟩
 ·have h1:=jpZ h.small r y hy
  have h3:2 ^ r<=2 ^ 14:=Nat.pow_le_pow_right (by omega) hr
  have h4:2 ^ r*4294967295<=2 ^ 14*4294967295:=Nat.mul_le_mul_right _ h3
  omega
 ·rcases r with _|r
  ·rw[meZ];exact Nat.le_refl _
  ·rw[ojZ];omega
 ·have h3:=ipZ (k:=kOf ks) (S:=S) (by omega) r
  generalize (S.length-1) / 2 ^ r=d at h3
  omega
theorem nnZb{ks S:List Nat}{n:Nat}(h:Syms ks n S){R t:Nat}(hR:R<=14)(ht:t<=(sZ (lv (kOf ks) S) R).length):t-nl (sZ (lv (kOf ks) S) R) t<=S.length:=by
 rcases R with _|R
 ·rw[meZ]at ht
  rw[aoZ t ht];omega
 ·obtain⟨n',q,h1,h2,h3,h4,_⟩:=bkZ R t ht
  have h5:=(cnZ h (r:=R) (by omega)).2.2
  rw[h4];omega
theorem onZb{k:Nat->Nat}{S:List Nat}{L R t:Nat}{f:Nat->Nat}(h:vzZ k S L R t f)(hL:1<=L)(s:Nat):f s<=L:=by
 have h1:=h s
 have h2:=rwZ (k:=k) (S:=S) (L-1) (2*S.length-2) s
 omega
theorem okZb(w:World)(A:Option Addr)(n c L:Nat)(ks:List Nat)(hn:ks.length=n)(hN:n<=300)(hl1:1<=L)(hl2:L<=15)(h:2<=(pZ (kOf ks) n).length)(hp:(pZ (kOf ks) n).length<=2 ^ L)(h32:∀x∈ks,x<4294967296)(ha:Row w w.heap.size A n 1 (rZ .u32 ks)):
 Calls Tryz.prog 274 #[.slice A n c, .int .i64 L] w (odZ ks L w):=by
 have hE:Hid (pcZ ks L=0):=by
  show _=_
  unfold pcZ
  rw[if_neg (by omega),if_neg]
  rw[hn]
  show ¬2 ^ L<(pZ (kOf ks) n).length
  omega
 have C:=buZ w A n c ks hn (by omega) ha
 unfold npZ at C
 have HN:=hid hn
 rw[hn]at C
 have g1:decide ((300:Int)<(n:Int))=false:=by simp;omega
 have g2:decide (300<n)=false:=by simp;omega
 have g3:decide ((L:Int)<1)=false:=by simp;omega
 have g4:decide ((15:Int)<(L:Int))=false:=by simp;omega
 have g5:decide (L<1)=false:=by simp;omega
 have g6:decide (15<L)=false:=by simp;omega
 have t1:decide (wrap64 ((2:Int) ^ L)<((pZ (kOf ks) n).length:Int))=false:=by rw[euZ hl2];exact decide_eq_false (by rw[Int.ofNat_lt];omega)
 have hV:Hid (hiZ ks L=(List.range n).map (gcZ (kOf ks) (pZ (kOf ks) n) (L-1) (2*(pZ (kOf ks) n).length-2))):=by
  show _=_
  unfold hiZ
  rw[hn]
  show(if(pZ (kOf ks) n).length<2 then _ else _)=_
  rw[if_neg (by omega)]
 have HS:Hid (Syms ks n (pZ (kOf ks) n)):=by
  refine⟨hdZ _ _,rsZ _ _,fun s hs=>(qfZ.1 hs).1,fun s hs=> ?_,h,by have:=lhZ (kOf ks) n;omega,lhZ (kOf ks) n⟩
  have hsn:=(qfZ.1 hs).1
  have:kOf ks s=ks[s]'(by omega):=by simp[kOf,List.getD_eq_getElem?_getD,List.getElem?_eq_getElem (show s<ks.length by omega)]
  rw[this]
  have:=h32 _ (List.getElem_mem (show s<ks.length by omega))
  omega
 have htake:Hid (2*(pZ (kOf ks) n).length-2<=(sZ (lv (kOf ks) (pZ (kOf ks) n)) (L-1)).length):=ytZ hl1 (by omega) hp
 have hmk:=pfZb n (by omega)
 have HA:=hid ha
 have H32:=hid h32
 obtain⟨j0,hj0,hy0,hy1,hy2⟩:=info_parts nkZb
 clear ha hn hp h32
 generalize pZ (kOf ks) n=S at *
 obtain⟨q,hq⟩:∃q,S.length=q:=⟨_,rfl⟩
 have HQ:=hid hq
 have hq1:q<=300:=by have:=HS.out.few;omega
 have hqn:q<=n:=by have:=HS.out.le;omega
 rw[hq]at C t1 h
 have CC:=hid C
 have q1:((q:Int)==1)=false:=by simp;omega
 have q2:decide ((q:Int)<2)=false:=by simp;omega
 have q3:decide (q<2)=false:=by simp;omega
 clear hq C
 go_enter Tryz.func274,Tryz.ntmps274
 go_wp2_with fail
 refine CC.out.mono ?_
 rintro e w1 ⟨A1,c1,rfl,hrow,hb1⟩
 have hz1:=hb1.size
 go_wp2_with fail
 have bl2:Blk (w1.alloc (.cells (madeCells #[.int .u8 0] n) 5)) w1.heap.size 5 _:=Blk.made _ _ _
 have hb2:Below w.heap.size w (w1.alloc (.cells (madeCells #[.int .u8 0] n) 5)):=eZ hz1 hb1
 have hr2:=hrow.alloc (Nat.le_refl _) (.cells (madeCells #[.int .u8 0] n) 5)
 have hz2:=bl2.lt
 generalize w1.alloc (.cells (madeCells #[.int .u8 0] n) 5)=w2 at *
 have HR2:=hid hr2
 have hbs2:=hb2.size
 clear hrow hr2 hb1 CC hmk t1
 refine(shZb w2 A A1 n c q c1 ks S HN.out HQ.out (by omega) hqn HS.out.below H32.out ((HA.out.below hb2).mono hbs2) (HR2.out.mono (by omega))).mono ?_
 rintro e w3 ⟨v3,rfl,hown3,hb3⟩
 obtain⟨A3,c3,rfl⟩:=hown3.shape
 have hlen0:(lv (kOf ks) S).length=q:=by rw[ndZ,HQ.out]
 have hb3s:=hb3.size
 have hrows:RowsAt (w3.alloc (.cells #[.slice A3 (lv (kOf ks) S).length c3] 367)) w2.heap.size (kOf ks) S (.slice A3 (lv (kOf ks) S).length c3) (.slice (some ⟨w3.heap.size,0,none⟩) 1 1) [.slice A3 (lv (kOf ks) S).length c3]:=by
  have ho:OwnIt (w3.alloc (.cells #[.slice A3 (lv (kOf ks) S).length c3] 367)) w2.heap.size (.slice A3 (lv (kOf ks) S).length c3) (lv (kOf ks) S):=
   OwnIt.kept hown3 (fun g hg=>Below.heap_alloc w3 _ g (World.ownsRow.lt hown3 g hg).2)
  refine⟨ho,⟨rfl, .inr ⟨w3.heap.size,1,#[.slice A3 (lv (kOf ks) S).length c3],rfl,hb3s,heap_alloc_new w3 _,Nat.le_refl _,by unfold maxLen;omega,rfl,rfl⟩⟩,fun i x hx=> ?_⟩
  rcases i with _|i
  ·simp at hx;subst hx;exact ho
  ·simp at hx
 have hbel4:Below w2.heap.size w2 (w3.alloc (.cells #[.slice A3 (lv (kOf ks) S).length c3] 367)):=eZ hb3s hb3
 rw[hlen0]at *
 have HROWS:=hid hrows
 clear hrows hlen0 hown3
 go_wp2_with fail
 go_loopw [9] (fun v wr=>∃ (r:Nat) (g cap:Nat) (vals:List Value),1<=r/\r<=L/\v= .slice (some ⟨g,0,none⟩) r cap/\Hid (vals.length=r)/\Hid (RowsAt wr w2.heap.size (kOf ks) S (.slice A3 q c3) v vals)/\Below w2.heap.size w2 wr) (fun v _=>L-(lenOf v))
 case atStart=>exact⟨1,w3.heap.size,1,[.slice A3 q c3],by omega,hl1,rfl,by show _=_;rfl,HROWS,hbel4⟩
 case round=>as_aux_lemma=>
  clear hbel4 HROWS hb3
  obtain⟨r,g,cap,vals,hr1,hr2,rfl,hvl,hR,bel⟩:=hrel
  have hbs:=bel.size
  by_cases hlt:r<L
  ·have hrl:r-1<vals.length:=by rw[hvl.out];omega
   obtain⟨g',cap',Ai,ci,hv,hg,hgl,hcell,hown⟩:=hR.out.at_ hrl
   injection hv with e1 e2 e3
   injection e1 with e1
   injection e1 with e1
   subst e1
   have hsm:=cnZ HS.out (r:=r-1) (by omega)
   rw[HQ.out]at hsm
   have hnx:sZ (lv (kOf ks) S) vals.length=mrg (lv (kOf ks) S) (vcZ (sZ (lv (kOf ks) S) (r-1))):=by
    rw[hvl.out]
    obtain⟨r',rfl⟩:∃r',r=r'+1:=⟨r-1,by omega⟩
    rfl
   have hleaf:=hR.out.1
   have hlv:(lv (kOf ks) S).length=q:=by rw[ndZ,HQ.out]
   have hleafr:Row wr wr.heap.size A3 q 2 (itF (lv (kOf ks) S)):=by
    have h1:=hleaf
    rw[<-hlv]at h1
    have h2:=h1.row
    rw[hlv]at h2
    exact h2
   have hrowr:=hown.row
   obtain⟨m,hm⟩:∃m,m=(sZ (lv (kOf ks) S) (r-1)).length:=⟨_,rfl⟩
   rw[<-hm]at hcell hown hrowr hsm
   have CN:=hid (knZb wr A3 Ai q c3 m ci 70368744161280 (lv (kOf ks) S) (sZ (lv (kOf ks) S) (r-1)) hlv hm.symm (by omega) (by omega) wrZ hsm.1 (by omega) hleafr hrowr)
   have HNX:=hid hnx
   have x0:(0:Int)<=(r:Int)-1:=by omega
   have x1:(r:Int)-1<(r:Int):=by omega
   have x2:((r:Int)-1).toNat=r-1:=by omega
   have x3:IntKind.i64.wrap ((r:Int)-1)=(r:Int)-1:=IntWalk.i64_in _ (by omega)
   clear hm hsm hnx hleaf hleafr hrowr hown hlv e2 e3
   clear x2 x3
   go_wp2_with fail
   refine CN.out.mono ?_
   rintro e w5 ⟨v5,rfl,hown5,hb5⟩
   obtain⟨A5,c5,rfl⟩:=hown5.shape
   have hbs5:=hb5.size
   rw[<-HNX.out]at hown5
   obtain⟨m5,hm5⟩:∃m5,m5=(sZ (lv (kOf ks) S) vals.length).length:=⟨_,rfl⟩
   have hR5:=hR.out.kept (w':=w5) (fun g _ hlt=>hb5.block g hlt)
   have hRa:RowsAt (w5.alloc (.cells #[.slice A5 m5 c5] 367)) w2.heap.size (kOf ks) S (.slice A3 q c3) (.slice (some ⟨g,0,none⟩) r cap) vals:=hR5.kept (fun g _ hlt=>Below.heap_alloc w5 _ g hlt)
   have hown5':OwnIt w5 w2.heap.size (.slice A5 (sZ (lv (kOf ks) S) vals.length).length c5) (sZ (lv (kOf ks) S) vals.length):=nZ hown5 hbs
   rw[<-hm5]at hown5'
   have hOa:OwnIt (w5.alloc (.cells #[.slice A5 m5 c5] 367)) w2.heap.size (.slice A5 m5 c5) (sZ (lv (kOf ks) S) vals.length):=hown5'.kept (fun g hg=>Below.heap_alloc w5 _ g (World.ownsRow.lt hown5' g hg).2)
   have hrow:=hRa.2.1
   rw[hvl.out]at hrow
   have hbel5:Below w2.heap.size w2 (w5.alloc (.cells #[.slice A5 m5 c5] 367)):=eZ (by omega) (gZ hb5 hbs bel)
   have e5:(mrg (lv (kOf ks) S) (vcZ (sZ (lv (kOf ks) S) (r-1)))).length=m5:=by rw[hm5,HNX.out]
   rw[e5]
   have HRA:=hid hRa
   have HOA:=hid hOa
   have HROW:=hid hrow
   have HB5:=hid hbel5
   clear e5 hm5 hown5 hown5' hR5 hRa hOa hrow hbel5 hcell CN hb5
   go_wp2_with(at_builtin;refine hZ rfl (.tmp 57) (.tmp 66) 369 rfl w2.heap.size 367 j0 _ 1 24 Tryz.underlying369 hj0 hy0 hy1 hy2 rfl (by decide) _ _ _ (by rfl) HROW.out _ 1 1 [.slice A5 m5 c5] (by rfl) (Src.of_blk (Blk.made _ _ _) 1 1 1 rfl) (by intro u hu;simp at hu;subst hu;rfl) (by unfold maxLen;omega) (by omega) (by simp;omega) ?_;intro v6 w6 hown6 hg6 hat6)
   go_roundw
   case rel=>
    go_light
    obtain⟨g6,cap6,hv6⟩:=deZ hown6
    subst hv6
    have hpush:=HRA.out.push HOA.out (by rw[hvl.out];exact hown6) hg6
    refine⟨r+1,g6,cap6,vals++ [.slice A5 m5 c5],by omega,by omega,rfl,?_,hid hpush,HB5.out.grown hg6 (by simp;omega) (fun k hk=>(World.ownsRow.lt HROW.out k hk).1)⟩
    show _=_
    rw[List.length_append,hvl.out];rfl
   case measure=>
    go_light
    obtain⟨g6,cap6,hv6⟩:=deZ hown6
    subst hv6
    simp[lenOf];omega
  ·obtain rfl:L=r:=by omega
   have hbl:Blk wr w1.heap.size 5 (madeCells #[.int .u8 0] n):=bl2.below bel hz2
   have hrow6:Row wr w1.heap.size A1 q 1 (rZ .i64 S):=HR2.out.below (bel.mono (by omega))
   have hb6:Below w.heap.size w wr:=hb2.trans (bel.mono hbs2)
   obtain⟨w6,rfl⟩:∃w6:World,w6=wr:=⟨_,rfl⟩
   have HROW6:=hid hrow6
   have HB6:=hid hb6
   have hc0:Hid (vzZ (kOf ks) S L L (2*q-2) (fun _=>0)):=by
    intro s
    obtain⟨L',rfl⟩:∃L',L=L'+1:=⟨L-1,by omega⟩
    rw[HQ.out,ppZ,Nat.add_sub_cancel]
    show _=0+_
    omega
   have ht0:Hid (rbZb (kOf ks) S L (2*q-2)):=by
    have:=htake.out
    rw[HQ.out]at this
    exact .inr this
   have hu0:Hid (U8s (fun _=>0) n (madeCells #[.int .u8 0] n)):=U8s.made n
   have hvr:∃R',L=R'+1/\Value.int .i64 ((L:Int)-1)= .int .i64 (R':Nat):=⟨L-1,by omega,congrArg (Value.int .i64) (by omega)⟩
   have hgz:g<w6.heap.size/\w2.heap.size<=g:=by
    obtain⟨g',cap',Ai,ci,hv,hg,hgl,_⟩:=hR.out.at_ (i:=0) (by rw[hvl.out];omega)
    injection hv with e1
    injection e1 with e1
    injection e1 with e1
    omega
   have hgl:=hbl.lt
   have HVR:=hid hvr
   clear hrow6 hb6 HR2 bl2 hb2 hb3s hvr
   go_wp2_with fail
   go_loopw [10,11] (fun tv rv wr=>∃ (R t:Nat) (f:Nat->Nat) (cs:Array Value),R<=L/\t<=2*q/\tv= .int .i64 t/\((R=0/\rv= .int .i64 (-1))∨(∃R',R=R'+1/\rv= .int .i64 (R':Nat)))/\Hid (rbZb (kOf ks) S R t)/\Hid (vzZ (kOf ks) S L R t f)/\Hid (U8s f n cs)/\Blk wr w1.heap.size 5 cs/\Hid (Kept (fun b=>b<w6.heap.size/\b≠w1.heap.size) w6 wr)) (fun _ rv _=>(intOf rv+1).toNat)
   case atStart=>exact⟨L,2*q-2,_,_,Nat.le_refl _,by omega,congrArg (Value.int .i64) (by omega), .inr HVR.out,ht0,hc0,hu0,hbl,Kept.refl _ _⟩
   case round=>as_aux_lemma=>
    clear ht0 hc0 hu0 hbl
    obtain⟨R,t,f,cs,hRL,ht,rfl,hrv,hT,hC,hU,bl,hK⟩:=hrel
    have hks:=hK.out.size
    rcases hrv with ⟨rfl,rfl⟩|⟨R',rfl,rfl⟩
    ·go_wp2_with fail
     go_ret2
     refine imZ hE.out (f:=f) ?_ hU.out bl rfl (HB6.out.trans (hK.out.below (fun b hb=>⟨by omega,by omega⟩))) (by omega)
     rw[Int.toNat_natCast,hV.out]
     refine List.map_congr_left fun s _=> ?_
     have:=hC.out s
     rw[ppZ]at this
     omega
    ·obtain⟨g',cap',Ai,ci,hv,hg',hgl',hcell,hown⟩:=hR.out.at_ (i:=R') (by rw[hvl.out];omega)
     injection hv with e1 e2 e3
     injection e1 with e1
     injection e1 with e1
     subst e1
     have hsm:=(cnZ HS.out (r:=R') (by omega)).2
     rw[HQ.out]at hsm
     obtain⟨gx,rfl,hgx,hgxl,hlc,hcm,hcells⟩:=hown.cells (by omega)
     have htl:t<=(sZ (lv (kOf ks) S) R').length:=by
      rcases hT.out with h0|h0
      ·omega
      ·rwa [Nat.add_sub_cancel]at h0
     have hstep:=fun s=>uhZb (k:=kOf ks) (S:=S) R' t s htl
     have HST:=hid hstep
     have HCELLS:=hid hcells
     have hleaves:=(lpZ (k:=kOf ks) (S:=S) R' t htl).1
     obtain⟨m,hm⟩:∃m,m=(sZ (lv (kOf ks) S) R').length:=⟨_,rfl⟩
     rw[<-hm]at hcell hsm hlc htl
     have HM:=hid hm.symm
     have d0:wr.cell? ⟨g,R',none⟩=some (.slice (some ⟨gx,0,none⟩) m ci):=(World.cell?_of_block (a:=⟨g,R',none⟩) (hK.out.block g ⟨hgz.1,by omega⟩)).trans hcell
     have p1:∀w,(Instr.slice 367 (.slice (some ⟨gx,0,none⟩) m ci) none (some (.int .i64 (t:Int))) none).run Tryz.prog w= .ok (.slice (some ⟨gx,0,none⟩) t ci) w:=by
      intro w
      rw[fuZ (P:=Tryz.prog) Tryz.underlying367 Tryz.sizeOf372 _ m ci .i64 (t:Int) t rfl (by omega) w]
      unfold ycZ
      split
      ·rfl
      ·simp[skZ]
     have HN0:Hid (InAt S f f (nl (sZ (lv (kOf ks) S) R') 0)):=by
      intro s
      rw[mfZb];simp
     have x0:(0:Int)<=(R':Int):=by omega
     have x1:(R':Int)<(L:Int):=by omega
     clear hm hstep hcells hown hcell e2 e3 hT
     obtain⟨wp,rfl⟩:∃wp:World,wp=wr:=⟨_,rfl⟩
     go_wp2_with fail
     go_loopw [12,86] (fun nv iv wr=>∃ (i:Nat) (f':Nat->Nat) (cs':Array Value),i<=t/\nv= .int .i64 (nl (sZ (lv (kOf ks) S) R') i:Nat)/\iv= .int .i64 i/\Hid (InAt S f f' (nl (sZ (lv (kOf ks) S) R') i))/\Hid (U8s f' n cs')/\Blk wr w1.heap.size 5 cs'/\Hid (Kept (fun b=>b<w6.heap.size/\b≠w1.heap.size) w6 wr)) (fun _ i _=>t-(intOf i).toNat)
     case atStart=>exact⟨0,f,cs,by omega,by rw[mfZb];rfl,rfl,HN0,hU,bl,hK⟩
     case round=>as_aux_lemma=>
      clear bl hU hK HN0 d0 p1
      obtain⟨i,f',cs',hi,rfl,rfl,hI,hU,bl,hK⟩:=hrel
      have hks2:=hK.out.size
      by_cases hlt:i<t
      ·obtain⟨x,hx⟩:∃x,(sZ (lv (kOf ks) S) R')[i]? =some x:=⟨_,List.getElem?_eq_getElem (by rw[HM.out];omega)⟩
       obtain⟨e0,e1⟩:=HCELLS.out i x hx
       have c0:wr.cell? ⟨gx,i*2,none⟩=_:=(World.cell?_of_block (a:=⟨gx,i*2,none⟩) (hK.out.block gx ⟨hgxl,by omega⟩)).trans e0
       have c1:wr.cell? ⟨gx,i*2+1,none⟩=_:=(World.cell?_of_block (a:=⟨gx,i*2+1,none⟩) (hK.out.block gx ⟨hgxl,by omega⟩)).trans e1
       have hnl:=zpZb _ i x hx
       have hnq:=(lpZ (k:=kOf ks) (S:=S) R' (i+1) (by rw[HM.out];omega)).1
       rw[HQ.out]at hnq
       generalize sZ (lv (kOf ks) S) R'=X at *
       obtain⟨xa,xs⟩:=x
       obtain⟨lb,hlb⟩:∃lb,lb=ecZ (xa,xs):=⟨_,rfl⟩
       rw[<-hlb]at c1 hnl
       simp only at c0
       obtain⟨N,hN'⟩:∃N,N=nl X i:=⟨_,rfl⟩
       rw[<-hN']at hI hnl ⊢
       have x2:(0:Int)<=(i:Int):=by omega
       have x3:(i:Int)<(t:Int):=by omega
       have hgw:gx<wr.heap.size:=by omega
       clear hx e0 e1 hN' hlb
       cases lb
       ·rw[if_neg (by simp),Nat.add_zero]at hnl
        have HNL:=hid hnl
        clear hnl
        go_wp2_with fail
        go_roundw
        case rel=>go_light;exact⟨i+1,f',cs',by omega,by rw[HNL.out];rfl,by go_num,by rw[HNL.out];exact hI,hU,bl.alloc _,hK.out.alloc (fun b hb=>by have:=hb.1;omega) _⟩
        case measure=>go_light;simp[intOf];omega
       ·rw[if_pos rfl]at hnl
        have hNq:N<q:=by omega
        obtain⟨b,off,s,rfl,hbb,hs,d0⟩:=bbZ HROW6.out HQ.out hNq
        have d1:wr.cell? ⟨b,off+N,none⟩=_:=(World.cell?_of_block (a:=⟨b,off+N,none⟩) (hK.out.block b ⟨by omega,by omega⟩)).trans d0
        have hsn:=HS.out.below s (List.mem_of_getElem? hs)
        have hbl:=bl.lt
        have c2:=bl.cell s
        rw[hU.out.2 s hsn]at c2
        have f2:=bl.frozen s
        obtain⟨hst,hfs⟩:=hI.out.step HS.out.nodup hs
        have hle:=onZb hC.out hl1 s
        have hU2:=hU.out.set (g:=fun j=>if j=s then f' s+1 else f' j) (i:=s) (v:=f' s+1) (by simp) (fun j hj=>by simp[hj])
        have hfb:f' s<=15:=by omega
        have HNL:=hid hnl
        have HST:=hid hst
        have HU2:=hid hU2
        obtain⟨fs,hfs'⟩:∃fs,fs=f' s:=⟨_,rfl⟩
        rw[<-hfs']at c2 hfb
        have HFS:=hid hfs'
        have s1:IntKind.u8.wrap ((fs:Int)+1)=(fs:Int)+1:=by rw[IntKind.wrap_u8];omega
        have y0:(0:Int)<=(N:Int):=by omega
        have y1:(N:Int)<(q:Int):=by omega
        have y2:(0:Int)<=(s:Int):=by omega
        have y3:(s:Int)<(n:Int):=by omega
        have hbw:b<wr.heap.size:=by omega
        clear hnl hst hU2 hfs hle hfs' hs d0
        go_wp2_with fail
        go_roundw
        case rel=>
         go_light
         refine⟨i+1,_,cs'.setIfInBounds s (.int .u8 ((f' s+1:Nat):Int)),by omega,by rw[HNL.out];go_num,by go_num,by rw[HNL.out];exact HST,HU2,?_,?_⟩
         ·rw[<-HFS.out]
          exact(bl.set s _).alloc _
         ·exact(hK.out.set (p:=⟨w1.heap.size,s,none⟩) (fun hb=>hb.2 rfl) _).alloc (fun b hb=>by have:=hb.1;simp;omega) _
        case measure=>go_light;simp[intOf];omega
      ·obtain rfl:i=t:=by omega
       have hE2:Hid (∀s,f s+ppZ (kOf ks) S (R'+1) i s=f' s+ppZ (kOf ks) S R' (2*(i-nl (sZ (lv (kOf ks) S) R') i)) s):=by
        intro s
        have h1:=(HST.out s).1
        have h2:=hI.out s
        omega
       have hT2:=(HST.out 0).2
       have hnle:=zrZb (sZ (lv (kOf ks) S) R') i
       have hpl:=nnZb HS.out (R:=R') (t:=i) (by omega) (by rw[HM.out];omega)
       rw[HQ.out]at hpl
       generalize nl (sZ (lv (kOf ks) S) R') i=N at *
       have HT2:=hid hT2
       have HC2:Hid (vzZ (kOf ks) S L R' (2*(i-N)) f'):=by
        intro s
        rw[hC.out s,hE2.out s]
       have hrr:(R'=0/\Value.int .i64 ((R':Int)-1)= .int .i64 (-1))∨(∃R2,R'=R2+1/\Value.int .i64 ((R':Int)-1)= .int .i64 (R2:Nat)):=by
        rcases R' with _|R2
        ·exact .inl ⟨rfl,rfl⟩
        ·exact .inr ⟨R2,rfl,congrArg (Value.int .i64) (by omega)⟩
       have HRR:=hid hrr
       clear hT2 hrr hC hI HST hE2
       go_wp2_with fail
       go_roundw
       case rel=>go_light;exact⟨R',2*(i-N),f',cs',by omega,by omega,congrArg (Value.int .i64) (by omega),HRR.out,HT2,HC2,hU,bl,hK⟩
       case measure=>go_light;simp[intOf]
theorem pnZb(w:World)(A:Option Addr)(n c:Nat)(ks:List Nat)(limit:Int)(hn:ks.length=n)(hN:n<=9223372036854775807)(hl1: -9223372036854775808<=limit)(hl2:limit<=9223372036854775807)(h32:∀x∈ks,x<4294967296)(ha:Row w w.heap.size A n 1 (rZ .u32 ks)):
 Calls Tryz.prog 274 #[.slice A n c, .int .i64 limit] w (odZ ks limit w):=by
 by_cases h:n>300∨limit<1∨limit>15
 ·exact lnZb w A n c ks limit hn hN hl1 hl2 h
 ·obtain⟨L,rfl⟩:∃L:Nat,limit=L:=⟨limit.toNat,by omega⟩
  by_cases h1:2 ^ L<(pZ (kOf ks) n).length
  ·exact thZb w A n c L ks hn (by omega) (by omega) (by omega) h1 ha
  ·by_cases h2:(pZ (kOf ks) n).length<2
   ·exact mnZb w A n c L ks hn (by omega) (by omega) (by omega) h2 ha
   ·exact okZb w A n c L ks hn (by omega) (by omega) (by omega) (by omega) (by omega) h32 ha
end Go.Proofs.YtmlaajebadfkoaaGreatDoor.Lens
namespace Go.Proofs.YtmlaajebadfkoaaGreatDoor.Lens
open Go.RowKit Mem Own Srt Canon
abbrev RI:=It×Value
def ri0:RI:=((0,[]), .slice none 0 0)
def rcL(R:List RI):List Value:=R.flatMap fun p=> [.int .u64 (p.1.1:Nat),p.2]
def rcF(R:List RI):Nat->Nat->Value:=fun i j=>if j=0 then .int .u64 ((R.getD i ri0).1.1:Nat)else(R.getD i ri0).2
theorem yeZ(a b:List RI):rcL (a++b)=rcL a++rcL b:=by simp[rcL]
theorem tlZ:∀ (X:List RI) (i j:Nat),i<X.length->j<2->(rcL X)[i*2+j]? =some (rcF X i j)
 | [],i,j,h,_=>by simp at h
 |x :: t,0,j,_,hj=>by
  have:j=0∨j=1:=by omega
  rcases this with rfl|rfl<;>simp[rcL,rcF]
 |x :: t,i+1,j,h,hj=>by
  have:=tlZ t i j (by simpa using h) hj
  rw[rcL,List.flatMap_cons,show(i+1)*2+j=(i*2+j)+2 by omega,List.getElem?_append_right (by simp)]
  simpa[rcF,rcL]using this
def Sv(w:World)(base:Nat)(R:List RI):Prop:=∀p∈R,w.ownsRow base 3 1 p.2 p.1.2.length (dZ .i64 p.1.2)
theorem Sv.one{w:World}{base:Nat}{R:List RI}(h:Sv w base R):∀u∈rcL R,u.oneCell'=true:=by
 intro u hu
 obtain⟨p,hp,hr⟩:=List.mem_flatMap.1 hu
 simp only[List.mem_cons,List.not_mem_nil,or_false]at hr
 rcases hr with rfl|rfl
 ·rfl
 ·obtain⟨A,c,hs⟩:=bZ (h p hp)
  rw[hs];rfl
theorem Sv.step{w w':World}{base:Nat}{R:List RI}(h:Sv w base R)(hb:Below w.heap.size w w'):Sv w' base R:=fun p hp=>fZ (h p hp) fun g hg=>hb.block g (World.ownsRow.lt (h p hp) g hg).2
theorem Sv.grown{w w':World}{base base' n:Nat}{R:List RI}{v:Value}{xs:List Value}(h:Sv w base R)(hv:w.ownsRow base' 346 2 v n xs)(hg:w.grownBy w' v.ownBlock):Sv w' base R:=fun p hp=>fZ (h p hp) fun g hgp=>by
 refine hg.block g (World.ownsRow.lt (h p hp) g hgp).2 ?_
 rcases qcZ (h p hp) hv (by decide)with h0|h0
 ·rw[h0]at hgp;cases hgp
 ·rw[<-hgp];exact h0
def RowI(w:World)(base:Nat)(v:Value)(R:List RI):Prop:=w.ownsRow base 346 2 v R.length (rcL R)
theorem RowI.row{w:World}{base c:Nat}{A:Option Addr}{R:List RI}(h:RowI w base (.slice A R.length c) R):Row w w.heap.size A R.length 2 (rcF R):=Row.of_own h rfl fun i j hi hj=>tlZ R i j hi hj
theorem RowI.shape{w:World}{base:Nat}{v:Value}{R:List RI}(h:RowI w base v R):∃A c,v= .slice A R.length c:=bZ h
theorem sbZb{w:World}{B n:Nat}{A:Option Addr}{R:List RI}(h:Row w B A n 2 (rcF R))(hn:R.length=n){k:Nat}(hk:k<n):
 ∃b off p,A=some ⟨b,off,none⟩/\b<B/\R[k]? =some p/\w.cell? ⟨b,off+k*2,none⟩=some (.int .u64 (p.1.1:Nat))/\w.cell? ⟨b,off+k*2+1,none⟩=some p.2:=by
 obtain⟨b,off,e,hb,hc⟩:=h (by omega)
 have hl:k<R.length:=by omega
 have h0:=hc k 0 hk (by omega)
 have h1:=hc k 1 hk (by omega)
 have hg:R.getD k ri0=R[k]:=by rw[List.getD_eq_getElem?_getD,List.getElem?_eq_getElem hl];rfl
 rw[rcF,if_pos rfl,hg]at h0
 rw[rcF,if_neg (by omega),hg]at h1
 exact⟨b,off,R[k],e,hb,List.getElem?_eq_getElem hl,h0,h1⟩
theorem qfZb:(Tryz.prog.info? 346).map (fun i=>(i.zero,i.size,i.bytes))=some (some (.agg #[.int .u64 0, .slice none 0 0]),2,32):=by kernel_rfl
def RMAt(R1 R2:List RI)(i k:Nat)(done:List RI):Prop:=done.map (·.1)++mrg ((R1.map (·.1)).drop i) ((R2.map (·.1)).drop k)=mrg (R1.map (·.1)) (R2.map (·.1))/\∀p∈done,p∈R1∨p∈R2
theorem RMAt.len{R1 R2:List RI}{i k:Nat}{done:List RI}(h:RMAt R1 R2 i k done):done.length<=R1.length+R2.length:=by
 have:=congrArg List.length h.1
 rw[List.length_append,vhZ,vhZ]at this
 simp at this
 omega
theorem jmZ{R:List RI}{i:Nat}{p:RI}(h:R[i]? =some p):(R.map (·.1))[i]? =some p.1:=by rw[List.getElem?_map,h];rfl
theorem RMAt.left{R1 R2:List RI}{i k:Nat}{done:List RI}{p:RI}(h:RMAt R1 R2 i k done)(hp:R1[i]? =some p)(hc:R2.length<=k∨∃q,R2[k]? =some q/\p.1.1<=q.1.1):RMAt R1 R2 (i+1) k (done++ [p]):=by
 refine⟨?_,fun r hr=> ?_⟩
 ·rw[<-h.1,drop_at (jmZ hp),List.map_append,List.append_assoc]
  congr 1
  rcases hc with hc|⟨q,hq,hle⟩
  ·have hd:(R2.map (·.1)).drop k= []:=List.drop_of_length_le (by simpa using hc)
   rw[hd,jhZ,jhZ];rfl
  ·rw[drop_at (jmZ hq),ynZ hle];rfl
 ·rcases List.mem_append.1 hr with hr|hr
  ·exact h.2 r hr
  ·rw[List.mem_singleton]at hr;subst hr;exact .inl (List.mem_of_getElem? hp)
theorem RMAt.right{R1 R2:List RI}{i k:Nat}{done:List RI}{q:RI}(h:RMAt R1 R2 i k done)(hq:R2[k]? =some q)(hc:R1.length<=i∨∃p,R1[i]? =some p/\¬p.1.1<=q.1.1):RMAt R1 R2 i (k+1) (done++ [q]):=by
 refine⟨?_,fun r hr=> ?_⟩
 ·rw[<-h.1,drop_at (jmZ hq),List.map_append,List.append_assoc]
  congr 1
  rcases hc with hc|⟨p,hp,hle⟩
  ·have hd:(R1.map (·.1)).drop i= []:=List.drop_of_length_le (by simpa using hc)
   rw[hd,sgZ,sgZ];rfl
  ·rw[drop_at (jmZ hp),znZ hle];rfl
 ·rcases List.mem_append.1 hr with hr|hr
  ·exact h.2 r hr
  ·rw[List.mem_singleton]at hr;subst hr;exact .inr (List.mem_of_getElem? hq)
theorem RMAt.done{R1 R2:List RI}{i k:Nat}{done:List RI}(h:RMAt R1 R2 i k done)(hi:R1.length<=i)(hk:R2.length<=k):done.map (·.1)=mrg (R1.map (·.1)) (R2.map (·.1)):=by
 have:=h.1
 rw[List.drop_of_length_le (by simpa using hi),sgZ,List.drop_of_length_le (by simpa using hk),List.append_nil]at this
 exact this
def mrZb(R1 R2:List RI)(w:World)(e:Ending)(w':World):Prop:=
 ∃v done,e= .returned v/\RowI w' w.heap.size v done/\done.map (·.1)=mrg (R1.map (·.1)) (R2.map (·.1))/\(∀p∈done,p∈R1∨p∈R2)/\Below w.heap.size w w'
theorem vhZb(w:World)(A B:Option Addr)(n c m d:Nat)(R1 R2:List RI)(hn:R1.length=n)(hm:R2.length=m)(hN:n<=1000)(hM:m<=1000)(hs1:∀p∈R1,∃A c,p.2= .slice A p.1.2.length c)(hs2:∀p∈R2,∃A c,p.2= .slice A p.1.2.length c)
 (ha:Row w w.heap.size A n 2 (rcF R1))(hb:Row w w.heap.size B m 2 (rcF R2)):
 Calls Tryz.prog 280 #[.slice A n c, .slice B m d] w (mrZb R1 R2 w):=by
 have HN:=hid hn
 have HM:=hid hm
 have HA:=hid ha
 have HB:=hid hb
 have HS1:=hid hs1
 have HS2:=hid hs2
 obtain⟨j0,hj0,hy0,hy1,hy2⟩:=info_parts qfZb
 clear hn hm ha hb hs1 hs2
 go_enter Tryz.func280,Tryz.ntmps280
 go_wp2_with fail
 go_loopw [5,6,7] (fun v iv kv wr=>∃ (i k q:Nat) (done:List RI),i<=n/\k<=m/\q<=2001/\iv= .int .i64 i/\kv= .int .i64 k/\Hid (done.length=q)/\wr.ownsRow w.heap.size 346 2 v q (rcL done)/\Hid (RMAt R1 R2 i k done)/\Below w.heap.size w wr) (fun _ i k _=>(n-(intOf i).toNat)+(m-(intOf k).toNat))
 case atStart=>exact⟨0,0,0,[],by omega,by omega,by omega,rfl,rfl,rfl,World.ownsRow_nil _ _ _ _,⟨rfl,fun p h=>by cases h⟩,Below.refl _ _⟩
 case round=>
  obtain⟨i,k,q,done,hi,hk,hq,rfl,rfl,hql,hown,hat,bel⟩:=hrel
  have hbs:=bel.size
  have hq2:q<=n+m:=by have:=hat.out.len;rw[hql.out,HN.out,HM.out]at this;exact this
  obtain⟨va,vc,rfl⟩:=bZ hown
  have hr:Hid (∀k,(Value.slice va q vc).ownBlock=some k->w.heap.size<=k):=fun k hk=>(World.ownsRow.lt hown k hk).1
  have x0:(0:Int)<=(i:Int):=by omega
  have z0:(0:Int)<=(k:Int):=by omega
  have HO:=hid hown
  have BEL:=hid bel
  by_cases hkm:k<m
  ·have z1:(k:Int)<(m:Int):=by omega
   have z2:((k:Int)==(m:Int))=false:=by simp;omega
   obtain⟨b,off,y,rfl,hbb,hy,c0,c1⟩:=sbZb (HB.out.below bel) HM.out hkm
   obtain⟨sA,sc,hsv⟩:=HS2.out y (List.mem_of_getElem? hy)
   have hright:=hat.out.right hy
   have hleft:=fun p hp hle=>hat.out.left (p:=p) hp (.inr ⟨y,hy,hle⟩)
   obtain⟨⟨ya,ys⟩,yv⟩:=y
   simp only at hsv c0 c1 hright hleft
   subst hsv
   have HRIGHT:=hid hright
   have HLEFT:=hid hleft
   clear hy hright hleft hown bel
   by_cases hin:i<n
   ·have x1:(i:Int)<(n:Int):=by omega
    obtain⟨b2,off2,x,rfl,hbb2,hx,d0,d1⟩:=sbZb (HA.out.below BEL.out) HN.out hin
    obtain⟨tA,tc,htv⟩:=HS1.out x (List.mem_of_getElem? hx)
    obtain⟨⟨xa,xs⟩,xv⟩:=x
    simp only at htv d0 d1
    subst htv
    have HXX:=hid hx
    obtain⟨xl,hxl⟩:∃xl,xl=xs.length:=⟨_,rfl⟩
    rw[<-hxl]at d1
    have HXL:=hid hxl
    obtain⟨yl,hyl⟩:∃yl,yl=ys.length:=⟨_,rfl⟩
    rw[<-hyl]at c1
    have HYL:=hid hyl
    clear hx hxl hyl
    by_cases hle:xa<=ya
    ·go_wp2_with fail
     go_quiet (fail)
     have hown2:(wr.drewN nq).ownsRow w.heap.size 346 2 (.slice va q vc) q (rcL done):=fZ HO.out (fun _ _=>rfl)
     have bel2:Below w.heap.size w (wr.drewN nq):=below_drewN BEL.out nq
     have hbs2:w.heap.size<=(wr.drewN nq).heap.size:=hbs
     have d0':(wr.drewN nq).cell? ⟨b2,off2+i*2,none⟩=some (.int .u64 (xa:Nat)):=d0
     have d1':(wr.drewN nq).cell? ⟨b2,off2+i*2+1,none⟩=some (.slice tA xl tc):=d1
     clear d0 d1 c0 c1
     generalize wr.drewN nq=wq at *
     have HO2:=hid hown2
     have BEL2:=hid bel2
     clear hown2 bel2 HO BEL
     go_wp2_with(at_builtin;refine hZ rfl (.tmp 41) (.tmp 46) 344 rfl w.heap.size 346 j0 _ 2 32 Tryz.underlying344 hj0 hy0 hy1 hy2 rfl (by decide) _ _ _ (by rfl) (HO2.out.alloc _) _ 1 1 [.int .u64 (xa:Nat), .slice tA xl tc] (by rfl) (Src.of_blk (Blk.made _ _ _) 1 1 2 rfl) (by intro u hu;simp at hu;rcases hu with rfl|rfl<;>rfl) (by unfold maxLen;omega) (by omega) (by simp;omega) ?_;intro v4 w4 hown4 hg4 hat4)
     go_roundw
     case measure=>go_light;simp[intOf];omega
     case rel=>
      go_light
      refine⟨i+1,k,q+1,done++ [((xa,xs), .slice tA xs.length tc)],by omega,by omega,by omega,by go_num,rfl,?_,?_,hid (HLEFT.out _ HXX.out hle),(eZ hbs2 BEL2.out).grown hg4 (by simp;omega) (fun k hk=>hr.out k hk)⟩
      ·show _=_;rw[List.length_append,hql.out];rfl
      ·rw[yeZ];rw[HXL.out]at hown4;exact hown4
    ·go_wp2_with fail
     go_quiet (fail)
     have hown2:(wr.drewN nq).ownsRow w.heap.size 346 2 (.slice va q vc) q (rcL done):=fZ HO.out (fun _ _=>rfl)
     have bel2:Below w.heap.size w (wr.drewN nq):=below_drewN BEL.out nq
     have hbs2:w.heap.size<=(wr.drewN nq).heap.size:=hbs
     have c0':(wr.drewN nq).cell? ⟨b,off+k*2,none⟩=some (.int .u64 (ya:Nat)):=c0
     have c1':(wr.drewN nq).cell? ⟨b,off+k*2+1,none⟩=some (.slice sA yl sc):=c1
     clear d0 d1 c0 c1
     have hlt2:ya<xa:=by omega
     generalize wr.drewN nq=wq at *
     have HO2:=hid hown2
     have BEL2:=hid bel2
     clear hown2 bel2 HO BEL
     go_wp2_with(at_builtin;refine hZ rfl (.tmp 50) (.tmp 55) 344 rfl w.heap.size 346 j0 _ 2 32 Tryz.underlying344 hj0 hy0 hy1 hy2 rfl (by decide) _ _ _ (by rfl) (HO2.out.alloc _) _ 1 1 [.int .u64 (ya:Nat), .slice sA yl sc] (by rfl) (Src.of_blk (Blk.made _ _ _) 1 1 2 rfl) (by intro u hu;simp at hu;rcases hu with rfl|rfl<;>rfl) (by unfold maxLen;omega) (by omega) (by simp;omega) ?_;intro v4 w4 hown4 hg4 hat4)
     go_roundw
     case measure=>go_light;simp[intOf];omega
     case rel=>
      go_light
      refine⟨i,k+1,q+1,done++ [((ya,ys), .slice sA ys.length sc)],by omega,by omega,by omega,rfl,by go_num,?_,?_,hid (HRIGHT.out (.inr ⟨_,HXX.out,hle⟩)),(eZ hbs2 BEL2.out).grown hg4 (by simp;omega) (fun k hk=>hr.out k hk)⟩
      ·show _=_;rw[List.length_append,hql.out];rfl
      ·rw[yeZ];rw[HYL.out]at hown4;exact hown4
   ·obtain⟨yl,hyl⟩:∃yl,yl=ys.length:=⟨_,rfl⟩
    rw[<-hyl]at c1
    have HYL:=hid hyl
    have k1:decide (i<n)=false:=by simpa using hin
    have k2:decide ((i:Int)<(n:Int))=false:=by simp;omega
    clear hyl
    go_wp2_with fail
    go_quiet (fail)
    have hown2:(wr.drewN nq).ownsRow w.heap.size 346 2 (.slice va q vc) q (rcL done):=fZ HO.out (fun _ _=>rfl)
    have bel2:Below w.heap.size w (wr.drewN nq):=below_drewN BEL.out nq
    have hbs2:w.heap.size<=(wr.drewN nq).heap.size:=hbs
    have c0':(wr.drewN nq).cell? ⟨b,off+k*2,none⟩=some (.int .u64 (ya:Nat)):=c0
    have c1':(wr.drewN nq).cell? ⟨b,off+k*2+1,none⟩=some (.slice sA yl sc):=c1
    clear c0 c1
    generalize wr.drewN nq=wq at *
    have HO2:=hid hown2
    have BEL2:=hid bel2
    clear hown2 bel2 HO BEL
    go_wp2_with(at_builtin;refine hZ rfl (.tmp 50) (.tmp 55) 344 rfl w.heap.size 346 j0 _ 2 32 Tryz.underlying344 hj0 hy0 hy1 hy2 rfl (by decide) _ _ _ (by rfl) (HO2.out.alloc _) _ 1 1 [.int .u64 (ya:Nat), .slice sA yl sc] (by rfl) (Src.of_blk (Blk.made _ _ _) 1 1 2 rfl) (by intro u hu;simp at hu;rcases hu with rfl|rfl<;>rfl) (by unfold maxLen;omega) (by omega) (by simp;omega) ?_;intro v4 w4 hown4 hg4 hat4)
    go_roundw
    case measure=>go_light;simp[intOf];omega
    case rel=>
     go_light
     refine⟨i,k+1,q+1,done++ [((ya,ys), .slice sA ys.length sc)],by omega,by omega,by omega,rfl,by go_num,?_,?_,hid (HRIGHT.out (.inl (by rw[HN.out];omega))),(eZ hbs2 BEL2.out).grown hg4 (by simp;omega) (fun k hk=>hr.out k hk)⟩
     ·show _=_;rw[List.length_append,hql.out];rfl
     ·rw[yeZ];rw[HYL.out]at hown4;exact hown4
  ·obtain rfl:k=m:=by omega
   by_cases hin:i<n
   ·have x1:(i:Int)<(n:Int):=by omega
    obtain⟨b2,off2,x,rfl,hbb2,hx,d0,d1⟩:=sbZb (HA.out.below BEL.out) HN.out hin
    obtain⟨tA,tc,htv⟩:=HS1.out x (List.mem_of_getElem? hx)
    have hleft:=hat.out.left hx (.inl (by rw[HM.out];omega))
    obtain⟨⟨xa,xs⟩,xv⟩:=x
    simp only at htv d0 d1
    subst htv
    have HLEFT:=hid hleft
    obtain⟨xl,hxl⟩:∃xl,xl=xs.length:=⟨_,rfl⟩
    rw[<-hxl]at d1
    have HXL:=hid hxl
    clear hx hxl hleft hown bel
    go_wp2_with fail
    go_quiet (fail)
    have hown2:(wr.drewN nq).ownsRow w.heap.size 346 2 (.slice va q vc) q (rcL done):=fZ HO.out (fun _ _=>rfl)
    have bel2:Below w.heap.size w (wr.drewN nq):=below_drewN BEL.out nq
    have hbs2:w.heap.size<=(wr.drewN nq).heap.size:=hbs
    have d0':(wr.drewN nq).cell? ⟨b2,off2+i*2,none⟩=some (.int .u64 (xa:Nat)):=d0
    have d1':(wr.drewN nq).cell? ⟨b2,off2+i*2+1,none⟩=some (.slice tA xl tc):=d1
    clear d0 d1
    generalize wr.drewN nq=wq at *
    have HO2:=hid hown2
    have BEL2:=hid bel2
    clear hown2 bel2 HO BEL
    go_wp2_with(at_builtin;refine hZ rfl (.tmp 41) (.tmp 46) 344 rfl w.heap.size 346 j0 _ 2 32 Tryz.underlying344 hj0 hy0 hy1 hy2 rfl (by decide) _ _ _ (by rfl) (HO2.out.alloc _) _ 1 1 [.int .u64 (xa:Nat), .slice tA xl tc] (by rfl) (Src.of_blk (Blk.made _ _ _) 1 1 2 rfl) (by intro u hu;simp at hu;rcases hu with rfl|rfl<;>rfl) (by unfold maxLen;omega) (by omega) (by simp;omega) ?_;intro v4 w4 hown4 hg4 hat4)
    go_roundw
    case measure=>go_light;simp[intOf];omega
    case rel=>
     go_light
     refine⟨i+1,k,q+1,done++ [((xa,xs), .slice tA xs.length tc)],by omega,by omega,by omega,by go_num,rfl,?_,?_,HLEFT,(eZ hbs2 BEL2.out).grown hg4 (by simp;omega) (fun k hk=>hr.out k hk)⟩
     ·show _=_;rw[List.length_append,hql.out];rfl
     ·rw[yeZ];rw[HXL.out]at hown4;exact hown4
   ·have hdone:=hat.out.done (by rw[HN.out];omega) (by rw[HM.out];omega)
    have HD:=hid hdone
    have k1:decide (i<n)=false:=by simpa using hin
    have k2:decide ((i:Int)<(n:Int))=false:=by simp;omega
    have k3:decide (k<k)=false:=by simp
    have k4:decide ((k:Int)<(k:Int))=false:=by simp
    clear hdone
    go_wp2_with fail
    go_ret
    refine⟨_,done,rfl,?_,HD.out,hat.out.2,bel⟩
    show World.ownsRow _ _ _ _ _ _ _
    rw[hql.out]
    exact hown
end Go.Proofs.YtmlaajebadfkoaaGreatDoor.Lens
