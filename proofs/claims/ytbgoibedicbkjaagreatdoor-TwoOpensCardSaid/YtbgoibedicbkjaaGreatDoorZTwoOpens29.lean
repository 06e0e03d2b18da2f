/- slices.Repeat of one byte, nums.Zag and the reference's: their walks.  -/
import Derived.Test.YtbgoibedicbkjaaGreatDoorZTwoOpens19
import Derived.Lib.Zigzag
import Derived.Laws.CopyOwn
namespace Go.Proofs.YtbgoibedicbkjaaGreatDoor end Go.Proofs.YtbgoibedicbkjaaGreatDoor open Go.Proofs.YtbgoibedicbkjaaGreatDoor
open Go.Lib (hid)
set_option maxHeartbeats 4000000
set_option maxRecDepth 100000
namespace Go.Proofs.YtbgoibedicbkjaaGreatDoor.Recs
open Go.RowKit Mem Own Canon NumPut
open Go.Proofs.YtbgoibedicbkjaaGreatDoor.Crc (fcZ)
def bjZ(z:Nat):Nat:=if z % 2=1 then 18446744073709551615-z / 2 else z / 2
theorem ozZ{z:Nat}(h:z<18446744073709551616):bjZ z<18446744073709551616:=by unfold bjZ;split<;>omega
theorem gkZb(w:World)(z:Nat)(hz:z<18446744073709551616):
 Calls Tryz.prog 204 #[.int .u64 z] w fun e w'=>e= .returned (.int .u64 (bjZ z:Nat))/\w'=w:=by
 obtain⟨y,hy⟩:∃y,y=bjZ z:=⟨_,rfl⟩
 rw[<-hy]
 unfold bjZ at hy
 have ha:bits .and .u64 (z:Int) 1=((z % 2:Nat):Int):=by
  have h:=bits_and_u64_nat z 1 hz (by omega)
  rw[Nat.and_one_is_mod]at h
  exact h
 have e:bits .xor .u64 ((z:Int) / 2) (IntKind.u64.wrap (-(bits .and .u64 (z:Int) 1)))=(y:Int):=by
  rw[ha]
  by_cases h:z % 2=1
  ·rw[if_pos h]at hy
   have e2:IntKind.u64.wrap (-((z % 2:Nat):Int))=((2 ^ 64-1:Nat):Int):=by rw[IntKind.wrap_u64,h];omega
   rw[e2,show(z:Int) / 2=((z / 2:Nat):Int) by omega,bits_xor_u64_nat _ _ (by omega) (by decide),Nat.xor_comm,Lib.xor_ones64 _ (by omega)]
   omega
  ·rw[if_neg h]at hy
   have e2:IntKind.u64.wrap (-((z % 2:Nat):Int))=((0:Nat):Int):=by rw[IntKind.wrap_u64];omega
   rw[e2,show(z:Int) / 2=((z / 2:Nat):Int) by omega,bits_xor_u64_nat _ _ (by omega) (by decide),Nat.xor_zero]
   omega
 have HE:=hid e
 clear hy e ha
 go_enter Tryz.func204,Tryz.ntmps204
 go_wp2_with fail
 go_ret
 exact⟨giZ HE.out,rfl⟩
theorem hiZb(w:World)(z:Nat)(hz:z<18446744073709551616):
 Calls Tryz.prog 121 #[.int .u64 z] w fun e w'=>e= .returned (.int .u64 (bjZ z:Nat))/\w'=w:=by
 obtain⟨y,hy⟩:∃y,y=bjZ z:=⟨_,rfl⟩
 rw[<-hy]
 unfold bjZ at hy
 obtain⟨h,hh⟩:∃h,h=z / 2:=⟨_,rfl⟩
 rw[<-hh]at hy
 have s1:(z:Int) / 2=(h:Int):=by rw[hh];omega
 by_cases hc:z % 2=1
 ·rw[if_pos hc]at hy
  have g1:(((z:Int) % 2)==1)=true:=by simp;omega
  have s0:IntKind.u64.wrap (h:Int)=(h:Int):=by rw[IntKind.wrap_u64];omega
  have s2:IntKind.u64.wrap (18446744073709551615-(h:Int))=(y:Int):=by rw[IntKind.wrap_u64];omega
  clear hc hy hz hh
  go_enter Tryz.func121,Tryz.ntmps121
  go_wp2_with fail
  go_ret
  exact⟨rfl,rfl⟩
 ·rw[if_neg hc]at hy
  subst hy
  have g1:(((z:Int) % 2)==1)=false:=by rw[beq_eq_false_iff_ne];omega
  have s0:IntKind.u64.wrap (y:Int)=(y:Int):=by rw[IntKind.wrap_u64];omega
  clear hc hz hh
  go_enter Tryz.func121,Tryz.ntmps121
  go_wp2_with fail
  go_ret
  exact⟨rfl,rfl⟩
theorem seZb(w:World)(k:Nat)(hk:k<=100000):
 Calls Tryz.prog 265 #[.int .u64 1, .int .u64 k] w fun e w'=>e= .returned (.tuple #[.int .u64 0, .int .u64 k])/\w'=w:=by
 have a1:bits .and .u64 (1:Int) 4294967295=1:=by decide
 have a0:bits .and .u64 (0:Int) 4294967295=0:=by decide
 have ak:bits .and .u64 (k:Int) 4294967295=(k:Int):=by
  have h:=bits_and_u64_nat k 4294967295 (by omega) (by omega)
  rw[show 4294967295=2 ^ 32-1 from rfl,Nat.and_two_pow_sub_one_eq_mod,Nat.mod_eq_of_lt (by omega)]at h
  exact h
 have sk:(k:Int) / 4294967296=0:=by omega
 have wk:IntKind.u64.wrap (k:Int)=(k:Int):=by rw[IntKind.wrap_u64];omega
 go_enter Tryz.func265,Tryz.ntmps265
 go_wp2_with fail
 go_ret2
 exact⟨rfl,rfl⟩
theorem hkZb(w:World)(k:Nat)(hk:k<=100000):
 Calls Tryz.prog 240 #[.int .u64 1, .int .u64 k] w fun e w'=>e= .returned (.tuple #[.int .u64 0, .int .u64 k])/\w'=w:=by
 have D:=hid (seZb w k hk)
 go_enter Tryz.func240,Tryz.ntmps240
 go_wp2_with fail
 refine D.out.mono ?_
 rintro e w1 ⟨rfl,rfl⟩
 go_wp2_with fail
 go_ret2
 exact⟨rfl,rfl⟩
def xfZ(x n k:Nat):List Value:=List.replicate n (.int .u8 (x:Nat))++List.replicate (k-n) (.int .u8 0)
theorem roZ{x n k:Nat}(h:n<=k):(xfZ x n k).length=k:=by simp[xfZ];omega
theorem teZb(x k:Nat):madeCells #[.int .u8 0] k=(xfZ x 0 k).toArray:=by
 apply Array.ext_getElem?
 intro i
 by_cases h:i<k
 ·simp[xfZ,madeCells,h,Nat.mod_one]
 ·simp[xfZ,madeCells,h]
theorem soZ(x n m k:Nat):splice (xfZ x n k) n (List.replicate m (.int .u8 (x:Nat)))=xfZ x (n+m) k:=by
 unfold splice xfZ
 have e1:(List.replicate n (Value.int .u8 (x:Nat))++List.replicate (k-n) (Value.int .u8 0)).take n=List.replicate n (Value.int .u8 (x:Nat)):=by
  rw[List.take_append_of_le_length (by simp)];simp
 have e2:(List.replicate n (Value.int .u8 (x:Nat))++List.replicate (k-n) (Value.int .u8 0)).drop (n+m)=List.replicate (k-(n+m)) (Value.int .u8 0):=by
  rw[List.drop_append];simp;omega
 rw[List.length_replicate,e1,e2,<-List.append_assoc,List.replicate_append_replicate]
theorem ueZb(x k:Nat):xfZ x k k=cZ .u8 (List.replicate k x):=by simp[xfZ,cZ]
theorem pzZ{m i:Nat}{a v:Value}(h:(List.replicate m a)[i]? =some v):i<m/\v=a:=by
 obtain⟨hj,hv⟩:=List.getElem?_eq_some_iff.1 h
 rw[List.length_replicate]at hj
 rw[List.getElem_replicate]at hv
 exact⟨hj,hv.symm⟩
theorem iiZb:(Tryz.prog.info? 5).map (fun i=>(i.zero,i.size,i.bytes))=some (some (.int .u8 0),1,1):=by kernel_rfl
theorem jiZb(n:Nat)(hn:n<=8388608)(w:World):(Instr.makeSlice 22 (.int .i64 (n:Int)) (.int .i64 (n:Int))).run Tryz.prog w=
 .ok (.slice (some ⟨w.heap.size,0,none⟩) n n) (w.alloc (.cells (madeCells #[.int .u8 0] n) 5)):=by
 obtain⟨i0,hi,hz0,hz1,hz2⟩:=info_parts iiZb
 have h:=run_make (P:=Tryz.prog) w 22 5 i0 (.int .u8 0) Tryz.underlying22 hi hz0 .i64 .i64 (n:Int) (n:Int) (by omega) (Int.le_refl _) (by rw[hz2];omega) (by omega)
 simp only[Int.toNat_natCast]at h
 simpa[hz1,Value.cells]using h
theorem pwZ:(Tryz.prog.info? 5).map (·.size)=some 1:=by kernel_rfl
theorem jbZb(w:World)(g c x k:Nat)(hk:k<=100000)(hx:Blk w g 5 #[.int .u8 (x:Nat)]):
 Calls Tryz.prog 206 #[.slice (some ⟨g,0,none⟩) 1 c, .int .i64 (k:Nat)] w fun e w'=>∃v,e= .returned v/\w'.ownsRow w.heap.size 5 1 v k (cZ .u8 (List.replicate k x))/\Below w.heap.size w w':=by
 have D:=hid (hkZb w k hk)
 have hm:=jiZb k (by omega)
 have gneg:decide ((k:Int)<0)=false:=by simp
 have gbig:decide ((9223372036854775807:Int)<(k:Int))=false:=by simp;omega
 have gbig':decide (9223372036854775807<k)=false:=by simp;omega
 have wk:IntKind.u64.wrap (k:Int)=(k:Int):=by rw[IntKind.wrap_u64];omega
 have wi:IntKind.i64.wrap (k:Int)=(k:Int):=IntWalk.i64_in _ (by omega)
 have c0:=hx.cell 0
 simp only[List.getElem?_toArray,List.getElem?_cons_zero]at c0
 have hg:=hx.lt
 have HC0:=hid c0
 clear hx
 rw[teZb x k]at hm
 go_enter Tryz.func206,Tryz.ntmps206
 go_wp2_with fail
 refine D.out.mono ?_
 rintro e w1 ⟨rfl,rfl⟩
 obtain⟨m,hmm⟩:∃m,m=Nat.min 1 k:=⟨_,rfl⟩
 have hmk:m<=k:=by rw[hmm];exact Nat.min_le_right _ _
 have hm1:m<=1:=by rw[hmm];exact Nat.min_le_left _ _
 have HM:=hid hmm
 have HMP:Hid (0<k->0<m):=fun h=>by rw[hmm];exact Nat.lt_min.2 ⟨by omega,h⟩
 clear hmm
 go_wp2_with((with_reducible show wpList _ _ _ (⟨some 33,_,_,_,_,_⟩ :: _) _ _);refine wpList_copy_splice rfl (.tmp 31) (.tmp 32) 22 22 rfl 5 Tryz.underlying22 pwZ (some ⟨w1.heap.size,0,none⟩) (some ⟨g,0,none⟩) k k 1 c (by rfl) (by rfl) w1.heap.size 0 (xfZ x 0 k) 5 (heap_alloc_new w1 _) (List.replicate m (.int .u8 (x:Nat))) (by rw[List.length_replicate];exact HM.out) (fun _=>⟨rfl,_,rfl,fun j v hv=>by obtain⟨hj,rfl⟩:=pzZ hv;obtain rfl:j=0:=(by omega);exact(World.cell?_alloc_lt w1 _ ⟨g,0,none⟩ hg).trans HC0.out⟩) (by rw[List.length_replicate,roZ (Nat.zero_le k)];omega) (by intro v hv;rw[(List.mem_replicate.1 hv).2];rfl) w1.heap.size w1 (aZ (Below.refl _ _)) (Nat.le_refl _) ?_;intro w2 HG2 hB2)
 have HB2:=hid hB2
 rw[soZ]at HG2
 rw[Nat.zero_add]at HG2
 have HQ0:Hid (0<k->0<m):=HMP.out
 clear hB2 c0 hm D HM HMP gbig gbig' gneg wk wi
 generalize hb:w1.heap.size=b at *
 have HBE:=hid hb
 clear hb
 go_loopw [8] (fun nv wr=>∃q:Nat,q<=k/\nv= .int .i64 q/\Hid (0<k->0<q)/\Hid (wr.heap[b]? =some (.cells (xfZ x q k).toArray 5 (0,0)))/\Hid (Below b w1 wr)) (fun nv _=>k-(intOf nv).toNat)
 case atStart=>exact⟨m,hmk,rfl,HQ0.out,HG2.out,HB2.out⟩
 case round=>
  obtain⟨q,hq,rfl,HQ,HG,HB⟩:=hrel
  clear HG2 HB2 HQ0
  by_cases hlt:q<k
  ·have g1:decide ((q:Int)<(k:Int))=true:=by simp;omega
   have g1':decide (q<k)=true:=by simp;omega
   have hq0:0<q:=HQ.out (by omega)
   have hcA:sZ (some ⟨b,0,none⟩) q k 1=some ⟨b,q,none⟩:=by
    unfold sZ
    rw[if_neg (by omega)]
    show some (Addr.add ⟨b,0,none⟩ (q*1))=_
    rw[cdZ,Nat.zero_add,Nat.mul_one]
   have ks1:=fun wx=>vcZ (P:=Tryz.prog) (t:=22) (s:=1) Tryz.underlying22 (fun _=>by kernel_rfl) (some ⟨b,0,none⟩) k k .i64 (q:Int) q rfl hq wx
   rw[hcA]at ks1
   have ks2:=fun wx=>fcZ (P:=Tryz.prog) (t:=22) (s:=1) Tryz.underlying22 (fun _=>by kernel_rfl) (some ⟨b,0,none⟩) k k .i64 (q:Int) q rfl hq (by intro a ha;injection ha with ha;subst ha;exact cdZ _ _ _) wx
   obtain⟨d,hd⟩:∃d,d=Nat.min q (k-q):=⟨_,rfl⟩
   have hdr:q+d<=k/\0<d/\d<=q:=by
    have h1:d<=k-q:=by rw[hd];exact Nat.min_le_right _ _
    have h2:d<=q:=by rw[hd];exact Nat.min_le_left _ _
    have h3:0<d:=by rw[hd];exact Nat.lt_min.2 ⟨hq0,by omega⟩
    omega
   have S1:Hid (IntKind.i64.wrap ((q:Int)+(d:Int))=((q+d:Nat):Int)):=by show _=_;rw[IntWalk.i64_in _ (by omega)];omega
   have S2:Hid (wrap64 ((q:Int)+(d:Int))=((q+d:Nat):Int)):=by show _=_;rw[IntWalk.wrap64_in _ ⟨by omega,by omega⟩];omega
   have HD:=hid hd
   have hsrc:Hid (∀j v,(List.replicate d (Value.int .u8 (x:Nat)))[j]? =some v->wr.cell? (Addr.add ⟨b,0,none⟩ j)=some v):=fun j v hv=>by
    obtain⟨hj,rfl⟩:=pzZ hv
    have hj':j<q:=by omega
    rw[cdZ,Nat.zero_add,(show Blk wr b _ _ from HG.out).cell j]
    simp[xfZ,List.getElem?_append,hj']
   clear hd hcA
   have s1:=S1.out
   have s2:=S2.out
   go_wp2_with fail
   go_region_law((refine step_copy_splice rfl (.tmp 41) (.tmp 44) 22 22 rfl 5 Tryz.underlying22 pwZ (some ⟨b,q,none⟩) (some ⟨b,0,none⟩) (k-q) (k-q) q k (by go_simp) (by go_simp) b q (xfZ x q k) 5 HG.out (List.replicate d (.int .u8 (x:Nat))) (by rw[List.length_replicate];exact HD.out) (fun _=>⟨rfl,_,rfl,hsrc.out⟩) (by rw[List.length_replicate,roZ hq];exact hdr.1) (by intro v hv;rw[(List.mem_replicate.1 hv).2];rfl) b w1 HB.out.drew (Nat.le_refl _) ?_);intro w4 HG4 hB4)
   all_goals
    have HG5:Hid (w4.heap[b]? =some (.cells (xfZ x (q+d) k).toArray 5 (0,0))):=by have h:=HG4.out;rw[soZ]at h;exact h
    have HB5:=hid hB4
    clear HG4 hB4
    go_simp
    go_wp2_with fail
    go_roundw
    case measure=>go_light;simp[intOf];omega
    case rel=>go_light;exact⟨q+d,hdr.1,by first|rfl|go_num,fun _=>by omega,HG5.out,HB5.out⟩
  ·obtain rfl:q=k:=by omega
   have g1:decide ((q:Int)<(q:Int))=false:=by simp
   go_wp2_with fail
   go_ret
   refine⟨_,rfl,⟨by simp[cZ], .inr ⟨b,q,(xfZ x q q).toArray,rfl,?_,HG.out,Nat.le_refl _,by unfold maxLen;omega,by simp[xfZ],?_⟩⟩,?_⟩
   ·rw[<-HBE.out];exact Nat.le_refl _
   ·rw[Nat.mul_one,<-ueZb];exact List.take_of_length_le (by simp[xfZ])
   ·rw[<-HBE.out]at HB;exact HB.out
end Go.Proofs.YtbgoibedicbkjaaGreatDoor.Recs
namespace Go.Proofs.YtbgoibedicbkjaaGreatDoor.Recs
open Go.RowKit Mem Own Canon NumPut Nums
def scZ:Nat->List Nat->Nat->Nat->List Nat->List Nat×Nat×Int
 |0,_,at_,_,acc=>(acc,at_,0)
 |k+1,bs,at_,was,acc=>if wfZ bs at_ 0≠0 then([],vfZ bs at_ 0,wfZ bs at_ 0)else scZ k bs (vfZ bs at_ 0) ((was+bjZ (heZ bs at_ 0)) % 18446744073709551616) (acc++ [(was+bjZ (heZ bs at_ 0)) % 18446744073709551616])
theorem lhZ{K K':Nat->Prop}{a b:World}(h:Kept K a b)(hi:∀x,K' x->K x):Kept K' a b:=⟨h.os,h.tape,h.output,h.size,fun x hx=>h.block x (hi x hx)⟩
theorem qiZ{B g:Nat}{a b c:World}(h:Kept (fun x=>x<B/\x≠g) a b)(hB:B<=b.heap.size)(k:Kept (ebZ g b) b c):Kept (fun x=>x<B/\x≠g) a c:=h.trans (lhZ k fun x hx=>⟨by have:=hx.1;omega,hx.2⟩)
theorem rgZ{w w':World}{base g:Nat}{e:TypeId}{s n:Nat}{v:Value}{xs:List Value}(h:w.ownsRow base e s v n xs)(hg:g<base)(k:Kept (ebZ g w) w w'):w'.ownsRow base e s v n xs:=
 eZ h fun x hx=>k.block x ⟨(World.ownsRow.lt h x hx).2,by have:=(World.ownsRow.lt h x hx).1;omega⟩
theorem wnZ{w w':World}{b g:Nat}{t:TypeId}{cs:Array Value}(h:Blk w b t cs)(hg:b≠g)(k:Kept (ebZ g w) w w'):Blk w' b t cs:=(k.block b ⟨h.lt,hg⟩).trans h
theorem ekZ{w:World}{base n c:Nat}{A:Option Addr}{ls:List Nat}{k:IntKind}{e:TypeId}(h:w.ownsRow base e 1 (.slice A n c) n (cZ k ls)):Src w A n c 1 (cZ k ls):=by
 obtain⟨h0,h1⟩:=h
 refine⟨h0,?_⟩
 rcases h1 with ⟨hv,_⟩|⟨g,cap,cur,hv,_,hh,_,_,_,htake⟩
 ·injection hv with e1 e2 e3
  exact .inl ⟨e1,e2,e3⟩
 ·injection hv with e1 e2 e3
  refine .inr ⟨⟨g,0,none⟩,e1,fun j u hu=> ?_⟩
  rw[cdZ,Nat.zero_add,Blk.cell hh]
  rw[<-htake,List.getElem?_take]at hu
  split at hu
  ·simpa using hu
  ·cases hu
theorem ohZ{w w':World}{row:Option Nat}{g base c at_:Nat}{bs:List Nat}{A:Option Addr}{er:Int}(h:Cur w g base bs A c at_ er)(hg:w.grownBy w' row)(B:Nat)(hgB:g<B)(hob:∀x,(Value.slice A bs.length c).ownBlock=some x->x<B)(hr:∀x,row=some x->B<=x):Cur w' g base bs A c at_ er:=
 ⟨h.blk.grown hg (fun e=>by have:=hr g e.symm;omega),eZ h.own (fun x hx=>hg.block x (World.ownsRow.lt h.own x hx).2 (fun e=>by have:=hob x hx;have:=hr x e.symm;omega)),h.le,h.lo⟩
def fkZ:Value->Nat
 | .slice _ n _=>n
 |_=>0
theorem otZ:(Tryz.prog.info? 57).map (fun i=>(i.zero,i.size,i.bytes))=some (some (.int .u64 0),1,8):=by kernel_rfl
def ptZ(w:World)(n g base:Nat)(bs:List Nat)(A:Option Addr)(c:Nat)(T:List Nat×Nat×Int)(e:Ending)(w':World):Prop:=
 ∃v acc,e= .returned v/\acc.length<=n/\w'.ownsRow w.heap.size 57 1 v acc.length (cZ .u64 acc)/\Cur w' g base bs A c T.2.1 T.2.2/\Kept (ebZ g w) w w'/\(T.2.2=0->acc=T.1)
theorem veZb(w:World)(g base:Nat)(bs:List Nat)(A:Option Addr)(c at_ n:Nat)(hle:bs.length<=100000)(h8:∀x∈bs,x<=255)(hn:n<=20000)(h:Cur w g base bs A c at_ 0):
 Calls Tryz.prog 166 #[.agg #[.pointer (some ⟨g,0,none⟩)], .int .i64 (n:Nat)] w (ptZ w n g base bs A c (scZ n bs at_ 0 [])):=by
 obtain⟨j0,hj0,hy0,hy1,hy2⟩:=info_parts otZ
 obtain⟨T,hT⟩:∃T,T=scZ n bs at_ 0 []:=⟨_,rfl⟩
 rw[<-hT]
 have HT0:Hid (scZ (n-0) bs at_ 0 []=T):=hT.symm
 have H8:=hid h8
 have HLE:=hid hle
 have hgl:=h.blk.lt
 have H:=hid h
 have HCB:Hid (∀y,(Value.slice A bs.length c).ownBlock=some y->y<w.heap.size):=fun y hy=>(World.ownsRow.lt h.own y hy).2
 unfold ptZ
 clear h h8 hT hle
 go_enter Tryz.func166,Tryz.ntmps166
 go_wp2_with fail
 have hc1:=H.out.step (w':=w.alloc (.cells #[.pointer (some ⟨g,0,none⟩)] 217)) (aZ (Below.refl _ _))
 have hx1:Blk (w.alloc (.cells #[.pointer (some ⟨g,0,none⟩)] 217)) w.heap.size 217 #[.pointer (some ⟨g,0,none⟩)]:=Blk.made _ _ _
 have hk1:Kept (ebZ g w) w (w.alloc (.cells #[.pointer (some ⟨g,0,none⟩)] 217)):=Kept.of_below (B:=w.heap.size) (aZ (Below.refl _ _)) (fun x hx=>hx.1)
 generalize w.alloc (.cells #[.pointer (some ⟨g,0,none⟩)] 217)=w1 at *
 have z1:=hk1.size
 have z1':=hx1.lt
 have HC1:=hid hc1
 have HX1:=hid hx1
 have HK1:=hid hk1
 have hxg:w.heap.size≠g:=by omega
 clear hc1 hx1 hk1 H
 go_loopw [5,6] (fun v uv wr=>∃ (a1:Nat) (er:Int) (was p:Nat) (acc:List Nat),p<=n/\was<18446744073709551616/\uv= .int .u64 was/\Hid (acc.length=p)/\Hid (Cur wr g base bs A c a1 er)/\Hid (wr.ownsRow w1.heap.size 57 1 v p (cZ .u64 acc))/\Hid (Kept (fun x=>x<w1.heap.size/\x≠g) w1 wr)/\Hid (er=0->scZ (n-p) bs a1 was acc=T)/\Hid (er≠0->T=([],a1,er))) (fun v _ _=>n-fkZ v)
 case atStart=>exact⟨at_,0,0,0,[],by omega,by omega,rfl,rfl,HC1.out,World.ownsRow_nil _ _ _ _,Kept.refl _ _,fun _=>HT0.out,fun h=>absurd rfl h⟩
 case round=>
  obtain⟨a1,er,was,p,acc,hp,hwas,rfl,HP,HC,HO,HK,HT,HE⟩:=hrel
  have zk:=HK.out.size
  obtain⟨va,vc,rfl⟩:=bZ HO.out
  have xb:Blk wr w.heap.size 217 #[.pointer (some ⟨g,0,none⟩)]:=(HK.out.block _ ⟨z1',hxg⟩).trans HX1.out
  have x0:=xb.cell 0
  simp only[List.getElem?_toArray,List.getElem?_cons_zero]at x0
  have XB:=hid xb
  clear xb HT0
  by_cases hlt:p<n
  ·have g1:decide ((p:Int)<(n:Int))=true:=by simp;omega
   have g1':decide (p<n)=true:=by simp;omega
   have DE:=hid (lcZ wr g base bs A c a1 er HC.out)
   by_cases he:er=0
   ·subst he
    have hT2:=HT.out rfl
    rw[show n-p=(n-(p+1))+1 by omega,scZ]at hT2
    have hv64:heZ bs a1 0<18446744073709551616:=by
     have h8':∀x∈bs.drop a1,x<=255:=fun x hx=>H8.out x (List.mem_of_mem_drop hx)
     have:=(ydZ (bs.drop a1) 0 0 h8' (by omega) (by simp)).1
     unfold heZ
     rw[if_neg (by simp)]
     exact this
    have D1:=hid (fun wx hx=>num_any wx g base bs A c a1 0 HLE.out H8.out hx)
    generalize heZ bs a1 0=v1 at *
    generalize vfZ bs a1 0=a2 at *
    generalize wfZ bs a1 0=e2 at *
    have hz64:=ozZ hv64
    have D2:=hid (fun wx=>gkZb wx v1 hv64)
    generalize bjZ v1=y1 at *
    have s1:IntKind.u64.wrap ((was:Int)+(y1:Int))=(((was+y1) % 18446744073709551616:Nat):Int):=by rw[IntKind.wrap_u64];omega
    have hw2:(was+y1) % 18446744073709551616<18446744073709551616:=Nat.mod_lt _ (by omega)
    generalize (was+y1) % 18446744073709551616=was2 at *
    have HTE:Hid ((e2=0->scZ (n-(p+1)) bs a2 was2 (acc++ [was2])=T)/\(e2≠0->T=([],a2,e2))):=⟨fun h=>by rw[if_neg (by simp[h])]at hT2;exact hT2,fun h=>by rw[if_pos h]at hT2;exact hT2.symm⟩
    clear hT2 HT HE
    go_wp2_with fail
    refine DE.out.mono ?_
    rintro e w2 ⟨rfl,rfl⟩
    go_wp2_with fail
    refine(D1.out _ HC.out).mono ?_
    rintro e w3 ⟨rfl,hc3,hk3⟩
    have z3:=hk3.size
    have HC3:=hid hc3
    have HO3:Hid (w3.ownsRow w1.heap.size 57 1 (.slice va p vc) p (cZ .u64 acc)):=rgZ HO.out (by omega) hk3
    have HK3:Hid (Kept (fun x=>x<w1.heap.size/\x≠g) w1 w3):=qiZ HK.out zk hk3
    clear hc3 hk3 x0 HC HO HK DE D1 XB
    go_wp2_with fail
    refine(D2.out _).mono ?_
    rintro e w4 ⟨rfl,rfl⟩
    go_wp2_with(at_builtin;refine kZ rfl (.tmp 23) (.tmp 25) 32 rfl w1.heap.size 57 j0 _ 1 8 Tryz.underlying32 hj0 hy0 hy1 hy2 rfl (by decide) _ _ _ (by rfl) (HO3.out.alloc _) _ 1 1 [.int .u64 (was2:Nat)] (by rfl) (Src.of_blk (Blk.made_at _ _ _ (by simp)) 1 1 1 rfl) (by intro u hu;simp at hu;rcases hu with rfl;rfl) (by unfold maxLen;omega) (by omega) (by simp;omega) ?_;intro v5 w5 hown5 hg5 hat5;obtain⟨A5,c5,rfl⟩:=bZ hown5)
    have hb3:=aZ (o:= .cells #[.int .u64 (was2:Nat)] 57) (Below.refl w4.heap.size w4)
    have hc4:=HC3.out.step hb3
    have hk4:Kept (fun x=>x<w1.heap.size/\x≠g) w1 (w4.alloc (.cells #[.int .u64 (was2:Nat)] 57)):=HK3.out.trans (Kept.of_below hb3 (fun x hx=>by have:=hx.1;omega))
    have zz4:=hk4.size
    have hgr:∀y,(Value.slice va p vc).ownBlock=some y->w1.heap.size<=y:=fun y hy=>(World.ownsRow.lt HO3.out y hy).1
    have hc5:Cur w5 g base bs A c a2 e2:=ohZ hc4 hg5 w1.heap.size (by omega) (fun y hy=>by have:=HCB.out y hy;omega) hgr
    have HK5:Hid (Kept (fun x=>x<w1.heap.size/\x≠g) w1 w5):=hk4.grown hg5 (fun y hy=>by have:=hy.1;omega) (fun y hy hh=>by have:=hgr y hy;have:=hh.1;omega)
    have HC5:=hid hc5
    have HO5:Hid (w5.ownsRow w1.heap.size 57 1 (.slice A5 (p+1) c5) (p+1) (cZ .u64 (acc++ [was2]))):=by
     show World.ownsRow _ _ _ _ _ _ _
     rw[show cZ .u64 (acc++ [was2])=cZ .u64 acc++ [.int .u64 (was2:Nat)] by simp[cZ]]
     exact hown5
    clear hown5 hg5 hat5 hb3 hc4 hk4 hc5 hgr
    go_roundw
    case measure=>go_light;simp[fkZ];omega
    case rel=>go_light;exact⟨a2,e2,was2,p+1,acc++ [was2],by omega,hw2,by first|rfl|go_num,by show _=_;rw[List.length_append,HP.out];rfl,HC5.out,HO5.out,HK5.out,HTE.out.1,HTE.out.2⟩
   ·have g2:(er==0)=false:=by simpa using he
    have HT2:=hid (HE.out he)
    have HNE:=hid he
    clear he HT HE
    go_wp2_with fail
    refine DE.out.mono ?_
    rintro e w2 ⟨rfl,rfl⟩
    go_wp2_with fail
    go_ret
    rw[HT2.out]
    refine⟨_,acc,rfl,by rw[HP.out];exact hp,by rw[HP.out];exact lZ HO.out z1,HC.out,HK1.out.trans (lhZ HK.out fun x hx=>⟨by have:=hx.1;omega,hx.2⟩),fun h=>absurd h HNE.out⟩
  ·obtain rfl:p=n:=by omega
   have HF:Hid (a1=T.2.1/\er=T.2.2/\(T.2.2=0->acc=T.1)):=by
    by_cases he:er=0
    ·subst he
     have h:=HT.out rfl
     rw[Nat.sub_self,scZ]at h
     rw[<-h]
     exact⟨rfl,rfl,fun _=>rfl⟩
    ·have h:=HE.out he
     rw[h]
     exact⟨rfl,rfl,fun h0=>absurd h0 he⟩
   have g1:decide ((p:Int)<(p:Int))=false:=by simp
   clear HT HE
   go_wp2_with fail
   go_ret
   refine⟨_,acc,rfl,by rw[HP.out];exact hp,by rw[HP.out];exact lZ HO.out z1,by rw[<-HF.out.1,<-HF.out.2.1];exact HC.out,HK1.out.trans (lhZ HK.out fun x hx=>⟨by have:=hx.1;omega,hx.2⟩),HF.out.2.2⟩
def kjZ(m:Nat)(bs:List Nat)(at_:Nat):Nat×Nat×Nat×Int:=
 (yeZ bs at_ 0,tZ m bs (takeA bs at_ 0 1) (gbZ bs at_ 0 1),pZ m bs (takeA bs at_ 0 1) (gbZ bs at_ 0 1),qZ m bs (takeA bs at_ 0 1) (gbZ bs at_ 0 1))
def fuZ(acc:List Nat)(o:Nat×Nat×Nat×Int):Int:=if o.2.2.2≠0 then o.2.2.2 else if o.2.1=0∨acc.getLast?=some o.1 then 2 else 0
def mcZ:Nat->Nat->List Nat->Nat->List Nat->List Nat×Nat×Int
 |0,_,_,at_,acc=>(acc,at_,0)
 |f+1,n,bs,at_,acc=>if n<=acc.length then(acc,at_,0)else if fuZ acc (kjZ (n-acc.length) bs at_)≠0 then([],(kjZ (n-acc.length) bs at_).2.2.1,fuZ acc (kjZ (n-acc.length) bs at_))else
  mcZ f n bs (kjZ (n-acc.length) bs at_).2.2.1 (acc++List.replicate (kjZ (n-acc.length) bs at_).2.1 (kjZ (n-acc.length) bs at_).1)
theorem kiZb{m:Nat}{bs:List Nat}(h8:∀x∈bs,x<=255)(at_:Nat)(er:Int)(h:qZ m bs at_ er≠0):tZ m bs at_ er=0:=by
 unfold qZ at h
 unfold tZ
 by_cases he:er=0
 ·rw[if_neg (by simp[he])]at h
  rw[if_neg (by simp[he])]
  exact((tdZ m (bs.drop at_) fun x hx=>h8 x (List.mem_of_mem_drop hx)).2.2.2.1 h).1
 ·rw[if_pos he]
theorem toZ{f n:Nat}{bs:List Nat}{at_:Nat}{acc:List Nat}(h:n<=acc.length):mcZ f n bs at_ acc=(acc,at_,0):=by
 cases f with
 |zero=>rfl
 |succ f=>exact if_pos h
def sgZ(w:World)(g:Nat):Int:=intOf ((w.cell? ⟨g,2,none⟩).getD (.int .i64 0))
theorem qwZ:(Tryz.prog.info? 5).map (fun i=>(i.zero,i.size,i.bytes))=some (some (.int .u8 0),1,1):=by kernel_rfl
def wqZ(w:World)(n g base:Nat)(bs:List Nat)(A:Option Addr)(c:Nat)(T:List Nat×Nat×Int)(e:Ending)(w':World):Prop:=
 ∃v acc,e= .returned v/\acc.length<=n/\w'.ownsRow w.heap.size 5 1 v acc.length (cZ .u8 acc)/\Cur w' g base bs A c T.2.1 T.2.2/\Kept (ebZ g w) w w'/\(T.2.2=0->acc=T.1)
theorem kbZb(w:World)(g base:Nat)(bs:List Nat)(A:Option Addr)(c at_ n:Nat)(er0:Int)(hle:bs.length<=100000)(h8:∀x∈bs,x<=255)(hn:n<=20000)(h:Cur w g base bs A c at_ er0):
 Calls Tryz.prog 167 #[.agg #[.pointer (some ⟨g,0,none⟩)], .int .i64 (n:Nat)] w (wqZ w n g base bs A c (if er0≠0 then([],at_,er0)else mcZ n n bs at_ [])):=by
 obtain⟨j0,hj0,hy0,hy1,hy2⟩:=info_parts qwZ
 obtain⟨T,hT⟩:∃T,T=if er0≠0 then([],at_,er0)else mcZ n n bs at_ []:=⟨_,rfl⟩
 rw[<-hT]
 have HT0:Hid ((er0=0->∃f,n<=f+0/\mcZ f n bs at_ []=T)/\(er0≠0->T=([],at_,er0))):=⟨fun h=>⟨n,Nat.le_refl _,by rw[hT,if_neg (by simp[h])]⟩,fun h=>by rw[hT,if_pos h]⟩
 have H8:=hid h8
 have HLE:=hid hle
 have hgl:=h.blk.lt
 have H:=hid h
 have HCB:Hid (∀y,(Value.slice A bs.length c).ownBlock=some y->y<w.heap.size):=fun y hy=>(World.ownsRow.lt h.own y hy).2
 unfold wqZ
 clear h h8 hT hle
 go_enter Tryz.func167,Tryz.ntmps167
 go_wp2_with fail
 have hc1:=H.out.step (w':=w.alloc (.cells #[.pointer (some ⟨g,0,none⟩)] 217)) (aZ (Below.refl _ _))
 have hx1:Blk (w.alloc (.cells #[.pointer (some ⟨g,0,none⟩)] 217)) w.heap.size 217 #[.pointer (some ⟨g,0,none⟩)]:=Blk.made _ _ _
 have hk1:Kept (ebZ g w) w (w.alloc (.cells #[.pointer (some ⟨g,0,none⟩)] 217)):=Kept.of_below (B:=w.heap.size) (aZ (Below.refl _ _)) (fun x hx=>hx.1)
 generalize w.alloc (.cells #[.pointer (some ⟨g,0,none⟩)] 217)=w1 at *
 have z1:=hk1.size
 have z1':=hx1.lt
 have HC1:=hid hc1
 have HX1:=hid hx1
 have HK1:=hid hk1
 have hxg:w.heap.size≠g:=by omega
 clear hc1 hx1 hk1 H
 go_loopw [5] (fun v wr=>∃ (a1:Nat) (er:Int) (p:Nat) (acc:List Nat),p<=n/\Hid (acc.length=p)/\Hid (Cur wr g base bs A c a1 er)/\Hid (wr.ownsRow w1.heap.size 5 1 v p (cZ .u8 acc))/\Hid (Kept (fun x=>x<w1.heap.size/\x≠g) w1 wr)/\Hid (er=0->∃f,n<=f+p/\mcZ f n bs a1 acc=T)/\Hid (er≠0->T=([],a1,er))) (fun v wr=>(n-fkZ v)+if sgZ wr g=0 then 1 else 0)
 case atStart=>exact⟨at_,er0,0,[],by omega,rfl,HC1.out,World.ownsRow_nil _ _ _ _,Kept.refl _ _,HT0.out.1,HT0.out.2⟩
 case round=>
  obtain⟨a1,er,p,acc,hp,HP,HC,HO,HK,HT,HE⟩:=hrel
  have zk:=HK.out.size
  obtain⟨va,vc,rfl⟩:=bZ HO.out
  have xb:Blk wr w.heap.size 217 #[.pointer (some ⟨g,0,none⟩)]:=(HK.out.block _ ⟨z1',hxg⟩).trans HX1.out
  have x0:=xb.cell 0
  simp only[List.getElem?_toArray,List.getElem?_cons_zero]at x0
  have XB:=hid xb
  have HME:Hid (sgZ wr g=er):=by show _=_;unfold sgZ;rw[HC.out.cells.2.2];rfl
  clear xb HT0
  by_cases hlt:p<n
  ·have g1:decide ((p:Int)<(n:Int))=true:=by simp;omega
   have g1':decide (p<n)=true:=by simp;omega
   have DE:=hid (lcZ wr g base bs A c a1 er HC.out)
   by_cases he:er=0
   ·subst he
    obtain⟨f,hf,hT2⟩:=HT.out rfl
    obtain⟨f,rfl⟩:∃f',f=f'+1:=⟨f-1,by omega⟩
    rw[mcZ,if_neg (by rw[HP.out];omega),HP.out]at hT2
    obtain⟨m,hm⟩:∃m,m=n-p:=⟨_,rfl⟩
    have sm:IntKind.i64.wrap ((n:Int)-(p:Int))=(m:Int):=by rw[IntWalk.i64_in _ (by omega)];omega
    rw[<-hm]at hT2
    have HMN:=hid hm
    have hmn:p+m<=n/\m<=20000:=by omega
    clear hm
    have D1:=hid (fun wx hx=>zuZ wx g base bs A c a1 0 HLE.out hx)
    have hkm:tZ m bs (takeA bs a1 0 1) (gbZ bs a1 0 1)<=m:=qbZ H8.out _ _
    have HKE:Hid (qZ m bs (takeA bs a1 0 1) (gbZ bs a1 0 1)≠0->tZ m bs (takeA bs a1 0 1) (gbZ bs a1 0 1)=0):=kiZb H8.out _ _
    unfold fuZ kjZ at hT2
    simp only at hT2
    have D2:=hid (fun wx hx=>mhZ wx g base bs A c (takeA bs a1 0 1) (gbZ bs a1 0 1) m HLE.out H8.out (by omega) hx)
    generalize yeZ bs a1 0=x at *
    generalize takeA bs a1 0 1=b1 at *
    generalize gbZ bs a1 0 1=d1 at *
    generalize tZ m bs b1 d1=k at *
    generalize pZ m bs b1 d1=a2 at *
    generalize qZ m bs b1 d1=e2 at *
    have hk5k:k<=100000:=by omega
    have DR:=hid (fun wx gx cx y kk hkk hb=>jbZb wx gx cx y kk hkk hb)
    have HT2:=hid hT2
    have HF:=hid hf
    clear hT2 HT HE hf
    go_wp2_with fail
    refine DE.out.mono ?_
    rintro e w2 ⟨rfl,rfl⟩
    go_wp2_with fail
    refine(D1.out _ HC.out).mono ?_
    rintro e w3 ⟨rfl,hc3,hk3⟩
    have z3:=hk3.size
    have HC3:=hid hc3
    have HO3:Hid (w3.ownsRow w1.heap.size 5 1 (.slice va p vc) p (cZ .u8 acc)):=rgZ HO.out (by omega) hk3
    have HK3:Hid (Kept (fun x=>x<w1.heap.size/\x≠g) w1 w3):=qiZ HK.out zk hk3
    have XB3:=hid (wnZ XB.out hxg hk3)
    have x3:=XB3.out.cell 0
    simp only[List.getElem?_toArray,List.getElem?_cons_zero]at x3
    clear hc3 hk3 x0 HC HO HK DE D1 XB
    go_wp2_with fail
    refine(D2.out _ HC3.out).mono ?_
    rintro e w4 ⟨rfl,hc4,hk4⟩
    have z4:=hk4.size
    have HC4:=hid hc4
    have HO4:Hid (w4.ownsRow w1.heap.size 5 1 (.slice va p vc) p (cZ .u8 acc)):=rgZ HO3.out (by omega) hk4
    have HK4:Hid (Kept (fun x=>x<w1.heap.size/\x≠g) w1 w4):=qiZ HK3.out (by omega) hk4
    have XB4:=hid (wnZ XB3.out hxg hk4)
    have x4:=XB4.out.cell 0
    simp only[List.getElem?_toArray,List.getElem?_cons_zero]at x4
    have DE4:=hid (lcZ w4 g base bs A c a2 e2 HC4.out)
    clear hc4 hk4 x3 HC3 HO3 HK3 D2 XB3
    go_wp2_with fail
    refine DE4.out.mono ?_
    rintro e w5 ⟨rfl,rfl⟩
    by_cases he2:e2=0
    ·subst he2
     have hft:=HT2.out
     rw[if_neg (show ¬((0:Int)≠0) from fun h=>h rfl)]at hft
     by_cases hk0:k=0
     ·have gk:((k:Int)==0)=true:=by rw[hk0];rfl
      obtain⟨er2,her2⟩:∃er2,er2=ygZ 0 2:=⟨_,rfl⟩
      have he2v:er2=2:=her2.trans (if_pos rfl)
      have HTE:Hid ((er2=0->∃f',n<=f'+(p+k)/\mcZ f' n bs a2 (acc++List.replicate k x)=T)/\(er2≠0->T=([],a2,er2))):=⟨fun h=>absurd (he2v.symm.trans h) (by decide),fun _=>by rw[if_pos (Or.inl hk0),if_pos (by decide)]at hft;rw[he2v];exact hft.symm⟩
      have HMS:Hid (n-(p+k)+(if er2=0 then 1 else 0)<n-p+1):=by show _<_;rw[if_neg (by rw[he2v];decide)];omega
      have DF:=hid (pfZ w5 g base bs A c a2 0 2 HC4.out)
      rw[<-her2]at DF
      clear hft he2v her2 HT2 hk0
      go_wp2_with fail
      refine DF.out.mono ?_
      rintro e w6 ⟨rfl,hc5,hk6⟩
      have HO5:Hid (w6.ownsRow w1.heap.size 5 1 _ p (cZ .u8 acc)):=eZ HO4.out (fun z hz=>hk6.block z (by have:=(World.ownsRow.lt HO4.out z hz).1;omega))
      have HK5:Hid (Kept (fun x=>x<w1.heap.size/\x≠g) w1 w6):=HK4.out.trans (lhZ hk6 fun z hz=>hz.2)
      have HC5:=hid hc5
      clear HO4 HK4 HC4 hk6 hc5 DF XB4 x4 z4
      obtain⟨w5,rfl⟩:∃w5:World,w5=w6:=⟨_,rfl⟩
      have z5:=HK5.out.size
      go_wp2_with fail
      have bq:Blk (w5.alloc (.cells #[.int .u8 (x:Nat)] 5)) w5.heap.size 5 #[.int .u8 (x:Nat)]:=Blk.made _ _ _
      refine(DR.out _ _ _ x k hk5k bq).mono ?_
      rintro e w6 ⟨v6,rfl,ho6,hb6⟩
      obtain⟨A6,c6,rfl⟩:=bZ ho6
      have z6:=hb6.size
      simp at z6
      have HS6:Hid (Src w6 A6 k c6 1 (cZ .u8 (List.replicate k x))):=ekZ ho6
      have HO6:Hid (w6.ownsRow w1.heap.size 5 1 _ p (cZ .u8 acc)):=eZ (HO5.out.alloc _) (fun y hy=>hb6.block y (by have:=(World.ownsRow.lt HO5.out y hy).2;simp;omega))
      have hc6:Cur w6 g base bs A c a2 er2:=HC5.out.step ((aZ (Below.refl _ _)).trans (hb6.mono (by simp)))
      have HK6:Hid (Kept (fun x=>x<w1.heap.size/\x≠g) w1 w6):=HK5.out.trans (Kept.of_below ((aZ (Below.refl _ _)).trans (hb6.mono (by simp))) (fun y hy=>by have:=hy.1;omega))
      have HC6:=hid hc6
      clear ho6 hb6 bq hc6 HC5 HO5 HK5 DR
      go_wp2_with(at_builtin;refine kZ rfl (.tmp 54) (.tmp 58) 22 rfl w1.heap.size 5 j0 _ 1 1 Tryz.underlying22 hj0 hy0 hy1 hy2 rfl (by decide) _ _ _ (by rfl) HO6.out _ _ _ _ (by rfl) HS6.out (wZ _ _) (by unfold maxLen;omega) (by omega) (by omega) ?_;intro v7 w7 hown7 hg7 hat7)
      obtain⟨A7,c7,rfl⟩:=bZ hown7
      have hgr:=fun(y:Nat) hy=>(World.ownsRow.lt HO6.out y hy).1
      have z7:=HK6.out.size
      have hc7:Cur w7 g base bs A c a2 er2:=ohZ HC6.out hg7 w1.heap.size (by omega) (fun y hy=>by have:=HCB.out y hy;omega) hgr
      have HK7:Hid (Kept (fun x=>x<w1.heap.size/\x≠g) w1 w7):=HK6.out.grown hg7 (fun y hy=>by have:=hy.1;omega) (fun y hy hh=>by have:=hgr y hy;have:=hh.1;omega)
      have HO7:Hid (w7.ownsRow w1.heap.size 5 1 (.slice A7 (p+k) c7) (p+k) (cZ .u8 (acc++List.replicate k x))):=by
       show World.ownsRow _ _ _ _ _ _ _
       rw[show cZ .u8 (acc++List.replicate k x)=cZ .u8 acc++cZ .u8 (List.replicate k x) by simp[cZ]]
       exact hown7
      have HC7:=hid hc7
      have HM7:Hid (sgZ w7 g=er2):=by show _=_;unfold sgZ;rw[hc7.cells.2.2];rfl
      clear hown7 hg7 hat7 hgr hc7
      go_roundw
      case measure=>go_light;simp only[fkZ];rw[HM7.out,HME.out];exact HMS.out
      case rel=>go_light;exact⟨a2,er2,p+k,acc++List.replicate k x,by omega,by show _=_;rw[List.length_append,HP.out,List.length_replicate],HC7.out,HO7.out,HK7.out,HTE.out.1,HTE.out.2⟩
     ·have gk:((k:Int)==0)=false:=by rw[beq_eq_false_iff_ne];omega
      have gk':(k==0)=false:=by rw[beq_eq_false_iff_ne];omega
      by_cases hp0:p=0
      ·have gp:decide ((0:Int)<(p:Int))=false:=by simp;omega
       have gp':decide (0<p)=false:=by simp;omega
       have hno:¬(k=0∨acc.getLast?=some x):=fun h=>h.elim hk0 (fun h=>by rw[List.eq_nil_of_length_eq_zero (HP.out.trans hp0)]at h;cases h)
       obtain⟨er2,her2⟩:∃er2:Int,er2=0:=⟨_,rfl⟩
       have HTE:Hid ((er2=0->∃f',n<=f'+(p+k)/\mcZ f' n bs a2 (acc++List.replicate k x)=T)/\(er2≠0->T=([],a2,er2))):=⟨fun _=>⟨f,by have:=HF.out;omega,by rw[if_neg hno,if_neg (show ¬((0:Int)≠0) from fun h=>h rfl)]at hft;exact hft⟩,fun h=>absurd her2 h⟩
       have HMS:Hid (n-(p+k)+(if er2=0 then 1 else 0)<n-p+1):=by show _<_;rw[if_pos her2];omega
       have HC5':Hid (Cur w5 g base bs A c a2 er2):=by rw[her2];exact HC4.out
       clear hft her2 HT2 hk0 hno hp0
       have HC5:=HC5'
       have HO5:=HO4
       have HK5:=HK4
       clear HC4 HO4 HK4 HC5'
       have z5:=HK5.out.size
       go_wp2_with fail
       have bq:Blk (w5.alloc (.cells #[.int .u8 (x:Nat)] 5)) w5.heap.size 5 #[.int .u8 (x:Nat)]:=Blk.made _ _ _
       refine(DR.out _ _ _ x k hk5k bq).mono ?_
       rintro e w6 ⟨v6,rfl,ho6,hb6⟩
       obtain⟨A6,c6,rfl⟩:=bZ ho6
       have z6:=hb6.size
       simp at z6
       have HS6:Hid (Src w6 A6 k c6 1 (cZ .u8 (List.replicate k x))):=ekZ ho6
       have HO6:Hid (w6.ownsRow w1.heap.size 5 1 _ p (cZ .u8 acc)):=eZ (HO5.out.alloc _) (fun y hy=>hb6.block y (by have:=(World.ownsRow.lt HO5.out y hy).2;simp;omega))
       have hc6:Cur w6 g base bs A c a2 er2:=HC5.out.step ((aZ (Below.refl _ _)).trans (hb6.mono (by simp)))
       have HK6:Hid (Kept (fun x=>x<w1.heap.size/\x≠g) w1 w6):=HK5.out.trans (Kept.of_below ((aZ (Below.refl _ _)).trans (hb6.mono (by simp))) (fun y hy=>by have:=hy.1;omega))
       have HC6:=hid hc6
       clear ho6 hb6 bq hc6 HC5 HO5 HK5 DR
       go_wp2_with(at_builtin;refine kZ rfl (.tmp 54) (.tmp 58) 22 rfl w1.heap.size 5 j0 _ 1 1 Tryz.underlying22 hj0 hy0 hy1 hy2 rfl (by decide) _ _ _ (by rfl) HO6.out _ _ _ _ (by rfl) HS6.out (wZ _ _) (by unfold maxLen;omega) (by omega) (by omega) ?_;intro v7 w7 hown7 hg7 hat7)
       obtain⟨A7,c7,rfl⟩:=bZ hown7
       have hgr:=fun(y:Nat) hy=>(World.ownsRow.lt HO6.out y hy).1
       have z7:=HK6.out.size
       have hc7:Cur w7 g base bs A c a2 er2:=ohZ HC6.out hg7 w1.heap.size (by omega) (fun y hy=>by have:=HCB.out y hy;omega) hgr
       have HK7:Hid (Kept (fun x=>x<w1.heap.size/\x≠g) w1 w7):=HK6.out.grown hg7 (fun y hy=>by have:=hy.1;omega) (fun y hy hh=>by have:=hgr y hy;have:=hh.1;omega)
       have HO7:Hid (w7.ownsRow w1.heap.size 5 1 (.slice A7 (p+k) c7) (p+k) (cZ .u8 (acc++List.replicate k x))):=by
        show World.ownsRow _ _ _ _ _ _ _
        rw[show cZ .u8 (acc++List.replicate k x)=cZ .u8 acc++cZ .u8 (List.replicate k x) by simp[cZ]]
        exact hown7
       have HC7:=hid hc7
       have HM7:Hid (sgZ w7 g=er2):=by show _=_;unfold sgZ;rw[hc7.cells.2.2];rfl
       clear hown7 hg7 hat7 hgr hc7
       go_roundw
       case measure=>go_light;simp only[fkZ];rw[HM7.out,HME.out];exact HMS.out
       case rel=>go_light;exact⟨a2,er2,p+k,acc++List.replicate k x,by omega,by show _=_;rw[List.length_append,HP.out,List.length_replicate],HC7.out,HO7.out,HK7.out,HTE.out.1,HTE.out.2⟩
      ·obtain⟨gq,cq,hAq,hgq,_⟩:=HO4.out.form (by omega)
       injection hAq with e1 e2 e3
       subst e1 e3
       obtain⟨y,hy⟩:∃y,acc[p-1]? =some y:=⟨_,List.getElem?_eq_getElem (by have:=HP.out;omega)⟩
       have hgl2:acc.getLast?=some y:=by rw[List.getLast?_eq_getElem?,HP.out];exact hy
       have cy:w5.cell? ⟨gq,p-1,none⟩=some (.int .u8 (y:Nat)):=by
        rw[HO4.out.cellAt (p-1) (by omega)]
        unfold cZ
        rw[List.getElem?_map,hy]
        rfl
       obtain⟨p1,hp1⟩:∃p1,p1=p-1:=⟨_,rfl⟩
       rw[<-hp1]at cy
       have sp:IntKind.i64.wrap ((p:Int)-1)=(p1:Int):=by rw[IntWalk.i64_in _ (by omega)];omega
       have gp:decide ((0:Int)<(p:Int))=true:=by simp;omega
       have gp':decide (0<p)=true:=by simp;omega
       have x10:(0:Int)<=(p1:Int):=by omega
       have x11:(p1:Int)<(p:Int):=by omega
       clear hy hp1
       by_cases hyx:y=x
       ·have gx:((y:Int)==(x:Int))=true:=by rw[hyx];simp
        rw[hyx]at hgl2
        clear hyx
        obtain⟨er2,her2⟩:∃er2,er2=ygZ 0 2:=⟨_,rfl⟩
        have he2v:er2=2:=her2.trans (if_pos rfl)
        have HTE:Hid ((er2=0->∃f',n<=f'+(p+k)/\mcZ f' n bs a2 (acc++List.replicate k x)=T)/\(er2≠0->T=([],a2,er2))):=⟨fun h=>absurd (he2v.symm.trans h) (by decide),fun _=>by rw[if_pos (Or.inr hgl2),if_pos (by decide)]at hft;rw[he2v];exact hft.symm⟩
        have HMS:Hid (n-(p+k)+(if er2=0 then 1 else 0)<n-p+1):=by show _<_;rw[if_neg (by rw[he2v];decide)];omega
        have DF:=hid (pfZ w5 g base bs A c a2 0 2 HC4.out)
        rw[<-her2]at DF
        clear hft he2v her2 HT2 hgl2 hk0
        go_wp2_with fail
        refine DF.out.mono ?_
        rintro e w6 ⟨rfl,hc5,hk6⟩
        clear cy
        have HO5:Hid (w6.ownsRow w1.heap.size 5 1 _ p (cZ .u8 acc)):=eZ HO4.out (fun z hz=>hk6.block z (by have:=(World.ownsRow.lt HO4.out z hz).1;omega))
        have HK5:Hid (Kept (fun x=>x<w1.heap.size/\x≠g) w1 w6):=HK4.out.trans (lhZ hk6 fun z hz=>hz.2)
        have HC5:=hid hc5
        clear HO4 HK4 HC4 hk6 hc5 DF XB4 x4 z4
        obtain⟨w5,rfl⟩:∃w5:World,w5=w6:=⟨_,rfl⟩
        have z5:=HK5.out.size
        go_wp2_with fail
        have bq:Blk (w5.alloc (.cells #[.int .u8 (x:Nat)] 5)) w5.heap.size 5 #[.int .u8 (x:Nat)]:=Blk.made _ _ _
        refine(DR.out _ _ _ x k hk5k bq).mono ?_
        rintro e w6 ⟨v6,rfl,ho6,hb6⟩
        obtain⟨A6,c6,rfl⟩:=bZ ho6
        have z6:=hb6.size
        simp at z6
        have HS6:Hid (Src w6 A6 k c6 1 (cZ .u8 (List.replicate k x))):=ekZ ho6
        have HO6:Hid (w6.ownsRow w1.heap.size 5 1 _ p (cZ .u8 acc)):=eZ (HO5.out.alloc _) (fun y hy=>hb6.block y (by have:=(World.ownsRow.lt HO5.out y hy).2;simp;omega))
        have hc6:Cur w6 g base bs A c a2 er2:=HC5.out.step ((aZ (Below.refl _ _)).trans (hb6.mono (by simp)))
        have HK6:Hid (Kept (fun x=>x<w1.heap.size/\x≠g) w1 w6):=HK5.out.trans (Kept.of_below ((aZ (Below.refl _ _)).trans (hb6.mono (by simp))) (fun y hy=>by have:=hy.1;omega))
        have HC6:=hid hc6
        clear ho6 hb6 bq hc6 HC5 HO5 HK5 DR
        go_wp2_with(at_builtin;refine kZ rfl (.tmp 54) (.tmp 58) 22 rfl w1.heap.size 5 j0 _ 1 1 Tryz.underlying22 hj0 hy0 hy1 hy2 rfl (by decide) _ _ _ (by rfl) HO6.out _ _ _ _ (by rfl) HS6.out (wZ _ _) (by unfold maxLen;omega) (by omega) (by omega) ?_;intro v7 w7 hown7 hg7 hat7)
        obtain⟨A7,c7,rfl⟩:=bZ hown7
        have hgr:=fun(y:Nat) hy=>(World.ownsRow.lt HO6.out y hy).1
        have z7:=HK6.out.size
        have hc7:Cur w7 g base bs A c a2 er2:=ohZ HC6.out hg7 w1.heap.size (by omega) (fun y hy=>by have:=HCB.out y hy;omega) hgr
        have HK7:Hid (Kept (fun x=>x<w1.heap.size/\x≠g) w1 w7):=HK6.out.grown hg7 (fun y hy=>by have:=hy.1;omega) (fun y hy hh=>by have:=hgr y hy;have:=hh.1;omega)
        have HO7:Hid (w7.ownsRow w1.heap.size 5 1 (.slice A7 (p+k) c7) (p+k) (cZ .u8 (acc++List.replicate k x))):=by
         show World.ownsRow _ _ _ _ _ _ _
         rw[show cZ .u8 (acc++List.replicate k x)=cZ .u8 acc++cZ .u8 (List.replicate k x) by simp[cZ]]
         exact hown7
        have HC7:=hid hc7
        have HM7:Hid (sgZ w7 g=er2):=by show _=_;unfold sgZ;rw[hc7.cells.2.2];rfl
        clear hown7 hg7 hat7 hgr hc7
        go_roundw
        case measure=>go_light;simp only[fkZ];rw[HM7.out,HME.out];exact HMS.out
        case rel=>go_light;exact⟨a2,er2,p+k,acc++List.replicate k x,by omega,by show _=_;rw[List.length_append,HP.out,List.length_replicate],HC7.out,HO7.out,HK7.out,HTE.out.1,HTE.out.2⟩
       ·have gx:((y:Int)==(x:Int))=false:=by rw[beq_eq_false_iff_ne];omega
        obtain⟨er2,her2⟩:∃er2:Int,er2=0:=⟨_,rfl⟩
        have hno:¬(k=0∨acc.getLast?=some x):=fun h=>h.elim hk0 (fun h=>by rw[hgl2]at h;injection h with h;exact hyx h)
        have HTE:Hid ((er2=0->∃f',n<=f'+(p+k)/\mcZ f' n bs a2 (acc++List.replicate k x)=T)/\(er2≠0->T=([],a2,er2))):=⟨fun _=>⟨f,by have:=HF.out;omega,by rw[if_neg hno,if_neg (by simp)]at hft;exact hft⟩,fun h=>absurd her2 h⟩
        have HMS:Hid (n-(p+k)+(if er2=0 then 1 else 0)<n-p+1):=by show _<_;rw[if_pos her2];omega
        have HC5':Hid (Cur w5 g base bs A c a2 er2):=by rw[her2];exact HC4.out
        clear hft her2 HT2 hgl2 hno hyx hk0
        have HC5:=HC5'
        have HO5:=HO4
        have HK5:=HK4
        clear HC4 HO4 HK4 HC5'
        have z5:=HK5.out.size
        go_wp2_with fail
        have bq:Blk (w5.alloc (.cells #[.int .u8 (x:Nat)] 5)) w5.heap.size 5 #[.int .u8 (x:Nat)]:=Blk.made _ _ _
        refine(DR.out _ _ _ x k hk5k bq).mono ?_
        rintro e w6 ⟨v6,rfl,ho6,hb6⟩
        obtain⟨A6,c6,rfl⟩:=bZ ho6
        have z6:=hb6.size
        simp at z6
        have HS6:Hid (Src w6 A6 k c6 1 (cZ .u8 (List.replicate k x))):=ekZ ho6
        have HO6:Hid (w6.ownsRow w1.heap.size 5 1 _ p (cZ .u8 acc)):=eZ (HO5.out.alloc _) (fun y hy=>hb6.block y (by have:=(World.ownsRow.lt HO5.out y hy).2;simp;omega))
        have hc6:Cur w6 g base bs A c a2 er2:=HC5.out.step ((aZ (Below.refl _ _)).trans (hb6.mono (by simp)))
        have HK6:Hid (Kept (fun x=>x<w1.heap.size/\x≠g) w1 w6):=HK5.out.trans (Kept.of_below ((aZ (Below.refl _ _)).trans (hb6.mono (by simp))) (fun y hy=>by have:=hy.1;omega))
        have HC6:=hid hc6
        clear ho6 hb6 bq hc6 HC5 HO5 HK5 DR
        go_wp2_with(at_builtin;refine kZ rfl (.tmp 54) (.tmp 58) 22 rfl w1.heap.size 5 j0 _ 1 1 Tryz.underlying22 hj0 hy0 hy1 hy2 rfl (by decide) _ _ _ (by rfl) HO6.out _ _ _ _ (by rfl) HS6.out (wZ _ _) (by unfold maxLen;omega) (by omega) (by omega) ?_;intro v7 w7 hown7 hg7 hat7)
        obtain⟨A7,c7,rfl⟩:=bZ hown7
        have hgr:=fun(y:Nat) hy=>(World.ownsRow.lt HO6.out y hy).1
        have z7:=HK6.out.size
        have hc7:Cur w7 g base bs A c a2 er2:=ohZ HC6.out hg7 w1.heap.size (by omega) (fun y hy=>by have:=HCB.out y hy;omega) hgr
        have HK7:Hid (Kept (fun x=>x<w1.heap.size/\x≠g) w1 w7):=HK6.out.grown hg7 (fun y hy=>by have:=hy.1;omega) (fun y hy hh=>by have:=hgr y hy;have:=hh.1;omega)
        have HO7:Hid (w7.ownsRow w1.heap.size 5 1 (.slice A7 (p+k) c7) (p+k) (cZ .u8 (acc++List.replicate k x))):=by
         show World.ownsRow _ _ _ _ _ _ _
         rw[show cZ .u8 (acc++List.replicate k x)=cZ .u8 acc++cZ .u8 (List.replicate k x) by simp[cZ]]
         exact hown7
        have HC7:=hid hc7
        have HM7:Hid (sgZ w7 g=er2):=by show _=_;unfold sgZ;rw[hc7.cells.2.2];rfl
        clear hown7 hg7 hat7 hgr hc7
        go_roundw
        case measure=>go_light;simp only[fkZ];rw[HM7.out,HME.out];exact HMS.out
        case rel=>go_light;exact⟨a2,er2,p+k,acc++List.replicate k x,by omega,by show _=_;rw[List.length_append,HP.out,List.length_replicate],HC7.out,HO7.out,HK7.out,HTE.out.1,HTE.out.2⟩
    ·have gE:(e2==0)=false:=by simpa using he2
     have hft:=HT2.out
     rw[if_pos he2,if_pos he2]at hft
     have HTE:Hid ((e2=0->∃f',n<=f'+(p+k)/\mcZ f' n bs a2 (acc++List.replicate k x)=T)/\(e2≠0->T=([],a2,e2))):=⟨fun h=>absurd h he2,fun _=>hft.symm⟩
     have HMS:Hid (n-(p+k)+(if e2=0 then 1 else 0)<n-p+1):=by show _<_;rw[if_neg he2];omega
     have HC5':Hid (Cur w5 g base bs A c a2 e2):=HC4.out
     clear hft HT2 he2
     obtain⟨er2,rfl⟩:∃er2,er2=e2:=⟨_,rfl⟩
     have HC5:=HC5'
     have HO5:=HO4
     have HK5:=HK4
     clear HC4 HO4 HK4 HC5'
     have z5:=HK5.out.size
     go_wp2_with fail
     have bq:Blk (w5.alloc (.cells #[.int .u8 (x:Nat)] 5)) w5.heap.size 5 #[.int .u8 (x:Nat)]:=Blk.made _ _ _
     refine(DR.out _ _ _ x k hk5k bq).mono ?_
     rintro e w6 ⟨v6,rfl,ho6,hb6⟩
     obtain⟨A6,c6,rfl⟩:=bZ ho6
     have z6:=hb6.size
     simp at z6
     have HS6:Hid (Src w6 A6 k c6 1 (cZ .u8 (List.replicate k x))):=ekZ ho6
     have HO6:Hid (w6.ownsRow w1.heap.size 5 1 _ p (cZ .u8 acc)):=eZ (HO5.out.alloc _) (fun y hy=>hb6.block y (by have:=(World.ownsRow.lt HO5.out y hy).2;simp;omega))
     have hc6:Cur w6 g base bs A c a2 er2:=HC5.out.step ((aZ (Below.refl _ _)).trans (hb6.mono (by simp)))
     have HK6:Hid (Kept (fun x=>x<w1.heap.size/\x≠g) w1 w6):=HK5.out.trans (Kept.of_below ((aZ (Below.refl _ _)).trans (hb6.mono (by simp))) (fun y hy=>by have:=hy.1;omega))
     have HC6:=hid hc6
     clear ho6 hb6 bq hc6 HC5 HO5 HK5 DR
     go_wp2_with(at_builtin;refine kZ rfl (.tmp 54) (.tmp 58) 22 rfl w1.heap.size 5 j0 _ 1 1 Tryz.underlying22 hj0 hy0 hy1 hy2 rfl (by decide) _ _ _ (by rfl) HO6.out _ _ _ _ (by rfl) HS6.out (wZ _ _) (by unfold maxLen;omega) (by omega) (by omega) ?_;intro v7 w7 hown7 hg7 hat7)
     obtain⟨A7,c7,rfl⟩:=bZ hown7
     have hgr:=fun(y:Nat) hy=>(World.ownsRow.lt HO6.out y hy).1
     have z7:=HK6.out.size
     have hc7:Cur w7 g base bs A c a2 er2:=ohZ HC6.out hg7 w1.heap.size (by omega) (fun y hy=>by have:=HCB.out y hy;omega) hgr
     have HK7:Hid (Kept (fun x=>x<w1.heap.size/\x≠g) w1 w7):=HK6.out.grown hg7 (fun y hy=>by have:=hy.1;omega) (fun y hy hh=>by have:=hgr y hy;have:=hh.1;omega)
     have HO7:Hid (w7.ownsRow w1.heap.size 5 1 (.slice A7 (p+k) c7) (p+k) (cZ .u8 (acc++List.replicate k x))):=by
      show World.ownsRow _ _ _ _ _ _ _
      rw[show cZ .u8 (acc++List.replicate k x)=cZ .u8 acc++cZ .u8 (List.replicate k x) by simp[cZ]]
      exact hown7
     have HC7:=hid hc7
     have HM7:Hid (sgZ w7 g=er2):=by show _=_;unfold sgZ;rw[hc7.cells.2.2];rfl
     clear hown7 hg7 hat7 hgr hc7
     go_roundw
     case measure=>go_light;simp only[fkZ];rw[HM7.out,HME.out];exact HMS.out
     case rel=>go_light;exact⟨a2,er2,p+k,acc++List.replicate k x,by omega,by show _=_;rw[List.length_append,HP.out,List.length_replicate],HC7.out,HO7.out,HK7.out,HTE.out.1,HTE.out.2⟩
   ·have g2:(er==0)=false:=by simpa using he
    have HT2:=hid (HE.out he)
    have HNE:=hid he
    clear he HT HE
    go_wp2_with fail
    refine DE.out.mono ?_
    rintro e w2 ⟨rfl,rfl⟩
    go_wp2_with fail
    go_ret
    rw[HT2.out]
    refine⟨_,acc,rfl,by rw[HP.out];exact hp,by rw[HP.out];exact lZ HO.out z1,HC.out,HK1.out.trans (lhZ HK.out fun x hx=>⟨by have:=hx.1;omega,hx.2⟩),fun h=>absurd h HNE.out⟩
  ·obtain rfl:p=n:=by omega
   have HF:Hid (a1=T.2.1/\er=T.2.2/\(T.2.2=0->acc=T.1)):=by
    by_cases he:er=0
    ·subst he
     obtain⟨f,_,h⟩:=HT.out rfl
     rw[toZ (by rw[HP.out];exact Nat.le_refl _)]at h
     rw[<-h]
     exact⟨rfl,rfl,fun _=>rfl⟩
    ·have h:=HE.out he
     rw[h]
     exact⟨rfl,rfl,fun h0=>absurd h0 he⟩
   have g1:decide ((p:Int)<(p:Int))=false:=by simp
   clear HT HE
   go_wp2_with fail
   go_ret
   refine⟨_,acc,rfl,by rw[HP.out];exact hp,by rw[HP.out];exact lZ HO.out z1,by rw[<-HF.out.1,<-HF.out.2.1];exact HC.out,HK1.out.trans (lhZ HK.out fun x hx=>⟨by have:=hx.1;omega,hx.2⟩),HF.out.2.2⟩
end Go.Proofs.YtbgoibedicbkjaaGreatDoor.Recs
namespace Go.Proofs.YtbgoibedicbkjaaGreatDoor.Recs
open Go.RowKit Mem Own Canon NumPut Nums
def cgZ(n:Nat)(bs:List Nat)(T:List Nat×Nat×Int):List Nat×Nat×Int:=if T.2.2≠0 then([],T.2.1,T.2.2)else mcZ n n bs T.2.1 []
def viZ(T L:List Nat×Nat×Int):List Nat×List Nat×Nat×Int:=if L.2.2≠0 then([],[],0,L.2.2)else(T.1,L.1,L.2.1,0)
def jbZ(n:Nat)(bs:List Nat):List Nat×List Nat×Nat×Int:=viZ (scZ n bs 0 0 []) (cgZ n bs (scZ n bs 0 0 []))
theorem rwZ{n:Nat}{bs:List Nat}{T:List Nat×Nat×Int}(h:(cgZ n bs T).2.2=0):T.2.2=0:=by
 by_cases e:T.2.2=0
 ·exact e
 ·unfold cgZ at h
  rw[if_pos e]at h
  exact h
theorem jeZ{fn:Func}{t u v x:Tmp}(h:fn.results=#[.tmp t, .tmp u, .tmp v, .tmp x])(tmps:Array Value)(P:Program)(w:World):
 (results fn tmps).run P w= .ok (.tuple #[tmps.getD t undef,tmps.getD u undef,tmps.getD v undef,tmps.getD x undef]) w:=by
 simp[results,h]
def phZ(R:List Nat×List Nat×Nat×Int)(w:World)(e:Ending)(w':World):Prop:=
 ∃vt vl,e= .returned (.tuple #[vt,vl, .int .i64 (R.2.2.1:Nat), .int .i64 R.2.2.2])/\w'.ownsRow w.heap.size 57 1 vt R.1.length (cZ .u64 R.1)/\w'.ownsRow w.heap.size 5 1 vl R.2.1.length (cZ .u8 R.2.1)/\Below w.heap.size w w'
theorem swZ(w:World)(A:Option Addr)(n c:Nat)(bs:List Nat)(k:Nat)(hn:bs.length=n)(hle:n<=100000)(h8:∀x∈bs,x<=255)(hnil:A=none->n=0/\c=0)(ha:Row w w.heap.size A n 1 (mZ .u8 bs))(hk:k<=20000):
 Calls Tryz.prog 112 #[.int .i64 (k:Nat), .slice A n c] w (phZ (jbZ k bs) w):=by
 have D0:=hid (new_any w A n c bs hn hle hnil ha)
 have hle':bs.length<=100000:=by omega
 have D1:=hid (fun wx g base B d h=>veZb wx g base bs B d 0 k hle' h8 hk h)
 have D2:=hid (fun wx g base B d at_ er h=>kbZb wx g base bs B d at_ k er hle' h8 hk h)
 have gneg:decide ((k:Int)<0)=false:=by simp
 have gbig:decide ((20000:Int)<(k:Int))=false:=by simp;omega
 have gbig':decide (20000<k)=false:=by simp;omega
 unfold jbZ
 obtain⟨T,hT⟩:∃T,T=scZ k bs 0 0 []:=⟨_,rfl⟩
 rw[<-hT]at D1 ⊢
 have HOK:=hid (fun h=>rwZ (n:=k) (bs:=bs) (T:=T) h)
 have HL:Hid (∀at_ er,at_=T.2.1->er=T.2.2->(if er≠0 then([],at_,er)else mcZ k k bs at_ [])=cgZ k bs T):=fun at_ er h1 h2=>by subst h1 h2;rfl
 unfold phZ
 clear hn hnil ha h8 hle hT
 generalize cgZ k bs T=L at *
 obtain⟨tl,ta,te⟩:=T
 obtain⟨ll,la,le⟩:=L
 simp only at *
 go_enter Tryz.func112,Tryz.ntmps112
 go_wp2_with fail
 refine D0.out.mono ?_
 rintro e w1 ⟨g,B,d,rfl,hc1,hb1⟩
 have z1:=hb1.size
 have hgl:=hc1.blk.lt
 have hglo:=hc1.lo
 have HC1:=hid hc1
 have HB1:=hid hb1
 clear hc1 hb1 D0
 go_wp2_with fail
 have hC2:=HC1.out.step (w':=w1.alloc (.cells #[.pointer (some ⟨g,0,none⟩)] 217)) (by(repeat(first|(with_reducible first|exact Below.refl _ _|assumption|refine Below.drew ?_|refine below_drewN ?_ _|refine aZ ?_|refine dZ (by assumption) ?_)|((with_reducible first|refine fZ ?_ ?_|refine gZ ?_ ?_|refine iZ (by assumption) ?_ ?_);(focus(first|(simp;done)|(simp;omega)|omega|(simp at *;omega)))))))
 have hx2:Blk (w1.alloc (.cells #[.pointer (some ⟨g,0,none⟩)] 217)) w1.heap.size 217 #[.pointer (some ⟨g,0,none⟩)]:=Blk.made _ _ _
 have hb2:Below w.heap.size w (w1.alloc (.cells #[.pointer (some ⟨g,0,none⟩)] 217)):=gZ z1 HB1.out
 generalize w1.alloc (.cells #[.pointer (some ⟨g,0,none⟩)] 217)=w2 at *
 have z2:=hb2.size
 have hxg:w1.heap.size≠g:=by omega
 have hg2:=hC2.blk.lt
 have HX2:=hid hx2
 have HB2:=hid hb2
 have DT:=hid (D1.out w2 g w.heap.size B d hC2)
 clear hC2 hx2 hb2 HC1 HB1 D1
 refine DT.out.mono ?_
 rintro e w3 ⟨vt,acct,rfl,hlt,hot,hc3,hk3,hte⟩
 obtain⟨At,ct,rfl⟩:=bZ hot
 have HX3:=hid (wnZ HX2.out hxg hk3)
 have x3:=HX3.out.cell 0
 simp only[List.getElem?_toArray,List.getElem?_cons_zero]at x3
 have HOT3:=hid hot
 have z3:=hk3.size
 have HB3:Hid (Below w.heap.size w w3):=HB2.out.trans (hk3.below fun b h=>⟨by omega,by omega⟩)
 have HTE:=hid hte
 have DL:=hid (D2.out w3 g w.heap.size B d ta te hc3)
 rw[HL.out ta te rfl rfl]at DL
 clear hot hc3 hk3 hte DT HX2 HB2 D2 HL
 go_wp2_with fail
 refine DL.out.mono ?_
 rintro e w4 ⟨vl,accl,rfl,hll,hol,hc4,hk4,hle4⟩
 obtain⟨Al,cl,rfl⟩:=bZ hol
 have HX4:=hid (wnZ HX3.out hxg hk4)
 have x4:=HX4.out.cell 0
 simp only[List.getElem?_toArray,List.getElem?_cons_zero]at x4
 have z4:=hk4.size
 have HOT4:Hid (w4.ownsRow w.heap.size 57 1 (.slice At acct.length ct) acct.length (cZ .u64 acct)):=lZ (rgZ HOT3.out hg2 hk4) z2
 have HOL4:=hid (lZ hol (by omega:w.heap.size<=w3.heap.size))
 have HB4:Hid (Below w.heap.size w w4):=HB3.out.trans (hk4.below fun b h=>⟨by omega,by omega⟩)
 have HLE:=hid hle4
 have DE:=hid (lcZ w4 g w.heap.size bs B d la le hc4)
 have DA:=hid (xiZ w4 g w.heap.size bs B d la le hc4)
 clear hol hc4 hk4 hle4 DL HX3 HOT3 HB3 x3
 go_wp2_with fail
 refine DE.out.mono ?_
 rintro e w5 ⟨rfl,rfl⟩
 by_cases he:le=0
 ·subst he
  have et:=HTE.out (HOK.out rfl)
  have el:=HLE.out rfl
  have hR:viZ (tl,ta,te) (ll,la,0)=(acct,accl,la,0):=by rw[et,el];exact if_neg (by simp)
  have HR:=hid hR
  clear et el hR HTE HLE HOK
  go_wp2_with fail
  refine DA.out.mono ?_
  rintro e w6 ⟨rfl,rfl⟩
  go_wp2_with fail
  rw[HR.out]
  refine bodyPost_ret (jeZ rfl _ _ _) rfl ?_
  exact⟨_,_,rfl,HOT4.out,HOL4.out,HB4.out⟩
 ·have g1:(le != 0)=true:=by simpa using he
  have HR:Hid (viZ (tl,ta,te) (ll,la,le)=([],[],0,le)):=if_pos he
  clear he HTE HLE HOK
  go_wp2_with fail
  rw[HR.out]
  refine bodyPost_ret (jeZ rfl _ _ _) rfl ?_
  exact⟨_,_,rfl,World.ownsRow_nil _ _ _ _,World.ownsRow_nil _ _ _ _,HB4.out⟩
end Go.Proofs.YtbgoibedicbkjaaGreatDoor.Recs
namespace Go.Proofs.YtbgoibedicbkjaaGreatDoor.Body
open Go.RowKit Mem Own Canon Nums Crc Recs
def tkZ(k:Nat)(ls:List Nat):Int:=if icZ ls≠0 then icZ ls else if(jbZ k (xZ ls)).2.2.2≠0 then(jbZ k (xZ ls)).2.2.2 else if(jbZ k (xZ ls)).2.2.1<(xZ ls).length then 2 else 0
theorem tgZ{ls:List Nat}(h8:∀x∈ls,x<=255):∀x∈xZ ls,x<=255:=fun x hx=>by
 unfold xZ at hx
 split at hx
 ·exact h8 x (List.mem_of_mem_take hx)
 ·simp at hx
theorem qjZ(ls:List Nat):(xZ ls).length<=ls.length:=by
 unfold xZ
 split
 ·rw[List.length_take];omega
 ·simp
def zpZ(w:World)(gb:Nat)(t:TypeId)(cs:Array Value)(k:Nat)(ls:List Nat)(e:Ending)(w':World):Prop:=
 e= .returned (.int .i64 (tkZ k ls))/\Kept (fun x=>x<w.heap.size/\x≠gb) w w'/\(tkZ k ls=0->∃vt vl,Blk w' gb t ((cs.setIfInBounds 4 vt).setIfInBounds 5 vl)/\w'.ownsRow w.heap.size 57 1 vt (jbZ k (xZ ls)).1.length (cZ .u64 (jbZ k (xZ ls)).1)/\w'.ownsRow w.heap.size 5 1 vl (jbZ k (xZ ls)).2.1.length (cZ .u8 (jbZ k (xZ ls)).2.1))
theorem gyZ(w:World)(gb:Nat)(t:TypeId)(cs:Array Value)(A:Option Addr)(n c k:Nat)(ls:List Nat)(hB:Blk w gb t cs)(hcs:6<=cs.size)(ht1:57≠t)(ht2:5≠t)(hn:ls.length=n)(hle:n<=100000)(hc:n<=c)(h8:∀x∈ls,x<=255)(ht:TabAt w)(ha:Row w w.heap.size A n 1 (mZ .u8 ls))(hk:k<=20000):
 Calls Tryz.prog 63 #[.pointer (some ⟨gb,4,none⟩), .int .i64 (k:Nat), .slice A n c] w (zpZ w gb t cs k ls):=by
 have D0:=dlZ w A n c ls hn hle hc h8 ht ha
 unfold deZ at D0
 have hgb:=hB.lt
 have h8o:=tgZ h8
 have hlo:=qjZ ls
 unfold zpZ
 obtain⟨R,hR⟩:∃R,R=tkZ k ls:=⟨_,rfl⟩
 rw[<-hR]
 unfold tkZ at hR
 generalize icZ ls=ce at *
 generalize xZ ls=co at *
 have hlc:co.length<=100000:=by omega
 have DR:=hid (fun wx (Ax:Option Addr) (cx:Nat) (hnx:Ax=none->co.length=0/\cx=0) (hax:Row wx wx.heap.size Ax co.length 1 (mZ .u8 co))=>swZ wx Ax co.length cx co k rfl (by omega) h8o hnx hax hk)
 generalize jbZ k co=C at *
 obtain⟨ct,cl,ck,cer⟩:=C
 unfold phZ at DR
 simp only at hR DR
 have D0:=hid D0
 have HR:=hid hR
 have HBK:=hid hB
 clear hn hc h8 ht ha hR h8o hB
 go_enter Tryz.func63,Tryz.ntmps63
 go_wp2_with fail
 refine D0.out.mono ?_
 rintro e w1 ⟨v,rfl,hown,hb1⟩
 obtain⟨Ac,cc,rfl⟩:=bZ hown
 have HB1:=hid hb1
 have HK1:Hid (Kept (fun x=>x<w.heap.size/\x≠gb) w w1):=Kept.of_below hb1 (fun x hx=>hx.1)
 by_cases hce:ce=0
 ·subst hce
  have hr:=HR.out
  rw[if_neg (show ¬((0:Int)≠0) from fun h=>h rfl)]at hr
  have HR2:=hid hr
  have D1:=hid (DR.out w1 Ac cc (fhZ hown) (own_row hown))
  obtain⟨m,hm⟩:∃m,m=co.length:=⟨_,rfl⟩
  rw[<-hm]at D1 hr hlc
  have HM:=hid hm
  clear hown hb1 hr DR D0 HR
  rw[<-hm]
  clear hm
  go_wp2_with fail
  refine D1.out.mono ?_
  rintro e w2 ⟨vt,vl,rfl,hot,hol,hb2⟩
  obtain⟨At,nt,rfl⟩:=bZ hot
  obtain⟨Al,nl,rfl⟩:=bZ hol
  have HB2:Hid (Below w.heap.size w w2):=HB1.out.trans (hb2.mono HB1.out.size)
  have HX2:=hid (HBK.out.step (HB2.out))
  have HOT:=hid (lZ hot HB1.out.size)
  have HOL:=hid (lZ hol HB1.out.size)
  have HK2:Hid (Kept (fun x=>x<w.heap.size/\x≠gb) w w2):=Kept.of_below HB2.out (fun x hx=>hx.1)
  clear hot hol hb2 D1 HB1 HK1
  by_cases hcer:cer=0
  ·subst hcer
   have hr:=HR2.out
   rw[if_neg (show ¬((0:Int)≠0) from fun h=>h rfl),<-HM.out]at hr
   by_cases hlt:ck<m
   ·have g1:decide ((ck:Int)<(m:Int))=true:=by simp;omega
    have g1':decide (ck<m)=true:=by simp;omega
    have HF:Hid (R=2):=by rw[if_pos hlt]at hr;exact hr
    clear hr HR2 hlt
    go_wp2_with fail
    go_ret
    rw[HF.out]
    exact⟨rfl,HK2.out,fun h=>absurd h (by decide)⟩
   ·have g1:decide ((ck:Int)<(m:Int))=false:=by simp;omega
    have g1':decide (ck<m)=false:=by simp;omega
    have HF:Hid (R=0):=by rw[if_neg hlt]at hr;exact hr
    have q4:=HX2.out.cell 4
    have q5:=HX2.out.cell 5
    rw[Array.getElem?_eq_getElem (by omega)]at q4 q5
    generalize cs[4]=o4 at q4
    generalize cs[5]=o5 at q5
    have f4:=HX2.out.frozen 4
    have f5:=HX2.out.frozen 5
    have HX3:=hid (HX2.out.set 4 (.slice At ct.length nt))
    have HOT3:=hid (vZ (p:=⟨gb,4,none⟩) HOT.out (jZ HOT.out HX2.out ht1) (.slice At ct.length nt))
    have HOL3:=hid (vZ (p:=⟨gb,4,none⟩) HOL.out (jZ HOL.out HX2.out ht2) (.slice At ct.length nt))
    have HX4:=hid (HX3.out.set 5 (.slice Al cl.length nl))
    have HOT4:=hid (vZ (p:=⟨gb,5,none⟩) HOT3.out (jZ HOT3.out HX3.out ht1) (.slice Al cl.length nl))
    have HOL4:=hid (vZ (p:=⟨gb,5,none⟩) HOL3.out (jZ HOL3.out HX3.out ht2) (.slice Al cl.length nl))
    clear hr HR2 hlt
    go_wp2_with fail
    go_ret
    rw[HF.out]
    exact⟨rfl,(HK2.out.set (fun h=>h.2 rfl) _).set (fun h=>h.2 rfl) _,fun _=>⟨_,_,HX4.out,HOT4.out,HOL4.out⟩⟩
  ·have gE:(cer != 0)=true:=by simpa using hcer
   have HF:Hid (R=cer):=by have h:=HR2.out;rw[if_pos hcer]at h;exact h
   have HNE:=hid hcer
   clear hcer HR2
   go_wp2_with fail
   go_ret
   rw[HF.out]
   exact⟨rfl,HK2.out,fun h=>absurd h HNE.out⟩
 ·have gE:(ce != 0)=true:=by simpa using hce
  have HF:Hid (R=ce):=by have h:=HR.out;rw[if_pos hce]at h;exact h
  have HNE:=hid hce
  clear hce HR hown hb1 DR D0
  go_wp2_with fail
  go_ret
  rw[HF.out]
  exact⟨rfl,HK1.out,fun h=>absurd h HNE.out⟩
end Go.Proofs.YtbgoibedicbkjaaGreatDoor.Body
namespace Go.Proofs.YtbgoibedicbkjaaGreatDoor.Recs
open Go.RowKit Mem Own Canon NumPut Nums
theorem eiZ{w w':World}{row:Option Nat}{g base c at_:Nat}{bs:List Nat}{A:Option Addr}{er:Int}(h:RCur w g base bs A c at_ er)(hg:w.grownBy w' row)(B:Nat)(hgB:g<B)(hob:∀x,(Value.slice A bs.length c).ownBlock=some x->x<B)(hr:∀x,row=some x->B<=x):RCur w' g base bs A c at_ er:=
 ⟨h.blk.grown hg (fun e=>by have:=hr g e.symm;omega),eZ h.own (fun x hx=>hg.block x (World.ownsRow.lt h.own x hx).2 (fun e=>by have:=hob x hx;have:=hr x e.symm;omega)),h.le,h.lo⟩
theorem own_far{w w':World}{base base':Nat}{e e':TypeId}{s s' n n':Nat}{v v':Value}{xs xs':List Value}(h:w.ownsRow base e s v n xs)(h2:w.ownsRow base' e' s' v' n' xs')(hne:e'≠e)(hg:w.grownBy w' v'.ownBlock):w'.ownsRow base e s v n xs:=
 eZ h fun y hy=>hg.block y (World.ownsRow.lt h y hy).2 fun e2=>by
  rcases ddZ h2 h hne with e3|e3
  ·rw[e3]at e2;cases e2
  ·exact e3 (by rw[<-e2,hy])
theorem ytZ(w:World)(A:Option Addr)(n c:Nat)(bs:List Nat)(k:Nat)(hn:bs.length=n)(hle:n<=100000)(h8:∀x∈bs,x<=255)(hnil:A=none->n=0/\c=0)(ha:Row w w.heap.size A n 1 (mZ .u8 bs))(hk:k<=20000):
 Calls Tryz.prog 71 #[.int .i64 (k:Nat), .slice A n c] w (phZ (jbZ k bs) w):=by
 obtain⟨j0,hj0,hy0,hy1,hy2⟩:=info_parts otZ
 obtain⟨i0,hi0,hx0,hx1,hx2⟩:=info_parts qwZ
 have D0:=hid (rnew_any w A n c bs hn hle hnil ha)
 have HLE:Hid (bs.length<=100000):=by show _<=_;omega
 have H8:=hid h8
 have gneg:decide ((k:Int)<0)=false:=by simp
 have gbig:decide ((20000:Int)<(k:Int))=false:=by simp;omega
 have gbig':decide (20000<k)=false:=by simp;omega
 obtain⟨T,hT⟩:∃T,T=scZ k bs 0 0 []:=⟨_,rfl⟩
 unfold jbZ
 rw[<-hT]
 have HT0:Hid (scZ (k-0) bs 0 0 []=T):=hT.symm
 unfold phZ
 clear hn hnil ha h8 hle hT
 go_enter Tryz.func71,Tryz.ntmps71
 go_wp2_with fail
 refine D0.out.mono ?_
 rintro e w2 ⟨g,B,d,rfl,hc2,hb2⟩
 have z2:=hb2.size
 have hgl:=hc2.blk.lt
 have hglo:=hc2.lo
 have HCB:Hid (∀y,(Value.slice B bs.length d).ownBlock=some y->y<w2.heap.size):=fun y hy=>(World.ownsRow.lt hc2.own y hy).2
 have HC2:=hid hc2
 have HB2:=hid hb2
 clear hc2 hb2 D0
 go_wp2_with fail
 go_loopw [9,10,11] (fun v uv iv wr=>∃ (a1 was p:Nat) (acc:List Nat),p<=k/\was<18446744073709551616/\uv= .int .u64 was/\iv= .int .i64 p/\Hid (acc.length=p)/\Hid (RCur wr g w.heap.size bs B d a1 0)/\Hid (wr.ownsRow w2.heap.size 57 1 v p (cZ .u64 acc))/\Hid (Kept (fun x=>x<w2.heap.size/\x≠g) w2 wr)/\Hid (scZ (k-p) bs a1 was acc=T)) (fun _ _ iv _=>k-(intOf iv).toNat)
 case atStart=>exact⟨0,0,0,[],by omega,by omega,rfl,rfl,rfl,HC2.out,World.ownsRow_nil _ _ _ _,Kept.refl _ _,HT0.out⟩
 case round=>
  obtain⟨a1,was,p,acc,hp,hwas,rfl,rfl,HP,HC,HO,HK,HT⟩:=hrel
  have zk:=HK.out.size
  obtain⟨va,vc,rfl⟩:=bZ HO.out
  clear HT0
  by_cases hlt:p<k
  ·have g1:decide ((p:Int)<(k:Int))=true:=by simp;omega
   have g1':decide (p<k)=true:=by simp;omega
   have hT2:=HT.out
   rw[show k-p=(k-(p+1))+1 by omega,scZ]at hT2
   have hv64:heZ bs a1 0<18446744073709551616:=by
    have h8':∀x∈bs.drop a1,x<=255:=fun x hx=>H8.out x (List.mem_of_mem_drop hx)
    have:=(ydZ (bs.drop a1) 0 0 h8' (by omega) (by simp)).1
    unfold heZ
    rw[if_neg (by simp)]
    exact this
   have D1:=hid (fun wx hx=>usZ wx g w.heap.size bs B d a1 0 HLE.out H8.out hx)
   generalize heZ bs a1 0=v1 at *
   generalize vfZ bs a1 0=a2 at *
   generalize wfZ bs a1 0=e2 at *
   have hz64:=ozZ hv64
   have D2:=hid (fun wx=>hiZb wx v1 hv64)
   generalize bjZ v1=y1 at *
   have s1:IntKind.u64.wrap ((was:Int)+(y1:Int))=(((was+y1) % 18446744073709551616:Nat):Int):=by rw[IntKind.wrap_u64];omega
   have hw2:(was+y1) % 18446744073709551616<18446744073709551616:=Nat.mod_lt _ (by omega)
   generalize (was+y1) % 18446744073709551616=was2 at *
   have HT2:=hid hT2
   clear hT2 HT
   go_wp2_with fail
   refine(D1.out _ HC.out).mono ?_
   rintro e w3 ⟨rfl,hc3,hk3⟩
   have z3:=hk3.size
   have pe:=hc3.cells.2.2
   have HC3:=hid hc3
   have HO3:Hid (w3.ownsRow w2.heap.size 57 1 (.slice va p vc) p (cZ .u64 acc)):=rgZ HO.out (by omega) hk3
   have HK3:Hid (Kept (fun x=>x<w2.heap.size/\x≠g) w2 w3):=qiZ HK.out zk hk3
   clear hc3 hk3 HC HO HK D1
   go_wp2_with fail
   refine(D2.out _).mono ?_
   rintro e w4 ⟨rfl,rfl⟩
   by_cases he:e2=0
   ·subst he
    have HT3:Hid (scZ (k-(p+1)) bs a2 was2 (acc++ [was2])=T):=by have h:=HT2.out;rw[if_neg (by simp)]at h;exact h
    clear HT2
    go_wp2_with(at_builtin;refine kZ rfl (.tmp 43) (.tmp 45) 32 rfl w2.heap.size 57 j0 _ 1 8 Tryz.underlying32 hj0 hy0 hy1 hy2 rfl (by decide) _ _ _ (by rfl) (HO3.out.alloc _) _ 1 1 [.int .u64 (was2:Nat)] (by rfl) (Src.of_blk (Blk.made_at _ _ _ (by simp)) 1 1 1 rfl) (by intro u hu;simp at hu;rcases hu with rfl;rfl) (by unfold maxLen;omega) (by omega) (by simp;omega) ?_;intro v5 w5 hown5 hg5 hat5;obtain⟨A5,c5,rfl⟩:=bZ hown5)
    have hb3:=aZ (o:= .cells #[.int .u64 (was2:Nat)] 57) (Below.refl w4.heap.size w4)
    have hc4:=HC3.out.step hb3
    have hk4:Kept (fun x=>x<w2.heap.size/\x≠g) w2 (w4.alloc (.cells #[.int .u64 (was2:Nat)] 57)):=HK3.out.trans (Kept.of_below hb3 (fun x hx=>by have:=hx.1;omega))
    have zz4:=hk4.size
    have hgr:=fun(y:Nat) hy=>(World.ownsRow.lt HO3.out y hy).1
    have hc5:RCur w5 g w.heap.size bs B d a2 0:=eiZ hc4 hg5 w2.heap.size (by omega) (fun y hy=>by have:=HCB.out y hy;omega) hgr
    have HK5:Hid (Kept (fun x=>x<w2.heap.size/\x≠g) w2 w5):=hk4.grown hg5 (fun y hy=>by have:=hy.1;omega) (fun y hy hh=>by have:=hgr y hy;have:=hh.1;omega)
    have HC5:=hid hc5
    have HO5:Hid (w5.ownsRow w2.heap.size 57 1 (.slice A5 (p+1) c5) (p+1) (cZ .u64 (acc++ [was2]))):=by
     show World.ownsRow _ _ _ _ _ _ _
     rw[show cZ .u64 (acc++ [was2])=cZ .u64 acc++ [.int .u64 (was2:Nat)] by simp[cZ]]
     exact hown5
    clear hown5 hg5 hat5 hb3 hc4 hk4 hc5 hgr pe
    go_roundw
    case measure=>go_light;simp[intOf];omega
    case rel=>go_light;exact⟨a2,was2,p+1,acc++ [was2],by omega,hw2,by first|rfl|go_num,by first|rfl|go_num,by show _=_;rw[List.length_append,HP.out];rfl,HC5.out,HO5.out,HK5.out,HT3.out⟩
   ·have g2:(e2 != 0)=true:=by simpa using he
    have HR:Hid (viZ T (cgZ k bs T)=([],[],0,e2)):=by
     have h:=HT2.out
     rw[if_pos he]at h
     show _=_
     rw[<-h]
     unfold cgZ
     rw[if_pos he]
     exact if_pos he
    clear he HT2
    go_wp2_with fail
    go_quiet (fail)
    go_wp2_with fail
    rw[HR.out]
    refine bodyPost_ret (jeZ rfl _ _ _) rfl ?_
    exact⟨_,_,rfl,World.ownsRow_nil _ _ _ _,World.ownsRow_nil _ _ _ _,below_drewN (HB2.out.trans (HK3.out.below (fun b h=>⟨by omega,by omega⟩))) _⟩
  ·obtain rfl:p=k:=by omega
   have hTT:=HT.out
   rw[Nat.sub_self,scZ]at hTT
   have g1:decide ((p:Int)<(p:Int))=false:=by simp
   obtain⟨L,hL⟩:∃L,L=mcZ p p bs a1 []:=⟨_,rfl⟩
   have HR:Hid (viZ T (cgZ p bs T)=viZ (acc,a1,0) L):=by show _=_;rw[<-hTT,hL];rfl
   have HL0:Hid (∃f,p<=f+0/\mcZ f p bs a1 []=L):=⟨p,Nat.le_refl _,hL.symm⟩
   obtain⟨w5,rfl⟩:∃w5:World,w5=wr:=⟨_,rfl⟩
   clear HT hTT hL g1
   have g1:decide ((p:Int)<(p:Int))=false:=by simp
   go_wp2_with fail
   go_loopw [12] (fun v wr=>∃ (a2 q:Nat) (ls:List Nat),q<=p/\Hid (ls.length=q)/\Hid (RCur wr g w.heap.size bs B d a2 0)/\Hid (wr.ownsRow w2.heap.size 57 1 (.slice va p vc) p (cZ .u64 acc))/\Hid (wr.ownsRow w2.heap.size 5 1 v q (cZ .u8 ls))/\Hid (Kept (fun x=>x<w2.heap.size/\x≠g) w2 wr)/\Hid (∃f,p<=f+q/\mcZ f p bs a2 ls=L)) (fun v _=>p-fkZ v)
   case atStart=>exact⟨a1,0,[],by omega,rfl,HC.out,HO.out,World.ownsRow_nil _ _ _ _,HK.out,HL0.out⟩
   case round=>
    obtain⟨a2,q,ls,hq,HQ,HCr,HOr,HS,HKr,HF⟩:=hrel
    obtain⟨vb,cb,rfl⟩:=bZ HS.out
    have zr:=HKr.out.size
    clear HC HO HK HL0
    by_cases hlt2:q<p
    ·have g2:decide ((q:Int)<(p:Int))=true:=by simp;omega
     have g2':decide (q<p)=true:=by simp;omega
     obtain⟨f,hf,hT2⟩:=HF.out
     obtain⟨f,rfl⟩:∃f',f=f'+1:=⟨f-1,by omega⟩
     rw[mcZ,if_neg (by rw[HQ.out];omega),HQ.out]at hT2
     obtain⟨m,hm⟩:∃m,m=p-q:=⟨_,rfl⟩
     have sm:IntKind.i64.wrap ((p:Int)-(q:Int))=(m:Int):=by rw[IntWalk.i64_in _ (by omega)];omega
     rw[<-hm]at hT2
     have hmn:q+m<=p/\m<=20000:=by omega
     have D1:=hid (fun wx hx=>tsZ wx g w.heap.size bs B d a2 0 HLE.out hx)
     have hkm:tZ m bs (takeA bs a2 0 1) (gbZ bs a2 0 1)<=m:=qbZ H8.out _ _
     unfold fuZ kjZ at hT2
     simp only at hT2
     have D2:=hid (fun wx hx=>qfZ wx g w.heap.size bs B d (takeA bs a2 0 1) (gbZ bs a2 0 1) m HLE.out H8.out (by omega) hx)
     generalize yeZ bs a2 0=x at *
     generalize takeA bs a2 0 1=b1 at *
     generalize gbZ bs a2 0 1=d1 at *
     generalize tZ m bs b1 d1=kk at *
     generalize pZ m bs b1 d1=a3 at *
     generalize qZ m bs b1 d1=e2 at *
     have HT2:=hid hT2
     have HFF:=hid hf
     clear hT2 HF hf hm
     go_wp2_with fail
     refine(D1.out _ HCr.out).mono ?_
     rintro e w3 ⟨rfl,hc3,hk3⟩
     have z3:=hk3.size
     have HC3:=hid hc3
     have HO3:Hid (w3.ownsRow w2.heap.size 57 1 (.slice va p vc) p (cZ .u64 acc)):=rgZ HOr.out (by omega) hk3
     have HS3:Hid (w3.ownsRow w2.heap.size 5 1 (.slice vb q cb) q (cZ .u8 ls)):=rgZ HS.out (by omega) hk3
     have HK3:Hid (Kept (fun x=>x<w2.heap.size/\x≠g) w2 w3):=qiZ HKr.out zr hk3
     clear hc3 hk3 HCr HOr HS HKr D1
     go_wp2_with fail
     refine(D2.out _ HC3.out).mono ?_
     rintro e w4 ⟨rfl,hc4,hk4⟩
     have z4:=hk4.size
     have pe:=hc4.cells.2.2
     have HC4:=hid hc4
     have HO4:Hid (w4.ownsRow w2.heap.size 57 1 (.slice va p vc) p (cZ .u64 acc)):=rgZ HO3.out (by omega) hk4
     have HS4:Hid (w4.ownsRow w2.heap.size 5 1 (.slice vb q cb) q (cZ .u8 ls)):=rgZ HS3.out (by omega) hk4
     have HK4:Hid (Kept (fun x=>x<w2.heap.size/\x≠g) w2 w4):=qiZ HK3.out (by omega) hk4
     clear hc4 hk4 HC3 HO3 HS3 HK3 D2
     by_cases he2:e2=0
     ·subst he2
      have hft:=HT2.out
      rw[if_neg (show ¬((0:Int)≠0) from fun h=>h rfl)]at hft
      by_cases hbad:kk=0∨ls.getLast?=some x
      ·have HR2:Hid (viZ T (cgZ p bs T)=([],[],0,2)):=by
        rw[if_pos hbad,if_pos (by decide)]at hft
        show _=_
        rw[HR.out,<-hft]
        rfl
       clear hft HT2
       by_cases hk0:kk=0
       ·have gk:((kk:Int)==0)=true:=by rw[hk0];rfl
        clear hk0 hbad
        go_wp2_with fail
        rw[HR2.out]
        refine bodyPost_ret (jeZ rfl _ _ _) rfl ?_
        exact⟨_,_,rfl,World.ownsRow_nil _ _ _ _,World.ownsRow_nil _ _ _ _,HB2.out.trans (HK4.out.below (fun b h=>⟨by omega,by omega⟩))⟩
       ·have gk:((kk:Int)==0)=false:=by rw[beq_eq_false_iff_ne];omega
        have hgl2:=hbad.resolve_left hk0
        have hq0:0<q:=by
         have h1:=HQ.out
         cases ls with
         |nil=>cases hgl2
         |cons=>rw[<-h1];simp
        obtain⟨gq,cq,hAq,hgq,_⟩:=HS4.out.form (by omega)
        injection hAq with e1 e2 e3
        subst e1 e3
        have cy:w4.cell? ⟨gq,q-1,none⟩=some (.int .u8 (x:Nat)):=by
         rw[HS4.out.cellAt (q-1) (by omega)]
         unfold cZ
         rw[List.getLast?_eq_getElem?,HQ.out]at hgl2
         rw[List.getElem?_map,hgl2]
         rfl
        obtain⟨q1,hq1⟩:∃q1,q1=q-1:=⟨_,rfl⟩
        rw[<-hq1]at cy
        have sp:IntKind.i64.wrap ((q:Int)-1)=(q1:Int):=by rw[IntWalk.i64_in _ (by omega)];omega
        have gp:decide ((0:Int)<(q:Int))=true:=by simp;omega
        have gp':decide (0<q)=true:=by simp;omega
        have x10:(0:Int)<=(q1:Int):=by omega
        have x11:(q1:Int)<(q:Int):=by omega
        have gx:((x:Int)==(x:Int))=true:=by simp
        clear hgl2 hq1 hk0 hbad
        go_wp2_with fail
        rw[HR2.out]
        refine bodyPost_ret (jeZ rfl _ _ _) rfl ?_
        exact⟨_,_,rfl,World.ownsRow_nil _ _ _ _,World.ownsRow_nil _ _ _ _,HB2.out.trans (HK4.out.below (fun b h=>⟨by omega,by omega⟩))⟩
      ·have hk0:¬kk=0:=fun h=>hbad (.inl h)
       have gk:((kk:Int)==0)=false:=by rw[beq_eq_false_iff_ne];omega
       have hkpos:0<kk:=by omega
       have HF4:Hid (∃f',p<=f'+(q+kk)/\mcZ f' p bs a3 (ls++List.replicate kk x)=L):=⟨f,by have:=HFF.out;omega,by rw[if_neg hbad,if_neg (show ¬((0:Int)≠0) from fun h=>h rfl)]at hft;exact hft⟩
       clear hft HT2
       by_cases hq0:q=0
       ·have gp:decide ((0:Int)<(q:Int))=false:=by simp;omega
        have gp':decide (0<q)=false:=by simp;omega
        clear hbad hk0 hq0
        obtain⟨w6,rfl⟩:∃w6:World,w6=w4:=⟨_,rfl⟩
        go_wp2_with fail
        go_loopw [12,15] (fun v iv wr=>∃j:Nat,j<=kk/\iv= .int .i64 j/\Hid (RCur wr g w.heap.size bs B d a3 0)/\Hid (wr.ownsRow w2.heap.size 57 1 (.slice va p vc) p (cZ .u64 acc))/\Hid (wr.ownsRow w2.heap.size 5 1 v (q+j) (cZ .u8 (ls++List.replicate j x)))/\Hid (Kept (fun x=>x<w2.heap.size/\x≠g) w2 wr)) (fun _ iv _=>kk-(intOf iv).toNat)
        case atStart=>exact⟨0,by omega,rfl,HC4.out,HO4.out,by rw[List.replicate_zero,List.append_nil];exact HS4.out,HK4.out⟩
        case round=>
         obtain⟨j,hj,rfl,HC7,HO7,HS7,HK7⟩:=hrel
         obtain⟨vb7,cb7,rfl⟩:=bZ HS7.out
         have z7:=HK7.out.size
         clear HC4 HO4 HS4 HK4
         by_cases hjk:j<kk
         ·have gj:decide ((j:Int)<(kk:Int))=true:=by simp;omega
          have gj':decide (j<kk)=true:=by simp;omega
          go_wp2_with(at_builtin;refine kZ rfl (.tmp 90) (.tmp 92) 22 rfl w2.heap.size 5 i0 _ 1 1 Tryz.underlying22 hi0 hx0 hx1 hx2 rfl (by decide) _ _ _ (by rfl) (HS7.out.alloc _) _ 1 1 [.int .u8 (x:Nat)] (by rfl) (Src.of_blk (Blk.made_at _ _ _ (by simp)) 1 1 1 rfl) (by intro u hu;simp at hu;rcases hu with rfl;rfl) (by unfold maxLen;omega) (by omega) (by simp;omega) ?_;intro v8 w8 hown8 hg8 hat8;obtain⟨A8,c8,rfl⟩:=bZ hown8)
          have hb3:=aZ (o:= .cells #[.int .u8 (x:Nat)] 5) (Below.refl wr.heap.size wr)
          have hc4:=HC7.out.step hb3
          have hk4:Kept (fun x=>x<w2.heap.size/\x≠g) w2 (wr.alloc (.cells #[.int .u8 (x:Nat)] 5)):=HK7.out.trans (Kept.of_below hb3 (fun x hx=>by have:=hx.1;omega))
          have zz4:=hk4.size
          have hgr:=fun(y:Nat) hy=>(World.ownsRow.lt HS7.out y hy).1
          have hc5:RCur w8 g w.heap.size bs B d a3 0:=eiZ hc4 hg8 w2.heap.size (by omega) (fun y hy=>by have:=HCB.out y hy;omega) hgr
          have HK8:Hid (Kept (fun x=>x<w2.heap.size/\x≠g) w2 w8):=hk4.grown hg8 (fun y hy=>by have:=hy.1;omega) (fun y hy hh=>by have:=hgr y hy;have:=hh.1;omega)
          have HC8:=hid hc5
          have HO8:Hid (w8.ownsRow w2.heap.size 57 1 (.slice va p vc) p (cZ .u64 acc)):=own_far (HO7.out.alloc _) (HS7.out.alloc _) (by decide) hg8
          have HS8:Hid (w8.ownsRow w2.heap.size 5 1 (.slice A8 (q+j+1) c8) (q+(j+1)) (cZ .u8 (ls++List.replicate (j+1) x))):=by
           show World.ownsRow _ _ _ _ _ _ _
           rw[show cZ .u8 (ls++List.replicate (j+1) x)=cZ .u8 (ls++List.replicate j x)++ [.int .u8 (x:Nat)] by simp[cZ,List.replicate_succ']]
           exact hown8
          clear hown8 hg8 hat8 hb3 hc4 hk4 hc5 hgr
          go_roundw
          case measure=>go_light;simp[intOf];omega
          case rel=>go_light;exact⟨j+1,by omega,by first|rfl|go_num,HC8.out,HO8.out,HS8.out,HK8.out⟩
         ·obtain rfl:j=kk:=by omega
          have gj:decide ((j:Int)<(j:Int))=false:=by simp
          go_wp2_with fail
          go_roundw
          case measure=>go_light;simp[fkZ];omega
          case rel=>go_light;exact⟨a3,q+j,ls++List.replicate j x,by omega,by show _=_;rw[List.length_append,HQ.out,List.length_replicate],HC7.out,HO7.out,HS7.out,HK7.out,HF4.out⟩
       ·obtain⟨gq,cq,hAq,hgq,_⟩:=HS4.out.form (by omega)
        injection hAq with e1 e2 e3
        subst e1 e3
        obtain⟨y,hy⟩:∃y,ls[q-1]? =some y:=⟨_,List.getElem?_eq_getElem (by have:=HQ.out;omega)⟩
        have hyx:y≠x:=fun e=>hbad (.inr (by rw[List.getLast?_eq_getElem?,HQ.out,hy,e]))
        have cy:w4.cell? ⟨gq,q-1,none⟩=some (.int .u8 (y:Nat)):=by
         rw[HS4.out.cellAt (q-1) (by omega)]
         unfold cZ
         rw[List.getElem?_map,hy]
         rfl
        obtain⟨q1,hq1⟩:∃q1,q1=q-1:=⟨_,rfl⟩
        rw[<-hq1]at cy
        have sp:IntKind.i64.wrap ((q:Int)-1)=(q1:Int):=by rw[IntWalk.i64_in _ (by omega)];omega
        have gp:decide ((0:Int)<(q:Int))=true:=by simp;omega
        have gp':decide (0<q)=true:=by simp;omega
        have x10:(0:Int)<=(q1:Int):=by omega
        have x11:(q1:Int)<(q:Int):=by omega
        have gx:((y:Int)==(x:Int))=false:=by rw[beq_eq_false_iff_ne];omega
        clear hy hq1 hk0 hbad hyx hq0
        obtain⟨w6,rfl⟩:∃w6:World,w6=w4:=⟨_,rfl⟩
        go_wp2_with fail
        go_loopw [12,15] (fun v iv wr=>∃j:Nat,j<=kk/\iv= .int .i64 j/\Hid (RCur wr g w.heap.size bs B d a3 0)/\Hid (wr.ownsRow w2.heap.size 57 1 (.slice va p vc) p (cZ .u64 acc))/\Hid (wr.ownsRow w2.heap.size 5 1 v (q+j) (cZ .u8 (ls++List.replicate j x)))/\Hid (Kept (fun x=>x<w2.heap.size/\x≠g) w2 wr)) (fun _ iv _=>kk-(intOf iv).toNat)
        case atStart=>exact⟨0,by omega,rfl,HC4.out,HO4.out,by rw[List.replicate_zero,List.append_nil];exact HS4.out,HK4.out⟩
        case round=>
         obtain⟨j,hj,rfl,HC7,HO7,HS7,HK7⟩:=hrel
         obtain⟨vb7,cb7,rfl⟩:=bZ HS7.out
         have z7:=HK7.out.size
         clear HC4 HO4 HS4 HK4
         by_cases hjk:j<kk
         ·have gj:decide ((j:Int)<(kk:Int))=true:=by simp;omega
          have gj':decide (j<kk)=true:=by simp;omega
          go_wp2_with(at_builtin;refine kZ rfl (.tmp 90) (.tmp 92) 22 rfl w2.heap.size 5 i0 _ 1 1 Tryz.underlying22 hi0 hx0 hx1 hx2 rfl (by decide) _ _ _ (by rfl) (HS7.out.alloc _) _ 1 1 [.int .u8 (x:Nat)] (by rfl) (Src.of_blk (Blk.made_at _ _ _ (by simp)) 1 1 1 rfl) (by intro u hu;simp at hu;rcases hu with rfl;rfl) (by unfold maxLen;omega) (by omega) (by simp;omega) ?_;intro v8 w8 hown8 hg8 hat8;obtain⟨A8,c8,rfl⟩:=bZ hown8)
          have hb3:=aZ (o:= .cells #[.int .u8 (x:Nat)] 5) (Below.refl wr.heap.size wr)
          have hc4:=HC7.out.step hb3
          have hk4:Kept (fun x=>x<w2.heap.size/\x≠g) w2 (wr.alloc (.cells #[.int .u8 (x:Nat)] 5)):=HK7.out.trans (Kept.of_below hb3 (fun x hx=>by have:=hx.1;omega))
          have zz4:=hk4.size
          have hgr:=fun(y:Nat) hy=>(World.ownsRow.lt HS7.out y hy).1
          have hc5:RCur w8 g w.heap.size bs B d a3 0:=eiZ hc4 hg8 w2.heap.size (by omega) (fun y hy=>by have:=HCB.out y hy;omega) hgr
          have HK8:Hid (Kept (fun x=>x<w2.heap.size/\x≠g) w2 w8):=hk4.grown hg8 (fun y hy=>by have:=hy.1;omega) (fun y hy hh=>by have:=hgr y hy;have:=hh.1;omega)
          have HC8:=hid hc5
          have HO8:Hid (w8.ownsRow w2.heap.size 57 1 (.slice va p vc) p (cZ .u64 acc)):=own_far (HO7.out.alloc _) (HS7.out.alloc _) (by decide) hg8
          have HS8:Hid (w8.ownsRow w2.heap.size 5 1 (.slice A8 (q+j+1) c8) (q+(j+1)) (cZ .u8 (ls++List.replicate (j+1) x))):=by
           show World.ownsRow _ _ _ _ _ _ _
           rw[show cZ .u8 (ls++List.replicate (j+1) x)=cZ .u8 (ls++List.replicate j x)++ [.int .u8 (x:Nat)] by simp[cZ,List.replicate_succ']]
           exact hown8
          clear hown8 hg8 hat8 hb3 hc4 hk4 hc5 hgr
          go_roundw
          case measure=>go_light;simp[intOf];omega
          case rel=>go_light;exact⟨j+1,by omega,by first|rfl|go_num,HC8.out,HO8.out,HS8.out,HK8.out⟩
         ·obtain rfl:j=kk:=by omega
          have gj:decide ((j:Int)<(j:Int))=false:=by simp
          go_wp2_with fail
          go_roundw
          case measure=>go_light;simp[fkZ];omega
          case rel=>go_light;exact⟨a3,q+j,ls++List.replicate j x,by omega,by show _=_;rw[List.length_append,HQ.out,List.length_replicate],HC7.out,HO7.out,HS7.out,HK7.out,HF4.out⟩
     ·have gE:(e2 != 0)=true:=by simpa using he2
      have HR2:Hid (viZ T (cgZ p bs T)=([],[],0,e2)):=by
       have hft:=HT2.out
       rw[if_pos he2,if_pos he2]at hft
       show _=_
       rw[HR.out,<-hft]
       exact if_pos he2
      clear he2 HT2
      go_wp2_with fail
      go_quiet (fail)
      go_wp2_with fail
      rw[HR2.out]
      refine bodyPost_ret (jeZ rfl _ _ _) rfl ?_
      exact⟨_,_,rfl,World.ownsRow_nil _ _ _ _,World.ownsRow_nil _ _ _ _,below_drewN (HB2.out.trans (HK4.out.below (fun b h=>⟨by omega,by omega⟩))) _⟩
    ·obtain rfl:q=p:=by omega
     have HR2:Hid (viZ T (cgZ q bs T)=(acc,ls,a2,0)):=by
      obtain⟨f,_,h⟩:=HF.out
      rw[toZ (by rw[HQ.out];exact Nat.le_refl _)]at h
      show _=_
      rw[HR.out,<-h]
      exact if_neg (fun h=>h rfl)
     have gq:decide ((q:Int)<(q:Int))=false:=by simp
     have pa:=HCr.out.cells.2.1
     clear HF
     go_wp2_with fail
     go_quiet (fail)
     go_wp2_with fail
     rw[HR2.out]
     refine bodyPost_ret (jeZ rfl _ _ _) rfl ?_
     exact⟨_,_,rfl,by rw[HP.out];exact lZ HOr.out z2,by rw[HQ.out];exact lZ HS.out z2,below_drewN (HB2.out.trans (HKr.out.below (fun b h=>⟨by omega,by omega⟩))) _⟩
end Go.Proofs.YtbgoibedicbkjaaGreatDoor.Recs
