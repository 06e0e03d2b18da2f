/- The walk of bits' Writer.Bytes. What the writers own, as rows. No walk -/
import Derived.Test.YtmlaajebadfkoaaGreatDoorZTwoPacks3
import Derived.Test.YtmlaajebadfkoaaGreatDoorZTwoPacks21
import Derived.Test.YtmlaajebadfkoaaGreatDoorZTwoPacks22
import Derived.Test.YtmlaajebadfkoaaGreatDoorZTwoPacks25
import Derived.Test.YtmlaajebadfkoaaGreatDoorZTwoPacks19
namespace Go.Proofs.YtmlaajebadfkoaaGreatDoor end Go.Proofs.YtmlaajebadfkoaaGreatDoor open Go.Proofs.YtmlaajebadfkoaaGreatDoor
open Go.Lib (hid)
set_option maxRecDepth 100000
namespace Go.Proofs.YtmlaajebadfkoaaGreatDoor.Huff
open Go.RowKit Mem Canon
theorem uvZ(w:World)(g:Nat)(A:Option Addr)(n c:Nat)(ls:List Nat)(hn:ls.length=n)(hle:n<=100000)(hnil:A=none->n=0/\c=0)
 (hg:w.cell? ⟨g,0,none⟩=some (.slice A n c))(ha:Row w w.heap.size A n 1 (rZ .u8 ls)):
 Calls Tryz.prog 202 #[.pointer (some ⟨g,0,none⟩)] w fun e w'=>∃v,e= .returned v/\w'.ownsRow w.heap.size 5 1 v n (dZ .u8 ls)/\Below w.heap.size w w':=by
 have C:=hid (muZ w A n c ls hn hle hnil ha)
 clear hn hle hnil ha
 go_enter Tryz.func202,Tryz.ntmps202
 go_wp2_with fail
 refine C.out.mono ?_
 rintro e w1 ⟨v,rfl,hv,hb⟩
 go_wp2_with fail
 go_ret
 exact⟨_,rfl,hv,hb⟩
end Go.Proofs.YtmlaajebadfkoaaGreatDoor.Huff
namespace Go.Proofs.YtmlaajebadfkoaaGreatDoor.Huff
open Go.RowKit Mem Canon Own
theorem Wr.rowOf{K:Nat->Prop}{w:World}{base g c:Nat}{t:TypeId}{rest:List Value}{bs:List Bool}{A:Option Addr}{n:Nat}(h:Wr K w base g t rest bs (.slice A n c)):(bytesOf bs).length=n/\Row w w.heap.size A n 1 (rZ .u8 (bytesOf bs))/\(A=none->n=0/\c=0):=by
 have ho:=h.own
 have hn:(bytesOf bs).length=n:=by
  rcases ho.2 with ⟨hv,hx⟩|⟨g,cap,cur,hv,_⟩
  ·injection hv with _ e _
   exact hx.trans e.symm
  ·injection hv with _ e _
   exact e.symm
 rw[hn]at ho
 exact⟨hn,Row.of_own ho rfl (fun i j hi hj=>by have e0:j=0:=(by omega);subst e0;exact rgZ (by omega)),(mjZ ho).1⟩
theorem RW.rowOf{K:Nat->Prop}{w:World}{base g c:Nat}{bs:List Bool}{A:Option Addr}{n:Nat}(h:RW K w base g bs (.slice A n c)):bs.length=n/\Row w w.heap.size A n 1 (rZ .u8 (b01 bs)):=by
 have ho:=h.own
 have hn:bs.length=n:=by
  rcases ho.2 with ⟨hv,hx⟩|⟨g,cap,cur,hv,_⟩
  ·injection hv with _ e _
   exact hx.trans e.symm
  ·injection hv with _ e _
   exact e.symm
 rw[hn]at ho
 exact⟨hn,Row.of_own ho rfl (fun i j hi hj=>by have e0:j=0:=(by omega);subst e0;exact rgZ (by rw[fvZ];omega))⟩
end Go.Proofs.YtmlaajebadfkoaaGreatDoor.Huff
namespace Go.Proofs.YtmlaajebadfkoaaGreatDoor.Huff
open Go.RowKit Mem Canon Own
open Go.Proofs.YtmlaajebadfkoaaGreatDoor.Toks (Tk Pc wZ sdZ dcZ bpZ CountPost)
def weZ(ts:List Tk)(w:World)(e:Ending)(w':World):Prop:=
 ∃v,e= .returned (.tuple #[v, .int .i64 (TW.rfZ ts)])/\w'.ownsRow w.heap.size 5 1 v (TW.gfZ ts).length (dZ .u8 (TW.gfZ ts))/\Below w.heap.size w w'
theorem asZ{w:World}{B g n:Nat}{l:List Int}{b:Int}(h:Blk w g 142 (ints .u32 l))(hg:g<B)(hl:Toks.Within b l)(hn:l.length=n):Row w B (some ⟨g,0,none⟩) n 1 (rZ .u32 (TW.qpZ l)):=
 Row.of_blk h hg fun i j hi hj=>by
  obtain rfl:j=0:=by omega
  rw[Nat.mul_one,Nat.add_zero,mgZ _ _ _ (by omega)]
  unfold rZ
  rw[TW.dnZ,Int.toNat_of_nonneg (hl i).1]
theorem bsZ{l:List Int}{b:Int}(hl:Toks.Within b l)(hb:b<4294967296):∀x∈TW.qpZ l,x<4294967296:=by
 intro x hx
 unfold TW.qpZ at hx
 obtain⟨y,hy,rfl⟩:=List.mem_map.1 hx
 obtain⟨i,hi,rfl⟩:=List.mem_iff_getElem.1 hy
 have:=hl i
 rw[List.getD_eq_getElem?_getD,List.getElem?_eq_getElem hi,Option.getD_some]at this
 omega
theorem tyZ{ts:List Tk}(hlit:∀t∈ts,0<=t.lit/\t.lit<=255)(hok:Toks.jcZ ts=true):∀t∈ts,dcZ t.lit t.len t.dist=true/\(TW.lsS ts).getD (wZ t).sym.toNat 0≠0/\(t.len≠0->(TW.lsF ts).getD (wZ t).dist.toNat 0≠0):=by
 intro t ht
 unfold Toks.jcZ at hok
 have hm:=List.all_eq_true.1 hok t ht
 obtain⟨S,D,L,F,hsp,hS,hD,_⟩:=Toks.nwZ t (hlit t ht).1 (hlit t ht).2 hm
 have e1:(wZ t).sym.toNat=S:=by rw[hsp];rfl
 have e2:(wZ t).dist.toNat=D:=by rw[hsp];rfl
 exact⟨hm,TW.qnZb ht (by omega),fun h0=>TW.rnZb ht h0 (by omega)⟩
theorem Wr.start4{K:Nat->Prop}(w:World)(base:Nat)(t:TypeId)(rest:List Value)(hbase:base<=w.heap.size)(hK:∀k,K k->k<w.heap.size):Wr K (w.alloc (.cells (List.toArray (.slice none 0 0 :: .int .i64 0 :: rest)) t)) base w.heap.size t rest [] (.slice none 0 0):=by
 refine⟨Blk.made _ _ _,World.ownsRow_nil _ _ _ _,(fun h=>by cases h),by simp;omega,(fun h=>by have:=hK _ h;omega),(fun x h=>by cases h),fun k h=>by have:=hK k h;simp;omega⟩
theorem xhZb(w:World)(A:Option Addr)(n c:Nat)(ts:List Tk)(hn:ts.length=n)(hN:n<=32768)(hlit:∀t∈ts,0<=t.lit/\t.lit<=255)(ha:Row w w.heap.size A n 3 (Toks.ljZ ts))(hok:Toks.jcZ ts=false):
 Calls Tryz.prog 192 #[.slice A n c] w (weZ ts w):=by
 have hE:TW.rfZ ts=7:=by unfold TW.rfZ;rw[if_neg (by omega),if_neg (by rw[hok];simp)]
 have hO:TW.gfZ ts= []:=by unfold TW.gfZ;rw[hE];rfl
 have C0:=bpZ w A n c ts hn hN hlit ha
 unfold Toks.CountPost at C0
 have C0:=hid C0
 have HOK:=hid hok
 unfold weZ
 rw[hE,hO]
 clear hE hO hn hlit ha hok
 go_enter Tryz.func192,Tryz.ntmps192
 go_wp2_with fail
 refine C0.out.mono ?_
 rintro e w1 ⟨hb1,h|⟨_,rfl⟩⟩
 ·have:=HOK.out
  rw[h.1]at this
  cases this
 ·go_wp2_with fail
  go_ret2
  exact⟨_,rfl,World.ownsRow_nil _ _ _ _,hb1⟩
set_option maxHeartbeats 2000000 in
theorem skZb(w:World)(A:Option Addr)(n c:Nat)(ts:List Tk)(hn:ts.length=n)(hN:n<=16000)(hlit:∀t∈ts,0<=t.lit/\t.lit<=255)(ha:Row w w.heap.size A n 3 (Toks.ljZ ts))(hok:Toks.jcZ ts=true):
 Calls Tryz.prog 192 #[.slice A n c] w (weZ ts w):=by
 have hE:TW.rfZ ts=0:=by unfold TW.rfZ;rw[if_neg (by omega),if_pos hok]
 have hO:TW.gfZ ts=bytesOf (TW.ukZ ts):=by unfold TW.gfZ;rw[hE];rfl
 have C0:=bpZ w A n c ts hn (by omega) hlit ha
 unfold Toks.CountPost at C0
 have hww:=Toks.ufZ ts
 have hwS:Toks.Within 32769 (Toks.symsOf ts):=(hww.1.bump 256).mono (by omega)
 have hwF:Toks.Within 32769 (Toks.lqZ ts):=hww.2.mono (by omega)
 have HWS:=hid hwS
 have HWF:=hid hwF
 have hkS:(TW.ksS ts).length=265:=TW.jdZ ts
 have hkF:(TW.ksF ts).length=12:=TW.eeZ ts
 have h32S:∀x∈TW.ksS ts,x<4294967296:=bsZ hwS (by omega)
 have h32F:∀x∈TW.ksF ts,x<4294967296:=bsZ hwF (by omega)
 have D1:=fun(K:Nat->Prop) wx g base rest v gs (h:Row wx wx.heap.size (some ⟨gs,0,none⟩) 265 1 (rZ .u32 (TW.ksS ts))) hW=>tvZ K wx g base 294 rest v [] (some ⟨gs,0,none⟩) 265 265 (TW.ksS ts) hkS (by omega) h32S h (by simp) hW
 have D2:=fun(K:Nat->Prop) wx g base rest v gs bs (hle:bs.length+10*12<=5000000) (h:Row wx wx.heap.size (some ⟨gs,0,none⟩) 12 1 (rZ .u32 (TW.ksF ts))) hW=>tvZ K wx g base 294 rest v bs (some ⟨gs,0,none⟩) 12 12 (TW.ksF ts) hkF (by omega) h32F h hle hW
 have hwords:=tyZ hlit hok
 have hend:=TW.tfZb ts
 have hokS:=TW.pkZb ts
 have hokF:=TW.qkZb ts
 have hlS:=TW.iiZ (TW.lsS ts)
 have hlF:=TW.iiZ (TW.lsF ts)
 rw[TW.qvZ]at hlS
 rw[TW.rvZ]at hlF
 have hbits:TW.ukZ ts=cdZ (TW.lsS ts)++cdZ (TW.lsF ts)++(ts.flatMap (TW.adZ (TW.lsS ts) (TW.lsF ts))++word (TW.lsS ts) 256):=rfl
 change ∀ (K:Nat->Prop) wx g base rest v gs,_->_->Calls _ _ _ _ (svZ K wx base g 294 rest ([]++cdZ (TW.lsS ts)) (TW.lsS ts))at D1
 change ∀ (K:Nat->Prop) wx g base rest v gs bs,_->_->_->Calls _ _ _ _ (svZ K wx base g 294 rest (bs++cdZ (TW.lsF ts)) (TW.lsF ts))at D2
 unfold weZ
 rw[hE,hO,hbits]
 generalize TW.lsS ts=ls at *
 generalize TW.lsF ts=lf at *
 unfold svZ at D1 D2
 simp only[List.nil_append]at D1
 obtain⟨hd,hhd⟩:∃hd,hd=cdZ ls++cdZ lf:=⟨_,rfl⟩
 rw[<-hhd]
 have hdl:hd.length<=2770:=by rw[hhd,List.length_append];omega
 have D1:=hid D1
 have D2:=hid D2
 have C0:=hid C0
 have HN:=hid hn
 have HWORDS:=hid hwords
 have HEND:=hid (show afZ ls 256≠0 from lgZ (s:=256) hend)
 have HOKS:=hid hokS
 have HOKF:=hid hokF
 have HOK:=hid hok
 have HLIT:=hid hlit
 have HHD:=hid hhd
 have HA:=hid ha
 have HLS:=hid hlS
 have hsmS:=(ok_parts hokS).2.1
 have hsmF:=(ok_parts hokF).2.1
 have HTL:=hid (TW.ciZ (ts:=ts) hsmS hsmF hok)
 have HTK:=fun k=>TW.ciZ (ts:=ts.take k) hsmS hsmF
 have HTK:=hid HTK
 have h256:(word ls 256).length<=15:=by rw[aeZ];exact TW.wiZ hsmS _
 clear hE hO hn hlit ha hok hww hwS hwF hkS hkF h32S h32F hwords hend hokS hokF hlF hbits hhd hlS hsmS hsmF
 go_enter Tryz.func192,Tryz.ntmps192
 go_wp2_with fail
 refine C0.out.mono ?_
 rintro e w1 ⟨hb1,⟨_,gs,gf,rfl,blkS,blkF,hgs,hgf⟩|⟨h,_⟩⟩
 ·have z1:=hb1.size
  have zs:=blkS.lt
  have zf:=blkF.lt
  go_wp2_with fail
  have hW2:=Wr.start4 (K:=fun x=>x<w1.heap.size) w1 w.heap.size 294 [.pointer none, .pointer none] z1 (fun k h=>h)
  have hbel2:Below w1.heap.size w1 (w1.alloc (.cells #[.slice none 0 0, .int .i64 0, .pointer none, .pointer none] 294)):=aZ (Below.refl _ _)
  have z2:(w1.alloc (.cells #[.slice none 0 0, .int .i64 0, .pointer none, .pointer none] 294)).heap.size=w1.heap.size+1:=by simp
  change Wr (fun x=>x<w1.heap.size) (w1.alloc (.cells #[.slice none 0 0, .int .i64 0, .pointer none, .pointer none] 294)) _ _ _ _ _ _ at hW2
  generalize w1.alloc (.cells #[.slice none 0 0, .int .i64 0, .pointer none, .pointer none] 294)=w2 at *
  have hrS:=asZ (blkS.step hbel2) (B:=w2.heap.size) (by omega) HWS.out (TW.zgZ _ ▸ TW.jdZ ts)
  have C1:=hid (D1.out (fun x=>x<w1.heap.size) w2 w1.heap.size w.heap.size _ _ gs hrS hW2)
  have HB1:=hid hb1
  have HBLKF:Hid (Blk w2 gf _ _):=blkF.step hbel2
  have HB2:Hid (Below w.heap.size w w2):=hb1.trans (hbel2.mono z1)
  generalize hg:w1.heap.size=g at *
  clear hg hW2 hrS blkS blkF hbel2 hb1 D1 C0 HB1
  refine C1.out.mono ?_
  rintro e w3 ⟨gc,lo,v3,rfl,hlo,hC3,hW3,hk3⟩
  have z3:=hk3.size
  have hclt:=hC3.lt
  have d2:=hW3.blk.cell 2
  have f2:=hW3.blk.frozen 2
  simp at d2
  have HW3:=hid hW3
  have HC3:=hid hC3
  have HK3:=hid hk3
  clear hC3 hW3 hk3 C1
  go_wp2_with fail
  have hW4:=HW3.out.putRest 0 (.pointer (some ⟨gc,0,none⟩))
  have hk4:Kept (fun x=>x≠g) w3 (w3.setCell ⟨g,2,none⟩ (.pointer (some ⟨gc,0,none⟩))):=(Kept.refl _ _).set (fun h=>h rfl) _
  have z4:=hk4.size
  simp only[List.set_cons_zero,Nat.zero_add]at hW4
  generalize w3.setCell ⟨g,2,none⟩ (.pointer (some ⟨gc,0,none⟩))=w4 at *
  have hC4:Coder w4 lo w3.heap.size gc ls:=HC3.out.keep (fun b h1 h2=>hk4.block b (by omega))
  have blkF4:Blk w4 gf _ _:=(hk4.block gf (by omega)).trans ((HK3.out.block gf (by omega)).trans HBLKF.out)
  have hK24:Kept (fun x=>x<g) w2 w4:=HK3.out.trans ⟨hk4.os,hk4.tape,hk4.output,hk4.size,fun b h=>hk4.block b (by omega)⟩
  have hrF:=asZ (blkF4) (B:=w4.heap.size) (by omega) HWF.out (TW.zgZ _ ▸ TW.eeZ ts)
  have C2:=hid (D2.out _ w4 g w.heap.size _ v3 gf (cdZ ls) (by have:=HLS.out;omega) hrF hW4)
  have HC4:=hid hC4
  have HK24:=hid hK24
  clear hW4 hk4 hC4 blkF4 hK24 hrF HW3 HC3 HK3 d2 f2 D2 HBLKF
  refine C2.out.mono ?_
  rintro e w5 ⟨gd,lo2,v5,rfl,hlo2,hC5,hW5,hk5⟩
  have z5:=hk5.size
  have hdlt:=hC5.lt
  have d3:=hW5.blk.cell 3
  have f3:=hW5.blk.frozen 3
  simp at d3
  have HW5:=hid hW5
  have HC5:=hid hC5
  have HK5:=hid hk5
  clear hC5 hW5 hk5 C2
  go_wp2_with fail
  have hW6:=HW5.out.putRest 1 (.pointer (some ⟨gd,0,none⟩))
  have hk6:Kept (fun x=>x≠g) w5 (w5.setCell ⟨g,3,none⟩ (.pointer (some ⟨gd,0,none⟩))):=(Kept.refl _ _).set (fun h=>h rfl) _
  have z6:=hk6.size
  simp only[List.set_cons_succ,List.set_cons_zero,Nat.reduceAdd]at hW6
  generalize w5.setCell ⟨g,3,none⟩ (.pointer (some ⟨gd,0,none⟩))=w6 at *
  have hC6:Coder w6 lo w3.heap.size gc ls:=(HC4.out.keep (fun b h1 h2=>HK5.out.block b (.inr ⟨h1,h2⟩))).keep (fun b h1 h2=>hk6.block b (by omega))
  have hD6:Coder w6 lo2 w5.heap.size gd lf:=HC5.out.keep (fun b h1 h2=>hk6.block b (by omega))
  have hK26:Kept (fun x=>x<g) w2 w6:=HK24.out.trans (Kept.trans ⟨HK5.out.os,HK5.out.tape,HK5.out.output,HK5.out.size,fun b h=>HK5.out.block b (.inl h)⟩ ⟨hk6.os,hk6.tape,hk6.output,hk6.size,fun b h=>hk6.block b (by omega)⟩)
  have HB6:Hid (Below w.heap.size w w6):=HB2.out.trans (hK26.below (fun b h=>by omega))
  obtain⟨K2,hK2⟩:∃K2:Nat->Prop,K2=fun x=>(x<g∨lo<=x/\x<w3.heap.size)∨lo2<=x/\x<w5.heap.size:=⟨_,rfl⟩
  rw[<-hK2]at hW6
  have hKO:∀x,x<w.heap.size->K2 x:=fun x h=>by rw[hK2];exact .inl (.inl (by omega))
  have hKS:∀x,lo<=x->x<w3.heap.size->K2 x:=fun x h h'=>by rw[hK2];exact .inl (.inr ⟨h,h'⟩)
  have hKF:∀x,lo2<=x->x<w5.heap.size->K2 x:=fun x h h'=>by rw[hK2];exact .inr ⟨h,h'⟩
  have HKO:=hid hKO
  have HKS:=hid hKS
  have HKF:=hid hKF
  have HC6:=hid hC6
  have HD6:=hid hD6
  have HW6:=hid hW6
  generalize w3.heap.size=B1 at *
  generalize w5.heap.size=B2 at *
  clear hK2 hKO hKS hKF hC6 hD6 hW6 hK26 hk6 HC4 HC5 HK24 HK5 HW5 HB2 d3 f3
  rw[HHD.out.symm]at HW6
  go_wp2_with fail
  go_loopw [38] (fun i wr=>∃ (k:Nat) (v:Value),k<=n/\i= .int .i64 k/\Hid (Wr K2 wr w.heap.size g 294 [.pointer (some ⟨gc,0,none⟩), .pointer (some ⟨gd,0,none⟩)] (hd++(ts.take k).flatMap (TW.adZ ls lf)) v)/\Hid (Kept K2 w6 wr)) (fun i _=>n-(intOf i).toNat)
  case atStart=>exact⟨0,v5,by omega,rfl,by simpa using HW6,Kept.refl _ _⟩
  case round=>
   clear HW6
   obtain⟨k,v6,hk,rfl,HW,HK⟩:=hrel
   have hzr:=HK.out.size
   by_cases hlt:k<n
   ·obtain⟨ob,off,rfl,hbb,hcell⟩:=HA.out (by omega)
    have hkl:k<ts.length:=by rw[HN.out];exact hlt
    have htm:=List.getElem_mem hkl
    have hbl:(World.heap wr)[ob]? =w.heap[ob]? :=(HK.out.block ob (HKO.out ob hbb)).trans (HB6.out.block ob hbb)
    have e0:=hcell k 0 hlt (by omega)
    have e1:=hcell k 1 hlt (by omega)
    have e2:=hcell k 2 hlt (by omega)
    simp only[Toks.ljZ,List.getD_eq_getElem?_getD,List.getElem?_eq_getElem hkl,Option.getD_some,Nat.add_zero,<-Nat.add_assoc]at e0 e1 e2
    have c0:=(World.cell?_of_block (a:=⟨ob,off+k*3,none⟩) hbl).trans e0
    have c1:=(World.cell?_of_block (a:=⟨ob,off+k*3+1,none⟩) hbl).trans e1
    have c2:=(World.cell?_of_block (a:=⟨ob,off+k*3+2,none⟩) hbl).trans e2
    have hokk:Toks.jcZ (ts.take k)=true:=by
     have h:=HOK.out
     unfold Toks.jcZ at h ⊢
     rw[List.all_eq_true]at h ⊢
     exact fun t ht=>h t (List.mem_of_mem_take ht)
    have hlen:=HTK.out k hokk
    rw[List.length_take]at hlen
    have hsn:=TW.syZ (ls:=ls) (lf:=lf) hkl
    obtain⟨hm,hs1,hs2⟩:=HWORDS.out _ htm
    have hl1:=HLIT.out _ htm
    have C3:=fun wx (h:Below wr.heap.size wr wx)=>whZb K2 wx g w.heap.size gc gd lo B1 lo2 B2 ls lf (hd++(ts.take k).flatMap (TW.adZ ls lf)) v6 ts[k] hl1 hm HOKS.out ((HC6.out.kept HK.out HKS.out).keep (fun b h1 h2=>h.block b (HW.out.kK b (HKS.out b h1 h2)))) HKS.out HOKF.out ((HD6.out.kept HK.out HKF.out).keep (fun b h1 h2=>h.block b (HW.out.kK b (HKF.out b h1 h2)))) HKF.out hs1 hs2 (by rw[List.length_append];omega) (HW.out.step h)
    rw[List.append_assoc,<-hsn]at C3
    generalize ts[k]=tk at *
    obtain⟨t1,t2,t3⟩:=tk
    simp only[Toks.Tk.val_mk]at C3 c0 c1 c2
    unfold rkZb at C3
    have C3:=hid C3
    have HKW:=hid HW.out.kK
    have x0:(0:Int)<=(k:Int):=by omega
    have x1:(k:Int)<(n:Int):=by omega
    clear hcell hkl htm hbl e0 e1 e2 hokk hlen hsn hm hs1 hs2 hl1 HW
    go_wp2_with fail
    refine(C3.out _ (aZ (Below.refl _ _))).mono ?_
    rintro e w7 ⟨rfl,v7,hW7,hk7⟩
    have HW7:=hid hW7
    have HK7:Hid (Kept K2 w6 w7):=(HK.out.alloc HKW.out _).trans hk7
    clear hW7 hk7 C3 c0 c1 c2
    go_wp2_with fail
    go_roundw
    case measure=>go_light;simp[intOf];omega
    case rel=>go_light;exact⟨k+1,v7,by omega,by go_num,HW7.out,HK7.out⟩
   ·obtain rfl:k=n:=by omega
    have htk:ts.take k=ts:=List.take_of_length_le (by rw[HN.out];exact Nat.le_refl _)
    rw[htk]at HW
    have htl:=HTL.out
    rw[HN.out]at htl
    have C2:=hid (fpZ K2 wr.drew lo B1 gc ls g w.heap.size 294 [.pointer (some ⟨gc,0,none⟩), .pointer (some ⟨gd,0,none⟩)] v6 (hd++ts.flatMap (TW.adZ ls lf)) 256 (by omega) HOKS.out (HC6.out.kept HK.out HKS.out).drew HKS.out HEND.out (by rw[List.length_append];omega) HW.out.drew)
    change Hid (Calls _ _ _ _ (fun e w'=>_/\∃v',Wr K2 w' _ g _ _ (hd++ts.flatMap (TW.adZ ls lf)++word ls 256) v'/\_))at C2
    rw[List.append_assoc]at C2
    have hbl:(bytesOf (hd++(ts.flatMap (TW.adZ ls lf)++word ls 256))).length<=100000:=by
     rw[bytesOf_length,List.length_append,List.length_append];omega
    obtain⟨bits,hbits⟩:∃bits,bits=hd++(ts.flatMap (TW.adZ ls lf)++word ls 256):=⟨_,rfl⟩
    rw[<-hbits]at C2 hbl
    have HBITS:=hid hbits
    clear hbits
    have d0:=HW.out.blk.cell 2
    simp at d0
    clear htk htl HW
    go_upto_region 14 with fail
    go_region_held3 (fun wx=>wx.cell? ⟨g,2,none⟩=some (.pointer (some ⟨gc,0,none⟩))) (first|exact d0|exact k0) (first|(go_at_call 239;(with_reducible refine C2.out.mono ?_);rintro e w' ⟨rfl,v2,hW3,hk3⟩;have k0:w'.cell? ⟨g,2,none⟩=some (.pointer (some ⟨gc,0,none⟩)):=hW3.blk.cell 2))
    obtain⟨A2,c2,rfl⟩:=bZ hW3.own
    obtain⟨hn2,hr2,hnil2⟩:=hW3.rowOf
    have hg0:=hW3.blk.cell 0
    simp only[List.getElem?_toArray,List.getElem?_cons_zero]at hg0
    have hK3:Kept K2 w6 w':=HK.out.trans ((Kept.refl _ _).drew.trans hk3)
    have zk:=hK3.size
    have C4:=hid (uvZ w' g A2 _ c2 (bytesOf bits) hn2 (by omega) hnil2 hg0 hr2)
    have HK3:=hid hK3
    have HL2:=hid hn2
    clear hW3 hk3 hK3 hn2 hr2 hnil2 hg0 hbl C2
    go_wp2_with fail
    refine C4.out.mono ?_
    rintro e w8 ⟨v8,rfl,hv8,hb8⟩
    go_wp2_with fail
    go_ret2
    refine⟨v8,rfl,?_,?_⟩
    ·rw[<-HBITS.out]
     have hv8:w8.ownsRow w'.heap.size 5 1 v8 (bytesOf bits).length (dZ .u8 (bytesOf bits)):=hv8
     exact nZ hv8 (by omega)
    ·exact HB6.out.trans ((HK3.out.below HKO.out).trans (hb8.mono (by omega)))
 ·have:=HOK.out
  rw[h]at this
  cases this
theorem vvZ(w:World)(A:Option Addr)(n c:Nat)(ts:List Tk)(hn:ts.length=n)(hN:n<=16000)(hlit:∀t∈ts,0<=t.lit/\t.lit<=255)(ha:Row w w.heap.size A n 3 (Toks.ljZ ts)):
 Calls Tryz.prog 192 #[.slice A n c] w (weZ ts w):=by
 cases hok:Toks.jcZ ts
 ·exact xhZb w A n c ts hn (by omega) hlit ha hok
 ·exact skZb w A n c ts hn hN hlit ha hok
end Go.Proofs.YtmlaajebadfkoaaGreatDoor.Huff
