/- The walk of firkinref11.Write: tokens as bits, by the reference. -/
import Derived.Test.YtmlaajebadfkoaaGreatDoorZTwoPacks22
import Derived.Test.YtmlaajebadfkoaaGreatDoorZTwoPacks26
import Derived.Test.YtmlaajebadfkoaaGreatDoorZTwoPacks32
namespace Go.Proofs.YtmlaajebadfkoaaGreatDoor end Go.Proofs.YtmlaajebadfkoaaGreatDoor open Go.Proofs.YtmlaajebadfkoaaGreatDoor
open Go.Lib (hid)
set_option maxRecDepth 100000
namespace Go.Proofs.YtmlaajebadfkoaaGreatDoor.Huff
open Go.RowKit Mem Canon Own
open Go.Proofs.YtmlaajebadfkoaaGreatDoor.Toks (Tk Pc wZ sdZ dcZ pqZ rqZ)
theorem ieZb(w:World)(A:Option Addr)(n c:Nat)(ts:List Tk)(hn:ts.length=n)(hN:n<=32768)(hlit:∀t∈ts,0<=t.lit/\t.lit<=255)(ha:Row w w.heap.size A n 3 (Toks.ljZ ts))(hok:Toks.jcZ ts=false):
 Calls Tryz.prog 204 #[.slice A n c] w (weZ ts w):=by
 have hE:TW.rfZ ts=7:=by unfold TW.rfZ;rw[if_neg (by omega),if_neg (by rw[hok];simp)]
 have hO:TW.gfZ ts= []:=by unfold TW.gfZ;rw[hE];rfl
 have C0:=rqZ w A n c ts hn hN hlit ha
 unfold Toks.CountPost at C0
 have C0:=hid C0
 have HOK:=hid hok
 unfold weZ
 rw[hE,hO]
 clear hE hO hn hlit ha hok
 go_enter Tryz.func204,Tryz.ntmps204
 go_wp2_with fail
 refine C0.out.mono ?_
 rintro e w1 ⟨hb1,h|⟨_,rfl⟩⟩
 ·have:=HOK.out
  rw[h.1]at this
  cases this
 ·go_wp2_with fail
  go_ret2
  exact⟨_,rfl,World.ownsRow_nil _ _ _ _,hb1⟩
set_option maxHeartbeats 2000000 in
theorem piZb(w:World)(A:Option Addr)(n c:Nat)(ts:List Tk)(hn:ts.length=n)(hN:n<=16000)(hlit:∀t∈ts,0<=t.lit/\t.lit<=255)(ha:Row w w.heap.size A n 3 (Toks.ljZ ts))(hok:Toks.jcZ ts=true):
 Calls Tryz.prog 204 #[.slice A n c] w (weZ ts w):=by
 have hE:TW.rfZ ts=0:=by unfold TW.rfZ;rw[if_neg (by omega),if_pos hok]
 have hO:TW.gfZ ts=bytesOf (TW.ukZ ts):=by unfold TW.gfZ;rw[hE];rfl
 have C0:=rqZ w A n c ts hn (by omega) hlit ha
 unfold Toks.CountPost at C0
 have hww:=Toks.ufZ ts
 have hwS:Toks.Within 32769 (Toks.symsOf ts):=(hww.1.bump 256).mono (by omega)
 have hwF:Toks.Within 32769 (Toks.lqZ ts):=hww.2.mono (by omega)
 have HWS:=hid hwS
 have HWF:=hid hwF
 have hkS:(TW.ksS ts).length=265:=TW.jdZ ts
 have hkF:(TW.ksF ts).length=12:=TW.eeZ ts
 have h32S:∀x∈TW.ksS ts,x<4294967296:=bsZ hwS (by omega)
 have h32F:∀x∈TW.ksF ts,x<4294967296:=bsZ hwF (by omega)
 have D1:=fun wx gs h=>Lens.hzZ wx (some ⟨gs,0,none⟩) 265 265 (TW.ksS ts) 15 hkS (by omega) (by omega) (by omega) h32S h
 have D2:=fun wx gs h=>Lens.hzZ wx (some ⟨gs,0,none⟩) 12 12 (TW.ksF ts) 15 hkF (by omega) (by omega) (by omega) h32F h
 unfold Lens.odZ at D1 D2
 have hES:Lens.pcZ (TW.ksS ts) 15=0:=TW.nhZ (by omega)
 have hEF:Lens.pcZ (TW.ksF ts) 15=0:=TW.nhZ (by omega)
 rw[hES]at D1
 rw[hEF]at D2
 change ∀wx gs,_->Calls _ _ _ _ (fun e w'=>∃A c,e= .returned (.tuple #[.slice A (TW.lsS ts).length c, .int .i64 0])/\Row w' w'.heap.size A (TW.lsS ts).length 1 (rZ .u8 (TW.lsS ts))/\Wf A (TW.lsS ts).length c/\Below wx.heap.size wx w'/\(0<(TW.lsS ts).length->∀p,A=some p->wx.heap.size<=p.block))at D1
 change ∀wx gs,_->Calls _ _ _ _ (fun e w'=>∃A c,e= .returned (.tuple #[.slice A (TW.lsF ts).length c, .int .i64 0])/\Row w' w'.heap.size A (TW.lsF ts).length 1 (rZ .u8 (TW.lsF ts))/\Wf A (TW.lsF ts).length c/\Below wx.heap.size wx w'/\(0<(TW.lsF ts).length->∀p,A=some p->wx.heap.size<=p.block))at D2
 have hwords:=tyZ hlit hok
 have hend:=TW.tfZb ts
 have hokS:=TW.pkZb ts
 have hokF:=TW.qkZb ts
 have hlS:=TW.iiZ (TW.lsS ts)
 have hlF:=TW.iiZ (TW.lsF ts)
 have hnS:=TW.qvZ ts
 have hnF:=TW.rvZ ts
 rw[hnS]at hlS D1
 rw[hnF]at hlF D2
 have hbits:TW.ukZ ts=cdZ (TW.lsS ts)++cdZ (TW.lsF ts)++(ts.flatMap (TW.adZ (TW.lsS ts) (TW.lsF ts))++word (TW.lsS ts) 256):=rfl
 unfold weZ
 rw[hE,hO,hbits]
 generalize TW.lsS ts=ls at *
 generalize TW.lsF ts=lf at *
 obtain⟨hd,hhd⟩:∃hd,hd=cdZ ls++cdZ lf:=⟨_,rfl⟩
 rw[<-hhd]
 have hdl:hd.length<=2770:=by rw[hhd,List.length_append];omega
 have D1:=hid D1
 have D2:=hid D2
 have C0:=hid C0
 have HN:=hid hn
 have HWORDS:=hid hwords
 have HEND:=hid (show afZ ls 256≠0 from lgZ (s:=256) hend)
 have HOKS:=hid hokS
 have HOKF:=hid hokF
 have HOK:=hid hok
 have HLIT:=hid hlit
 have HHD:=hid hhd
 have HA:=hid ha
 have HLS:=hid hlS
 have HNS:=hid hnS
 have HNF:=hid hnF
 have hsmS:=(ok_parts hokS).2.1
 have hsmF:=(ok_parts hokF).2.1
 have HSMS:=hid hsmS
 have HSMF:=hid hsmF
 have HTL:=hid (TW.ciZ (ts:=ts) hsmS hsmF hok)
 have HTK:=fun k=>TW.ciZ (ts:=ts.take k) hsmS hsmF
 have HTK:=hid HTK
 have h256:(word ls 256).length<=15:=by rw[aeZ];exact TW.wiZ hsmS _
 clear hE hO hn hlit ha hok hww hwS hwF hkS hkF h32S h32F hES hEF hwords hend hokS hokF hlF hbits hhd hlS hnS hnF hsmS hsmF
 go_enter Tryz.func204,Tryz.ntmps204
 go_wp2_with fail
 refine C0.out.mono ?_
 rintro e w1 ⟨hb1,⟨_,gs,gf,rfl,blkS,blkF,hgs,hgf⟩|⟨h,_⟩⟩
 ·have z1:=hb1.size
  have zs:=blkS.lt
  have zf:=blkF.lt
  go_wp2_with fail
  have hbel2:Below w1.heap.size w1 (w1.alloc (.cells #[.slice none 0 0] 267)):=aZ (Below.refl _ _)
  have z2:(w1.alloc (.cells #[.slice none 0 0] 267)).heap.size=w1.heap.size+1:=by simp
  have blkg:Blk (w1.alloc (.cells #[.slice none 0 0] 267)) w1.heap.size 267 #[.slice none 0 0]:=Blk.made _ _ _
  generalize w1.alloc (.cells #[.slice none 0 0] 267)=w2 at *
  have hrS:=asZ (blkS.step hbel2) (B:=w2.heap.size) (by omega) HWS.out (TW.zgZ _ ▸ TW.jdZ ts)
  have C1:=hid (D1.out w2 gs hrS)
  have HBLKF:Hid (Blk w2 gf _ _):=blkF.step hbel2
  have HB2:Hid (Below w.heap.size w w2):=hb1.trans (hbel2.mono z1)
  have HBLKG:=hid blkg
  generalize hg:w1.heap.size=g at *
  clear hg hrS blkS blkF hbel2 blkg hb1 D1 C0
  refine C1.out.mono ?_
  rintro e w3 ⟨AS,cS,rfl,hrowS,hwfS,hb3,hnewS⟩
  have z3:=hb3.size
  have hrinS:=guZ hrowS hnewS
  have hrF:=asZ (HBLKF.out.step hb3) (B:=w3.heap.size) (by omega) HWF.out (TW.zgZ _ ▸ TW.eeZ ts)
  have C2:=hid (D2.out w3 gf hrF)
  have HRS:=hid hrinS
  have HFS:=hid hwfS.1
  have HB3:Hid (Below w2.heap.size w2 w3):=hb3
  clear hrowS hwfS hb3 hnewS hrinS hrF C1 D2 HBLKF
  go_wp2_with fail
  refine C2.out.mono ?_
  rintro e w4 ⟨AF,cF,rfl,hrowF,hwfF,hb4,hnewF⟩
  have z4:=hb4.size
  have hrinF:=guZ hrowF hnewF
  have hb24:Below w2.heap.size w2 w4:=HB3.out.trans (hb4.mono z3)
  have hrinS4:RowIn w4 w2.heap.size w3.heap.size AS 265 1 (rZ .u8 ls):=HRS.out.keep (fun p h1 h2=>hb4.cell h2)
  obtain⟨K,hK⟩:∃K:Nat->Prop,K=fun x=>x<g∨w2.heap.size<=x/\x<w4.heap.size:=⟨_,rfl⟩
  have hKO:∀x,x<g->K x:=fun x h=>by rw[hK];exact .inl h
  have hKN:∀x,w2.heap.size<=x->x<w4.heap.size->K x:=fun x h h'=>by rw[hK];exact .inr ⟨h,h'⟩
  have hKL:∀x,K x->x<w4.heap.size:=fun x h=>by rw[hK]at h;omega
  have hW4:RW K w4 w.heap.size g [] (.slice none 0 0):=⟨HBLKG.out.step hb24,World.ownsRow_nil _ _ _ _,(fun h=>by cases h),by omega,(fun h=>by rw[hK]at h;omega),(fun x h=>by cases h),hKL⟩
  have C3:=hid (psZ K w4 g w.heap.size _ [] AS 265 cS ls HNS.out (by omega) HOKS.out (fun h0 p hp=>by
   obtain⟨b,off,e,hb,_⟩:=hrinS4 h0
   rw[e]at hp
   cases hp
   exact hKN _ hb.1 (by have:=hb.2;show b<_;omega)) (hrinS4.row.mono (by omega)) (by simp) hW4)
  rw[List.nil_append]at C3
  have HKO:=hid hKO
  have HKN:=hid hKN
  have HKL:=hid hKL
  have HB4:Hid (Below w.heap.size w w4):=HB2.out.trans (hb24.mono (by omega))
  have HRS:=hid hrinS4
  have HRF:=hid hrinF
  have HFF:=hid hwfF.1
  clear hrowF hwfF hb4 hnewF hrinF hb24 hrinS4 hK hKO hKN hKL hW4 C2 HB2 HB3 HBLKG
  go_wp2_with fail
  refine C3.out.mono ?_
  rintro e w5 ⟨rfl,v5,hW5,hk5⟩
  have z5:=hk5.size
  have hrinF5:RowIn w5 w3.heap.size w4.heap.size AF 12 1 (rZ .u8 lf):=HRF.out.keep (fun p h1 h2=>World.cell?_of_block (hk5.block p.block (HKN.out _ (by omega) h2)))
  have C4:=hid (psZ K w5 g w.heap.size v5 (cdZ ls) AF 12 cF lf HNF.out (by omega) HOKF.out (fun h0 p hp=>by
   obtain⟨b,off,e,hb,_⟩:=hrinF5 h0
   rw[e]at hp
   cases hp
   exact HKN.out _ (by have:=hb.1;show _<=b;omega) hb.2) (hrinF5.row.mono (by omega)) (by have:=HLS.out;omega) hW5)
  rw[<-HHD.out]at C4
  have HK5:=hid hk5
  clear hW5 hk5 hrinF5 C3
  go_wp2_with fail
  refine C4.out.mono ?_
  rintro e w6 ⟨rfl,v6,hW6,hk6⟩
  have z6:=hk6.size
  have hK46:Kept K w4 w6:=HK5.out.trans hk6
  have hrinS6:RowIn w6 w2.heap.size w3.heap.size AS 265 1 (rZ .u8 ls):=HRS.out.keep (fun p h1 h2=>World.cell?_of_block (hK46.block p.block (HKN.out _ h1 (by omega))))
  have hrinF6:RowIn w6 w3.heap.size w4.heap.size AF 12 1 (rZ .u8 lf):=HRF.out.keep (fun p h1 h2=>World.cell?_of_block (hK46.block p.block (HKN.out _ (by omega) h2)))
  have C5:=jbZb w6 AS 265 cS ls HNS.out HOKS.out HFS.out (hrinS6.row.mono (by omega))
  unfold xtZ at C5
  have C5:=hid C5
  have HW6:=hid hW6
  have HRF:=hid hrinF6
  have HK46:=hid hK46
  have HB6:Hid (Below w.heap.size w w6):=HB4.out.trans (hK46.below (fun x h=>HKO.out x (by omega)))
  clear hW6 hk6 hK46 hrinS6 hrinF6 C4 HK5 HRS HB4
  go_wp2_with fail
  refine C5.out.mono ?_
  rintro e w7 ⟨vl,vc,rfl,hC7,hb7⟩
  have z7:=hb7.size
  obtain⟨A1,c1,rfl,_⟩:=hC7.lens
  obtain⟨A2,c2,rfl,_⟩:=hC7.codes
  rw[HNS.out]at hC7 ⊢
  have HC7:=hid hC7
  have HB7:=hid hb7
  clear hC7 hb7 C5
  go_wp2_with fail
  have hbel7:Below w7.heap.size w7 (w7.alloc (.cells #[.slice A1 265 c1, .slice A2 265 c2] 234)):=aZ (Below.refl _ _)
  have blkC:Blk (w7.alloc (.cells #[.slice A1 265 c1, .slice A2 265 c2] 234)) w7.heap.size 234 #[.slice A1 265 c1, .slice A2 265 c2]:=Blk.made _ _ _
  have z8:(w7.alloc (.cells #[.slice A1 265 c1, .slice A2 265 c2] 234)).heap.size=w7.heap.size+1:=by simp
  generalize w7.alloc (.cells #[.slice A1 265 c1, .slice A2 265 c2] 234)=w8 at *
  have hrF8:Row w8 w8.heap.size AF 12 1 (rZ .u8 lf):=((HRF.out.keep (fun p h1 h2=>(hbel7.cell (p:=p) (by omega)).trans (HB7.out.cell (by omega)))).row).mono (by omega)
  have C6:=jbZb w8 AF 12 cF lf HNF.out HOKF.out HFF.out hrF8
  unfold xtZ at C6
  have C6:=hid C6
  have HBC:=hid blkC
  have HB78:=hid hbel7
  clear hbel7 blkC hrF8 HRF
  refine C6.out.mono ?_
  rintro e w9 ⟨vl,vc,rfl,hC9,hb9⟩
  have z9:=hb9.size
  obtain⟨A3,c3,rfl,_⟩:=hC9.lens
  obtain⟨A4,c4,rfl,_⟩:=hC9.codes
  rw[HNF.out]at hC9 ⊢
  have HC9:=hid hC9
  have HB9:=hid hb9
  clear hC9 hb9 C6
  go_wp2_with fail
  have hbel9:Below w9.heap.size w9 (w9.alloc (.cells #[.slice A3 12 c3, .slice A4 12 c4] 234)):=aZ (Below.refl _ _)
  have blkD:Blk (w9.alloc (.cells #[.slice A3 12 c3, .slice A4 12 c4] 234)) w9.heap.size 234 #[.slice A3 12 c3, .slice A4 12 c4]:=Blk.made _ _ _
  have z10:(w9.alloc (.cells #[.slice A3 12 c3, .slice A4 12 c4] 234)).heap.size=w9.heap.size+1:=by simp
  generalize w9.alloc (.cells #[.slice A3 12 c3, .slice A4 12 c4] 234)=wa at *
  have hb6a:Below w6.heap.size w6 wa:=HB7.out.trans ((HB78.out.mono z7).trans ((HB9.out.mono (by omega)).trans (hbel9.mono (by omega))))
  obtain⟨L,hL⟩:∃L:Nat->Prop,L=fun x=>K x∨w6.heap.size<=x/\x<wa.heap.size:=⟨_,rfl⟩
  have hWa:RW L wa w.heap.size g hd v6:=HW6.out.step hb6a (fun k h=>by rw[hL]at h;exact h)
  have hLO:∀x,x<w.heap.size->L x:=fun x h=>by rw[hL];exact .inl (HKO.out x (by omega))
  have hLN:∀x,w6.heap.size<=x->x<wa.heap.size->L x:=fun x h h'=>by rw[hL];exact .inr ⟨h,h'⟩
  have HCa:Hid (RCo wa w6.heap.size w7.heap.size (.slice A1 265 c1) (.slice A2 265 c2) ls):=HC7.out.kept (K:=fun x=>x<w7.heap.size) (Kept.of_below (HB78.out.trans ((HB9.out.mono (by omega)).trans (hbel9.mono (by omega)))) (fun k h=>h)) (fun k _ h=>h)
  have HDa:Hid (RCo wa w8.heap.size w9.heap.size (.slice A3 12 c3) (.slice A4 12 c4) lf):=HC9.out.kept (K:=fun x=>x<w9.heap.size) (Kept.of_below hbel9 (fun k h=>h)) (fun k _ h=>h)
  have HBCa:Hid (Blk wa w7.heap.size _ _):=(HBC.out.step HB9.out).step hbel9
  have HBDa:=hid blkD
  have HBa:Hid (Below w.heap.size w wa):=HB6.out.trans (hb6a.mono HB6.out.size)
  have HLO:=hid hLO
  have HLS2:Hid (∀x,w6.heap.size<=x->x<w7.heap.size->L x):=fun x h h'=>hLN x h (by omega)
  have HLF2:Hid (∀x,w8.heap.size<=x->x<w9.heap.size->L x):=fun x h h'=>hLN x (by omega) (by omega)
  have HLc:Hid (L w7.heap.size):=hLN _ z7 (by omega)
  have HLd:Hid (L w9.heap.size):=hLN _ (by omega) (by omega)
  have HWa:=hid hWa
  have hza:w7.heap.size<wa.heap.size/\w9.heap.size<wa.heap.size/\w.heap.size<=wa.heap.size:=by omega
  clear hbel9 blkD hb6a hL hWa hLO hLN HC7 HC9 HBC HB7 HB78 HB9 HW6 HKO HKN HKL HK46 HB6
  generalize w7.heap.size=cs at *
  generalize w9.heap.size=cf at *
  generalize w6.heap.size=lo6 at *
  generalize w8.heap.size=lo8 at *
  clear z1 z2 z3 z4 z5 z6 z7 z8 z9 z10 zs zf hgs hgf
  go_wp2_with fail
  go_loopw [16] (fun i wr=>∃ (k:Nat) (v:Value),k<=n/\i= .int .i64 k/\Hid (RW L wr w.heap.size g (hd++(ts.take k).flatMap (TW.adZ ls lf)) v)/\Hid (Kept L wa wr)) (fun i _=>n-(intOf i).toNat)
  case atStart=>exact⟨0,v6,by omega,rfl,by simpa using HWa,Kept.refl _ _⟩
  case round=>
   clear HWa
   obtain⟨k,v,hk,rfl,HW,HK⟩:=hrel
   have hzr:=HK.out.size
   have blkc:Blk wr cs _ _:=(HK.out.block cs HLc.out).trans HBCa.out
   have blkd:Blk wr cf _ _:=(HK.out.block cf HLd.out).trans HBDa.out
   have hCr:=HCa.out.kept HK.out HLS2.out
   have hDr:=HDa.out.kept HK.out HLF2.out
   by_cases hlt:k<n
   ·obtain⟨ob,off,rfl,hbb,hcell⟩:=HA.out (by omega)
    have hkl:k<ts.length:=by rw[HN.out];exact hlt
    have htm:=List.getElem_mem hkl
    have hbl:(World.heap wr)[ob]? =w.heap[ob]? :=(HK.out.block ob (HLO.out ob hbb)).trans (HBa.out.block ob hbb)
    have e0:=hcell k 0 hlt (by omega)
    have e1:=hcell k 1 hlt (by omega)
    have e2:=hcell k 2 hlt (by omega)
    simp only[Toks.ljZ,List.getD_eq_getElem?_getD,List.getElem?_eq_getElem hkl,Option.getD_some,Nat.add_zero,<-Nat.add_assoc]at e0 e1 e2
    have a0:=(World.cell?_of_block (a:=⟨ob,off+k*3,none⟩) hbl).trans e0
    have a1:=(World.cell?_of_block (a:=⟨ob,off+k*3+1,none⟩) hbl).trans e1
    have a2:=(World.cell?_of_block (a:=⟨ob,off+k*3+2,none⟩) hbl).trans e2
    have hokk:Toks.jcZ (ts.take k)=true:=by
     have h:=HOK.out
     unfold Toks.jcZ at h ⊢
     rw[List.all_eq_true]at h ⊢
     exact fun t ht=>h t (List.mem_of_mem_take ht)
    have hlen:=HTK.out k hokk
    rw[List.length_take]at hlen
    have hbsl:(hd++(ts.take k).flatMap (TW.adZ ls lf)).length<=2000000:=by rw[List.length_append];omega
    have HSN:=hid (TW.syZ (ls:=ls) (lf:=lf) hkl)
    obtain⟨hm,hs1,hs2⟩:=HWORDS.out _ htm
    have hl1:=HLIT.out _ htm
    have HSP:=fun w=>pqZ ts[k] w hl1.1 hl1.2
    have hsE:sdZ ts[k]=0:=by unfold sdZ;rw[if_pos hm]
    rw[hsE]at HSP
    have HAP:Hid (hd++(ts.take (k+1)).flatMap (TW.adZ ls lf)=hd++(ts.take k).flatMap (TW.adZ ls lf)++TW.adZ ls lf ts[k]):=by show _=_;rw[HSN.out,List.append_assoc]
    generalize ts[k]=tk at *
    generalize hd++(ts.take k).flatMap (TW.adZ ls lf)=bs at *
    have x0:(0:Int)<=(k:Int):=by omega
    have x1:(k:Int)<(n:Int):=by omega
    have LOB:=hid (HLO.out ob hbb)
    clear hcell hkl htm hbl e0 e1 e2 hokk hlen HSN hsE
    by_cases h0:tk.len=0
    ·have hp:=TW.ryZ hl1.1 h0 hm
     have htb:TW.adZ ls lf tk=word ls tk.lit.toNat:=by unfold TW.adZ;rw[if_pos h0,List.append_nil,hp,Int.toNat_natCast]
     rw[hp]at HSP hs1
     rw[htb]at HAP
     rw[Int.toNat_natCast]at hs1
     have hS:tk.lit.toNat<256:=by omega
     generalize tk.lit.toNat=S at *
     obtain⟨t1,t2,t3⟩:=tk
     simp only at h0
     subst h0
     simp only[Toks.Tk.val_mk,Toks.Pc.val_mk]at HSP a0 a1 a2
     have HSP:=hid HSP
     have H1:=hid (lgZ hs1)
     have HCr:=hid hCr
     clear hp htb hs1 hs2 hm hl1 hCr hDr
     go_wp2_with fail
     refine(HSP.out _).mono ?_
     rintro e w11 ⟨rfl,hb11⟩
     have z11:=hb11.size
     go_upto_region 17 with fail
     have hbel:Below wr.heap.size wr (w11.alloc (.cells #[.int .i64 S, .int .i64 0, .int .i64 0, .int .i64 0] 239)):=eZ z11 hb11
     have blkp:Blk (w11.alloc (.cells #[.int .i64 S, .int .i64 0, .int .i64 0, .int .i64 0] 239)) w11.heap.size 239 #[.int .i64 S, .int .i64 0, .int .i64 0, .int .i64 0]:=Blk.made _ _ _
     generalize w11.alloc (.cells #[.int .i64 S, .int .i64 0, .int .i64 0, .int .i64 0] 239)=w2b at *
     have z12:=blkp.lt
     obtain⟨M,hM⟩:∃M:Nat->Prop,M=fun x=>L x∨wr.heap.size<=x/\x<w2b.heap.size:=⟨_,rfl⟩
     have hW2:=HW.out.step (L:=M) hbel (fun k h=>by rw[hM]at h;exact h)
     have HML:Hid (∀k,L k->M k):=fun k h=>by rw[hM];exact .inl h
     have HMP:Hid (M w11.heap.size):=by show M _;rw[hM];exact .inr ⟨z11,z12⟩
     have HBL:Hid (Kept L wr w2b):=Kept.of_below hbel HW.out.kK
     have hCm:=HCr.out.kept HBL.out HLS2.out
     have C2:=hid (zmZ M w2b lo6 cs (.slice A1 265 c1) (.slice A2 265 c2) ls g w.heap.size v bs (S:Int) HOKS.out hCm (fun k h h'=>HML.out k (HLS2.out k h h')) H1.out (by omega) hW2)
     rw[Int.toNat_natCast]at C2
     have d1:=(World.cell?_of_block (a:=⟨ob,off+k*3+1,none⟩) (HBL.out.block ob LOB.out)).trans a1
     have q0:=(World.cell?_of_block (a:=⟨cs,0,none⟩) (HBL.out.block cs HLc.out)).trans (blkc.cell 0)
     have q1:=(World.cell?_of_block (a:=⟨cs,1,none⟩) (HBL.out.block cs HLc.out)).trans (blkc.cell 1)
     have p0:=blkp.cell 0
     have p1:=blkp.cell 1
     have p2:=blkp.cell 2
     have p3:=blkp.cell 3
     simp at p0 p1 p2 p3 q0 q1
     generalize w11.heap.size=pb at *
     have HBLKP:=hid blkp
     have HBEL:=hid hbel
     clear hbel blkp hW2 hCm hb11 HSP a0 a1 a2 hM
     go_wp2_with fail
     refine C2.out.mono ?_
     rintro e w12 ⟨rfl,v3,hW3,hk3⟩
     have y1:=(World.cell?_of_block (a:=⟨ob,off+k*3+1,none⟩) (hk3.block ob (HML.out _ LOB.out))).trans d1
     have HW3:=hid hW3
     have HK3:=hid hk3
     clear hW3 hk3 C2 d1 p0 q0 q1
     go_wp2_with fail
     go_roundw
     case measure=>go_light;simp[intOf];omega
     case rel=>go_light;exact⟨k+1,v3,by omega,by go_num,by rw[HAP.out];exact HW3.out.weak HML.out,HK.out.trans (HBL.out.trans (vkZ HK3.out HML.out))⟩
    ·obtain⟨b,Ln,D,F,hp,hb8,hD12,hL,hF⟩:=TW.yqZ h0 hm
     have htb:TW.adZ ls lf tk=word ls (257+b)++(msb Ln b b++(word lf D++msb F D D)):=by
      unfold TW.adZ
      rw[if_neg h0,hp]
      simp only[Int.toNat_natCast,Nat.add_sub_cancel_left]
     replace hs2:=hs2 h0
     have h3:3<=tk.len:=by
      unfold dcZ at hm
      rw[if_neg h0]at hm
      have:=of_decide_eq_true hm
      omega
     rw[hp]at HSP hs1 hs2
     rw[htb,<-List.append_assoc,<-List.append_assoc,<-List.append_assoc]at HAP
     simp only[Int.toNat_natCast]at hs1 hs2
     have hwl1:(word ls (257+b)).length<=15:=by rw[aeZ];exact TW.wiZ HSMS.out _
     have hwl2:(word lf D).length<=15:=by rw[aeZ];exact TW.wiZ HSMF.out _
     have hL8:Ln<256:=Nat.lt_of_lt_of_le hL (by have:2 ^ b<=2 ^ 8:=Nat.pow_le_pow_right (by omega) (by omega);omega)
     have hF12:F<4096:=Nat.lt_of_lt_of_le hF (by have:2 ^ D<=2 ^ 12:=Nat.pow_le_pow_right (by omega) (by omega);omega)
     have HLn:=hid hL
     have HF:=hid hF
     obtain⟨S,hS⟩:∃S,S=257+b:=⟨_,rfl⟩
     rw[<-hS]at HSP hs1 hwl1 HAP
     have w1x:IntKind.i64.wrap ((S:Int)-257)=(b:Int):=by rw[IntKind.wrap_i64];omega
     have w2x:IntKind.u64.wrap (Ln:Int)=(Ln:Int):=by rw[IntKind.wrap_u64];omega
     have w3x:IntKind.u64.wrap (F:Int)=(F:Int):=by rw[IntKind.wrap_u64];omega
     have hSb:S<=264:=by omega
     have hSl:257<=S:=by omega
     have hSe:(S:Int)-257=(b:Int):=by omega
     have HSe:=hid hSe
     obtain⟨t1,t2,t3⟩:=tk
     simp only at h3
     simp only[Toks.Tk.val_mk,Toks.Pc.val_mk]at HSP a0 a1 a2
     have HSP:=hid HSP
     have H1:=hid (lgZ hs1)
     have H2:=hid (lgZ hs2)
     have HCr:=hid hCr
     have HDr:=hid hDr
     have C4:=hid (fun(M:Nat->Prop) wx vx h=>rput_any M wx g w.heap.size vx (bs++word ls S) Ln b HLn.out (by omega) (by rw[List.length_append];omega) h)
     have C5:=fun(M:Nat->Prop) wx vx hc hM h=>zmZ M wx lo8 cf (.slice A3 12 c3) (.slice A4 12 c4) lf g w.heap.size vx (bs++word ls S++msb Ln b b) (D:Int) HOKF.out hc hM H2.out (by simp only[List.length_append,uZ];omega) h
     have C6:=hid (fun(M:Nat->Prop) wx vx h=>rput_any M wx g w.heap.size vx (bs++word ls S++msb Ln b b++word lf D) F D HF.out (by omega) (by simp only[List.length_append,uZ];omega) h)
     simp only[Int.toNat_natCast]at C5
     have C5:=hid C5
     clear hp htb hs1 hs2 hm hl1 hCr hDr h0 hL hF hS hSe hwl1 hwl2
     go_wp2_with fail
     refine(HSP.out _).mono ?_
     rintro e w11 ⟨rfl,hb11⟩
     have z11:=hb11.size
     go_upto_region 17 with fail
     have hbel:Below wr.heap.size wr (w11.alloc (.cells #[.int .i64 S, .int .i64 Ln, .int .i64 D, .int .i64 F] 239)):=eZ z11 hb11
     have blkp:Blk (w11.alloc (.cells #[.int .i64 S, .int .i64 Ln, .int .i64 D, .int .i64 F] 239)) w11.heap.size 239 #[.int .i64 S, .int .i64 Ln, .int .i64 D, .int .i64 F]:=Blk.made _ _ _
     generalize w11.alloc (.cells #[.int .i64 S, .int .i64 Ln, .int .i64 D, .int .i64 F] 239)=w2b at *
     have z12:=blkp.lt
     obtain⟨M,hM⟩:∃M:Nat->Prop,M=fun x=>L x∨wr.heap.size<=x/\x<w2b.heap.size:=⟨_,rfl⟩
     have hW2:=HW.out.step (L:=M) hbel (fun k h=>by rw[hM]at h;exact h)
     have HML:Hid (∀k,L k->M k):=fun k h=>by rw[hM];exact .inl h
     have HMP:Hid (M w11.heap.size):=by show M _;rw[hM];exact .inr ⟨z11,z12⟩
     have HBL:Hid (Kept L wr w2b):=Kept.of_below hbel HW.out.kK
     have hCm:=HCr.out.kept HBL.out HLS2.out
     have C2:=hid (zmZ M w2b lo6 cs (.slice A1 265 c1) (.slice A2 265 c2) ls g w.heap.size v bs (S:Int) HOKS.out hCm (fun k h h'=>HML.out k (HLS2.out k h h')) H1.out (by omega) hW2)
     rw[Int.toNat_natCast]at C2
     have d1:=(World.cell?_of_block (a:=⟨ob,off+k*3+1,none⟩) (HBL.out.block ob LOB.out)).trans a1
     have q0:=(World.cell?_of_block (a:=⟨cs,0,none⟩) (HBL.out.block cs HLc.out)).trans (blkc.cell 0)
     have q1:=(World.cell?_of_block (a:=⟨cs,1,none⟩) (HBL.out.block cs HLc.out)).trans (blkc.cell 1)
     have p0:=blkp.cell 0
     have p1:=blkp.cell 1
     have p2:=blkp.cell 2
     have p3:=blkp.cell 3
     simp at p0 p1 p2 p3 q0 q1
     generalize w11.heap.size=pb at *
     have HBLKP:=hid blkp
     have HBEL:=hid hbel
     clear hbel blkp hW2 hCm hb11 HSP a0 a1 a2 hM
     go_wp2_with fail
     refine C2.out.mono ?_
     rintro e w12 ⟨rfl,v3,hW3,hk3⟩
     have y1:=(World.cell?_of_block (a:=⟨ob,off+k*3+1,none⟩) (hk3.block ob (HML.out _ LOB.out))).trans d1
     have b0:=(World.cell?_of_block (a:=⟨pb,0,none⟩) (hk3.block pb HMP.out)).trans p0
     have b1:=(World.cell?_of_block (a:=⟨pb,1,none⟩) (hk3.block pb HMP.out)).trans p1
     have C4:=hid (C4.out M w12 v3 hW3)
     have HK3:Hid (Kept M w2b w12):=hk3
     clear hW3 hk3 C2 d1 p0 p1 p2 p3 q0 q1
     go_wp2_with fail
     refine C4.out.mono ?_
     rintro e w13 ⟨rfl,v4,hW4,hk4⟩
     have HK4:Hid (Kept M w2b w13):=HK3.out.trans hk4
     have q0:=(World.cell?_of_block (a:=⟨cf,0,none⟩) (HK4.out.block cf (HML.out _ HLd.out))).trans ((World.cell?_of_block (a:=⟨cf,0,none⟩) (HBL.out.block cf HLd.out)).trans (blkd.cell 0))
     have q1:=(World.cell?_of_block (a:=⟨cf,1,none⟩) (HK4.out.block cf (HML.out _ HLd.out))).trans ((World.cell?_of_block (a:=⟨cf,1,none⟩) (HBL.out.block cf HLd.out)).trans (blkd.cell 1))
     have b2:=(HK4.out.block pb HMP.out).trans HBLKP.out
     have b2:=Blk.cell b2 2
     simp at q0 q1 b2
     have C5:=hid (C5.out M w13 v4 ((HDr.out.kept HBL.out HLF2.out).kept HK4.out (fun k h h'=>HML.out k (HLF2.out k h h'))) (fun k h h'=>HML.out k (HLF2.out k h h')) hW4)
     clear hW4 hk4 C4 y1 b0 b1 HK3
     go_wp2_with fail
     refine C5.out.mono ?_
     rintro e w14 ⟨rfl,v5,hW5,hk5⟩
     have HK5:Hid (Kept M w2b w14):=HK4.out.trans hk5
     have b3:=(HK5.out.block pb HMP.out).trans HBLKP.out
     have b2:=Blk.cell b3 2
     have b3:=Blk.cell b3 3
     simp at b2 b3
     have C6:=hid (C6.out M w14 v5 hW5)
     clear hW5 hk5 C5 q0 q1 HK4
     go_wp2_with fail
     refine C6.out.mono ?_
     rintro e w15 ⟨rfl,v6,hW6,hk6⟩
     have HK6:Hid (Kept M w2b w15):=HK5.out.trans hk6
     have HW6:=hid hW6
     clear hW6 hk6 C6 b2 b3 HK5
     go_wp2_with fail
     go_roundw
     case measure=>go_light;simp[intOf];omega
     case rel=>go_light;exact⟨k+1,v6,by omega,by go_num,by rw[HAP.out];exact HW6.out.weak HML.out,HK.out.trans (HBL.out.trans (vkZ HK6.out HML.out))⟩
   ·obtain rfl:k=n:=by omega
    have htk:ts.take k=ts:=List.take_of_length_le (by rw[HN.out];exact Nat.le_refl _)
    rw[htk]at HW
    have htl:=HTL.out
    rw[HN.out]at htl
    have C2:=hid (zmZ L wr lo6 cs (.slice A1 265 c1) (.slice A2 265 c2) ls g w.heap.size v (hd++ts.flatMap (TW.adZ ls lf)) 256 HOKS.out hCr HLS2.out HEND.out (by rw[List.length_append];omega) HW.out)
    change Hid (Calls _ _ _ _ (fun e w'=>_/\∃v',RW L w' _ g (hd++ts.flatMap (TW.adZ ls lf)++word ls 256) v'/\_))at C2
    rw[List.append_assoc]at C2
    have hbl:(hd++(ts.flatMap (TW.adZ ls lf)++word ls 256)).length<=6000000:=by
     rw[List.length_append,List.length_append];omega
    obtain⟨bits,hbits⟩:∃bits,bits=hd++(ts.flatMap (TW.adZ ls lf)++word ls 256):=⟨_,rfl⟩
    rw[<-hbits]at C2 hbl
    have HBITS:=hid hbits
    clear hbits
    have q0:=blkc.cell 0
    have q1:=blkc.cell 1
    simp at q0 q1
    clear htk htl HW hCr hDr
    go_wp2_with fail
    refine C2.out.mono ?_
    rintro e w12 ⟨rfl,v3,hW3,hk3⟩
    obtain⟨A7,c7,rfl⟩:=bZ hW3.own
    obtain⟨hn2,hr2⟩:=hW3.rowOf
    have hg0:=hW3.blk.cell 0
    simp only[List.getElem?_toArray,List.getElem?_cons_zero]at hg0
    have hK3:Kept L wa w12:=HK.out.trans hk3
    have zk:=hK3.size
    have C4:=hid (rbytes_any w12 g A7 _ c7 bits hn2 (by omega) hg0 hW3.blk.lt hr2)
    have HK3:=hid hK3
    clear hW3 hk3 hK3 hn2 hr2 hg0 hbl C2 q0 q1
    go_wp2_with fail
    refine C4.out.mono ?_
    rintro e w13 ⟨v8,rfl,hv8,hb8⟩
    go_wp2_with fail
    go_ret2
    rw[<-HBITS.out]
    exact⟨v8,rfl,nZ hv8 (by omega),HBa.out.trans ((HK3.out.below HLO.out).trans (hb8.mono (by omega)))⟩
 ·have:=HOK.out
  rw[h]at this
  cases this
theorem dtZ(w:World)(A:Option Addr)(n c:Nat)(ts:List Tk)(hn:ts.length=n)(hN:n<=16000)(hlit:∀t∈ts,0<=t.lit/\t.lit<=255)(ha:Row w w.heap.size A n 3 (Toks.ljZ ts)):
 Calls Tryz.prog 204 #[.slice A n c] w (weZ ts w):=by
 cases hok:Toks.jcZ ts
 ·exact ieZb w A n c ts hn (by omega) hlit ha hok
 ·exact piZb w A n c ts hn hN hlit ha hok
end Go.Proofs.YtmlaajebadfkoaaGreatDoor.Huff
