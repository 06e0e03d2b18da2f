/- The walks of words.Words, words.split and their two closures. The walk -/
import Derived.Test.YtmlaajebadfkoaaGreatDoorZTwoPacks12
import Derived.Test.YtmlaajebadfkoaaGreatDoorZTwoPacks11
import Derived.Lib.MinMax
import Derived.Deep.RegionHeld3
namespace Go.Proofs.YtmlaajebadfkoaaGreatDoor end Go.Proofs.YtmlaajebadfkoaaGreatDoor open Go.Proofs.YtmlaajebadfkoaaGreatDoor
open Go.Lib (hid)
set_option maxHeartbeats 1000000
set_option maxRecDepth 100000
namespace Go.Proofs.YtmlaajebadfkoaaGreatDoor.Sift
open Go.RowKit Mem Own Canon
section
variable {wx w4:World} {g base:Nat} {t e:TypeId} {s n:Nat} {v:Value} {xs cs}
theorem blk_over{row:Option Nat}{o:Obj}{p:Addr}(h:Blk wx g t cs)(hg:(wx.alloc o).grownBy w4 row)(hr:row≠some g)(hp:g≠p.block)(u:Value):Blk (w4.setCell p u) g t cs:=
 ((h.alloc o).grown hg (fun e=>hr e.symm)).far hp u
theorem oaZb{row:Option Nat}{o:Obj}{p:Addr}(h:wx.ownsRow base e s v n xs)(hg:(wx.alloc o).grownBy w4 row)(hr:∀g,v.ownBlock=some g->row≠some g/\g≠p.block)(u:Value):(w4.setCell p u).ownsRow base e s v n xs:=
 fZ h fun b hb=>by
  obtain⟨h1,h2⟩:=hr b hb
  have h3:=(World.ownsRow.lt h b hb).2
  exact(Below.heap_setCell w4 p u b h2).trans ((hg.block b (by simp;omega) (fun e=>h1 e.symm)).trans (Below.heap_alloc wx o b h3))
theorem sbZ{p:Addr}(h:wx.ownsRow base e s v n xs)(hr:v.ownBlock≠some p.block)(u:Value):(wx.setCell p u).ownsRow base e s v n xs:=
 fZ h fun b hb=>Below.heap_setCell wx p u b (fun e=>hr (e ▸ hb))
end
structure WSt (base:Nat) (a w:World) (bo bw br:Nat) (ws:List (List UInt8)) (row:List UInt8) (fv vo vr:Value):Prop where
 below:Below base a w
 o:Blk w bo 41 #[vo]
 f:Blk w bw 227 #[fv]
 r:Blk w br 29 #[vr]
 oo:w.ownsRow base 9 1 vo ws.length (abZ ws)
 ro:w.ownsRow base 5 1 vr row.length (byL row)
 lo:base<=bo
 lr:base<=br
 la:base<=a.heap.size
section
variable {base:Nat} {a w w4:World} {bo bw br:Nat} {ws:List (List UInt8)} {row:List UInt8} {fv vo vr v4:Value}
theorem WSt.drew(h:WSt base a w bo bw br ws row fv vo vr):WSt base a w.drew bo bw br ws row fv vo vr:=⟨h.below.drew,h.o,h.f,h.r,h.oo,h.ro,h.lo,h.lr,h.la⟩
theorem WSt.row_app{o:Obj}(h:WSt base a w bo bw br ws row fv vo vr)(c:UInt8)(own4:w4.ownsRow base 5 1 v4 (row.length+1) (byL row++ [.int .u8 (c.toNat:Nat)]))(hg:(w.alloc o).grownBy w4 vr.ownBlock):
 WSt base a (w4.setCell ⟨br,0,none⟩ v4) bo bw br ws (row++ [c]) fv vo v4:=by
 have hz:=h.below.size
 have hb4:Below base a w4:=(eZ (by have:=h.la;omega) h.below).grown hg (by simp;have:=h.la;omega) (fun y hy=>(World.ownsRow.lt h.ro y hy).1)
 refine⟨hb4.setCell h.lr _,blk_over h.o hg (kZ h.ro h.o (by decide)) (Blk.apart h.o h.r (by decide)) _,blk_over h.f hg (kZ h.ro h.f (by decide)) (Blk.apart h.f h.r (by decide)) _,?_,oaZb h.oo hg (fun g hg2=>⟨?_,?_⟩) _,?_,h.lo,h.lr,h.la⟩
 ·exact(((h.r.alloc o).grown hg (fun e=>kZ h.ro h.r (by decide) e.symm))).set 0 v4
 ·intro e
  rcases qcZ h.oo h.ro (by decide)with h1|h1
  ·rw[h1]at hg2;cases hg2
  ·exact h1 (hg2.trans e.symm)
 ·intro e;exact kZ h.oo h.r (by decide) (hg2.trans (congrArg some e))
 ·have hb:=(h.r.alloc o).grown hg (fun e=>kZ h.ro h.r (by decide) e.symm)
  rw[List.length_append,qtZ]
  exact sbZ own4 (kZ own4 hb (by decide)) _
theorem WSt.word_app{o:Obj}(h:WSt base a w bo bw br ws row fv vo vr)(x:List UInt8)(own4:w4.ownsRow base 9 1 v4 (ws.length+1) (abZ ws++ [.string (bs x)]))(hg:(w.alloc o).grownBy w4 vo.ownBlock):
 WSt base a (w4.setCell ⟨bo,0,none⟩ v4) bo bw br (ws++ [x]) row fv v4 vr:=by
 have hz:=h.below.size
 have hb4:Below base a w4:=(eZ (by have:=h.la;omega) h.below).grown hg (by simp;have:=h.la;omega) (fun y hy=>(World.ownsRow.lt h.oo y hy).1)
 refine⟨hb4.setCell h.lo _,?_,blk_over h.f hg (kZ h.oo h.f (by decide)) (Blk.apart h.f h.o (by decide)) _,blk_over h.r hg (kZ h.oo h.r (by decide)) (Blk.apart h.r h.o (by decide)) _,?_,oaZb h.ro hg (fun g hg2=>⟨?_,?_⟩) _,h.lo,h.lr,h.la⟩
 ·exact(((h.o.alloc o).grown hg (fun e=>kZ h.oo h.o (by decide) e.symm))).set 0 v4
 ·have hb:=(h.o.alloc o).grown hg (fun e=>kZ h.oo h.o (by decide) e.symm)
  rw[List.length_append,ehZ]
  exact sbZ own4 (kZ own4 hb (by decide)) _
 ·intro e
  rcases qcZ h.ro h.oo (by decide)with h1|h1
  ·rw[h1]at hg2;cases hg2
  ·exact h1 (hg2.trans e.symm)
 ·intro e;exact kZ h.ro h.o (by decide) (hg2.trans (congrArg some e))
theorem WSt.row_cut{A:Option Addr}{n c:Nat}(h:WSt base a w bo bw br ws row fv vo (.slice A n c)):WSt base a (w.setCell ⟨br,0,none⟩ (.slice A 0 c)) bo bw br ws [] fv vo (.slice A 0 c):=by
 refine⟨h.below.setCell h.lr _,h.o.far (Blk.apart h.o h.r (by decide)) _,h.f.far (Blk.apart h.f h.r (by decide)) _,h.r.set 0 _,sbZ h.oo (kZ h.oo h.r (by decide)) _,?_,h.lo,h.lr,h.la⟩
 have h2:w.ownsRow base 5 1 (.slice A 0 c) 0 []:=by
  rcases h.ro.2 with ⟨hv,_⟩|⟨g,cap,cur,hv,hg,hh,_,hcp,hcs,_⟩
  ·injection hv with e1 e2 e3
   subst e1 e3
   exact World.ownsRow_nil _ _ _ _
  ·injection hv with e1 e2 e3
   subst e1 e3
   exact⟨by simp, .inr ⟨g,c,cur,rfl,hg,hh,Nat.zero_le _,hcp,hcs,by simp⟩⟩
 exact sbZ h2 (kZ h2 h.r (by decide)) _
end
theorem paZb{P:Program}{t e:TypeId}{s:Nat}(ht:P.underlying t=some (.slice e))(hs:∀w,(sizeOf e).run P w= .ok s w)(g o len cap:Nat)(kh:IntKind)(h:Int)(m:Nat)(hh:h=m)(hm:m<=cap)(w:World):
 (Instr.slice t (.slice (some ⟨g,o,none⟩) len cap) none (some (.int kh h)) none).run P w= .ok (.slice (some ⟨g,o,none⟩) m cap) w:=by
 subst hh
 have he:P.elem t=e:=by simp[Program.elem,ht]
 rw[run_slice_h w t (some ⟨g,o,none⟩) len cap (by rw[he];exact ht) kh (m:Int) (by omega) (by omega),he,hs]
 simp[Result.andThen,sliced,skZ]
theorem shZ{w:World}{base n c m:Nat}{g:Nat}{l:List UInt8}(h:w.ownsRow base 5 1 (.slice (some ⟨g,0,none⟩) n c) n (byL l))(hn:l.length=n)(hm:m<=n):
 ∀wx:World,wx.heap[g]? =w.heap[g]? ->(convert 29 9 (.slice (some ⟨g,0,none⟩) m c)).run Tryz.prog wx= .ok (.string (bs (l.take m))) wx:=by
 intro wx hb
 have hz:(bs (l.take m)).size=m:=by rw[ybZ,List.length_take];omega
 have hby:Lib.Bytes wx g 0 (bs (l.take m)):=by
  intro i hi
  rw[hz]at hi
  have hi':i<l.length:=by omega
  rw[Nat.zero_add,World.cell?_of_block (a:=⟨g,i,none⟩) hb,h.cellAt i (by omega),tzZ (l.take m) i (by rw[hz];exact hi),List.getElem_take]
  exact cfZb (List.getElem?_eq_getElem hi')
 have kd:=Lib.run_convert_whole (P:=Tryz.prog) wx 29 5 9 Tryz.underlying29 Tryz.underlying5 Tryz.underlying9 g 0 (bs (l.take m)) hby c
 rw[hz]at kd
 exact kd
end Go.Proofs.YtmlaajebadfkoaaGreatDoor.Sift
namespace Go.Proofs.YtmlaajebadfkoaaGreatDoor.Sift
open Go.RowKit Mem Own Canon
theorem kkZ(row:List UInt8):(tell row).length<=row.length:=by
 unfold tell
 split
 ·simp
 ·rename_i h
  have:=List.length_pos_iff.2 h
  simp
  omega
end Go.Proofs.YtmlaajebadfkoaaGreatDoor.Sift
namespace Go.Proofs.YtmlaajebadfkoaaGreatDoor.Sift
open Go.RowKit Mem Own Canon
open Go.Proofs.YtmlaajebadfkoaaGreatDoor.Idx (cgZ)
def ogZ(f:List UInt8->List UInt8)(ws0:List (List UInt8))(s:ByteArray)(base:Nat)(a:World)(bo:Nat)(e:Ending)(w':World):Prop:=
 e= .returned (.tuple #[])/\Below base a w'/\∃vo,Blk w' bo 41 #[vo]/\w'.ownsRow base 9 1 vo (ws0++(words s.data.toList).map f).length (abZ (ws0++(words s.data.toList).map f))
theorem njZb(x:List UInt8):(ByteArray.mk #[64])++bs x=bs (cgZ :: x):=by
 apply ByteArray.ext
 rw[ByteArray.data_append]
 apply Array.ext'
 simp[bs,cgZ]
def idS(x:List UInt8):List UInt8:=x
def atS(x:List UInt8):List UInt8:=cgZ :: x
theorem urZb(base:Nat)(a w:World)(bo bw br:Nat)(ws:List (List UInt8))(row x:List UInt8)(fv vo vr:Value)(hl:ws.length<=100000)(h:WSt base a w bo bw br ws row fv vo vr):
 Calls Tryz.prog 177 #[.string (bs x), .pointer (some ⟨bo,0,none⟩)] w fun e w'=>e= .returned (.tuple #[])/\∃vo',WSt base a w' bo bw br (ws++ [idS x]) row fv vo' vr:=by
 obtain⟨j1,hj1,hz0,hz1,hz2⟩:=info_parts zlZ
 obtain⟨A,c,rfl⟩:=bZ h.oo
 have c0:=h.o.cell 0
 have f0:=h.o.frozen 0
 simp only[List.getElem?_toArray,List.getElem?_cons_zero]at c0
 have hz:=h.below.size
 have hla:=h.la
 have H:=hid h
 generalize hn:ws.length=n at *
 have HN:=hid hn
 clear h hn
 go_enter Tryz.func177,Tryz.ntmps177
 go_wp2_with(at_builtin;refine hZ rfl (.tmp 3) (.tmp 5) 41 rfl base 9 j1 _ 1 16 Tryz.underlying41 hj1 hz0 hz1 hz2 rfl (by decide) _ _ _ (by rfl) ((HN.out ▸ H.out.oo).alloc _) _ 1 1 [.string (bs x)] (by rfl) (Src.of_blk (Blk.made _ _ _) 1 1 1 rfl) (by intro u hu;simp at hu;rcases hu with rfl;rfl) (by unfold maxLen;omega) (by omega) (by simp;omega) ?_;intro v4 w4 hown4 hg4 hat4;obtain⟨A4,k4,rfl⟩:=bZ hown4;have f4:w4.frozen? ⟨bo,0,none⟩=false:=(((H.out.o.alloc _).grown hg4 (fun e=>kZ H.out.oo H.out.o (by decide) e.symm))).frozen 0;have c4:w4.cell? ⟨bo,0,none⟩=some (.slice A n c):=(((H.out.o.alloc _).grown hg4 (fun e=>kZ H.out.oo H.out.o (by decide) e.symm))).cell 0)
 refine bodyPost_end (results_none rfl _ _ _) rfl ?_
 exact⟨rfl,_,H.out.word_app (idS x) (HN.out ▸ hown4) hg4⟩
def fiZ(bo:Nat):Value:= .func (.func 177) #[] #[.pointer (some ⟨bo,0,none⟩)]
theorem vgZb(base:Nat)(a w:World)(bo bw br:Nat)(ws:List (List UInt8))(vo vr:Value)
 (h:WSt base a w bo bw br ws [] (fiZ bo) vo vr):
 Calls Tryz.prog 226 #[.pointer (some ⟨br,0,none⟩), .pointer (some ⟨bw,0,none⟩)] w fun e w'=>e= .returned (.tuple #[])/\∃vo' vr',WSt base a w' bo bw br (ws++(tell []).map idS) [] (fiZ bo) vo' vr':=by
 rw[show(tell []).map idS= [] from rfl,List.append_nil]
 obtain⟨A,c,rfl⟩:=bZ h.ro
 have c0:=h.r.cell 0
 have f0:=h.r.frozen 0
 simp only[List.getElem?_toArray,List.getElem?_cons_zero,List.length_nil]at c0
 have H:=hid h
 clear h
 go_enter Tryz.func226,Tryz.ntmps226
 go_wp2_with fail
 refine bodyPost_end (results_none rfl _ _ _) rfl ?_
 exact⟨rfl,_,_,H.out.row_cut⟩
theorem odZb(base:Nat)(a w:World)(bo bw br:Nat)(ws:List (List UInt8))(row:List UInt8)(vo vr:Value)(hl:ws.length<=100000)(hr:row.length<=100000)(h0:row≠ [])
 (h:WSt base a w bo bw br ws row (fiZ bo) vo vr):
 Calls Tryz.prog 226 #[.pointer (some ⟨br,0,none⟩), .pointer (some ⟨bw,0,none⟩)] w fun e w'=>e= .returned (.tuple #[])/\∃vo' vr',WSt base a w' bo bw br (ws++(tell row).map idS) [] (fiZ bo) vo' vr':=by
 have ht:(tell row).map idS= [idS (row.take 24)]:=by rw[show tell row= [row.take 24] from if_neg h0];rfl
 rw[ht]
 have hrl:0<row.length:=List.length_pos_iff.2 h0
 obtain⟨g,c,rfl⟩:∃g c,vr= .slice (some ⟨g,0,none⟩) row.length c:=by
  obtain⟨g,c,hv,_⟩:=h.ro.form hrl
  exact⟨g,c,hv⟩
 have c0:=h.r.cell 0
 have f0:=h.r.frozen 0
 have c1:=h.f.cell 0
 simp only[List.getElem?_toArray,List.getElem?_cons_zero]at c0 c1
 have D:=urZb base a w.drew bo bw br ws row (row.take 24) _ _ _ hl h.drew
 obtain⟨M,hM⟩:∃M,M=min row.length 24:=⟨_,rfl⟩
 have kd:=shZ (m:=M) h.ro rfl (by omega) w.drew rfl
 have KD:∀ (w':World) base a bo bw br ws fv vo,WSt base a w' bo bw br ws row fv vo (.slice (some ⟨g,0,none⟩) row.length c)->(convert 29 9 (.slice (some ⟨g,0,none⟩) M c)).run Tryz.prog w'= .ok (.string (bs (row.take M))) w':=fun w' _ _ _ _ _ _ _ _ h'=>shZ (m:=M) h'.ro rfl (by omega) w' rfl
 have htm:row.take M=row.take 24:=by
  rw[hM]
  by_cases h24:row.length<=24
  ·rw[Nat.min_eq_left h24,List.take_of_length_le (by omega),List.take_of_length_le h24]
  ·rw[Nat.min_eq_right (by omega)]
 rw[htm]at kd KD
 have hmn:min (row.length:Int) 24=(M:Int):=by omega
 have hwf:=(mjZ h.ro).2
 have ks:=fun wx=>paZb (P:=Tryz.prog) (t:=29) (s:=1) Tryz.underlying29 (fun _=>by kernel_rfl) g 0 row.length c .i64 (M:Int) M rfl (by omega) wx
 have H:=hid h
 have D:=hid D
 generalize hn:row.length=n at *
 have g1:decide (0<n)=true:=by simp;omega
 clear h hn h0 ht hM htm
 unfold fiZ at c1
 go_enter Tryz.func226,Tryz.ntmps226
 go_upto_region 1 with fail
 go_region_held3 (fun wx=>wx.cell? ⟨br,0,none⟩=some (.slice (some ⟨g,0,none⟩) n c)/\wx.cell? ⟨bw,0,none⟩=some (.func (.func 177) #[] #[.pointer (some ⟨bo,0,none⟩)])/\(convert 29 9 (.slice (some ⟨g,0,none⟩) M c)).run Tryz.prog wx= .ok (.string (bs (row.take 24))) wx) (first|exact⟨c0,c1,kd⟩|exact k0) (first|(go_at_call 177;(with_reducible refine D.out.mono ?_);rintro e w' ⟨rfl,vo',h'⟩;have k0:w'.cell? ⟨br,0,none⟩=some (.slice (some ⟨g,0,none⟩) n c)/\w'.cell? ⟨bw,0,none⟩=some (.func (.func 177) #[] #[.pointer (some ⟨bo,0,none⟩)])/\(convert 29 9 (.slice (some ⟨g,0,none⟩) M c)).run Tryz.prog w'= .ok (.string (bs (row.take 24))) w':=⟨h'.r.cell 0,h'.f.cell 0,KD w' _ _ _ _ _ _ _ _ h'⟩))
 obtain⟨c2,c3,_⟩:=k0
 have f2:=h'.r.frozen 0
 have H':=hid h'
 clear h' D H c0 f0 c1
 go_wp2_with fail
 refine bodyPost_end (results_none rfl _ _ _) rfl ?_
 exact⟨rfl,_,_,H'.out.row_cut⟩
theorem wuZ(base:Nat)(a w:World)(bo bw br:Nat)(ws:List (List UInt8))(row:List UInt8)(vo vr:Value)(hl:ws.length<=100000)(hr:row.length<=100000)
 (h:WSt base a w bo bw br ws row (fiZ bo) vo vr):
 Calls Tryz.prog 226 #[.pointer (some ⟨br,0,none⟩), .pointer (some ⟨bw,0,none⟩)] w fun e w'=>e= .returned (.tuple #[])/\∃vo' vr',WSt base a w' bo bw br (ws++(tell row).map idS) [] (fiZ bo) vo' vr':=by
 by_cases h0:row= []
 ·subst h0;exact vgZb base a w bo bw br ws vo vr h
 ·exact odZb base a w bo bw br ws row vo vr hl hr h0 h
theorem pdZb(base:Nat)(a w:World)(bo:Nat)(s:ByteArray)(ws0:List (List UInt8))(v0:Value)(hs:s.size<=100000)(h0:ws0.length<=50000)(hs2:s.size<=50000)(hb:Below base a w)(hla:base<=a.heap.size)(ho:Blk w bo 41 #[v0])(hw0:w.ownsRow base 9 1 v0 ws0.length (abZ ws0))(hlo:base<=bo):
 Calls Tryz.prog 176 #[.string s,fiZ bo] w (ogZ idS ws0 s base a bo):=by
 obtain⟨j0,hj0,hy0,hy1,hy2⟩:=info_parts hbZ
 have hlen:=Lib.size_eq s
 obtain⟨l,hl⟩:∃l,l=s.data.toList:=⟨_,rfl⟩
 have HL:=hid hl
 rw[<-hl]at hlen
 have HLEN:=hid hlen
 unfold ogZ words
 rw[<-hl]
 have hz:=hb.size
 have HB:=hid hb
 have HO:=hid ho
 have HW0:=hid hw0
 clear hl hlen hb ho hw0
 unfold fiZ
 go_enter Tryz.func176,Tryz.ntmps176
 go_wp2_with fail
 go_loopw [12] (fun i wx=>∃ (k:Nat) (ws:List (List UInt8)) (row:List UInt8) (vo vr:Value),k<=s.size/\i= .int .i64 k/\Hid (ws.length+row.length<=ws0.length+k)/\Hid (ws++(split row (l.drop k)).map idS=ws0++(split [] l).map idS)/\Hid (WSt base a wx bo w.heap.size (w.heap.size+1) ws row (fiZ bo) vo vr)) (fun i _=>s.size-(intOf i).toNat)
 case atStart=>
  refine⟨0,ws0,[],v0, .slice none 0 0,by omega,rfl,(by show _<=_;simp),by show _=_;simp,?_⟩
  refine⟨eZ (by simp;omega) (eZ (by omega) HB.out),(HO.out.alloc _).alloc _,(Blk.made _ _ _).alloc _,Blk.made_at _ _ _ (by simp),(HW0.out.alloc _).alloc _,World.ownsRow_nil _ _ _ _,hlo,by omega,hla⟩
 case round=>
  obtain⟨k,ws,row,vo,vr,hk,rfl,hq,hW,H⟩:=hrel
  have hqq:=hq.out
  by_cases hlt:k<s.size
  ·have hd:=drop_at hlt
   rw[<-HL.out]at hd
   have hw:=hW.out
   rw[hd,split]at hw
   have hu:=UInt8.toNat_lt s[k]
   have hlb:=seZ s[k]
   have D:=fun wx=>hsZ s[k].toNat hu wx
   have x0:(0:Int)<=(k:Int):=by omega
   have x1:(k:Int)<(s.size:Int):=by omega
   cases hc:ucZ s[k]
   ·rw[hc]at hw hlb
    rw[if_neg (by simp),List.map_append,<-List.append_assoc]at hw
    rw[<-hlb]at D
    have D:=hid D
    have HW2:=hid hw
    have T:=hid (wuZ base a wr bo w.heap.size (w.heap.size+1) ws row vo vr (by omega) (by omega) H.out)
    have htl:=kkZ row
    clear hd hw hlb hu hc hW
    go_wp2_with fail
    refine(D.out _).mono ?_
    rintro e w1 ⟨rfl,rfl⟩
    go_wp2_with fail
    refine T.out.mono ?_
    rintro e w1 ⟨rfl,vo',vr',h'⟩
    have H':=hid h'
    clear T D h' H
    go_wp2_with fail
    go_roundw
    case measure=>go_light;simp[intOf];omega
    case rel=>go_light;exact⟨k+1,ws++(tell row).map idS,[],vo',vr',by omega,by go_num,by show _<=_;rw[List.length_append,List.length_nil,List.length_map];omega,HW2.out,H'.out⟩
   ·rw[hc]at hw hlb
    rw[if_pos rfl]at hw
    rw[<-hlb]at D
    obtain⟨A,c,rfl⟩:=bZ H.out.ro
    have c0:=H.out.r.cell 0
    simp only[List.getElem?_toArray,List.getElem?_cons_zero]at c0
    have hsn:=ijZ s[k]
    have happ:=fun w4 v4 o own4 hg=>H.out.row_app (w4:=w4) (v4:=v4) (o:=o) (rdZ (s[k]'hlt)) own4 hg
    have HA:=hid happ
    rw[<-hsn]at D
    generalize rdZ s[k]=x at *
    have D:=hid D
    have HW2:=hid hw
    have hwz:=H.out.below.size
    have HRO:=hid H.out.ro
    have hrr:=H.out.r
    have HRR:=hid hrr
    clear hd hw hlb hu hc hW happ hsn hrr
    generalize hn:row.length=n at *
    have HN:=hid hn
    clear hn
    go_wp2_with fail
    refine(D.out _).mono ?_
    rintro e w1 ⟨rfl,rfl⟩
    go_wp2_with(at_builtin;refine hZ rfl (.tmp 23) (.tmp 25) 29 rfl base 5 j0 _ 1 1 Tryz.underlying29 hj0 hy0 hy1 hy2 rfl (by decide) _ _ _ (by rfl) (HRO.out.alloc _) _ 1 1 [.int .u8 x.toNat] (by rfl) (Src.of_blk (Blk.made _ _ _) 1 1 1 rfl) (by intro u hu;simp at hu;rcases hu with rfl;rfl) (by unfold maxLen;omega) (by omega) (by simp;omega) ?_;intro v4 w4 hown4 hg4 hat4;obtain⟨A4,k4,rfl⟩:=bZ hown4;have f4:w4.frozen? ⟨w.heap.size+1,0,none⟩=false:=(((HRR.out.alloc _).grown hg4 (fun e=>kZ HRO.out HRR.out (by decide) e.symm))).frozen 0;have c4:w4.cell? ⟨w.heap.size+1,0,none⟩=some (.slice A n c):=(((HRR.out.alloc _).grown hg4 (fun e=>kZ HRO.out HRR.out (by decide) e.symm))).cell 0)
    go_roundw
    case measure=>go_light;simp[intOf];omega
    case rel=>
     go_light
     refine⟨k+1,ws,row++ [x],vo,_,by omega,by go_num,?_,HW2.out,HA.out w4 _ _ (HN.out ▸ hown4) hg4⟩
     show _<=_;rw[List.length_append,HN.out];simp;omega
  ·obtain rfl:k=s.size:=by omega
   have hw:=hW.out
   rw[List.drop_of_length_le (by rw[HLEN.out];exact Nat.le_refl _),split]at hw
   have T:=hid (wuZ base a wr bo w.heap.size (w.heap.size+1) ws row vo vr (by omega) (by omega) H.out)
   have HW2:=hid hw
   clear hw hW H
   go_wp2_with fail
   refine T.out.mono ?_
   rintro e w1 ⟨rfl,vo',vr',h'⟩
   have H':=hid h'
   clear T h'
   go_wp2_with fail
   refine bodyPost_end (results_none rfl _ _ _) rfl ?_
   refine⟨rfl,H'.out.below,vo',H'.out.o,?_⟩
   show World.ownsRow _ _ _ _ _ (ws0++(split [] l).map idS).length (abZ (ws0++(split [] l).map idS))
   rw[<-HW2.out]
   exact H'.out.oo
theorem vrZb(base:Nat)(a w:World)(bo bw br:Nat)(ws:List (List UInt8))(row x:List UInt8)(fv vo vr:Value)(hl:ws.length<=100000)(hx:x.length<=100000)(h:WSt base a w bo bw br ws row fv vo vr):
 Calls Tryz.prog 178 #[.string (bs x), .pointer (some ⟨bo,0,none⟩)] w fun e w'=>e= .returned (.tuple #[])/\∃vo',WSt base a w' bo bw br (ws++ [atS x]) row fv vo' vr:=by
 obtain⟨j1,hj1,hz0,hz1,hz2⟩:=info_parts zlZ
 obtain⟨A,c,rfl⟩:=bZ h.oo
 have c0:=h.o.cell 0
 have f0:=h.o.frozen 0
 simp only[List.getElem?_toArray,List.getElem?_cons_zero]at c0
 have hz:=h.below.size
 have hla:=h.la
 have H:=hid h
 have kc:=njZb x
 have hxs:(bs x).size<=100000:=by rw[ybZ];exact hx
 clear hx
 generalize hn:ws.length=n at *
 have HN:=hid hn
 clear h hn
 go_enter Tryz.func178,Tryz.ntmps178
 go_wp2_with(at_builtin;refine hZ rfl (.tmp 3) (.tmp 6) 41 rfl base 9 j1 _ 1 16 Tryz.underlying41 hj1 hz0 hz1 hz2 rfl (by decide) _ _ _ (by rfl) ((HN.out ▸ H.out.oo).alloc _) _ 1 1 [.string (bs (cgZ :: x))] (by rfl) (Src.of_blk (Blk.made _ _ _) 1 1 1 rfl) (by intro u hu;simp at hu;rcases hu with rfl;rfl) (by unfold maxLen;omega) (by omega) (by simp;omega) ?_;intro v4 w4 hown4 hg4 hat4;obtain⟨A4,k4,rfl⟩:=bZ hown4;have f4:w4.frozen? ⟨bo,0,none⟩=false:=(((H.out.o.alloc _).grown hg4 (fun e=>kZ H.out.oo H.out.o (by decide) e.symm))).frozen 0;have c4:w4.cell? ⟨bo,0,none⟩=some (.slice A n c):=(((H.out.o.alloc _).grown hg4 (fun e=>kZ H.out.oo H.out.o (by decide) e.symm))).cell 0)
 refine bodyPost_end (results_none rfl _ _ _) rfl ?_
 exact⟨rfl,_,H.out.word_app (atS x) (HN.out ▸ hown4) hg4⟩
def giZ(bo:Nat):Value:= .func (.func 178) #[] #[.pointer (some ⟨bo,0,none⟩)]
theorem wgZb(base:Nat)(a w:World)(bo bw br:Nat)(ws:List (List UInt8))(vo vr:Value)
 (h:WSt base a w bo bw br ws [] (giZ bo) vo vr):
 Calls Tryz.prog 226 #[.pointer (some ⟨br,0,none⟩), .pointer (some ⟨bw,0,none⟩)] w fun e w'=>e= .returned (.tuple #[])/\∃vo' vr',WSt base a w' bo bw br (ws++(tell []).map atS) [] (giZ bo) vo' vr':=by
 rw[show(tell []).map atS= [] from rfl,List.append_nil]
 obtain⟨A,c,rfl⟩:=bZ h.ro
 have c0:=h.r.cell 0
 have f0:=h.r.frozen 0
 simp only[List.getElem?_toArray,List.getElem?_cons_zero,List.length_nil]at c0
 have H:=hid h
 clear h
 go_enter Tryz.func226,Tryz.ntmps226
 go_wp2_with fail
 refine bodyPost_end (results_none rfl _ _ _) rfl ?_
 exact⟨rfl,_,_,H.out.row_cut⟩
theorem qdZb(base:Nat)(a w:World)(bo bw br:Nat)(ws:List (List UInt8))(row:List UInt8)(vo vr:Value)(hl:ws.length<=100000)(hr:row.length<=100000)(h0:row≠ [])
 (h:WSt base a w bo bw br ws row (giZ bo) vo vr):
 Calls Tryz.prog 226 #[.pointer (some ⟨br,0,none⟩), .pointer (some ⟨bw,0,none⟩)] w fun e w'=>e= .returned (.tuple #[])/\∃vo' vr',WSt base a w' bo bw br (ws++(tell row).map atS) [] (giZ bo) vo' vr':=by
 have ht:(tell row).map atS= [atS (row.take 24)]:=by rw[show tell row= [row.take 24] from if_neg h0];rfl
 rw[ht]
 have hrl:0<row.length:=List.length_pos_iff.2 h0
 obtain⟨g,c,rfl⟩:∃g c,vr= .slice (some ⟨g,0,none⟩) row.length c:=by
  obtain⟨g,c,hv,_⟩:=h.ro.form hrl
  exact⟨g,c,hv⟩
 have c0:=h.r.cell 0
 have f0:=h.r.frozen 0
 have c1:=h.f.cell 0
 simp only[List.getElem?_toArray,List.getElem?_cons_zero]at c0 c1
 have D:=vrZb base a w.drew bo bw br ws row (row.take 24) _ _ _ hl (by rw[List.length_take];omega) h.drew
 obtain⟨M,hM⟩:∃M,M=min row.length 24:=⟨_,rfl⟩
 have kd:=shZ (m:=M) h.ro rfl (by omega) w.drew rfl
 have KD:∀ (w':World) base a bo bw br ws fv vo,WSt base a w' bo bw br ws row fv vo (.slice (some ⟨g,0,none⟩) row.length c)->(convert 29 9 (.slice (some ⟨g,0,none⟩) M c)).run Tryz.prog w'= .ok (.string (bs (row.take M))) w':=fun w' _ _ _ _ _ _ _ _ h'=>shZ (m:=M) h'.ro rfl (by omega) w' rfl
 have htm:row.take M=row.take 24:=by
  rw[hM]
  by_cases h24:row.length<=24
  ·rw[Nat.min_eq_left h24,List.take_of_length_le (by omega),List.take_of_length_le h24]
  ·rw[Nat.min_eq_right (by omega)]
 rw[htm]at kd KD
 have hmn:min (row.length:Int) 24=(M:Int):=by omega
 have hwf:=(mjZ h.ro).2
 have ks:=fun wx=>paZb (P:=Tryz.prog) (t:=29) (s:=1) Tryz.underlying29 (fun _=>by kernel_rfl) g 0 row.length c .i64 (M:Int) M rfl (by omega) wx
 have H:=hid h
 have D:=hid D
 generalize hn:row.length=n at *
 have g1:decide (0<n)=true:=by simp;omega
 clear h hn h0 ht hM htm
 unfold giZ at c1
 go_enter Tryz.func226,Tryz.ntmps226
 go_upto_region 1 with fail
 go_region_held3 (fun wx=>wx.cell? ⟨br,0,none⟩=some (.slice (some ⟨g,0,none⟩) n c)/\wx.cell? ⟨bw,0,none⟩=some (.func (.func 178) #[] #[.pointer (some ⟨bo,0,none⟩)])/\(convert 29 9 (.slice (some ⟨g,0,none⟩) M c)).run Tryz.prog wx= .ok (.string (bs (row.take 24))) wx) (first|exact⟨c0,c1,kd⟩|exact k0) (first|(go_at_call 178;(with_reducible refine D.out.mono ?_);rintro e w' ⟨rfl,vo',h'⟩;have k0:w'.cell? ⟨br,0,none⟩=some (.slice (some ⟨g,0,none⟩) n c)/\w'.cell? ⟨bw,0,none⟩=some (.func (.func 178) #[] #[.pointer (some ⟨bo,0,none⟩)])/\(convert 29 9 (.slice (some ⟨g,0,none⟩) M c)).run Tryz.prog w'= .ok (.string (bs (row.take 24))) w':=⟨h'.r.cell 0,h'.f.cell 0,KD w' _ _ _ _ _ _ _ _ h'⟩))
 obtain⟨c2,c3,_⟩:=k0
 have f2:=h'.r.frozen 0
 have H':=hid h'
 clear h' D H c0 f0 c1
 go_wp2_with fail
 refine bodyPost_end (results_none rfl _ _ _) rfl ?_
 exact⟨rfl,_,_,H'.out.row_cut⟩
theorem xuZ(base:Nat)(a w:World)(bo bw br:Nat)(ws:List (List UInt8))(row:List UInt8)(vo vr:Value)(hl:ws.length<=100000)(hr:row.length<=100000)
 (h:WSt base a w bo bw br ws row (giZ bo) vo vr):
 Calls Tryz.prog 226 #[.pointer (some ⟨br,0,none⟩), .pointer (some ⟨bw,0,none⟩)] w fun e w'=>e= .returned (.tuple #[])/\∃vo' vr',WSt base a w' bo bw br (ws++(tell row).map atS) [] (giZ bo) vo' vr':=by
 by_cases h0:row= []
 ·subst h0;exact wgZb base a w bo bw br ws vo vr h
 ·exact qdZb base a w bo bw br ws row vo vr hl hr h0 h
theorem rdZb(base:Nat)(a w:World)(bo:Nat)(s:ByteArray)(ws0:List (List UInt8))(v0:Value)(hs:s.size<=100000)(h0:ws0.length<=50000)(hs2:s.size<=50000)(hb:Below base a w)(hla:base<=a.heap.size)(ho:Blk w bo 41 #[v0])(hw0:w.ownsRow base 9 1 v0 ws0.length (abZ ws0))(hlo:base<=bo):
 Calls Tryz.prog 176 #[.string s,giZ bo] w (ogZ atS ws0 s base a bo):=by
 obtain⟨j0,hj0,hy0,hy1,hy2⟩:=info_parts hbZ
 have hlen:=Lib.size_eq s
 obtain⟨l,hl⟩:∃l,l=s.data.toList:=⟨_,rfl⟩
 have HL:=hid hl
 rw[<-hl]at hlen
 have HLEN:=hid hlen
 unfold ogZ words
 rw[<-hl]
 have hz:=hb.size
 have HB:=hid hb
 have HO:=hid ho
 have HW0:=hid hw0
 clear hl hlen hb ho hw0
 unfold giZ
 go_enter Tryz.func176,Tryz.ntmps176
 go_wp2_with fail
 go_loopw [12] (fun i wx=>∃ (k:Nat) (ws:List (List UInt8)) (row:List UInt8) (vo vr:Value),k<=s.size/\i= .int .i64 k/\Hid (ws.length+row.length<=ws0.length+k)/\Hid (ws++(split row (l.drop k)).map atS=ws0++(split [] l).map atS)/\Hid (WSt base a wx bo w.heap.size (w.heap.size+1) ws row (giZ bo) vo vr)) (fun i _=>s.size-(intOf i).toNat)
 case atStart=>
  refine⟨0,ws0,[],v0, .slice none 0 0,by omega,rfl,(by show _<=_;simp),by show _=_;simp,?_⟩
  refine⟨eZ (by simp;omega) (eZ (by omega) HB.out),(HO.out.alloc _).alloc _,(Blk.made _ _ _).alloc _,Blk.made_at _ _ _ (by simp),(HW0.out.alloc _).alloc _,World.ownsRow_nil _ _ _ _,hlo,by omega,hla⟩
 case round=>
  obtain⟨k,ws,row,vo,vr,hk,rfl,hq,hW,H⟩:=hrel
  have hqq:=hq.out
  by_cases hlt:k<s.size
  ·have hd:=drop_at hlt
   rw[<-HL.out]at hd
   have hw:=hW.out
   rw[hd,split]at hw
   have hu:=UInt8.toNat_lt s[k]
   have hlb:=seZ s[k]
   have D:=fun wx=>hsZ s[k].toNat hu wx
   have x0:(0:Int)<=(k:Int):=by omega
   have x1:(k:Int)<(s.size:Int):=by omega
   cases hc:ucZ s[k]
   ·rw[hc]at hw hlb
    rw[if_neg (by simp),List.map_append,<-List.append_assoc]at hw
    rw[<-hlb]at D
    have D:=hid D
    have HW2:=hid hw
    have T:=hid (xuZ base a wr bo w.heap.size (w.heap.size+1) ws row vo vr (by omega) (by omega) H.out)
    have htl:=kkZ row
    clear hd hw hlb hu hc hW
    go_wp2_with fail
    refine(D.out _).mono ?_
    rintro e w1 ⟨rfl,rfl⟩
    go_wp2_with fail
    refine T.out.mono ?_
    rintro e w1 ⟨rfl,vo',vr',h'⟩
    have H':=hid h'
    clear T D h' H
    go_wp2_with fail
    go_roundw
    case measure=>go_light;simp[intOf];omega
    case rel=>go_light;exact⟨k+1,ws++(tell row).map atS,[],vo',vr',by omega,by go_num,by show _<=_;rw[List.length_append,List.length_nil,List.length_map];omega,HW2.out,H'.out⟩
   ·rw[hc]at hw hlb
    rw[if_pos rfl]at hw
    rw[<-hlb]at D
    obtain⟨A,c,rfl⟩:=bZ H.out.ro
    have c0:=H.out.r.cell 0
    simp only[List.getElem?_toArray,List.getElem?_cons_zero]at c0
    have hsn:=ijZ s[k]
    have happ:=fun w4 v4 o own4 hg=>H.out.row_app (w4:=w4) (v4:=v4) (o:=o) (rdZ (s[k]'hlt)) own4 hg
    have HA:=hid happ
    rw[<-hsn]at D
    generalize rdZ s[k]=x at *
    have D:=hid D
    have HW2:=hid hw
    have hwz:=H.out.below.size
    have HRO:=hid H.out.ro
    have hrr:=H.out.r
    have HRR:=hid hrr
    clear hd hw hlb hu hc hW happ hsn hrr
    generalize hn:row.length=n at *
    have HN:=hid hn
    clear hn
    go_wp2_with fail
    refine(D.out _).mono ?_
    rintro e w1 ⟨rfl,rfl⟩
    go_wp2_with(at_builtin;refine hZ rfl (.tmp 23) (.tmp 25) 29 rfl base 5 j0 _ 1 1 Tryz.underlying29 hj0 hy0 hy1 hy2 rfl (by decide) _ _ _ (by rfl) (HRO.out.alloc _) _ 1 1 [.int .u8 x.toNat] (by rfl) (Src.of_blk (Blk.made _ _ _) 1 1 1 rfl) (by intro u hu;simp at hu;rcases hu with rfl;rfl) (by unfold maxLen;omega) (by omega) (by simp;omega) ?_;intro v4 w4 hown4 hg4 hat4;obtain⟨A4,k4,rfl⟩:=bZ hown4;have f4:w4.frozen? ⟨w.heap.size+1,0,none⟩=false:=(((HRR.out.alloc _).grown hg4 (fun e=>kZ HRO.out HRR.out (by decide) e.symm))).frozen 0;have c4:w4.cell? ⟨w.heap.size+1,0,none⟩=some (.slice A n c):=(((HRR.out.alloc _).grown hg4 (fun e=>kZ HRO.out HRR.out (by decide) e.symm))).cell 0)
    go_roundw
    case measure=>go_light;simp[intOf];omega
    case rel=>
     go_light
     refine⟨k+1,ws,row++ [x],vo,_,by omega,by go_num,?_,HW2.out,HA.out w4 _ _ (HN.out ▸ hown4) hg4⟩
     show _<=_;rw[List.length_append,HN.out];simp;omega
  ·obtain rfl:k=s.size:=by omega
   have hw:=hW.out
   rw[List.drop_of_length_le (by rw[HLEN.out];exact Nat.le_refl _),split]at hw
   have T:=hid (xuZ base a wr bo w.heap.size (w.heap.size+1) ws row vo vr (by omega) (by omega) H.out)
   have HW2:=hid hw
   clear hw hW H
   go_wp2_with fail
   refine T.out.mono ?_
   rintro e w1 ⟨rfl,vo',vr',h'⟩
   have H':=hid h'
   clear T h'
   go_wp2_with fail
   refine bodyPost_end (results_none rfl _ _ _) rfl ?_
   refine⟨rfl,H'.out.below,vo',H'.out.o,?_⟩
   show World.ownsRow _ _ _ _ _ (ws0++(split [] l).map atS).length (abZ (ws0++(split [] l).map atS))
   rw[<-HW2.out]
   exact H'.out.oo
end Go.Proofs.YtmlaajebadfkoaaGreatDoor.Sift
