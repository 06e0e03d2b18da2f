/- The walks of words.W -/
import Derived.Test.YtbgoibedicbkjaaGreatDoorZBodyLogs12
import Derived.Lib.MinMax
namespace Go.Proofs.YtbgoibedicbkjaaGreatDoor
open Go.Lib (hid)
set_option maxHeartbeats 1000000
set_option maxRecDepth 100000
namespace Sift
open Go.RowKit Mem Own Canon
section
variable {wx w4:World} {g base:Nat} {t e:TypeId} {s n:Nat} {v:Value} {xs cs}
theorem blk_over{row:Option Nat}{o:Obj}{p:Addr}(h:Blk wx g t cs)(hg:(wx.alloc o).grownBy w4 row)(hr:row≠some g)(hp:g≠p.block)(u:Value):Blk (w4.setCell p u) g t cs:=
 ((h.alloc o).grown hg (fun e=>hr e.symm)).far hp u
theorem P0{row:Option Nat}{o:Obj}{p:Addr}(h:wx.ownsRow base e s v n xs)(hg:(wx.alloc o).grownBy w4 row)(hr:∀g,v.ownBlock=some g->row≠some g/\g≠p.block)(u:Value):(w4.setCell p u).ownsRow base e s v n xs:=
 dZ h fun b hb=>by obtain⟨h1,h2⟩:=hr b hb;have h3:=(Ae h b hb).2;exact(AK w4 p u b h2).trans ((hg.block b (by simp;omega) (fun e=>h1 e.symm)).trans (BI wx o b h3))
theorem Ca{p:Addr}(h:wx.ownsRow base e s v n xs)(hr:v.ownBlock≠some p.block)(u:Value):(wx.setCell p u).ownsRow base e s v n xs:=
 dZ h fun b hb=>AK wx p u b (fun e=>hr (e ▸ hb))
end
structure WSt (base:Nat) (a w:World) (bo bw br:Nat) (ws:List (List UInt8)) (row:List UInt8) (fv vo vr:Value):Prop where
 below:Below base a w
 o:Blk w bo 33 #[vo]
 f:Blk w bw 211 #[fv]
 r:Blk w br 22 #[vr]
 oo:w.ownsRow base 9 1 vo ws.length (tZ ws)
 ro:w.ownsRow base 5 1 vr row.length (byL row)
 lo:base<=bo
 lr:base<=br
 la:base<=a.heap.size
section
variable {base:Nat} {a w w4:World} {bo bw br:Nat} {ws:List (List UInt8)} {row:List UInt8} {fv vo vr v4:Value}
theorem WSt.drew(h:WSt base a w bo bw br ws row fv vo vr):WSt base a w.drew bo bw br ws row fv vo vr:=⟨h.below.drew,h.o,h.f,h.r,h.oo,h.ro,h.lo,h.lr,h.la⟩
theorem WSt.row_app{o:Obj}(h:WSt base a w bo bw br ws row fv vo vr)(c:UInt8)(i:w4.ownsRow base 5 1 v4 (row.length+1) (byL row++ [.int .u8 (c.toNat:Nat)]))(hg:(w.alloc o).grownBy w4 vr.ownBlock):
 WSt base a (w4.setCell ⟨br,0,none⟩ v4) bo bw br ws (row++ [c]) fv vo v4:=by
 have hz:=h.below.size;have j:Below base a w4:=(kZ (by have:=h.la;omega) h.below).grown hg (by simp;have:=h.la;omega) (fun y hy=>(Ae h.ro y hy).1);refine⟨j.setCell h.lr _,blk_over h.o hg (fZ h.ro h.o (by decide)) (Blk.apart h.o h.r (by decide)) _,blk_over h.f hg (fZ h.ro h.f (by decide)) (Blk.apart h.f h.r (by decide)) _,?_,P0 h.oo hg (fun g hg2=>⟨?_,?_⟩) _,?_,h.lo,h.lr,h.la⟩
 ·exact(((h.r.alloc o).grown hg (fun e=>fZ h.ro h.r (by decide) e.symm))).set 0 v4
 ·intro e;rcases EJ h.oo h.ro (by decide)with h1|h1
  ·rw[h1]at hg2;cases hg2
  ·exact h1 (hg2.trans e.symm)
 ·intro e;exact fZ h.oo h.r (by decide) (hg2.trans (AJ some e))
 ·have hb:=(h.r.alloc o).grown hg (fun e=>fZ h.ro h.r (by decide) e.symm);rw[Ai,Mp];exact Ca i (fZ i hb (by decide)) _
theorem WSt.word_app{o:Obj}(h:WSt base a w bo bw br ws row fv vo vr)(x:List UInt8)(i:w4.ownsRow base 9 1 v4 (ws.length+1) (tZ ws++ [.string (bs x)]))(hg:(w.alloc o).grownBy w4 vo.ownBlock):
 WSt base a (w4.setCell ⟨bo,0,none⟩ v4) bo bw br (ws++ [x]) row fv v4 vr:=by
 have hz:=h.below.size;have j:Below base a w4:=(kZ (by have:=h.la;omega) h.below).grown hg (by simp;have:=h.la;omega) (fun y hy=>(Ae h.oo y hy).1);refine⟨j.setCell h.lo _,?_,blk_over h.f hg (fZ h.oo h.f (by decide)) (Blk.apart h.f h.o (by decide)) _,blk_over h.r hg (fZ h.oo h.r (by decide)) (Blk.apart h.r h.o (by decide)) _,?_,P0 h.ro hg (fun g hg2=>⟨?_,?_⟩) _,h.lo,h.lr,h.la⟩
 ·exact(((h.o.alloc o).grown hg (fun e=>fZ h.oo h.o (by decide) e.symm))).set 0 v4
 ·have hb:=(h.o.alloc o).grown hg (fun e=>fZ h.oo h.o (by decide) e.symm);rw[Ai,Ir];exact Ca i (fZ i hb (by decide)) _
 ·intro e;rcases EJ h.ro h.oo (by decide)with h1|h1
  ·rw[h1]at hg2;cases hg2
  ·exact h1 (hg2.trans e.symm)
 ·intro e;exact fZ h.ro h.o (by decide) (hg2.trans (AJ some e))
theorem WSt.row_cut{A:Option Addr}{n c:Nat}(h:WSt base a w bo bw br ws row fv vo (.slice A n c)):WSt base a (w.setCell ⟨br,0,none⟩ (.slice A 0 c)) bo bw br ws [] fv vo (.slice A 0 c):=by
 refine⟨h.below.setCell h.lr _,h.o.far (Blk.apart h.o h.r (by decide)) _,h.f.far (Blk.apart h.f h.r (by decide)) _,h.r.set 0 _,Ca h.oo (fZ h.oo h.r (by decide)) _,?_,h.lo,h.lr,h.la⟩
 have h2:w.ownsRow base 5 1 (.slice A 0 c) 0 []:=by
  rcases h.ro.2 with ⟨hv,_⟩|⟨g,y,cur,hv,hg,hh,_,j,i,_⟩
  ·injection hv with e1 e2 e3;subst e1 e3;exact Am _ _ _ _
  ·injection hv with e1 e2 e3;subst e1 e3;exact⟨by simp, .inr ⟨g,c,cur,rfl,hg,hh,AY _,j,i,by simp⟩⟩
 exact Ca h2 (fZ h2 h.r (by decide)) _
end
theorem PN{P:Program}{t e:TypeId}{s:Nat}(ht:P.underlying t=some (.slice e))(hs:∀w,(sizeOf e).run P w= .ok s w)(g o len i:Nat)(kh:IntKind)(h:Int)(m:Nat)(hh:h=m)(hm:m<=i)(w:World):
 (Instr.slice t (.slice (some ⟨g,o,none⟩) len i) none (some (.int kh h)) none).run P w= .ok (.slice (some ⟨g,o,none⟩) m i) w:=by
 subst hh;have he:P.elem t=e:=by simp[Program.elem,ht]
 rw[run_slice_h w t (some ⟨g,o,none⟩) len i (by rw[he];exact ht) kh (m:Int) (by omega) (by omega),he,hs];simp[Result.andThen,sliced,EY]
theorem Ka{w:World}{base n c m:Nat}{g:Nat}{l:List UInt8}(h:w.ownsRow base 5 1 (.slice (some ⟨g,0,none⟩) n c) n (byL l))(hn:l.length=n)(hm:m<=n):
 ∀wx:World,wx.heap[g]? =w.heap[g]? ->(convert 22 9 (.slice (some ⟨g,0,none⟩) m c)).run Tryz.prog wx= .ok (.string (bs (l.take m))) wx:=by
 intro wx hb;have hz:(bs (l.take m)).size=m:=by rw[Cy,AO];omega
 have j:Lib.Bytes wx g 0 (bs (l.take m)):=by
  intro i hi;rw[hz]at hi;have y:i<l.length:=by omega
  rw[Bq,World.cell?_of_block (a:=⟨g,i,none⟩) hb,h.cellAt i (by omega),Kv (l.take m) i (by rw[hz];exact hi),List.getElem_take];exact NJ (AD y)
 have kd:=Lib.run_convert_whole (P:=Tryz.prog) wx 22 5 9 Tryz.underlying22 Tryz.underlying5 Tryz.underlying9 g 0 (bs (l.take m)) j c;rw[hz]at kd;exact kd
end Sift
namespace Sift
open Go.RowKit Mem Own Canon
theorem Lu(row:List UInt8):(tell row).length<=row.length:=by
 unfold tell;split
 ·simp
 ·rename_i h;have:=Hq.2 h;simp;omega
end Sift
namespace Sift
open Go.RowKit Mem Own Canon
open Go.Proofs.YtbgoibedicbkjaaGreatDoor.Idx (Dc)
def Ij(f:List UInt8->List UInt8)(ws0:List (List UInt8))(s:ByteArray)(base:Nat)(a:World)(bo:Nat)(e:Ending)(w':World):Prop:=
 e= .returned (.tuple #[])/\Below base a w'/\∃vo,Blk w' bo 33 #[vo]/\w'.ownsRow base 9 1 vo (ws0++(words s.data.toList).map f).length (tZ (ws0++(words s.data.toList).map f))
theorem QQ(x:List UInt8):(ByteArray.mk #[64])++bs x=bs (Dc :: x):=by
 apply ByteArray.ext
 rw[ByteArray.data_append];apply Array.ext';simp[bs,Dc]
def idS(x:List UInt8):List UInt8:=x
def atS(x:List UInt8):List UInt8:=Dc :: x
theorem Su(base:Nat)(a w:World)(bo bw br:Nat)(ws:List (List UInt8))(row x:List UInt8)(fv vo vr:Value)(hl:ws.length<=100000)(h:WSt base a w bo bw br ws row fv vo vr):
 Calls Tryz.prog 157 #[.string (bs x), .pointer (some ⟨bo,0,none⟩)] w fun e w'=>e= .returned (.tuple #[])/\∃vo',WSt base a w' bo bw br (ws++ [idS x]) row fv vo' vr:=by
 obtain⟨j1,y,E,G,z⟩:=info_parts JG;obtain⟨A,c,rfl⟩:=aZ h.oo;have c0:=h.o.cell 0;have f0:=h.o.frozen 0;simp only[List.getElem?_toArray,List.getElem?_cons_zero]at c0;have hz:=h.below.size;have L:=h.la;have H:=hid h;generalize hn:ws.length=n at *;have HN:=hid hn;clear h hn;go_enter Tryz.func157,Tryz.ntmps157;go_wp2_with(at_builtin;refine gZ rfl (.tmp 3) (.tmp 5) 33 rfl base 9 j1 _ 1 16 Tryz.underlying33 y E G z rfl (by decide) _ _ _ (by rfl) ((HN.out ▸ H.out.oo).alloc _) _ 1 1 [.string (bs x)] (by rfl) (Src.of_blk (Blk.made _ _ _) 1 1 1 rfl) (by intro u hu;simp at hu;rcases hu with rfl;rfl) (by unfold maxLen;omega) (by omega) (by simp;omega) ?_;intro v4 w4 i j J;obtain⟨A4,k4,rfl⟩:=aZ i;have f4:w4.frozen? ⟨bo,0,none⟩=false:=(((H.out.o.alloc _).grown j (fun e=>fZ H.out.oo H.out.o (by decide) e.symm))).frozen 0;have c4:w4.cell? ⟨bo,0,none⟩=some (.slice A n c):=(((H.out.o.alloc _).grown j (fun e=>fZ H.out.oo H.out.o (by decide) e.symm))).cell 0);refine bodyPost_end (Ds rfl _ _ _) rfl ?_;exact⟨rfl,_,H.out.word_app (idS x) (HN.out ▸ i) j⟩
def Fy(bo:Nat):Value:= .func (.func 157) #[] #[.pointer (some ⟨bo,0,none⟩)]
theorem TR(base:Nat)(a w:World)(bo bw br:Nat)(ws:List (List UInt8))(vo vr:Value)
 (h:WSt base a w bo bw br ws [] (Fy bo) vo vr):
 Calls Tryz.prog 200 #[.pointer (some ⟨br,0,none⟩), .pointer (some ⟨bw,0,none⟩)] w fun e w'=>e= .returned (.tuple #[])/\∃vo' vr',WSt base a w' bo bw br (ws++(tell []).map idS) [] (Fy bo) vo' vr':=by
 rw[show(tell []).map idS= [] from rfl,Fi];obtain⟨A,c,rfl⟩:=aZ h.ro;have c0:=h.r.cell 0;have f0:=h.r.frozen 0;simp only[List.getElem?_toArray,List.getElem?_cons_zero,List.length_nil]at c0;have H:=hid h;clear h;go_enter Tryz.func200,Tryz.ntmps200;go_wp2_with fail;refine bodyPost_end (Ds rfl _ _ _) rfl ?_;exact⟨rfl,_,_,H.out.row_cut⟩
theorem Y9(base:Nat)(a w:World)(bo bw br:Nat)(ws:List (List UInt8))(row:List UInt8)(vo vr:Value)(hl:ws.length<=100000)(hr:row.length<=100000)(h0:row≠ [])
 (h:WSt base a w bo bw br ws row (Fy bo) vo vr):
 Calls Tryz.prog 200 #[.pointer (some ⟨br,0,none⟩), .pointer (some ⟨bw,0,none⟩)] w fun e w'=>e= .returned (.tuple #[])/\∃j vr',WSt base a w' bo bw br (ws++(tell row).map idS) [] (Fy bo) j vr':=by
 have ht:(tell row).map idS= [idS (row.take 24)]:=by rw[show tell row= [row.take 24] from Aa h0];rfl
 rw[ht];have z:0<row.length:=Hq.2 h0;obtain⟨g,c,rfl⟩:∃g c,vr= .slice (some ⟨g,0,none⟩) row.length c:=by obtain⟨g,c,hv,_⟩:=h.ro.form z;exact⟨g,c,hv⟩
 have c0:=h.r.cell 0;have f0:=h.r.frozen 0;have c1:=h.f.cell 0;simp only[List.getElem?_toArray,List.getElem?_cons_zero]at c0 c1;have D:=Su base a w.drew bo bw br ws row (row.take 24) _ _ _ hl h.drew;obtain⟨M,hM⟩:∃M,M=min row.length 24:=⟨_,rfl⟩;have kd:=Ka (m:=M) h.ro rfl (by omega) w.drew rfl;have KD:∀ (w':World) base a bo bw br ws fv vo,WSt base a w' bo bw br ws row fv vo (.slice (some ⟨g,0,none⟩) row.length c)->(convert 22 9 (.slice (some ⟨g,0,none⟩) M c)).run Tryz.prog w'= .ok (.string (bs (row.take M))) w':=fun w' _ _ _ _ _ _ _ _ h'=>Ka (m:=M) h'.ro rfl (by omega) w' rfl
 have i:row.take M=row.take 24:=by
  rw[hM];by_cases y:row.length<=24
  ·rw[Nat.min_eq_left y,Bv (by omega),Bv y]
  ·rw[Nat.min_eq_right (by omega)]
 rw[i]at kd KD;have E:min (row.length:Int) 24=(M:Int):=by omega
 have G:=(CQ h.ro).2;have ks:=fun wx=>PN (P:=Tryz.prog) (t:=22) (s:=1) Tryz.underlying22 (fun _=>by kernel_rfl) g 0 row.length c .i64 (M:Int) M rfl (by omega) wx;have H:=hid h;have D:=hid D;generalize hn:row.length=n at *;have g1:decide (0<n)=true:=by simp;omega
 clear h hn h0 ht hM i;unfold Fy at c1;go_enter Tryz.func200,Tryz.ntmps200;go_upto_region 1 with fail;go_region_held3 (fun wx=>wx.cell? ⟨br,0,none⟩=some (.slice (some ⟨g,0,none⟩) n c)/\wx.cell? ⟨bw,0,none⟩=some (.func (.func 157) #[] #[.pointer (some ⟨bo,0,none⟩)])/\(convert 22 9 (.slice (some ⟨g,0,none⟩) M c)).run Tryz.prog wx= .ok (.string (bs (row.take 24))) wx) (first|exact⟨c0,c1,kd⟩|exact k0) (first|(go_at_call 157;(with_reducible refine D.out.mono ?_);rintro e w' ⟨rfl,j,h'⟩;have k0:w'.cell? ⟨br,0,none⟩=some (.slice (some ⟨g,0,none⟩) n c)/\w'.cell? ⟨bw,0,none⟩=some (.func (.func 157) #[] #[.pointer (some ⟨bo,0,none⟩)])/\(convert 22 9 (.slice (some ⟨g,0,none⟩) M c)).run Tryz.prog w'= .ok (.string (bs (row.take 24))) w':=⟨h'.r.cell 0,h'.f.cell 0,KD w' _ _ _ _ _ _ _ _ h'⟩));obtain⟨c2,c3,_⟩:=k0;have f2:=h'.r.frozen 0;have H':=hid h';clear h' D H c0 f0 c1;go_wp2_with fail;refine bodyPost_end (Ds rfl _ _ _) rfl ?_;exact⟨rfl,_,_,H'.out.row_cut⟩
theorem PE(base:Nat)(a w:World)(bo bw br:Nat)(ws:List (List UInt8))(row:List UInt8)(vo vr:Value)(hl:ws.length<=100000)(hr:row.length<=100000)
 (h:WSt base a w bo bw br ws row (Fy bo) vo vr):
 Calls Tryz.prog 200 #[.pointer (some ⟨br,0,none⟩), .pointer (some ⟨bw,0,none⟩)] w fun e w'=>e= .returned (.tuple #[])/\∃vo' vr',WSt base a w' bo bw br (ws++(tell row).map idS) [] (Fy bo) vo' vr':=by
 by_cases h0:row= []
 ·subst h0;exact TR base a w bo bw br ws vo vr h
 ·exact Y9 base a w bo bw br ws row vo vr hl hr h0 h
theorem YV(base:Nat)(a w:World)(bo:Nat)(s:ByteArray)(h:List (List UInt8))(v0:Value)(hs:s.size<=100000)(h0:h.length<=50000)(an:s.size<=50000)(hb:Below base a w)(ag:base<=a.heap.size)(ho:Blk w bo 33 #[v0])(ab:w.ownsRow base 9 1 v0 h.length (tZ h))(af:base<=bo):
 Calls Tryz.prog 156 #[.string s,Fy bo] w (Ij idS h s base a bo):=by
 obtain⟨j0,aj,ai,ah,ac⟩:=info_parts Cr;have y:=Lib.size_eq s;obtain⟨l,hl⟩:∃l,l=s.data.toList:=⟨_,rfl⟩;have HL:=hid hl;rw[<-hl]at y;have aa:=hid y;unfold Ij words;rw[<-hl];have hz:=hb.size;have HB:=hid hb;have HO:=hid ho;have ae:=hid ab;clear hl y hb ho ab;unfold Fy;go_enter Tryz.func156,Tryz.ntmps156;go_wp2_with fail;go_loopw [12] (fun i wx=>∃ (k:Nat) (ws:List (List UInt8)) (row:List UInt8) (vo vr:Value),k<=s.size/\i= .int .i64 k/\Hid (ws.length+row.length<=h.length+k)/\Hid (ws++(split row (l.drop k)).map idS=h++(split [] l).map idS)/\Hid (WSt base a wx bo w.heap.size (w.heap.size+1) ws row (Fy bo) vo vr)) (fun i _=>s.size-(intOf i).toNat)
 case atStart=>refine⟨0,h,[],v0, .slice none 0 0,by omega,rfl,(by show _<=_;simp),by show _=_;simp,?_⟩;refine⟨kZ (by simp;omega) (kZ (by omega) HB.out),(HO.out.alloc _).alloc _,(Blk.made _ _ _).alloc _,Blk.made_at _ _ _ (by simp),(ae.out.alloc _).alloc _,Am _ _ _ _,af,by omega,ag⟩
 case round=>
  obtain⟨k,ws,row,vo,vr,hk,rfl,hq,hW,H⟩:=hrel;have am:=hq.out;by_cases U:k<s.size
  ·have hd:=drop_at U;rw[<-HL.out]at hd;have hw:=hW.out;rw[hd,split]at hw;have hu:=GP s[k];have j:=Fp s[k];have D:=fun wx=>PF s[k].toNat hu wx;have x0:(0:Int)<=(k:Int):=(by omega);have x1:(k:Int)<(s.size:Int):=(by omega);cases hc:Bz s[k]
   ·rw[hc]at hw j;rw[Aa (by simp),Hp,<-EX]at hw;rw[<-j]at D;have D:=hid D;have z:=hid hw;have T:=hid (PE base a wr bo w.heap.size (w.heap.size+1) ws row vo vr (by omega) (by omega) H.out);have al:=Lu row;clear hd hw j hu hc hW;go_wp2_with fail;refine(D.out _).mono ?_;rintro e w1 ⟨rfl,rfl⟩;go_wp2_with fail;refine T.out.mono ?_;rintro e w1 ⟨rfl,M,Y,h'⟩;have H':=hid h';clear T D h' H;go_wp2_with fail;go_roundw
    case measure=>go_light;simp[intOf];omega
    case rel=>go_light;exact⟨k+1,ws++(tell row).map idS,[],M,Y,by omega,by go_num,by show _<=_;rw[Ai,Er,BN];omega,z.out,H'.out⟩
   ·rw[hc]at hw j;rw[Ab rfl]at hw;rw[<-j]at D;obtain⟨A,c,rfl⟩:=aZ H.out.ro;have c0:=H.out.r.cell 0;simp only[List.getElem?_toArray,List.getElem?_cons_zero]at c0;have Q:=Jz s[k];have J:=fun w4 v4 o own4 hg=>H.out.row_app (w4:=w4) (v4:=v4) (o:=o) (Dk (s[k]'U)) own4 hg;have HA:=hid J;rw[<-Q]at D;generalize Dk s[k]=x at *;have D:=hid D;have z:=hid hw;have aq:=H.out.below.size;have N:=hid H.out.ro;have Z:=H.out.r;have G:=hid Z;clear hd hw j hu hc hW J Q Z;generalize hn:row.length=n at *;have HN:=hid hn;clear hn;go_wp2_with fail;refine(D.out _).mono ?_;rintro e w1 ⟨rfl,rfl⟩;go_wp2_with(at_builtin;refine gZ rfl (.tmp 23) (.tmp 25) 22 rfl base 5 j0 _ 1 1 Tryz.underlying22 aj ai ah ac rfl (by decide) _ _ _ (by rfl) (N.out.alloc _) _ 1 1 [.int .u8 x.toNat] (by rfl) (Src.of_blk (Blk.made _ _ _) 1 1 1 rfl) (by intro u hu;simp at hu;rcases hu with rfl;rfl) (by unfold maxLen;omega) (by omega) (by simp;omega) ?_;intro v4 w4 E L ak;obtain⟨A4,k4,rfl⟩:=aZ E;have f4:w4.frozen? ⟨w.heap.size+1,0,none⟩=false:=(((G.out.alloc _).grown L (fun e=>fZ N.out G.out (by decide) e.symm))).frozen 0;have c4:w4.cell? ⟨w.heap.size+1,0,none⟩=some (.slice A n c):=(((G.out.alloc _).grown L (fun e=>fZ N.out G.out (by decide) e.symm))).cell 0);go_roundw
    case measure=>go_light;simp[intOf];omega
    case rel=>go_light;refine⟨k+1,ws,row++ [x],vo,_,by omega,by go_num,?_,z.out,HA.out w4 _ _ (HN.out ▸ E) L⟩;show _<=_;rw[Ai,HN.out];simp;omega
  ·obtain rfl:k=s.size:=by omega
   have hw:=hW.out;rw[Ce (by rw[aa.out];exact Aj _),split]at hw;have T:=hid (PE base a wr bo w.heap.size (w.heap.size+1) ws row vo vr (by omega) (by omega) H.out);have z:=hid hw;clear hw hW H;go_wp2_with fail;refine T.out.mono ?_;rintro e w1 ⟨rfl,M,Y,h'⟩;have H':=hid h';clear T h';go_wp2_with fail;refine bodyPost_end (Ds rfl _ _ _) rfl ?_;refine⟨rfl,H'.out.below,M,H'.out.o,?_⟩;show World.ownsRow _ _ _ _ _ (h++(split [] l).map idS).length (tZ (h++(split [] l).map idS));rw[<-z.out];exact H'.out.oo
theorem YW(base:Nat)(a w:World)(bo bw br:Nat)(ws:List (List UInt8))(row x:List UInt8)(fv vo vr:Value)(hl:ws.length<=100000)(hx:x.length<=100000)(h:WSt base a w bo bw br ws row fv vo vr):
 Calls Tryz.prog 158 #[.string (bs x), .pointer (some ⟨bo,0,none⟩)] w fun e w'=>e= .returned (.tuple #[])/\∃vo',WSt base a w' bo bw br (ws++ [atS x]) row fv vo' vr:=by
 obtain⟨j1,y,E,G,z⟩:=info_parts JG;obtain⟨A,c,rfl⟩:=aZ h.oo;have c0:=h.o.cell 0;have f0:=h.o.frozen 0;simp only[List.getElem?_toArray,List.getElem?_cons_zero]at c0;have hz:=h.below.size;have M:=h.la;have H:=hid h;have kc:=QQ x;have L:(bs x).size<=100000:=by rw[Cy];exact hx
 clear hx;generalize hn:ws.length=n at *;have HN:=hid hn;clear h hn;go_enter Tryz.func158,Tryz.ntmps158;go_wp2_with(at_builtin;refine gZ rfl (.tmp 3) (.tmp 6) 33 rfl base 9 j1 _ 1 16 Tryz.underlying33 y E G z rfl (by decide) _ _ _ (by rfl) ((HN.out ▸ H.out.oo).alloc _) _ 1 1 [.string (bs (Dc :: x))] (by rfl) (Src.of_blk (Blk.made _ _ _) 1 1 1 rfl) (by intro u hu;simp at hu;rcases hu with rfl;rfl) (by unfold maxLen;omega) (by omega) (by simp;omega) ?_;intro v4 w4 i j J;obtain⟨A4,k4,rfl⟩:=aZ i;have f4:w4.frozen? ⟨bo,0,none⟩=false:=(((H.out.o.alloc _).grown j (fun e=>fZ H.out.oo H.out.o (by decide) e.symm))).frozen 0;have c4:w4.cell? ⟨bo,0,none⟩=some (.slice A n c):=(((H.out.o.alloc _).grown j (fun e=>fZ H.out.oo H.out.o (by decide) e.symm))).cell 0);refine bodyPost_end (Ds rfl _ _ _) rfl ?_;exact⟨rfl,_,H.out.word_app (atS x) (HN.out ▸ i) j⟩
def Fw(bo:Nat):Value:= .func (.func 158) #[] #[.pointer (some ⟨bo,0,none⟩)]
theorem TF(base:Nat)(a w:World)(bo bw br:Nat)(ws:List (List UInt8))(vo vr:Value)
 (h:WSt base a w bo bw br ws [] (Fw bo) vo vr):
 Calls Tryz.prog 200 #[.pointer (some ⟨br,0,none⟩), .pointer (some ⟨bw,0,none⟩)] w fun e w'=>e= .returned (.tuple #[])/\∃vo' vr',WSt base a w' bo bw br (ws++(tell []).map atS) [] (Fw bo) vo' vr':=by
 rw[show(tell []).map atS= [] from rfl,Fi];obtain⟨A,c,rfl⟩:=aZ h.ro;have c0:=h.r.cell 0;have f0:=h.r.frozen 0;simp only[List.getElem?_toArray,List.getElem?_cons_zero,List.length_nil]at c0;have H:=hid h;clear h;go_enter Tryz.func200,Tryz.ntmps200;go_wp2_with fail;refine bodyPost_end (Ds rfl _ _ _) rfl ?_;exact⟨rfl,_,_,H.out.row_cut⟩
theorem YH(base:Nat)(a w:World)(bo bw br:Nat)(ws:List (List UInt8))(row:List UInt8)(vo vr:Value)(hl:ws.length<=100000)(hr:row.length<=100000)(h0:row≠ [])
 (h:WSt base a w bo bw br ws row (Fw bo) vo vr):
 Calls Tryz.prog 200 #[.pointer (some ⟨br,0,none⟩), .pointer (some ⟨bw,0,none⟩)] w fun e w'=>e= .returned (.tuple #[])/\∃j vr',WSt base a w' bo bw br (ws++(tell row).map atS) [] (Fw bo) j vr':=by
 have ht:(tell row).map atS= [atS (row.take 24)]:=by rw[show tell row= [row.take 24] from Aa h0];rfl
 rw[ht];have z:0<row.length:=Hq.2 h0;obtain⟨g,c,rfl⟩:∃g c,vr= .slice (some ⟨g,0,none⟩) row.length c:=by obtain⟨g,c,hv,_⟩:=h.ro.form z;exact⟨g,c,hv⟩
 have c0:=h.r.cell 0;have f0:=h.r.frozen 0;have c1:=h.f.cell 0;simp only[List.getElem?_toArray,List.getElem?_cons_zero]at c0 c1;have D:=YW base a w.drew bo bw br ws row (row.take 24) _ _ _ hl (by rw[AO];omega) h.drew;obtain⟨M,hM⟩:∃M,M=min row.length 24:=⟨_,rfl⟩;have kd:=Ka (m:=M) h.ro rfl (by omega) w.drew rfl;have KD:∀ (w':World) base a bo bw br ws fv vo,WSt base a w' bo bw br ws row fv vo (.slice (some ⟨g,0,none⟩) row.length c)->(convert 22 9 (.slice (some ⟨g,0,none⟩) M c)).run Tryz.prog w'= .ok (.string (bs (row.take M))) w':=fun w' _ _ _ _ _ _ _ _ h'=>Ka (m:=M) h'.ro rfl (by omega) w' rfl
 have i:row.take M=row.take 24:=by
  rw[hM];by_cases y:row.length<=24
  ·rw[Nat.min_eq_left y,Bv (by omega),Bv y]
  ·rw[Nat.min_eq_right (by omega)]
 rw[i]at kd KD;have E:min (row.length:Int) 24=(M:Int):=by omega
 have G:=(CQ h.ro).2;have ks:=fun wx=>PN (P:=Tryz.prog) (t:=22) (s:=1) Tryz.underlying22 (fun _=>by kernel_rfl) g 0 row.length c .i64 (M:Int) M rfl (by omega) wx;have H:=hid h;have D:=hid D;generalize hn:row.length=n at *;have g1:decide (0<n)=true:=by simp;omega
 clear h hn h0 ht hM i;unfold Fw at c1;go_enter Tryz.func200,Tryz.ntmps200;go_upto_region 1 with fail;go_region_held3 (fun wx=>wx.cell? ⟨br,0,none⟩=some (.slice (some ⟨g,0,none⟩) n c)/\wx.cell? ⟨bw,0,none⟩=some (.func (.func 158) #[] #[.pointer (some ⟨bo,0,none⟩)])/\(convert 22 9 (.slice (some ⟨g,0,none⟩) M c)).run Tryz.prog wx= .ok (.string (bs (row.take 24))) wx) (first|exact⟨c0,c1,kd⟩|exact k0) (first|(go_at_call 158;(with_reducible refine D.out.mono ?_);rintro e w' ⟨rfl,j,h'⟩;have k0:w'.cell? ⟨br,0,none⟩=some (.slice (some ⟨g,0,none⟩) n c)/\w'.cell? ⟨bw,0,none⟩=some (.func (.func 158) #[] #[.pointer (some ⟨bo,0,none⟩)])/\(convert 22 9 (.slice (some ⟨g,0,none⟩) M c)).run Tryz.prog w'= .ok (.string (bs (row.take 24))) w':=⟨h'.r.cell 0,h'.f.cell 0,KD w' _ _ _ _ _ _ _ _ h'⟩));obtain⟨c2,c3,_⟩:=k0;have f2:=h'.r.frozen 0;have H':=hid h';clear h' D H c0 f0 c1;go_wp2_with fail;refine bodyPost_end (Ds rfl _ _ _) rfl ?_;exact⟨rfl,_,_,H'.out.row_cut⟩
theorem Pr(base:Nat)(a w:World)(bo bw br:Nat)(ws:List (List UInt8))(row:List UInt8)(vo vr:Value)(hl:ws.length<=100000)(hr:row.length<=100000)
 (h:WSt base a w bo bw br ws row (Fw bo) vo vr):
 Calls Tryz.prog 200 #[.pointer (some ⟨br,0,none⟩), .pointer (some ⟨bw,0,none⟩)] w fun e w'=>e= .returned (.tuple #[])/\∃vo' vr',WSt base a w' bo bw br (ws++(tell row).map atS) [] (Fw bo) vo' vr':=by
 by_cases h0:row= []
 ·subst h0;exact TF base a w bo bw br ws vo vr h
 ·exact YH base a w bo bw br ws row vo vr hl hr h0 h
theorem Yr(base:Nat)(a w:World)(bo:Nat)(s:ByteArray)(h:List (List UInt8))(v0:Value)(hs:s.size<=100000)(h0:h.length<=50000)(an:s.size<=50000)(hb:Below base a w)(ag:base<=a.heap.size)(ho:Blk w bo 33 #[v0])(ab:w.ownsRow base 9 1 v0 h.length (tZ h))(af:base<=bo):
 Calls Tryz.prog 156 #[.string s,Fw bo] w (Ij atS h s base a bo):=by
 obtain⟨j0,aj,ai,ah,ac⟩:=info_parts Cr;have y:=Lib.size_eq s;obtain⟨l,hl⟩:∃l,l=s.data.toList:=⟨_,rfl⟩;have HL:=hid hl;rw[<-hl]at y;have aa:=hid y;unfold Ij words;rw[<-hl];have hz:=hb.size;have HB:=hid hb;have HO:=hid ho;have ae:=hid ab;clear hl y hb ho ab;unfold Fw;go_enter Tryz.func156,Tryz.ntmps156;go_wp2_with fail;go_loopw [12] (fun i wx=>∃ (k:Nat) (ws:List (List UInt8)) (row:List UInt8) (vo vr:Value),k<=s.size/\i= .int .i64 k/\Hid (ws.length+row.length<=h.length+k)/\Hid (ws++(split row (l.drop k)).map atS=h++(split [] l).map atS)/\Hid (WSt base a wx bo w.heap.size (w.heap.size+1) ws row (Fw bo) vo vr)) (fun i _=>s.size-(intOf i).toNat)
 case atStart=>refine⟨0,h,[],v0, .slice none 0 0,by omega,rfl,(by show _<=_;simp),by show _=_;simp,?_⟩;refine⟨kZ (by simp;omega) (kZ (by omega) HB.out),(HO.out.alloc _).alloc _,(Blk.made _ _ _).alloc _,Blk.made_at _ _ _ (by simp),(ae.out.alloc _).alloc _,Am _ _ _ _,af,by omega,ag⟩
 case round=>
  obtain⟨k,ws,row,vo,vr,hk,rfl,hq,hW,H⟩:=hrel;have am:=hq.out;by_cases U:k<s.size
  ·have hd:=drop_at U;rw[<-HL.out]at hd;have hw:=hW.out;rw[hd,split]at hw;have hu:=GP s[k];have j:=Fp s[k];have D:=fun wx=>PF s[k].toNat hu wx;have x0:(0:Int)<=(k:Int):=(by omega);have x1:(k:Int)<(s.size:Int):=(by omega);cases hc:Bz s[k]
   ·rw[hc]at hw j;rw[Aa (by simp),Hp,<-EX]at hw;rw[<-j]at D;have D:=hid D;have z:=hid hw;have T:=hid (Pr base a wr bo w.heap.size (w.heap.size+1) ws row vo vr (by omega) (by omega) H.out);have al:=Lu row;clear hd hw j hu hc hW;go_wp2_with fail;refine(D.out _).mono ?_;rintro e w1 ⟨rfl,rfl⟩;go_wp2_with fail;refine T.out.mono ?_;rintro e w1 ⟨rfl,M,Y,h'⟩;have H':=hid h';clear T D h' H;go_wp2_with fail;go_roundw
    case measure=>go_light;simp[intOf];omega
    case rel=>go_light;exact⟨k+1,ws++(tell row).map atS,[],M,Y,by omega,by go_num,by show _<=_;rw[Ai,Er,BN];omega,z.out,H'.out⟩
   ·rw[hc]at hw j;rw[Ab rfl]at hw;rw[<-j]at D;obtain⟨A,c,rfl⟩:=aZ H.out.ro;have c0:=H.out.r.cell 0;simp only[List.getElem?_toArray,List.getElem?_cons_zero]at c0;have Q:=Jz s[k];have J:=fun w4 v4 o own4 hg=>H.out.row_app (w4:=w4) (v4:=v4) (o:=o) (Dk (s[k]'U)) own4 hg;have HA:=hid J;rw[<-Q]at D;generalize Dk s[k]=x at *;have D:=hid D;have z:=hid hw;have aq:=H.out.below.size;have N:=hid H.out.ro;have Z:=H.out.r;have G:=hid Z;clear hd hw j hu hc hW J Q Z;generalize hn:row.length=n at *;have HN:=hid hn;clear hn;go_wp2_with fail;refine(D.out _).mono ?_;rintro e w1 ⟨rfl,rfl⟩;go_wp2_with(at_builtin;refine gZ rfl (.tmp 23) (.tmp 25) 22 rfl base 5 j0 _ 1 1 Tryz.underlying22 aj ai ah ac rfl (by decide) _ _ _ (by rfl) (N.out.alloc _) _ 1 1 [.int .u8 x.toNat] (by rfl) (Src.of_blk (Blk.made _ _ _) 1 1 1 rfl) (by intro u hu;simp at hu;rcases hu with rfl;rfl) (by unfold maxLen;omega) (by omega) (by simp;omega) ?_;intro v4 w4 E L ak;obtain⟨A4,k4,rfl⟩:=aZ E;have f4:w4.frozen? ⟨w.heap.size+1,0,none⟩=false:=(((G.out.alloc _).grown L (fun e=>fZ N.out G.out (by decide) e.symm))).frozen 0;have c4:w4.cell? ⟨w.heap.size+1,0,none⟩=some (.slice A n c):=(((G.out.alloc _).grown L (fun e=>fZ N.out G.out (by decide) e.symm))).cell 0);go_roundw
    case measure=>go_light;simp[intOf];omega
    case rel=>go_light;refine⟨k+1,ws,row++ [x],vo,_,by omega,by go_num,?_,z.out,HA.out w4 _ _ (HN.out ▸ E) L⟩;show _<=_;rw[Ai,HN.out];simp;omega
  ·obtain rfl:k=s.size:=by omega
   have hw:=hW.out;rw[Ce (by rw[aa.out];exact Aj _),split]at hw;have T:=hid (Pr base a wr bo w.heap.size (w.heap.size+1) ws row vo vr (by omega) (by omega) H.out);have z:=hid hw;clear hw hW H;go_wp2_with fail;refine T.out.mono ?_;rintro e w1 ⟨rfl,M,Y,h'⟩;have H':=hid h';clear T h';go_wp2_with fail;refine bodyPost_end (Ds rfl _ _ _) rfl ?_;refine⟨rfl,H'.out.below,M,H'.out.o,?_⟩;show World.ownsRow _ _ _ _ _ (h++(split [] l).map atS).length (tZ (h++(split [] l).map atS));rw[<-z.out];exact H'.out.oo
end Sift
end Go.Proofs.YtbgoibedicbkjaaGreatDoor
