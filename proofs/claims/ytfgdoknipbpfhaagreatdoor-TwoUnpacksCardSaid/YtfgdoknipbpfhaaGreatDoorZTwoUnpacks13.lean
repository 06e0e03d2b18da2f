/- The walks of words.W -/
import Derived.Test.YtfgdoknipbpfhaaGreatDoorZTwoUnpacks12
import Derived.Lib.MinMax
namespace Go.Proofs.YtfgdoknipbpfhaaGreatDoor
open Go.Proofs.Tryz
open Go.Lib (hid)
set_option maxHeartbeats 1000000
set_option maxRecDepth 100000
variable{o:Obj}{p:Addr}{c n:Nat}
namespace Sift
open Go.RowKit Mem Own Canon
section
variable {wx w4:World} {g base:Nat} {t e:TypeId} {s n:Nat} {v:Value} {xs cs}
theorem blk_over{row:Option Nat}(h:Blk wx g t cs)(hg:(wx.alloc o).grownBy w4 row)(hr:row≠some g)(hp:g≠p.block)(u:Value):Blk (w4.setCell p u) g t cs:=
 ((h.alloc o).grown hg (fun e=>hr e.symm)).far hp u
theorem RW{row:Option Nat}(h:wx.ownsRow base e s v n xs)(hg:(wx.alloc o).grownBy w4 row)(hr:∀g,v.ownBlock=some g->row≠some g/\g≠p.block)(u:Value):(w4.setCell p u).ownsRow base e s v n xs:=
 dZ h fun b hb=>by obtain⟨h1,h2⟩:=hr b hb;have h3:=(Ae h b hb).2;exact(AJ w4 p u b h2).trans ((hg.block b ni (fun e=>h1 e.symm)).trans (Ca wx o b h3))
theorem Cu(h:wx.ownsRow base e s v n xs)(hr:v.ownBlock≠some p.block)(u:Value):(wx.setCell p u).ownsRow base e s v n xs:=
 dZ h fun b hb=>AJ wx p u b (fun e=>hr (e ▸ hb))
end
structure WSt (base:Nat) (a w:World) (bo bw br:Nat) (ws:List (List UInt8)) (row:List UInt8) (fv vo vr:Value):Prop where
 below:Below base a w
 o:Blk w bo 50 #[vo]
 f:Blk w bw 236 #[fv]
 r:Blk w br 28 #[vr]
 oo:w.ownsRow base 9 1 vo ws.length (AD ws)
 ro:w.ownsRow base 5 1 vr row.length (byL row)
 lo:base<=bo
 lr:base<=br
 la:base<=a.heap.size
section
variable {base:Nat} {a w w4:World} {bo bw br:Nat} {ws:List (List UInt8)} {row:List UInt8} {fv vo vr v4:Value}
theorem WSt.drew(h:WSt base a w bo bw br ws row fv vo vr):WSt base a w.drew bo bw br ws row fv vo vr:=⟨h.below.drew,h.o,h.f,h.r,h.oo,h.ro,h.lo,h.lr,h.la⟩
theorem WSt.row_app(h:WSt base a w bo bw br ws row fv vo vr)(c:UInt8)(i:w4.ownsRow base 5 1 v4 (row.length+1) (byL row++ [.int .u8 (c.toNat:Nat)]))(hg:(w.alloc o).grownBy w4 vr.ownBlock):
 WSt base a (w4.setCell ⟨br,0,none⟩ v4) bo bw br ws (row++ [c]) fv vo v4:=by
 have hz:=h.below.size;have j:Below base a w4:=(lZ (by have:=h.la;omega) h.below).grown hg (by simp;have:=h.la;omega) (fun y hy=>(Ae h.ro y hy).1);refine⟨j.setCell h.lr _,blk_over h.o hg (fZ h.ro h.o iX) (Blk.apart h.o h.r iX) _,blk_over h.f hg (fZ h.ro h.f iX) (Blk.apart h.f h.r iX) _,?_,RW h.oo hg (fun g hg2=>⟨?_,?_⟩) _,?_,h.lo,h.lr,h.la⟩
 ·exact(((h.r.alloc o).grown hg (fun e=>fZ h.ro h.r iX e.symm))).set 0 v4
 ·intro e;rcases Fh h.oo h.ro iX with h1|h1
  ·rw[h1]at hg2;cases hg2
  ·exact h1 (hg2.trans e.symm)
 ·intro e;exact fZ h.oo h.r iX (hg2.trans (AI some e))
 ·have hb:=(h.r.alloc o).grown hg (fun e=>fZ h.ro h.r iX e.symm);rw[Aj,Mm];exact Cu i (fZ i hb iX) _
theorem WSt.word_app(h:WSt base a w bo bw br ws row fv vo vr)(x:List UInt8)(i:w4.ownsRow base 9 1 v4 (ws.length+1) (AD ws++ [.string (bs x)]))(hg:(w.alloc o).grownBy w4 vo.ownBlock):
 WSt base a (w4.setCell ⟨bo,0,none⟩ v4) bo bw br (ws++ [x]) row fv v4 vr:=by
 have hz:=h.below.size;have j:Below base a w4:=(lZ (by have:=h.la;omega) h.below).grown hg (by simp;have:=h.la;omega) (fun y hy=>(Ae h.oo y hy).1);refine⟨j.setCell h.lo _,?_,blk_over h.f hg (fZ h.oo h.f iX) (Blk.apart h.f h.o iX) _,blk_over h.r hg (fZ h.oo h.r iX) (Blk.apart h.r h.o iX) _,?_,RW h.ro hg (fun g hg2=>⟨?_,?_⟩) _,h.lo,h.lr,h.la⟩
 ·exact(((h.o.alloc o).grown hg (fun e=>fZ h.oo h.o iX e.symm))).set 0 v4
 ·have hb:=(h.o.alloc o).grown hg (fun e=>fZ h.oo h.o iX e.symm);rw[Aj,I0];exact Cu i (fZ i hb iX) _
 ·intro e;rcases Fh h.ro h.oo iX with h1|h1
  ·rw[h1]at hg2;cases hg2
  ·exact h1 (hg2.trans e.symm)
 ·intro e;exact fZ h.ro h.o iX (hg2.trans (AI some e))
theorem WSt.row_cut{A:Option Addr}(h:WSt base a w bo bw br ws row fv vo (.slice A n c)):WSt base a (w.setCell ⟨br,0,none⟩ (.slice A 0 c)) bo bw br ws [] fv vo (.slice A 0 c):=by
 refine⟨h.below.setCell h.lr _,h.o.far (Blk.apart h.o h.r iX) _,h.f.far (Blk.apart h.f h.r iX) _,h.r.set 0 _,Cu h.oo (fZ h.oo h.r iX) _,?_,h.lo,h.lr,h.la⟩
 have h2:w.ownsRow base 5 1 (.slice A 0 c) 0 []:=by
  rcases h.ro.2 with ⟨hv,_⟩|⟨g,y,cur,hv,hg,hh,_,j,i,_⟩
  ·injection hv with e1 e2 e3;subst e1 e3;exact Aq _ _ _ _
  ·injection hv with e1 e2 e3;subst e1 e3;exact⟨mY, .inr ⟨g,c,cur,rfl,hg,hh,Ba _,j,i,mY⟩⟩
 exact Cu h2 (fZ h2 h.r iX) _
end
theorem RH{P:Program}{t e:TypeId}{s:Nat}(ht:P.underlying t=some (.slice e))(hs:∀w,(sizeOf e).run P w= .ok s w)(g o len i:Nat)(kh:IntKind)(h:Int)(m:Nat)(hh:h=m)(hm:m<=i)(w:World):
 (Instr.slice t (.slice (some ⟨g,o,none⟩) len i) none (some (.int kh h)) none).run P w= .ok (.slice (some ⟨g,o,none⟩) m i) w:=by
 subst hh;have he:P.elem t=e:=nj
 rw[run_slice_h w t (some ⟨g,o,none⟩) len i mh kh (m:Int) kR kR,he,hs];simp[Result.andThen,sliced,Fp]
theorem KO{w:World}{base m:Nat}{g:Nat}{l:List UInt8}(h:w.ownsRow base 5 1 (.slice (some ⟨g,0,none⟩) n c) n (byL l))(hn:l.length=n)(hm:m<=n):
 ∀wx:World,wx.heap[g]? =w.heap[g]? ->(convert 28 9 (.slice (some ⟨g,0,none⟩) m c)).run prog wx= .ok (.string (bs (l.take m))) wx:=by
 intro wx hb;have hz:(bs (l.take m)).size=m:=by rw[CO,AN];omega
 have j:Lib.Bytes wx g 0 (bs (l.take m)):=by
  intro i hi;rw[hz]at hi;have y:i<l.length:=kR
  rw[BF,World.cell?_of_block (a:=⟨g,i,none⟩) hb,h.cellAt i kR,Lv (l.take m) i (by rw[hz];exact hi),List.getElem_take];exact PE (AE y)
 have kd:=Lib.run_convert_whole (P:=prog) wx 28 5 9 underlying28 underlying5 underlying9 g 0 (bs (l.take m)) j c;rw[hz]at kd;exact kd
end Sift
namespace Sift
open Go.RowKit Mem Own Canon
theorem K8(row:List UInt8):(tell row).length<=row.length:=by
 unfold tell;split
 ·simp
 ·rename_i h;have:=Iu.2 h;simp;omega
end Sift
namespace Sift
open Go.RowKit Mem Own Canon
open Idx (Dx)
def IS(f:List UInt8->List UInt8)(ws0:List (List UInt8))(s:ByteArray)(base:Nat)(a:World)(bo:Nat)(e:Ending)(w':World):Prop:=
 e= .returned (.tuple #[])/\Below base a w'/\∃vo,Blk w' bo 50 #[vo]/\w'.ownsRow base 9 1 vo (ws0++(words s.data.toList).map f).length (AD (ws0++(words s.data.toList).map f))
theorem RQ(x:List UInt8):(ByteArray.mk #[64])++bs x=bs (Dx :: x):=by
 apply ByteArray.ext
 rw[ByteArray.data_append];apply Array.ext';simp[bs,Dx]
def idS(x:List UInt8):List UInt8:=x
def atS(x:List UInt8):List UInt8:=Dx :: x
theorem YR(base:Nat)(a w:World)(bo bw br:Nat)(ws:List (List UInt8))(row x:List UInt8)(fv vo vr:Value)(hl:ws.length<=100000)(h:WSt base a w bo bw br ws row fv vo vr):
 Calls prog 179 #[.string (bs x), .pointer (some ⟨bo,0,none⟩)] w fun e w'=>e= .returned (.tuple #[])/\∃vo',WSt base a w' bo bw br (ws++ [idS x]) row fv vo' vr:=by
 obtain⟨j1,E,G,y,z⟩:=info_parts Kn;obtain⟨A,c,rfl⟩:=aZ h.oo;have c0:=h.o.iO 0;have f0:=h.o.frozen 0;have hz:=h.below.size;have L:=h.la;have H:=hid h;generalize hn:ws.length=n at *;have HN:=hid hn;clear h hn;go_enter func179,ntmps179;go_wp2_with(at_builtin;refine gZ rfl (.tmp 3) (.tmp 5) 50 rfl base 9 j1 _ 1 16 underlying50 E G y z rfl iX _ _ _ kU ((HN.out ▸ H.out.oo).alloc _) _ 1 1 [.string (bs x)] kU (Src.of_blk (Blk.made _ _ _) 1 1 1 rfl) kw nI kR ni ?_;intro v4 w4 i j J;obtain⟨A4,k4,rfl⟩:=aZ i;have f4:w4.frozen? ⟨bo,0,none⟩=false:=(((H.out.o.alloc _).grown j (fun e=>fZ H.out.oo H.out.o iX e.symm))).frozen 0;have c4:w4.cell? ⟨bo,0,none⟩=some (.slice A n c):=(((H.out.o.alloc _).grown j (fun e=>fZ H.out.oo H.out.o iX e.symm))).cell 0);refine bodyPost_end (Ew rfl _ _ _) rfl ?_;exact⟨rfl,_,H.out.word_app (idS x) (HN.out ▸ i) j⟩
def FW(bo:Nat):Value:= .func (.func 179) #[] #[.pointer (some ⟨bo,0,none⟩)]
theorem Vm(base:Nat)(a w:World)(bo bw br:Nat)(ws:List (List UInt8))(vo vr:Value)
 (h:WSt base a w bo bw br ws [] (FW bo) vo vr):
 Calls prog 235 #[.pointer (some ⟨br,0,none⟩), .pointer (some ⟨bw,0,none⟩)] w fun e w'=>e= .returned (.tuple #[])/\∃vo' vr',WSt base a w' bo bw br (ws++(tell []).map idS) [] (FW bo) vo' vr':=by
 rw[show(tell []).map idS= [] from rfl,Fl];obtain⟨A,c,rfl⟩:=aZ h.ro;have c0:=h.r.cell 0;have f0:=h.r.frozen 0;simp only[List.getElem?_toArray,List.getElem?_cons_zero,List.length_nil]at c0;have H:=hid h;clear h;go_enter func235,ntmps235;go_wp2_with fail;refine bodyPost_end (Ew rfl _ _ _) rfl ?_;exact⟨rfl,_,_,H.out.row_cut⟩
theorem Uo(base:Nat)(a w:World)(bo bw br:Nat)(ws:List (List UInt8))(row:List UInt8)(vo vr:Value)(hl:ws.length<=100000)(hr:row.length<=100000)(h0:row≠ [])
 (h:WSt base a w bo bw br ws row (FW bo) vo vr):
 Calls prog 235 #[.pointer (some ⟨br,0,none⟩), .pointer (some ⟨bw,0,none⟩)] w fun e w'=>e= .returned (.tuple #[])/\∃j vr',WSt base a w' bo bw br (ws++(tell row).map idS) [] (FW bo) j vr':=by
 have ht:(tell row).map idS= [idS (row.take 24)]:=by rw[show tell row= [row.take 24] from Aa h0];rfl
 rw[ht];have z:0<row.length:=Iu.2 h0;obtain⟨g,c,rfl⟩:∃g c,vr= .slice (some ⟨g,0,none⟩) row.length c:=kL
 have c0:=h.r.iO 0;have f0:=h.r.frozen 0;have c1:=h.f.iO 0;have D:=YR base a w.drew bo bw br ws row (row.take 24) _ _ _ hl h.drew;obtain⟨M,hM⟩:=iS (min row.length 24);have kd:=KO (m:=M) h.ro rfl kR w.drew rfl;have KD:∀ (w':World) base a bo bw br ws fv vo,WSt base a w' bo bw br ws row fv vo (.slice (some ⟨g,0,none⟩) row.length c)->(convert 28 9 (.slice (some ⟨g,0,none⟩) M c)).run prog w'= .ok (.string (bs (row.take M))) w':=fun w' _ _ _ _ _ _ _ _ h'=>KO (m:=M) h'.ro rfl kR w' rfl
 have i:row.take M=row.take 24:=by
  rw[hM];by_cases y:row.length<=24
  ·rw[Nat.min_eq_left y,BR kR,BR y]
  ·rw[Nat.min_eq_right kR]
 rw[i]at kd KD;have E:min (row.length:Int) 24=(M:Int):=kR
 have G:=(Da h.ro).2;have ks:=fun wx=>RH (P:=prog) (t:=28) (s:=1) underlying28 (fun _=>by kernel_rfl) g 0 row.length c .i64 (M:Int) M rfl kR wx;have H:=hid h;have D:=hid D;generalize hn:row.length=n at *;have g1:=iQ (0<n)
 clear h hn h0 ht hM i;unfold FW at c1;go_enter func235,ntmps235;go_upto_region 1 with fail;go_region_held3 (fun wx=>wx.cell? ⟨br,0,none⟩=some (.slice (some ⟨g,0,none⟩) n c)/\wx.cell? ⟨bw,0,none⟩=some (.func (.func 179) #[] #[.pointer (some ⟨bo,0,none⟩)])/\(convert 28 9 (.slice (some ⟨g,0,none⟩) M c)).run prog wx= .ok (.string (bs (row.take 24))) wx) (first|exact⟨c0,c1,kd⟩|exact k0) (first|(go_at_call 179;(with_reducible refine D.out.mono ?_);rintro e w' ⟨rfl,j,h'⟩;have k0:w'.cell? ⟨br,0,none⟩=some (.slice (some ⟨g,0,none⟩) n c)/\w'.cell? ⟨bw,0,none⟩=some (.func (.func 179) #[] #[.pointer (some ⟨bo,0,none⟩)])/\(convert 28 9 (.slice (some ⟨g,0,none⟩) M c)).run prog w'= .ok (.string (bs (row.take 24))) w':=⟨h'.r.cell 0,h'.f.cell 0,KD w' _ _ _ _ _ _ _ _ h'⟩));obtain⟨c2,c3,_⟩:=k0;have f2:=h'.r.frozen 0;have H':=hid h';clear h' D H c0 f0 c1;go_wp2_with fail;refine bodyPost_end (Ew rfl _ _ _) rfl ?_;exact⟨rfl,_,_,H'.out.row_cut⟩
theorem SV(base:Nat)(a w:World)(bo bw br:Nat)(ws:List (List UInt8))(row:List UInt8)(vo vr:Value)(hl:ws.length<=100000)(hr:row.length<=100000)
 (h:WSt base a w bo bw br ws row (FW bo) vo vr):
 Calls prog 235 #[.pointer (some ⟨br,0,none⟩), .pointer (some ⟨bw,0,none⟩)] w fun e w'=>e= .returned (.tuple #[])/\∃vo' vr',WSt base a w' bo bw br (ws++(tell row).map idS) [] (FW bo) vo' vr':=by
 by_cases h0:row= []
 ·subst h0;exact Vm base a w bo bw br ws vo vr h
 ·exact Uo base a w bo bw br ws row vo vr hl hr h0 h
theorem T9(base:Nat)(a w:World)(bo:Nat)(s:ByteArray)(h:List (List UInt8))(v0:Value)(hs:s.size<=100000)(h0:h.length<=50000)(an:s.size<=50000)(hb:Below base a w)(af:base<=a.heap.size)(ho:Blk w bo 50 #[v0])(Y:w.ownsRow base 9 1 v0 h.length (AD h))(ac:base<=bo):
 Calls prog 178 #[.string s,FW bo] w (IS idS h s base a bo):=by
 obtain⟨j0,ah,aj,ae,ai⟩:=info_parts Ct;have y:=Lib.size_eq s;obtain⟨l,hl⟩:=iS s.data.toList;have HL:=hid hl;rw[<-hl]at y;have ab:=hid y;unfold IS words;rw[<-hl];have hz:=hb.size;have HB:=hid hb;have HO:=hid ho;have ag:=hid Y;clear hl y hb ho Y;unfold FW;go_enter func178,ntmps178;go_wp2_with fail;go_loopw [12] (fun i wx=>∃ (k:Nat) (ws:List (List UInt8)) (row:List UInt8) (vo vr:Value),k<=s.size/\i= .int .i64 k/\Hid (ws.length+row.length<=h.length+k)/\Hid (ws++(split row (l.drop k)).map idS=h++(split [] l).map idS)/\Hid (WSt base a wx bo w (w.heap.size+1) ws row (FW bo) vo vr)) (fun i _=>s.size-(intOf i).toNat)
 case atStart=>refine⟨0,h,[],v0, .slice none 0 0,kR,rfl,(by show _<=_;simp),mS,?_⟩;refine⟨lZ ni (lZ kR HB.out),(HO.out.alloc _).alloc _,(Blk.made _ _ _).alloc _,Blk.made_at _ _ _ mY,(ag.out.alloc _).alloc _,Aq _ _ _ _,ac,kR,af⟩
 case round=>
  obtain⟨k,ws,row,vo,vr,hk,rfl,hq,hW,H⟩:=hrel;have am:=hq.out;by_cases U:k<s.size
  ·have hd:=drop_at U;rw[<-HL.out]at hd;have hw:=hW.out;rw[hd,split]at hw;have hu:=Hg s[k];have j:=Gd s[k];have D:=fun wx=>O3 s[k].toNat hu wx;have x0:(0:Int)<=(k:Int):=kR;have x1:(k:Int)<(s.size:Int):=kR;cases hc:BW s[k]
   ·rw[hc]at hw j;rw[Aa mY,Is,<-zY]at hw;rw[<-j]at D;have D:=hid D;have E:=hid hw;have T:=hid (SV base a wr bo w (w.heap.size+1) ws row vo vr kR kR H.out);have aq:=K8 row;clear hd hw j hu hc hW;go_wp2_with fail;refine(D.out _).mono ?_;rintro e w1 ⟨rfl,rfl⟩;go_wp2_with fail;refine T.out.mono ?_;rintro e w1 ⟨rfl,M,aa,h'⟩;have H':=hid h';clear T D h' H;go_wp2_with fail;go_roundw
    case measure=>exact jw
    case rel=>go_light;exact⟨k+1,ws++(tell row).map idS,[],M,aa,kR,jx,by show _<=_;rw[Aj,EU,Cg];omega,E.out,H'.out⟩
   ·rw[hc]at hw j;rw[Ab rfl]at hw;rw[<-j]at D;obtain⟨A,c,rfl⟩:=aZ H.out.ro;have c0:=H.out.r.iO 0;have Z:=Kf s[k];have J:=fun w4 v4 o own4 hg=>H.out.row_app (w4:=w4) (v4:=v4) (o:=o) (Ej (s[k]'U)) own4 hg;have HA:=hid J;rw[<-Z]at D;generalize Ej s[k]=x at *;have D:=hid D;have E:=hid hw;have al:=H.out.below.size;have L:=hid H.out.ro;have Q:=H.out.r;have G:=hid Q;clear hd hw j hu hc hW J Z Q;generalize hn:row.length=n at *;have HN:=hid hn;clear hn;go_wp2_with fail;refine(D.out _).mono ?_;rintro e w1 ⟨rfl,rfl⟩;go_wp2_with(at_builtin;refine gZ rfl (.tmp 23) (.tmp 25) 28 rfl base 5 j0 _ 1 1 underlying28 ah aj ae ai rfl iX _ _ _ kU (L.out.alloc _) _ 1 1 [.int .u8 x.toNat] kU (Src.of_blk (Blk.made _ _ _) 1 1 1 rfl) kw nI kR ni ?_;intro v4 w4 z N ak;obtain⟨A4,k4,rfl⟩:=aZ z;have f4:w4.frozen? ⟨w.heap.size+1,0,none⟩=false:=(((G.out.alloc _).grown N (fun e=>fZ L.out G.out iX e.symm))).frozen 0;have c4:w4.cell? ⟨w.heap.size+1,0,none⟩=some (.slice A n c):=(((G.out.alloc _).grown N (fun e=>fZ L.out G.out iX e.symm))).cell 0);go_roundw
    case measure=>exact jw
    case rel=>exact jr
  ·obtain rfl:k=s.size:=by omega
   have hw:=hW.out;rw[Cw (by rw[ab.out];exact Ai _),split]at hw;have T:=hid (SV base a wr bo w (w.heap.size+1) ws row vo vr kR kR H.out);have E:=hid hw;clear hw hW H;go_wp2_with fail;refine T.out.mono ?_;rintro e w1 ⟨rfl,M,aa,h'⟩;have H':=hid h';clear T h';go_wp2_with fail;refine bodyPost_end (Ew rfl _ _ _) rfl ?_;refine⟨rfl,H'.out.below,M,H'.out.o,?_⟩;show World.ownsRow _ _ _ _ _ (h++(split [] l).map idS).length (AD (h++(split [] l).map idS));rw[<-E.out];exact H'.out.oo
theorem YD(base:Nat)(a w:World)(bo bw br:Nat)(ws:List (List UInt8))(row x:List UInt8)(fv vo vr:Value)(hl:ws.length<=100000)(hx:x.length<=100000)(h:WSt base a w bo bw br ws row fv vo vr):
 Calls prog 180 #[.string (bs x), .pointer (some ⟨bo,0,none⟩)] w fun e w'=>e= .returned (.tuple #[])/\∃vo',WSt base a w' bo bw br (ws++ [atS x]) row fv vo' vr:=by
 obtain⟨j1,E,G,y,z⟩:=info_parts Kn;obtain⟨A,c,rfl⟩:=aZ h.oo;have c0:=h.o.iO 0;have f0:=h.o.frozen 0;have hz:=h.below.size;have M:=h.la;have H:=hid h;have kc:=RQ x;have L:(bs x).size<=100000:=by rw[CO];exact hx
 clear hx;generalize hn:ws.length=n at *;have HN:=hid hn;clear h hn;go_enter func180,ntmps180;go_wp2_with(at_builtin;refine gZ rfl (.tmp 3) (.tmp 6) 50 rfl base 9 j1 _ 1 16 underlying50 E G y z rfl iX _ _ _ kU ((HN.out ▸ H.out.oo).alloc _) _ 1 1 [.string (bs (Dx :: x))] kU (Src.of_blk (Blk.made _ _ _) 1 1 1 rfl) kw nI kR ni ?_;intro v4 w4 i j J;obtain⟨A4,k4,rfl⟩:=aZ i;have f4:w4.frozen? ⟨bo,0,none⟩=false:=(((H.out.o.alloc _).grown j (fun e=>fZ H.out.oo H.out.o iX e.symm))).frozen 0;have c4:w4.cell? ⟨bo,0,none⟩=some (.slice A n c):=(((H.out.o.alloc _).grown j (fun e=>fZ H.out.oo H.out.o iX e.symm))).cell 0);refine bodyPost_end (Ew rfl _ _ _) rfl ?_;exact⟨rfl,_,H.out.word_app (atS x) (HN.out ▸ i) j⟩
def FV(bo:Nat):Value:= .func (.func 180) #[] #[.pointer (some ⟨bo,0,none⟩)]
theorem U7(base:Nat)(a w:World)(bo bw br:Nat)(ws:List (List UInt8))(vo vr:Value)
 (h:WSt base a w bo bw br ws [] (FV bo) vo vr):
 Calls prog 235 #[.pointer (some ⟨br,0,none⟩), .pointer (some ⟨bw,0,none⟩)] w fun e w'=>e= .returned (.tuple #[])/\∃vo' vr',WSt base a w' bo bw br (ws++(tell []).map atS) [] (FV bo) vo' vr':=by
 rw[show(tell []).map atS= [] from rfl,Fl];obtain⟨A,c,rfl⟩:=aZ h.ro;have c0:=h.r.cell 0;have f0:=h.r.frozen 0;simp only[List.getElem?_toArray,List.getElem?_cons_zero,List.length_nil]at c0;have H:=hid h;clear h;go_enter func235,ntmps235;go_wp2_with fail;refine bodyPost_end (Ew rfl _ _ _) rfl ?_;exact⟨rfl,_,_,H.out.row_cut⟩
theorem TR(base:Nat)(a w:World)(bo bw br:Nat)(ws:List (List UInt8))(row:List UInt8)(vo vr:Value)(hl:ws.length<=100000)(hr:row.length<=100000)(h0:row≠ [])
 (h:WSt base a w bo bw br ws row (FV bo) vo vr):
 Calls prog 235 #[.pointer (some ⟨br,0,none⟩), .pointer (some ⟨bw,0,none⟩)] w fun e w'=>e= .returned (.tuple #[])/\∃j vr',WSt base a w' bo bw br (ws++(tell row).map atS) [] (FV bo) j vr':=by
 have ht:(tell row).map atS= [atS (row.take 24)]:=by rw[show tell row= [row.take 24] from Aa h0];rfl
 rw[ht];have z:0<row.length:=Iu.2 h0;obtain⟨g,c,rfl⟩:∃g c,vr= .slice (some ⟨g,0,none⟩) row.length c:=kL
 have c0:=h.r.iO 0;have f0:=h.r.frozen 0;have c1:=h.f.iO 0;have D:=YD base a w.drew bo bw br ws row (row.take 24) _ _ _ hl ln h.drew;obtain⟨M,hM⟩:=iS (min row.length 24);have kd:=KO (m:=M) h.ro rfl kR w.drew rfl;have KD:∀ (w':World) base a bo bw br ws fv vo,WSt base a w' bo bw br ws row fv vo (.slice (some ⟨g,0,none⟩) row.length c)->(convert 28 9 (.slice (some ⟨g,0,none⟩) M c)).run prog w'= .ok (.string (bs (row.take M))) w':=fun w' _ _ _ _ _ _ _ _ h'=>KO (m:=M) h'.ro rfl kR w' rfl
 have i:row.take M=row.take 24:=by
  rw[hM];by_cases y:row.length<=24
  ·rw[Nat.min_eq_left y,BR kR,BR y]
  ·rw[Nat.min_eq_right kR]
 rw[i]at kd KD;have E:min (row.length:Int) 24=(M:Int):=kR
 have G:=(Da h.ro).2;have ks:=fun wx=>RH (P:=prog) (t:=28) (s:=1) underlying28 (fun _=>by kernel_rfl) g 0 row.length c .i64 (M:Int) M rfl kR wx;have H:=hid h;have D:=hid D;generalize hn:row.length=n at *;have g1:=iQ (0<n)
 clear h hn h0 ht hM i;unfold FV at c1;go_enter func235,ntmps235;go_upto_region 1 with fail;go_region_held3 (fun wx=>wx.cell? ⟨br,0,none⟩=some (.slice (some ⟨g,0,none⟩) n c)/\wx.cell? ⟨bw,0,none⟩=some (.func (.func 180) #[] #[.pointer (some ⟨bo,0,none⟩)])/\(convert 28 9 (.slice (some ⟨g,0,none⟩) M c)).run prog wx= .ok (.string (bs (row.take 24))) wx) (first|exact⟨c0,c1,kd⟩|exact k0) (first|(go_at_call 180;(with_reducible refine D.out.mono ?_);rintro e w' ⟨rfl,j,h'⟩;have k0:w'.cell? ⟨br,0,none⟩=some (.slice (some ⟨g,0,none⟩) n c)/\w'.cell? ⟨bw,0,none⟩=some (.func (.func 180) #[] #[.pointer (some ⟨bo,0,none⟩)])/\(convert 28 9 (.slice (some ⟨g,0,none⟩) M c)).run prog w'= .ok (.string (bs (row.take 24))) w':=⟨h'.r.cell 0,h'.f.cell 0,KD w' _ _ _ _ _ _ _ _ h'⟩));obtain⟨c2,c3,_⟩:=k0;have f2:=h'.r.frozen 0;have H':=hid h';clear h' D H c0 f0 c1;go_wp2_with fail;refine bodyPost_end (Ew rfl _ _ _) rfl ?_;exact⟨rfl,_,_,H'.out.row_cut⟩
theorem SI(base:Nat)(a w:World)(bo bw br:Nat)(ws:List (List UInt8))(row:List UInt8)(vo vr:Value)(hl:ws.length<=100000)(hr:row.length<=100000)
 (h:WSt base a w bo bw br ws row (FV bo) vo vr):
 Calls prog 235 #[.pointer (some ⟨br,0,none⟩), .pointer (some ⟨bw,0,none⟩)] w fun e w'=>e= .returned (.tuple #[])/\∃vo' vr',WSt base a w' bo bw br (ws++(tell row).map atS) [] (FV bo) vo' vr':=by
 by_cases h0:row= []
 ·subst h0;exact U7 base a w bo bw br ws vo vr h
 ·exact TR base a w bo bw br ws row vo vr hl hr h0 h
theorem aM(base:Nat)(a w:World)(bo:Nat)(s:ByteArray)(h:List (List UInt8))(v0:Value)(hs:s.size<=100000)(h0:h.length<=50000)(an:s.size<=50000)(hb:Below base a w)(af:base<=a.heap.size)(ho:Blk w bo 50 #[v0])(Y:w.ownsRow base 9 1 v0 h.length (AD h))(ac:base<=bo):
 Calls prog 178 #[.string s,FV bo] w (IS atS h s base a bo):=by
 obtain⟨j0,ah,aj,ae,ai⟩:=info_parts Ct;have y:=Lib.size_eq s;obtain⟨l,hl⟩:=iS s.data.toList;have HL:=hid hl;rw[<-hl]at y;have ab:=hid y;unfold IS words;rw[<-hl];have hz:=hb.size;have HB:=hid hb;have HO:=hid ho;have ag:=hid Y;clear hl y hb ho Y;unfold FV;go_enter func178,ntmps178;go_wp2_with fail;go_loopw [12] (fun i wx=>∃ (k:Nat) (ws:List (List UInt8)) (row:List UInt8) (vo vr:Value),k<=s.size/\i= .int .i64 k/\Hid (ws.length+row.length<=h.length+k)/\Hid (ws++(split row (l.drop k)).map atS=h++(split [] l).map atS)/\Hid (WSt base a wx bo w (w.heap.size+1) ws row (FV bo) vo vr)) (fun i _=>s.size-(intOf i).toNat)
 case atStart=>refine⟨0,h,[],v0, .slice none 0 0,kR,rfl,(by show _<=_;simp),mS,?_⟩;refine⟨lZ ni (lZ kR HB.out),(HO.out.alloc _).alloc _,(Blk.made _ _ _).alloc _,Blk.made_at _ _ _ mY,(ag.out.alloc _).alloc _,Aq _ _ _ _,ac,kR,af⟩
 case round=>
  obtain⟨k,ws,row,vo,vr,hk,rfl,hq,hW,H⟩:=hrel;have am:=hq.out;by_cases U:k<s.size
  ·have hd:=drop_at U;rw[<-HL.out]at hd;have hw:=hW.out;rw[hd,split]at hw;have hu:=Hg s[k];have j:=Gd s[k];have D:=fun wx=>O3 s[k].toNat hu wx;have x0:(0:Int)<=(k:Int):=kR;have x1:(k:Int)<(s.size:Int):=kR;cases hc:BW s[k]
   ·rw[hc]at hw j;rw[Aa mY,Is,<-zY]at hw;rw[<-j]at D;have D:=hid D;have E:=hid hw;have T:=hid (SI base a wr bo w (w.heap.size+1) ws row vo vr kR kR H.out);have aq:=K8 row;clear hd hw j hu hc hW;go_wp2_with fail;refine(D.out _).mono ?_;rintro e w1 ⟨rfl,rfl⟩;go_wp2_with fail;refine T.out.mono ?_;rintro e w1 ⟨rfl,M,aa,h'⟩;have H':=hid h';clear T D h' H;go_wp2_with fail;go_roundw
    case measure=>exact jw
    case rel=>go_light;exact⟨k+1,ws++(tell row).map atS,[],M,aa,kR,jx,by show _<=_;rw[Aj,EU,Cg];omega,E.out,H'.out⟩
   ·rw[hc]at hw j;rw[Ab rfl]at hw;rw[<-j]at D;obtain⟨A,c,rfl⟩:=aZ H.out.ro;have c0:=H.out.r.iO 0;have Z:=Kf s[k];have J:=fun w4 v4 o own4 hg=>H.out.row_app (w4:=w4) (v4:=v4) (o:=o) (Ej (s[k]'U)) own4 hg;have HA:=hid J;rw[<-Z]at D;generalize Ej s[k]=x at *;have D:=hid D;have E:=hid hw;have al:=H.out.below.size;have L:=hid H.out.ro;have Q:=H.out.r;have G:=hid Q;clear hd hw j hu hc hW J Z Q;generalize hn:row.length=n at *;have HN:=hid hn;clear hn;go_wp2_with fail;refine(D.out _).mono ?_;rintro e w1 ⟨rfl,rfl⟩;go_wp2_with(at_builtin;refine gZ rfl (.tmp 23) (.tmp 25) 28 rfl base 5 j0 _ 1 1 underlying28 ah aj ae ai rfl iX _ _ _ kU (L.out.alloc _) _ 1 1 [.int .u8 x.toNat] kU (Src.of_blk (Blk.made _ _ _) 1 1 1 rfl) kw nI kR ni ?_;intro v4 w4 z N ak;obtain⟨A4,k4,rfl⟩:=aZ z;have f4:w4.frozen? ⟨w.heap.size+1,0,none⟩=false:=(((G.out.alloc _).grown N (fun e=>fZ L.out G.out iX e.symm))).frozen 0;have c4:w4.cell? ⟨w.heap.size+1,0,none⟩=some (.slice A n c):=(((G.out.alloc _).grown N (fun e=>fZ L.out G.out iX e.symm))).cell 0);go_roundw
    case measure=>exact jw
    case rel=>exact jr
  ·obtain rfl:k=s.size:=by omega
   have hw:=hW.out;rw[Cw (by rw[ab.out];exact Ai _),split]at hw;have T:=hid (SI base a wr bo w (w.heap.size+1) ws row vo vr kR kR H.out);have E:=hid hw;clear hw hW H;go_wp2_with fail;refine T.out.mono ?_;rintro e w1 ⟨rfl,M,aa,h'⟩;have H':=hid h';clear T h';go_wp2_with fail;refine bodyPost_end (Ew rfl _ _ _) rfl ?_;refine⟨rfl,H'.out.below,M,H'.out.o,?_⟩;show World.ownsRow _ _ _ _ _ (h++(split [] l).map atS).length (AD (h++(split [] l).map atS));rw[<-E.out];exact H'.out.oo
end Sift
end Go.Proofs.YtfgdoknipbpfhaaGreatDoor
