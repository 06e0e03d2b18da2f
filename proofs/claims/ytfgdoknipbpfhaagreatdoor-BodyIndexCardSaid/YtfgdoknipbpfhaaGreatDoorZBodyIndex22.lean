/- The walks of words.W -/
import Derived.Test.YtfgdoknipbpfhaaGreatDoorZBodyIndex21
import Derived.Lib.MinMax
namespace Go.Proofs.YtfgdoknipbpfhaaGreatDoor
open Go.Proofs.Tryz
open Go.Lib (hid)
set_option maxHeartbeats 1000000
set_option maxRecDepth 100000
variable{o:Obj}{p:Addr}{c n:Nat}
namespace Sift
open Go.RowKit Mem Own Canon
section
variable {wx w4:World} {g base:Nat} {t e:TypeId} {s n:Nat} {v:Value} {xs cs}
theorem blk_over{row:Option Nat}(h:Blk wx g t cs)(hg:(wx.alloc o).grownBy w4 row)(hr:row≠some g)(hp:g≠p.block)(u:Value):Blk (w4.setCell p u) g t cs:=
 ((h.alloc o).grown hg (fun e=>hr e.symm)).far hp u
theorem Sg{row:Option Nat}(h:wx.ownsRow base e s v n xs)(hg:(wx.alloc o).grownBy w4 row)(hr:∀g,v.ownBlock=some g->row≠some g/\g≠p.block)(u:Value):(w4.setCell p u).ownsRow base e s v n xs:=
 eZ h fun b hb=>by obtain⟨h1,h2⟩:=hr b hb;have h3:=(Ai h b hb).2;exact(Be w4 p u b h2).trans ((hg.block b p5 (fun e=>h1 e.symm)).trans (EA wx o b h3))
theorem Dc(h:wx.ownsRow base e s v n xs)(hr:v.ownBlock≠some p.block)(u:Value):(wx.setCell p u).ownsRow base e s v n xs:=
 eZ h fun b hb=>Be wx p u b (fun e=>hr (e ▸ hb))
end
structure WSt (base:Nat) (a w:World) (bo bw br:Nat) (ws:List (List UInt8)) (row:List UInt8) (fv vo vr:Value):Prop where
 below:Below base a w
 o:Blk w bo 50 #[vo]
 f:Blk w bw 236 #[fv]
 r:Blk w br 28 #[vr]
 oo:w.ownsRow base 9 1 vo ws.length (AO ws)
 ro:w.ownsRow base 5 1 vr row.length (byL row)
 lo:base<=bo
 lr:base<=br
 la:base<=a.heap.size
section
variable {base:Nat} {a w w4:World} {bo bw br:Nat} {ws:List (List UInt8)} {row:List UInt8} {fv vo vr v4:Value}
theorem WSt.drew(h:WSt base a w bo bw br ws row fv vo vr):WSt base a w.drew bo bw br ws row fv vo vr:=⟨h.below.drew,h.o,h.f,h.r,h.oo,h.ro,h.lo,h.lr,h.la⟩
theorem WSt.row_app(h:WSt base a w bo bw br ws row fv vo vr)(c:UInt8)(i:w4.ownsRow base 5 1 v4 (row.length+1) (byL row++ [.int .u8 (c.toNat:Nat)]))(hg:(w.alloc o).grownBy w4 vr.ownBlock):
 WSt base a (w4.setCell ⟨br,0,none⟩ v4) bo bw br ws (row++ [c]) fv vo v4:=by
 have hz:=h.below.size;have j:Below base a w4:=(mZ (by have:=h.la;omega) h.below).grown hg (by simp;have:=h.la;omega) (fun y hy=>(Ai h.ro y hy).1);refine⟨j.setCell h.lr _,blk_over h.o hg (iZ h.ro h.o ji) (Blk.apart h.o h.r ji) _,blk_over h.f hg (iZ h.ro h.f ji) (Blk.apart h.f h.r ji) _,?_,Sg h.oo hg (fun g hg2=>⟨?_,?_⟩) _,?_,h.lo,h.lr,h.la⟩
 ·exact(((h.r.alloc o).grown hg (fun e=>iZ h.ro h.r ji e.symm))).set 0 v4
 ·intro e;rcases EN h.oo h.ro ji with h1|h1
  ·rw[h1]at hg2;cases hg2
  ·exact h1 (hg2.trans e.symm)
 ·intro e;exact iZ h.oo h.r ji (hg2.trans (AM some e))
 ·have hb:=(h.r.alloc o).grown hg (fun e=>iZ h.ro h.r ji e.symm);rw[Aj,Qb];exact Dc i (iZ i hb ji) _
theorem WSt.word_app(h:WSt base a w bo bw br ws row fv vo vr)(x:List UInt8)(i:w4.ownsRow base 9 1 v4 (ws.length+1) (AO ws++ [.string (bs x)]))(hg:(w.alloc o).grownBy w4 vo.ownBlock):
 WSt base a (w4.setCell ⟨bo,0,none⟩ v4) bo bw br (ws++ [x]) row fv v4 vr:=by
 have hz:=h.below.size;have j:Below base a w4:=(mZ (by have:=h.la;omega) h.below).grown hg (by simp;have:=h.la;omega) (fun y hy=>(Ai h.oo y hy).1);refine⟨j.setCell h.lo _,?_,blk_over h.f hg (iZ h.oo h.f ji) (Blk.apart h.f h.o ji) _,blk_over h.r hg (iZ h.oo h.r ji) (Blk.apart h.r h.o ji) _,?_,Sg h.ro hg (fun g hg2=>⟨?_,?_⟩) _,h.lo,h.lr,h.la⟩
 ·exact(((h.o.alloc o).grown hg (fun e=>iZ h.oo h.o ji e.symm))).set 0 v4
 ·have hb:=(h.o.alloc o).grown hg (fun e=>iZ h.oo h.o ji e.symm);rw[Aj,Jk];exact Dc i (iZ i hb ji) _
 ·intro e;rcases EN h.ro h.oo ji with h1|h1
  ·rw[h1]at hg2;cases hg2
  ·exact h1 (hg2.trans e.symm)
 ·intro e;exact iZ h.ro h.o ji (hg2.trans (AM some e))
theorem WSt.row_cut{A:Option Addr}(h:WSt base a w bo bw br ws row fv vo (.slice A n c)):WSt base a (w.setCell ⟨br,0,none⟩ (.slice A 0 c)) bo bw br ws [] fv vo (.slice A 0 c):=by
 refine⟨h.below.setCell h.lr _,h.o.far (Blk.apart h.o h.r ji) _,h.f.far (Blk.apart h.f h.r ji) _,h.r.set 0 _,Dc h.oo (iZ h.oo h.r ji) _,?_,h.lo,h.lr,h.la⟩
 have h2:w.ownsRow base 5 1 (.slice A 0 c) 0 []:=by
  rcases h.ro.2 with ⟨hv,_⟩|⟨g,E,cur,hv,hg,hh,_,j,i,_⟩
  ·injection hv with e1 e2 e3;subst e1 e3;exact AE _ _ _ _
  ·injection hv with e1 e2 e3;subst e1 e3;exact⟨pR, .inr ⟨g,c,cur,rfl,hg,hh,Da _,j,i,pR⟩⟩
 exact Dc h2 (iZ h2 h.r ji) _
end
theorem R3{P:Program}{t e:TypeId}{s:Nat}(ht:P.underlying t=some (.slice e))(hs:∀w,(sizeOf e).run P w= .ok s w)(g o len i:Nat)(kh:IntKind)(h:Int)(m:Nat)(hh:h=m)(hm:m<=i)(w:World):
 (Instr.slice t (.slice (some ⟨g,o,none⟩) len i) none (some (.int kh h)) none).run P w= .ok (.slice (some ⟨g,o,none⟩) m i) w:=by
 subst hh;have he:P.elem t=e:=p6
 rw[run_slice_h w t (some ⟨g,o,none⟩) len i pg kh (m:Int) nB nB,he,hs];simp[Result.andThen,sliced,Gx]
theorem Nx{w:World}{base m:Nat}{g:Nat}{l:List UInt8}(h:w.ownsRow base 5 1 (.slice (some ⟨g,0,none⟩) n c) n (byL l))(hn:l.length=n)(hm:m<=n):
 ∀wx:World,wx.heap[g]? =w.heap[g]? ->(convert 28 9 (.slice (some ⟨g,0,none⟩) m c)).run prog wx= .ok (.string (bs (l.take m))) wx:=by
 intro wx hb;have hz:(bs (l.take m)).size=m:=by rw[Dr,Bc];omega
 have E:Lib.Bytes wx g 0 (bs (l.take m)):=by
  intro i hi;rw[hz]at hi;have j:i<l.length:=nB
  rw[B0,World.cell?_of_block (a:=⟨g,i,none⟩) hb,h.cellAt i nB,My (l.take m) i (by rw[hz];exact hi),List.getElem_take];exact TX (AD j)
 have kd:=Lib.run_convert_whole (P:=prog) wx 28 5 9 underlying28 underlying5 underlying9 g 0 (bs (l.take m)) E c;rw[hz]at kd;exact kd
end Sift
namespace Sift
open Go.RowKit Mem Own Canon
theorem MU(row:List UInt8):(tell row).length<=row.length:=by
 unfold tell;split
 ·simp
 ·rename_i h;have:=FW.2 h;simp;omega
end Sift
namespace Sift
open Go.RowKit Mem Own Canon
open Idx (EE)
def Jp(f:List UInt8->List UInt8)(ws0:List (List UInt8))(s:ByteArray)(base:Nat)(a:World)(bo:Nat)(e:Ending)(w':World):Prop:=
 e= .returned (.tuple #[])/\Below base a w'/\∃vo,Blk w' bo 50 #[vo]/\w'.ownsRow base 9 1 vo (ws0++(words s.data.toList).map f).length (AO (ws0++(words s.data.toList).map f))
theorem Ty(x:List UInt8):(ByteArray.mk #[64])++bs x=bs (EE :: x):=by
 apply ByteArray.ext
 rw[ByteArray.data_append];apply Array.ext';simp[bs,EE]
def idS(x:List UInt8):List UInt8:=x
def atS(x:List UInt8):List UInt8:=EE :: x
theorem mG(base:Nat)(a w:World)(bo bw br:Nat)(ws:List (List UInt8))(row x:List UInt8)(fv vo vr:Value)(hl:ws.length<=100000)(h:WSt base a w bo bw br ws row fv vo vr):
 Calls prog 179 #[.string (bs x), .pointer (some ⟨bo,0,none⟩)] w fun e w'=>e= .returned (.tuple #[])/\∃vo',WSt base a w' bo bw br (ws++ [idS x]) row fv vo' vr:=by
 obtain⟨j1,L,G,E,J⟩:=info_parts LG;obtain⟨A,c,rfl⟩:=aZ h.oo;have c0:=h.o.iy 0;have f0:=h.o.frozen 0;have hz:=h.below.size;have N:=h.la;have H:=hid h;generalize hn:ws.length=n at *;have HN:=hid hn;clear h hn;go_enter func179,ntmps179;go_wp2_with(at_builtin;refine fZ rfl (.tmp 3) (.tmp 5) 50 rfl base 9 j1 _ 1 16 underlying50 L G E J rfl ji _ _ _ nC ((HN.out ▸ H.out.oo).alloc _) _ 1 1 [.string (bs x)] nC (Src.of_blk (Blk.made _ _ _) 1 1 1 rfl) mY qn nB p5 ?_;intro v4 w4 i j M;obtain⟨A4,k4,rfl⟩:=aZ i;have f4:w4.frozen? ⟨bo,0,none⟩=false:=(((H.out.o.alloc _).grown j (fun e=>iZ H.out.oo H.out.o ji e.symm))).frozen 0;have c4:w4.cell? ⟨bo,0,none⟩=some (.slice A n c):=(((H.out.o.alloc _).grown j (fun e=>iZ H.out.oo H.out.o ji e.symm))).cell 0);refine bodyPost_end (FD rfl _ _ _) rfl ?_;exact⟨rfl,_,H.out.word_app (idS x) (HN.out ▸ i) j⟩
def GN(bo:Nat):Value:= .func (.func 179) #[] #[.pointer (some ⟨bo,0,none⟩)]
theorem Zk(base:Nat)(a w:World)(bo bw br:Nat)(ws:List (List UInt8))(vo vr:Value)
 (h:WSt base a w bo bw br ws [] (GN bo) vo vr):
 Calls prog 235 #[.pointer (some ⟨br,0,none⟩), .pointer (some ⟨bw,0,none⟩)] w fun e w'=>e= .returned (.tuple #[])/\∃vo' vr',WSt base a w' bo bw br (ws++(tell []).map idS) [] (GN bo) vo' vr':=by
 rw[show(tell []).map idS= [] from rfl,Cx];obtain⟨A,c,rfl⟩:=aZ h.ro;have c0:=h.r.cell 0;have f0:=h.r.frozen 0;simp only[List.getElem?_toArray,List.getElem?_cons_zero,List.length_nil]at c0;have H:=hid h;clear h;go_enter func235,ntmps235;go_wp2_with fail;refine bodyPost_end (FD rfl _ _ _) rfl ?_;exact⟨rfl,_,_,H.out.row_cut⟩
theorem gX(base:Nat)(a w:World)(bo bw br:Nat)(ws:List (List UInt8))(row:List UInt8)(vo vr:Value)(hl:ws.length<=100000)(hr:row.length<=100000)(h0:row≠ [])
 (h:WSt base a w bo bw br ws row (GN bo) vo vr):
 Calls prog 235 #[.pointer (some ⟨br,0,none⟩), .pointer (some ⟨bw,0,none⟩)] w fun e w'=>e= .returned (.tuple #[])/\∃E vr',WSt base a w' bo bw br (ws++(tell row).map idS) [] (GN bo) E vr':=by
 have ht:(tell row).map idS= [idS (row.take 24)]:=by rw[show tell row= [row.take 24] from Ae h0];rfl
 rw[ht];have G:0<row.length:=FW.2 h0;obtain⟨g,c,rfl⟩:∃g c,vr= .slice (some ⟨g,0,none⟩) row.length c:=nm
 have c0:=h.r.iy 0;have f0:=h.r.frozen 0;have c1:=h.f.iy 0;have D:=mG base a w.drew bo bw br ws row (row.take 24) _ _ _ hl h.drew;obtain⟨M,hM⟩:=jc (min row.length 24);have kd:=Nx (m:=M) h.ro rfl nB w.drew rfl;have KD:∀ (w':World) base a bo bw br ws fv vo,WSt base a w' bo bw br ws row fv vo (.slice (some ⟨g,0,none⟩) row.length c)->(convert 28 9 (.slice (some ⟨g,0,none⟩) M c)).run prog w'= .ok (.string (bs (row.take M))) w':=fun w' _ _ _ _ _ _ _ _ h'=>Nx (m:=M) h'.ro rfl nB w' rfl
 have j:row.take M=row.take 24:=by
  rw[hM];by_cases i:row.length<=24
  ·rw[Nat.min_eq_left i,Bp nB,Bp i]
  ·rw[Nat.min_eq_right nB]
 rw[j]at kd KD;have L:min (row.length:Int) 24=(M:Int):=nB
 have J:=(Ew h.ro).2;have ks:=fun wx=>R3 (P:=prog) (t:=28) (s:=1) underlying28 (fun _=>by kernel_rfl) g 0 row.length c .i64 (M:Int) M rfl nB wx;have H:=hid h;have D:=hid D;generalize hn:row.length=n at *;have g1:=ja (0<n)
 clear h hn h0 ht hM j;unfold GN at c1;go_enter func235,ntmps235;go_upto_region 1 with fail;go_region_held3 (fun wx=>wx.cell? ⟨br,0,none⟩=some (.slice (some ⟨g,0,none⟩) n c)/\wx.cell? ⟨bw,0,none⟩=some (.func (.func 179) #[] #[.pointer (some ⟨bo,0,none⟩)])/\(convert 28 9 (.slice (some ⟨g,0,none⟩) M c)).run prog wx= .ok (.string (bs (row.take 24))) wx) (first|exact⟨c0,c1,kd⟩|exact k0) (first|(go_at_call 179;(with_reducible refine D.out.mono ?_);rintro e w' ⟨rfl,E,h'⟩;have k0:w'.cell? ⟨br,0,none⟩=some (.slice (some ⟨g,0,none⟩) n c)/\w'.cell? ⟨bw,0,none⟩=some (.func (.func 179) #[] #[.pointer (some ⟨bo,0,none⟩)])/\(convert 28 9 (.slice (some ⟨g,0,none⟩) M c)).run prog w'= .ok (.string (bs (row.take 24))) w':=⟨h'.r.cell 0,h'.f.cell 0,KD w' _ _ _ _ _ _ _ _ h'⟩));obtain⟨c2,c3,_⟩:=k0;have f2:=h'.r.frozen 0;have H':=hid h';clear h' D H c0 f0 c1;go_wp2_with fail;refine bodyPost_end (FD rfl _ _ _) rfl ?_;exact⟨rfl,_,_,H'.out.row_cut⟩
theorem VY(base:Nat)(a w:World)(bo bw br:Nat)(ws:List (List UInt8))(row:List UInt8)(vo vr:Value)(hl:ws.length<=100000)(hr:row.length<=100000)
 (h:WSt base a w bo bw br ws row (GN bo) vo vr):
 Calls prog 235 #[.pointer (some ⟨br,0,none⟩), .pointer (some ⟨bw,0,none⟩)] w fun e w'=>e= .returned (.tuple #[])/\∃vo' vr',WSt base a w' bo bw br (ws++(tell row).map idS) [] (GN bo) vo' vr':=by
 by_cases h0:row= []
 ·subst h0;exact Zk base a w bo bw br ws vo vr h
 ·exact gX base a w bo bw br ws row vo vr hl hr h0 h
theorem fX(base:Nat)(a w:World)(bo:Nat)(s:ByteArray)(h:List (List UInt8))(v0:Value)(hs:s.size<=100000)(h0:h.length<=50000)(aq:s.size<=50000)(hb:Below base a w)(af:base<=a.heap.size)(ho:Blk w bo 50 #[v0])(Y:w.ownsRow base 9 1 v0 h.length (AO h))(aj:base<=bo):
 Calls prog 178 #[.string s,GN bo] w (Jp idS h s base a bo):=by
 obtain⟨j0,al,ag,ai,ak⟩:=info_parts CW;have E:=Lib.size_eq s;obtain⟨l,hl⟩:=jc s.data.toList;have HL:=hid hl;rw[<-hl]at E;have ae:=hid E;unfold Jp words;rw[<-hl];have hz:=hb.size;have HB:=hid hb;have HO:=hid ho;have ah:=hid Y;clear hl E hb ho Y;unfold GN;go_enter func178,ntmps178;go_wp2_with fail;go_loopw [12] (fun i wx=>∃ (k:Nat) (ws:List (List UInt8)) (row:List UInt8) (vo vr:Value),k<=s.size/\i= .int .i64 k/\Hid (ws.length+row.length<=h.length+k)/\Hid (ws++(split row (l.drop k)).map idS=h++(split [] l).map idS)/\Hid (WSt base a wx bo w (w.heap.size+1) ws row (GN bo) vo vr)) (fun i _=>s.size-(intOf i).toNat)
 case atStart=>refine⟨0,h,[],v0, .slice none 0 0,nB,rfl,(by show _<=_;simp),by show _=_;simp,?_⟩;refine⟨mZ p5 (mZ nB HB.out),(HO.out.alloc _).alloc _,(Blk.made _ _ _).alloc _,Blk.made_at _ _ _ pR,(ah.out.alloc _).alloc _,AE _ _ _ _,aj,nB,af⟩
 case round=>
  obtain⟨k,ws,row,vo,vr,hk,rfl,hq,hW,H⟩:=hrel;have au:=hq.out;by_cases ab:k<s.size
  ·have hd:=drop_at ab;rw[<-HL.out]at hd;have hw:=hW.out;rw[hd,split]at hw;have hu:=IC s[k];have j:=GU s[k];have D:=fun wx=>Q6 s[k].toNat hu wx;have x0:(0:Int)<=(k:Int):=nB;have x1:(k:Int)<(s.size:Int):=nB;cases hc:Co s[k]
   ·rw[hc]at hw j;rw[Ae pR,DY,<-AK]at hw;rw[<-j]at D;have D:=hid D;have G:=hid hw;have T:=hid (VY base a wr bo w (w.heap.size+1) ws row vo vr nB nB H.out);have an:=MU row;clear hd hw j hu hc hW;go_wp2_with fail;refine(D.out _).mono ?_;rintro e w1 ⟨rfl,rfl⟩;go_wp2_with fail;refine T.out.mono ?_;rintro e w1 ⟨rfl,U,aa,h'⟩;have H':=hid h';clear T D h' H;go_wp2_with fail;go_roundw
    case measure=>exact ld
    case rel=>go_light;exact⟨k+1,ws++(tell row).map idS,[],U,aa,nB,lj,by show _<=_;rw[Aj,Ea,Bk];omega,G.out,H'.out⟩
   ·rw[hc]at hw j;rw[Ag rfl]at hw;rw[<-j]at D;obtain⟨A,c,rfl⟩:=aZ H.out.ro;have c0:=H.out.r.iy 0;have Z:=Kz s[k];have M:=fun w4 v4 o own4 hg=>H.out.row_app (w4:=w4) (v4:=v4) (o:=o) (EM (s[k]'ab)) own4 hg;have HA:=hid M;rw[<-Z]at D;generalize EM s[k]=x at *;have D:=hid D;have G:=hid hw;have ar:=H.out.below.size;have N:=hid H.out.ro;have ac:=H.out.r;have L:=hid ac;clear hd hw j hu hc hW M Z ac;generalize hn:row.length=n at *;have HN:=hid hn;clear hn;go_wp2_with fail;refine(D.out _).mono ?_;rintro e w1 ⟨rfl,rfl⟩;go_wp2_with(at_builtin;refine fZ rfl (.tmp 23) (.tmp 25) 28 rfl base 5 j0 _ 1 1 underlying28 al ag ai ak rfl ji _ _ _ nC (N.out.alloc _) _ 1 1 [.int .u8 x.toNat] nC (Src.of_blk (Blk.made _ _ _) 1 1 1 rfl) mY qn nB p5 ?_;intro v4 w4 J Q am;obtain⟨A4,k4,rfl⟩:=aZ J;have f4:w4.frozen? ⟨w.heap.size+1,0,none⟩=false:=(((L.out.alloc _).grown Q (fun e=>iZ N.out L.out ji e.symm))).frozen 0;have c4:w4.cell? ⟨w.heap.size+1,0,none⟩=some (.slice A n c):=(((L.out.alloc _).grown Q (fun e=>iZ N.out L.out ji e.symm))).cell 0);go_roundw
    case measure=>exact ld
    case rel=>exact kz
  ·obtain rfl:k=s.size:=by omega
   have hw:=hW.out;rw[CF (by rw[ae.out];exact Am _),split]at hw;have T:=hid (VY base a wr bo w (w.heap.size+1) ws row vo vr nB nB H.out);have G:=hid hw;clear hw hW H;go_wp2_with fail;refine T.out.mono ?_;rintro e w1 ⟨rfl,U,aa,h'⟩;have H':=hid h';clear T h';go_wp2_with fail;refine bodyPost_end (FD rfl _ _ _) rfl ?_;refine⟨rfl,H'.out.below,U,H'.out.o,?_⟩;show World.ownsRow _ _ _ _ _ (h++(split [] l).map idS).length (AO (h++(split [] l).map idS));rw[<-G.out];exact H'.out.oo
theorem lP(base:Nat)(a w:World)(bo bw br:Nat)(ws:List (List UInt8))(row x:List UInt8)(fv vo vr:Value)(hl:ws.length<=100000)(hx:x.length<=100000)(h:WSt base a w bo bw br ws row fv vo vr):
 Calls prog 180 #[.string (bs x), .pointer (some ⟨bo,0,none⟩)] w fun e w'=>e= .returned (.tuple #[])/\∃vo',WSt base a w' bo bw br (ws++ [atS x]) row fv vo' vr:=by
 obtain⟨j1,L,G,E,J⟩:=info_parts LG;obtain⟨A,c,rfl⟩:=aZ h.oo;have c0:=h.o.iy 0;have f0:=h.o.frozen 0;have hz:=h.below.size;have Q:=h.la;have H:=hid h;have kc:=Ty x;have N:(bs x).size<=100000:=by rw[Dr];exact hx
 clear hx;generalize hn:ws.length=n at *;have HN:=hid hn;clear h hn;go_enter func180,ntmps180;go_wp2_with(at_builtin;refine fZ rfl (.tmp 3) (.tmp 6) 50 rfl base 9 j1 _ 1 16 underlying50 L G E J rfl ji _ _ _ nC ((HN.out ▸ H.out.oo).alloc _) _ 1 1 [.string (bs (EE :: x))] nC (Src.of_blk (Blk.made _ _ _) 1 1 1 rfl) mY qn nB p5 ?_;intro v4 w4 i j M;obtain⟨A4,k4,rfl⟩:=aZ i;have f4:w4.frozen? ⟨bo,0,none⟩=false:=(((H.out.o.alloc _).grown j (fun e=>iZ H.out.oo H.out.o ji e.symm))).frozen 0;have c4:w4.cell? ⟨bo,0,none⟩=some (.slice A n c):=(((H.out.o.alloc _).grown j (fun e=>iZ H.out.oo H.out.o ji e.symm))).cell 0);refine bodyPost_end (FD rfl _ _ _) rfl ?_;exact⟨rfl,_,H.out.word_app (atS x) (HN.out ▸ i) j⟩
def GM(bo:Nat):Value:= .func (.func 180) #[] #[.pointer (some ⟨bo,0,none⟩)]
theorem Y0(base:Nat)(a w:World)(bo bw br:Nat)(ws:List (List UInt8))(vo vr:Value)
 (h:WSt base a w bo bw br ws [] (GM bo) vo vr):
 Calls prog 235 #[.pointer (some ⟨br,0,none⟩), .pointer (some ⟨bw,0,none⟩)] w fun e w'=>e= .returned (.tuple #[])/\∃vo' vr',WSt base a w' bo bw br (ws++(tell []).map atS) [] (GM bo) vo' vr':=by
 rw[show(tell []).map atS= [] from rfl,Cx];obtain⟨A,c,rfl⟩:=aZ h.ro;have c0:=h.r.cell 0;have f0:=h.r.frozen 0;simp only[List.getElem?_toArray,List.getElem?_cons_zero,List.length_nil]at c0;have H:=hid h;clear h;go_enter func235,ntmps235;go_wp2_with fail;refine bodyPost_end (FD rfl _ _ _) rfl ?_;exact⟨rfl,_,_,H.out.row_cut⟩
theorem fE(base:Nat)(a w:World)(bo bw br:Nat)(ws:List (List UInt8))(row:List UInt8)(vo vr:Value)(hl:ws.length<=100000)(hr:row.length<=100000)(h0:row≠ [])
 (h:WSt base a w bo bw br ws row (GM bo) vo vr):
 Calls prog 235 #[.pointer (some ⟨br,0,none⟩), .pointer (some ⟨bw,0,none⟩)] w fun e w'=>e= .returned (.tuple #[])/\∃E vr',WSt base a w' bo bw br (ws++(tell row).map atS) [] (GM bo) E vr':=by
 have ht:(tell row).map atS= [atS (row.take 24)]:=by rw[show tell row= [row.take 24] from Ae h0];rfl
 rw[ht];have G:0<row.length:=FW.2 h0;obtain⟨g,c,rfl⟩:∃g c,vr= .slice (some ⟨g,0,none⟩) row.length c:=nm
 have c0:=h.r.iy 0;have f0:=h.r.frozen 0;have c1:=h.f.iy 0;have D:=lP base a w.drew bo bw br ws row (row.take 24) _ _ _ hl nY h.drew;obtain⟨M,hM⟩:=jc (min row.length 24);have kd:=Nx (m:=M) h.ro rfl nB w.drew rfl;have KD:∀ (w':World) base a bo bw br ws fv vo,WSt base a w' bo bw br ws row fv vo (.slice (some ⟨g,0,none⟩) row.length c)->(convert 28 9 (.slice (some ⟨g,0,none⟩) M c)).run prog w'= .ok (.string (bs (row.take M))) w':=fun w' _ _ _ _ _ _ _ _ h'=>Nx (m:=M) h'.ro rfl nB w' rfl
 have j:row.take M=row.take 24:=by
  rw[hM];by_cases i:row.length<=24
  ·rw[Nat.min_eq_left i,Bp nB,Bp i]
  ·rw[Nat.min_eq_right nB]
 rw[j]at kd KD;have L:min (row.length:Int) 24=(M:Int):=nB
 have J:=(Ew h.ro).2;have ks:=fun wx=>R3 (P:=prog) (t:=28) (s:=1) underlying28 (fun _=>by kernel_rfl) g 0 row.length c .i64 (M:Int) M rfl nB wx;have H:=hid h;have D:=hid D;generalize hn:row.length=n at *;have g1:=ja (0<n)
 clear h hn h0 ht hM j;unfold GM at c1;go_enter func235,ntmps235;go_upto_region 1 with fail;go_region_held3 (fun wx=>wx.cell? ⟨br,0,none⟩=some (.slice (some ⟨g,0,none⟩) n c)/\wx.cell? ⟨bw,0,none⟩=some (.func (.func 180) #[] #[.pointer (some ⟨bo,0,none⟩)])/\(convert 28 9 (.slice (some ⟨g,0,none⟩) M c)).run prog wx= .ok (.string (bs (row.take 24))) wx) (first|exact⟨c0,c1,kd⟩|exact k0) (first|(go_at_call 180;(with_reducible refine D.out.mono ?_);rintro e w' ⟨rfl,E,h'⟩;have k0:w'.cell? ⟨br,0,none⟩=some (.slice (some ⟨g,0,none⟩) n c)/\w'.cell? ⟨bw,0,none⟩=some (.func (.func 180) #[] #[.pointer (some ⟨bo,0,none⟩)])/\(convert 28 9 (.slice (some ⟨g,0,none⟩) M c)).run prog w'= .ok (.string (bs (row.take 24))) w':=⟨h'.r.cell 0,h'.f.cell 0,KD w' _ _ _ _ _ _ _ _ h'⟩));obtain⟨c2,c3,_⟩:=k0;have f2:=h'.r.frozen 0;have H':=hid h';clear h' D H c0 f0 c1;go_wp2_with fail;refine bodyPost_end (FD rfl _ _ _) rfl ?_;exact⟨rfl,_,_,H'.out.row_cut⟩
theorem VL(base:Nat)(a w:World)(bo bw br:Nat)(ws:List (List UInt8))(row:List UInt8)(vo vr:Value)(hl:ws.length<=100000)(hr:row.length<=100000)
 (h:WSt base a w bo bw br ws row (GM bo) vo vr):
 Calls prog 235 #[.pointer (some ⟨br,0,none⟩), .pointer (some ⟨bw,0,none⟩)] w fun e w'=>e= .returned (.tuple #[])/\∃vo' vr',WSt base a w' bo bw br (ws++(tell row).map atS) [] (GM bo) vo' vr':=by
 by_cases h0:row= []
 ·subst h0;exact Y0 base a w bo bw br ws vo vr h
 ·exact fE base a w bo bw br ws row vo vr hl hr h0 h
theorem d5(base:Nat)(a w:World)(bo:Nat)(s:ByteArray)(h:List (List UInt8))(v0:Value)(hs:s.size<=100000)(h0:h.length<=50000)(aq:s.size<=50000)(hb:Below base a w)(af:base<=a.heap.size)(ho:Blk w bo 50 #[v0])(Y:w.ownsRow base 9 1 v0 h.length (AO h))(aj:base<=bo):
 Calls prog 178 #[.string s,GM bo] w (Jp atS h s base a bo):=by
 obtain⟨j0,al,ag,ai,ak⟩:=info_parts CW;have E:=Lib.size_eq s;obtain⟨l,hl⟩:=jc s.data.toList;have HL:=hid hl;rw[<-hl]at E;have ae:=hid E;unfold Jp words;rw[<-hl];have hz:=hb.size;have HB:=hid hb;have HO:=hid ho;have ah:=hid Y;clear hl E hb ho Y;unfold GM;go_enter func178,ntmps178;go_wp2_with fail;go_loopw [12] (fun i wx=>∃ (k:Nat) (ws:List (List UInt8)) (row:List UInt8) (vo vr:Value),k<=s.size/\i= .int .i64 k/\Hid (ws.length+row.length<=h.length+k)/\Hid (ws++(split row (l.drop k)).map atS=h++(split [] l).map atS)/\Hid (WSt base a wx bo w (w.heap.size+1) ws row (GM bo) vo vr)) (fun i _=>s.size-(intOf i).toNat)
 case atStart=>refine⟨0,h,[],v0, .slice none 0 0,nB,rfl,(by show _<=_;simp),by show _=_;simp,?_⟩;refine⟨mZ p5 (mZ nB HB.out),(HO.out.alloc _).alloc _,(Blk.made _ _ _).alloc _,Blk.made_at _ _ _ pR,(ah.out.alloc _).alloc _,AE _ _ _ _,aj,nB,af⟩
 case round=>
  obtain⟨k,ws,row,vo,vr,hk,rfl,hq,hW,H⟩:=hrel;have au:=hq.out;by_cases ab:k<s.size
  ·have hd:=drop_at ab;rw[<-HL.out]at hd;have hw:=hW.out;rw[hd,split]at hw;have hu:=IC s[k];have j:=GU s[k];have D:=fun wx=>Q6 s[k].toNat hu wx;have x0:(0:Int)<=(k:Int):=nB;have x1:(k:Int)<(s.size:Int):=nB;cases hc:Co s[k]
   ·rw[hc]at hw j;rw[Ae pR,DY,<-AK]at hw;rw[<-j]at D;have D:=hid D;have G:=hid hw;have T:=hid (VL base a wr bo w (w.heap.size+1) ws row vo vr nB nB H.out);have an:=MU row;clear hd hw j hu hc hW;go_wp2_with fail;refine(D.out _).mono ?_;rintro e w1 ⟨rfl,rfl⟩;go_wp2_with fail;refine T.out.mono ?_;rintro e w1 ⟨rfl,U,aa,h'⟩;have H':=hid h';clear T D h' H;go_wp2_with fail;go_roundw
    case measure=>exact ld
    case rel=>go_light;exact⟨k+1,ws++(tell row).map atS,[],U,aa,nB,lj,by show _<=_;rw[Aj,Ea,Bk];omega,G.out,H'.out⟩
   ·rw[hc]at hw j;rw[Ag rfl]at hw;rw[<-j]at D;obtain⟨A,c,rfl⟩:=aZ H.out.ro;have c0:=H.out.r.iy 0;have Z:=Kz s[k];have M:=fun w4 v4 o own4 hg=>H.out.row_app (w4:=w4) (v4:=v4) (o:=o) (EM (s[k]'ab)) own4 hg;have HA:=hid M;rw[<-Z]at D;generalize EM s[k]=x at *;have D:=hid D;have G:=hid hw;have ar:=H.out.below.size;have N:=hid H.out.ro;have ac:=H.out.r;have L:=hid ac;clear hd hw j hu hc hW M Z ac;generalize hn:row.length=n at *;have HN:=hid hn;clear hn;go_wp2_with fail;refine(D.out _).mono ?_;rintro e w1 ⟨rfl,rfl⟩;go_wp2_with(at_builtin;refine fZ rfl (.tmp 23) (.tmp 25) 28 rfl base 5 j0 _ 1 1 underlying28 al ag ai ak rfl ji _ _ _ nC (N.out.alloc _) _ 1 1 [.int .u8 x.toNat] nC (Src.of_blk (Blk.made _ _ _) 1 1 1 rfl) mY qn nB p5 ?_;intro v4 w4 J Q am;obtain⟨A4,k4,rfl⟩:=aZ J;have f4:w4.frozen? ⟨w.heap.size+1,0,none⟩=false:=(((L.out.alloc _).grown Q (fun e=>iZ N.out L.out ji e.symm))).frozen 0;have c4:w4.cell? ⟨w.heap.size+1,0,none⟩=some (.slice A n c):=(((L.out.alloc _).grown Q (fun e=>iZ N.out L.out ji e.symm))).cell 0);go_roundw
    case measure=>exact ld
    case rel=>exact kz
  ·obtain rfl:k=s.size:=by omega
   have hw:=hW.out;rw[CF (by rw[ae.out];exact Am _),split]at hw;have T:=hid (VL base a wr bo w (w.heap.size+1) ws row vo vr nB nB H.out);have G:=hid hw;clear hw hW H;go_wp2_with fail;refine T.out.mono ?_;rintro e w1 ⟨rfl,U,aa,h'⟩;have H':=hid h';clear T h';go_wp2_with fail;refine bodyPost_end (FD rfl _ _ _) rfl ?_;refine⟨rfl,H'.out.below,U,H'.out.o,?_⟩;show World.ownsRow _ _ _ _ _ (h++(split [] l).map atS).length (AO (h++(split [] l).map atS));rw[<-G.out];exact H'.out.oo
end Sift
end Go.Proofs.YtfgdoknipbpfhaaGreatDoor
