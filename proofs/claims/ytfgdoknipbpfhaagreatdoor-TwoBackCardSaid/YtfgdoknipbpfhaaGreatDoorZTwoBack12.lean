/- The contracts of fun -/
import Derived.Test.YtfgdoknipbpfhaaGreatDoorZTwoBack1
import Derived.Shelf.Small.Bits
import Derived.Shelf.Strconv.Itoa0
import Derived.Shelf.Sort.Plain
import Derived.Shelf.Bits.Mul64
import Derived.Shelf.Slices.CompactS
import Derived.Shelf.Slices.Cells
import Derived.Shelf.Slices.In.SortNone
namespace Go.Proofs.YtfgdoknipbpfhaaGreatDoor end Go.Proofs.YtfgdoknipbpfhaaGreatDoor open Go.Proofs.YtfgdoknipbpfhaaGreatDoor
open Go.Lib (hid)
namespace Go.Proofs
open Go.Shelf
def Tryz.lays125_ren:Go.Shelf.Ren:=⟨fun|125=>233|128=>281|129=>282|n=>n,fun|46=>220|3=>3|51=>149|53=>41|4=>4|5=>5|9=>9|n=>n,fun|n=>n⟩
theorem Tryz.lays125:Go.Proofs.Lays.n125 Tryz.prog Tryz.lays125_ren:={
 mixed:=my
 f125:=Tryz.func233.trans (Aw some my)
 f128:=Tryz.func281.trans (Aw some my)
 f129:=Tryz.func282.trans (Aw some my)
 t3:=Tryz.underlying3
 a3:=Tryz.isAgg3
 z3:=Tryz.sizeOf3
 v3:=Tryz.zeroValue3
 t4:=Tryz.underlying4
 a4:=Tryz.isAgg4
 z4:=Tryz.sizeOf4
 v4:=Tryz.zeroValue4
 t5:=Tryz.underlying5
 a5:=Tryz.isAgg5
 z5:=Tryz.sizeOf5
 v5:=Tryz.zeroValue5
 t9:=Tryz.underlying9
 a9:=Tryz.isAgg9
 z9:=Tryz.sizeOf9
 v9:=Tryz.zeroValue9
 t46:=Tryz.underlying220
 a46:=Tryz.isAgg220
 z46:=Tryz.sizeOf220
 v46:=Tryz.zeroValue220
 t51:=Tryz.underlying149
 a51:=Tryz.isAgg149
 z51:=Tryz.sizeOf149
 v51:=Tryz.zeroValue149
 t53:=Tryz.underlying41
 a53:=Tryz.isAgg41
 z53:=Tryz.sizeOf41
 v53:=Tryz.zeroValue41}
theorem Tryz.bits_Len(x:Int)(w:World)(h0:0<=x)(h1:x<=18446744073709551615):
 Calls Tryz.prog 233 #[.int .u64 x] w fun e w'=>e= .returned (.int .i64 (Lib.bitLen x.toNat))/\w'=w:=Any.bits_Len Tryz.lays125 x w h0 h1
def Tryz.lays190_ren:Go.Shelf.Ren:=⟨fun|190=>181|125=>233|258=>237|128=>281|129=>282|302=>283|303=>284|304=>285|305=>286|306=>287|307=>288|308=>289|309=>290|310=>291|333=>320|329=>321|330=>322|334=>323|335=>324|336=>325|344=>351|n=>n,fun|31=>50|9=>9|3=>3|46=>220|0=>0|51=>149|53=>41|4=>4|183=>374|182=>373|131=>35|5=>5|218=>405|222=>408|228=>448|229=>183|n=>n,fun|n=>n⟩
theorem Tryz.lays190:Go.Proofs.Lays.n190 Tryz.prog Tryz.lays190_ren:={
 mixed:=my
 f125:=Tryz.func233.trans (Aw some my)
 f128:=Tryz.func281.trans (Aw some my)
 f129:=Tryz.func282.trans (Aw some my)
 f190:=Tryz.func181.trans (Aw some my)
 f258:=Tryz.func237.trans (Aw some my)
 f302:=Tryz.func283.trans (Aw some my)
 f303:=Tryz.func284.trans (Aw some my)
 f304:=Tryz.func285.trans (Aw some my)
 f305:=Tryz.func286.trans (Aw some my)
 f306:=Tryz.func287.trans (Aw some my)
 f307:=Tryz.func288.trans (Aw some my)
 f308:=Tryz.func289.trans (Aw some my)
 f309:=Tryz.func290.trans (Aw some my)
 f310:=Tryz.func291.trans (Aw some my)
 f329:=Tryz.func321.trans (Aw some my)
 f330:=Tryz.func322.trans (Aw some my)
 f333:=Tryz.func320.trans (Aw some my)
 f334:=Tryz.func323.trans (Aw some my)
 f335:=Tryz.func324.trans (Aw some my)
 f336:=Tryz.func325.trans (Aw some my)
 f344:=Tryz.func351.trans (Aw some my)
 t0:=Tryz.underlying0
 a0:=Tryz.isAgg0
 z0:=Tryz.sizeOf0
 v0:=Tryz.zeroValue0
 t3:=Tryz.underlying3
 a3:=Tryz.isAgg3
 z3:=Tryz.sizeOf3
 v3:=Tryz.zeroValue3
 t4:=Tryz.underlying4
 a4:=Tryz.isAgg4
 z4:=Tryz.sizeOf4
 v4:=Tryz.zeroValue4
 t5:=Tryz.underlying5
 a5:=Tryz.isAgg5
 z5:=Tryz.sizeOf5
 v5:=Tryz.zeroValue5
 t9:=Tryz.underlying9
 a9:=Tryz.isAgg9
 z9:=Tryz.sizeOf9
 v9:=Tryz.zeroValue9
 t31:=Tryz.underlying50
 a31:=Tryz.isAgg50
 z31:=Tryz.sizeOf50
 v31:=Tryz.zeroValue50
 t46:=Tryz.underlying220
 a46:=Tryz.isAgg220
 z46:=Tryz.sizeOf220
 v46:=Tryz.zeroValue220
 t51:=Tryz.underlying149
 a51:=Tryz.isAgg149
 z51:=Tryz.sizeOf149
 v51:=Tryz.zeroValue149
 t53:=Tryz.underlying41
 a53:=Tryz.isAgg41
 z53:=Tryz.sizeOf41
 v53:=Tryz.zeroValue41
 t131:=Tryz.underlying35
 a131:=Tryz.isAgg35
 z131:=Tryz.sizeOf35
 v131:=Tryz.zeroValue35
 t182:=Tryz.underlying373
 a182:=Tryz.isAgg373
 z182:=Tryz.sizeOf373
 v182:=Tryz.zeroValue373
 t183:=Tryz.underlying374
 a183:=Tryz.isAgg374
 z183:=Tryz.sizeOf374
 v183:=Tryz.zeroValue374
 t218:=Tryz.underlying405
 a218:=Tryz.isAgg405
 z218:=Tryz.sizeOf405
 v218:=Tryz.zeroValue405
 t222:=Tryz.underlying408
 a222:=Tryz.isAgg408
 z222:=Tryz.sizeOf408
 v222:=Tryz.zeroValue408
 t228:=Tryz.underlying448
 a228:=Tryz.isAgg448
 z228:=Tryz.sizeOf448
 v228:=Tryz.zeroValue448
 t229:=Tryz.underlying183
 a229:=Tryz.isAgg183
 z229:=Tryz.sizeOf183
 v229:=Tryz.zeroValue183}
open Go.Sort Go.RowKit in
theorem Tryz.slices_Sort_string(blk h j:Nat)(ss:List (List UInt8))(w:World)(hH:Holds encStr w blk h ss.toArray)(i:blk<w.heap.size)(z:ss.length<4611686018427387904):
 Calls Tryz.prog 181 #[.slice (some ⟨blk,h,none⟩) ss.length j] w fun e w'=>e= .returned (.tuple #[])/\∃n os,w'=grow (putRow encStr (Sort.ahead w n) blk h (ss.mergeSort fun x y=>decide (x<=y)).toArray) os:=Any.slices_Sort_string Tryz.lays190 blk h j ss w hH i z
def Tryz.lays194_ren:Go.Shelf.Ren:=⟨fun|194=>182|n=>n,fun|31=>50|9=>9|3=>3|4=>4|0=>0|n=>n,fun|n=>n⟩
theorem Tryz.lays194:Go.Proofs.Lays.n194 Tryz.prog Tryz.lays194_ren:={
 mixed:=my
 f194:=Tryz.func182.trans (Aw some my)
 t0:=Tryz.underlying0
 a0:=Tryz.isAgg0
 z0:=Tryz.sizeOf0
 v0:=Tryz.zeroValue0
 t3:=Tryz.underlying3
 a3:=Tryz.isAgg3
 z3:=Tryz.sizeOf3
 v3:=Tryz.zeroValue3
 t4:=Tryz.underlying4
 a4:=Tryz.isAgg4
 z4:=Tryz.sizeOf4
 v4:=Tryz.zeroValue4
 t9:=Tryz.underlying9
 a9:=Tryz.isAgg9
 z9:=Tryz.sizeOf9
 v9:=Tryz.zeroValue9
 t31:=Tryz.underlying50
 a31:=Tryz.isAgg50
 z31:=Tryz.sizeOf50
 v31:=Tryz.zeroValue50}
open Go.RowKit Go.Lib Go.Sort in
theorem Tryz.slices_Compact_string(blk h i:Nat)(zs:List (List UInt8))(w:World)(hH:Holds encStr w blk h zs.toArray)(y:zs.length<=9223372036854775807)(j:zs.length<=i):
 Calls Tryz.prog 182 #[.slice (some ⟨blk,h,none⟩) zs.length i] w fun e w'=>e= .returned (.slice (some ⟨blk,h,none⟩) (Lib.compact zs).length i)/\∃q,w'=putRow encStr (Sort.ahead w q) blk h (Lib.compact zs++List.replicate (zs.length-(Lib.compact zs).length) []).toArray:=Any.slices_Compact_string Tryz.lays194 blk h i zs w hH y j
open Go.RowKit Go.Lib Go.Sort in
theorem Tryz.slices_Compact_string_empty(a:Option Addr)(h:Nat)(w:World):
 Calls Tryz.prog 182 #[.slice a 0 h] w fun e w'=>e= .returned (.slice a 0 h)/\w'=w:=Any.slices_Compact_string_empty Tryz.lays194 a h w
open Go.RowKit Go.Sort in
theorem Tryz.slices_Sort_string_none(p:Option Addr)(h:Nat)(w:World):
 Calls Tryz.prog 181 #[.slice p 0 h] w fun e w'=>e= .returned (.tuple #[])/\w'=w:=Any.slices_Sort_string_none Tryz.lays190 p h w
end Go.Proofs
namespace Go.Proofs.YtfgdoknipbpfhaaGreatDoor
open Go.RowKit
theorem QW(t:Tk)(w:World):
 Calls Tryz.prog 312 #[t.val] w fun e w'=>e= .returned (.bool (Bb t.lit t.len t.dist))/\Below w w w':=by
 obtain⟨lit,len,dist⟩:=t;unfold Tk.val;go_enter Tryz.func312,Tryz.ntmps312
 go_wp2
 all_goals
  go_ret;refine⟨GV ?_,(Ae _ _).alloc (Ak _) _⟩;go_light
  first|(simp_all[Bb];done)|(simp_all[Bb];omega)|(subst_vars;simp_all[Bb];rw[KL];simp)
theorem iA{a b c d:Int}(h1:a=b)(h2:c=d):Ending.returned (.tuple #[a,c])= .returned (.tuple #[b,d]):=by rw[h1,h2]
theorem MU(b:Int)(h2:b<=60):wrap64 (2 ^ b.toNat)=pw b/\pw b<=1152921504606846976:=by
 have hm:=UA b 60 h2;rw[show pw 60=1152921504606846976 from by decide]at hm;have hp:=Rc b;have e:(2:Int) ^ b.toNat=pw b:=by unfold pw;simp
 rw[e];exact⟨JD _ ⟨nj,nj⟩,hm⟩
theorem d6(x b:Int)(w:World)(h1:0<=b)(h2:b<=60):
 Calls Tryz.prog 375 #[x,b] w fun e w'=>e= .returned (.bool (decide (0<=x/\x<pw b)))/\w=w':=by
 obtain⟨hw,_⟩:=MU b h2;have HW:=hid hw;clear hw;go_enter Tryz.func375,Tryz.ntmps375
 go_wp2
 all_goals
  go_ret;go_light;refine⟨GV ?_,rfl⟩
  first|(rw[HW.out];simp;omega)|(simp;omega)
theorem cY(v:Int)(h:1<=v)(h2:v<=4611686018427387903):((Lib.bitLen v.toNat:Nat):Int)=lg v+1:=by
 unfold lg Lib.bitLen
 have i:∀ (f n:Nat),1<=n->n<2 ^ f->Lib.bitLenAux f n=Nat.log2 n+1:=by
  intro f
  induction f with
  |zero=>intro n h1 h2;simp at h2;omega
  |succ f ih=>
   intro n h1 h2;rw[Lib.bitLenAux,Aa nj];rw[Nat.log2_def];by_cases hn:2<=n
   ·rw[Ab hn,ih (n / 2) nj (by rw[FX]at h2;omega)];omega
   ·have:n=1:=nj;subst this;simp;cases f<;>simp[Lib.bitLenAux]
 rw[i 64 v.toNat nj nj];omega
theorem Wk(v:Int)(w:World)(h1:1<=v)(h2:v<=4611686018427387903):
 Calls Tryz.prog 233 #[.int .u64 v] w fun e w'=>e= .returned (.int .i64 (lg v+1))/\w=w':=
 (Tryz.bits_Len v w nj nj).mono fun e w' ⟨he,hw⟩=>⟨by rw[he,cY v h1 h2],hw.symm⟩
theorem Ul(v:Int)(w:World)(h1:1<=v)(h2:v<=1152921504606846975):
 Calls Tryz.prog 313 #[v] w fun e w'=>e= .returned (.tuple #[.int .i64 (lg v), .int .i64 (v-pw (lg v))])/\Below w w w':=by
 have hl:=Jw v;have h:lg v<60:=Jy v 60 nj h1 (by rw[show pw 60=1152921504606846976 from by decide];omega);obtain⟨p1,p2⟩:=MU (lg v) nj;have p3:=Rc (lg v);have HP:=hid p1;clear p1;go_enter Tryz.func313,Tryz.ntmps313;go_wp2_with(go_at_call 233;refine(Wk _ _ nj nj).mono ?_;rintro e w' ⟨rfl,rfl⟩);go_quiet (fail)
 go_wp2
 go_ret2;refine⟨?_,below_drewN (Ae _ _) _⟩;refine iA rfl ?_;show wrap64 (v-wrap64 (2 ^ (lg v).toNat))=_;rw[HP.out];exact JD _ ⟨nj,nj⟩
theorem Lx{W w1:World}(hb:Below W W w1):(∀b o,b<W.heap.size->w1.cell? ⟨b,o,none⟩=W.cell? ⟨b,o,none⟩)/\(∀b o,b<W.heap.size->w1.frozen? ⟨b,o,none⟩=W.frozen? ⟨b,o,none⟩):=
 ⟨fun b o h=>hb.cell (p:=⟨b,o,none⟩) h,fun b o h=>hb.frozen (p:=⟨b,o,none⟩) h⟩
theorem Pc.val_mk(a b c d:Int):Pc.val ⟨a,b,c,d⟩= .agg #[a,b,c,d]:=rfl
theorem Tk.val_mk(a b c:Int):Tk.val ⟨a,b,c⟩= .agg #[.int .u8 a,b,c]:=rfl
theorem V6{t:Tk}(h:Bb t.lit t.len t.dist=false):rZ t=⟨0,0,0,0⟩/\Fa t=7:=by unfold rZ Fa;rw[Aa sw,Aa sw];exact⟨rfl,rfl⟩
theorem bK{t:Tk}(h:Bb t.lit t.len t.dist=true)(hl:t.len=0):rZ t=⟨t.lit,0,0,0⟩/\Fa t=0:=by unfold rZ Fa;rw[Ab h,Ab h,Ab hl];exact⟨rfl,rfl⟩
theorem iO{t:Tk}(h:Bb t.lit t.len t.dist=true)(hl:t.len≠0):
 rZ t=⟨257+lg (t.len-2),t.len-2-pw (lg (t.len-2)),lg t.dist,t.dist-pw (lg t.dist)⟩/\Fa t=0/\3<=t.len/\t.len<=257/\1<=t.dist/\t.dist<=4095:=by
 unfold rZ Fa;rw[Ab h,Ab h,Aa hl];unfold Bb at h;rw[Aa hl]at h;have:=of_decide_eq_true h;exact⟨rfl,rfl,nj,nj,nj,nj⟩
theorem Qc(t:Tk)(w:World)(h0:0<=t.lit)(h1:t.lit<=255):
 Calls Tryz.prog 274 #[t.val] w fun e w'=>e= .returned (.tuple #[(rZ t).val, .int .i64 (Fa t)])/\Below w w w':=by
 have h:=fun w=>QW t w;cases hm:Bb t.lit t.len t.dist
 ·rw[hm]at h;obtain⟨hs,he⟩:=V6 hm;rw[hs,he];have HM:=hid h;clear hs he hm h;obtain⟨lit,len,dist⟩:=t;rw[Pc.val_mk];rw[Tk.val_mk]at *;go_enter Tryz.func274,Tryz.ntmps274;go_wp2_with(go_at_call 312;refine(HM.out _).mono ?_;rintro e w' ⟨rfl,hb⟩;obtain⟨hc,hf⟩:=Lx hb);refine Bx (v:= .tuple #[.agg #[ij,ij,ij,ij], .int .i64 7]) (by simp[results,Tryz.results274,go_sem,hc]) rfl ⟨rfl,?_⟩;(repeat (with_reducible first|exact Ae _ _|assumption|refine Am ?_ |refine below_drewN ?_ _|refine mZ ?_ |refine aZ ?_ |refine cZ im ?_ |refine belA ?_ |refine nZ im ?_))
 ·rw[hm]at h;by_cases hl:t.len=0
  ·obtain⟨hs,he⟩:=bK hm hl;rw[hs,he];have HM:=hid h;clear hs he hm h;obtain⟨lit,len,dist⟩:=t;simp only at hl h0 h1;subst hl;rw[Pc.val_mk];rw[Tk.val_mk]at *;go_enter Tryz.func274,Tryz.ntmps274;go_wp2_with(go_at_call 312;refine(HM.out _).mono ?_;rintro e w' ⟨rfl,hb⟩;obtain⟨hc,hf⟩:=Lx hb);refine Bx (v:= .tuple #[.agg #[lit,ij,ij,ij],ij]) (by simp[results,Tryz.results274,go_sem,hc]) rfl ⟨rfl,?_⟩;(repeat (with_reducible first|exact Ae _ _|assumption|refine Am ?_ |refine below_drewN ?_ _|refine mZ ?_ |refine aZ ?_ |refine cZ im ?_ |refine belA ?_ |refine nZ im ?_))
  ·obtain⟨hs,he,a1,a2,a3,a4⟩:=iO hm hl;rw[hs,he];have HM:=hid h;clear hs he hm h;have c1:=fun w=>Ul (t.len-2) w nj nj;have c2:=fun w=>Ul t.dist w nj nj;obtain⟨lit,len,dist⟩:=t;simp only at hl h0 h1 a1 a2 a3 a4 c1 c2;obtain⟨x1,i⟩:=ii (lg (len-2));have b1:0<=x1:=(by rw[i];exact Jw _);have b2:x1<8:=(by rw[i];exact Jy _ 8 nj nj (by rw[pw_8];omega));simp only[<-i]at c1 ⊢;obtain⟨x2,z⟩:=ii (len-2-pw x1);obtain⟨y1,y⟩:=ii (lg dist);simp only[<-z,<-y]at c1 c2 ⊢;obtain⟨y2,j⟩:=ii (dist-pw y1);simp only[<-j]at c2 ⊢;have C1:=hid c1;have C2:=hid c2;clear c1 c2 i z y j;rw[Pc.val_mk];rw[Tk.val_mk]at *;go_enter Tryz.func274,Tryz.ntmps274;go_wp2_with(go_at_call 312;refine(HM.out _).mono ?_;rintro e w' ⟨rfl,hb⟩;obtain⟨hc,hf⟩:=Lx hb;have hz:w.heap.size+1<w'.heap.size:=(by have:=hb.size;simp at this;omega);have hy:w.heap.size<w'.heap.size:=nj);refine(C1.out _).mono ?_;rintro e w2 ⟨rfl,E⟩;obtain⟨J,Q⟩:=Lx E;have M:w.heap.size+1<w2.heap.size:=(by have:=E.size;omega);have j:w.heap.size<w2.heap.size:=nj;go_wp2_with fail;refine(C2.out _).mono ?_;rintro e w3 ⟨rfl,G⟩;obtain⟨L,N⟩:=Lx G
   go_wp2
   refine Bx (v:= .tuple #[.agg #[.int .i64 (257+x1),x2,y1,y2],ij]) (by simp[results,Tryz.results274,go_sem,hc,J,L,hz,M]) rfl ⟨rfl,?_⟩;(repeat (with_reducible first|exact Ae _ _|assumption|refine Am ?_ |refine below_drewN ?_ _|refine mZ ?_ |refine aZ ?_ |refine cZ im ?_ |refine belA ?_ |refine nZ im ?_))
end Go.Proofs.YtfgdoknipbpfhaaGreatDoor
