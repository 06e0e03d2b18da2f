/- The walks of package toks' Split and Join and of the reference's, with -/
import Derived.Test.YtmlaajebadfkoaaGreatDoorZTwoPacks11
import Derived.Test.YtmlaajebadfkoaaGreatDoorZTwoPacks1
import Derived.Test.YtmlaajebadfkoaaGreatDoorZTwoPacks14
import Derived.Test.YtmlaajebadfkoaaGreatDoorProg
import Derived.WalkKit
import Derived.ProofKit
import Derived.BigQuiet
import Derived.BigGuardPart
import Derived.Deep.QuietTactic
import Derived.Lib.Hide
import Derived.Deep.Light
namespace Go.Proofs.YtmlaajebadfkoaaGreatDoor end Go.Proofs.YtmlaajebadfkoaaGreatDoor open Go.Proofs.YtmlaajebadfkoaaGreatDoor
open Go.Lib (hid)
namespace Go.Proofs.YtmlaajebadfkoaaGreatDoor.Toks
open Go.RowKit Mem
theorem pjZb(t:Tk)(w:World):
 Calls Tryz.prog 289 #[t.val] w fun e w'=>e= .returned (.bool (dcZ t.lit t.len t.dist))/\Below w.heap.size w w':=by
 obtain⟨lit,len,dist⟩:=t
 unfold Tk.val
 go_enter Tryz.func289,Tryz.ntmps289
 go_wp2
 all_goals
  go_ret
  refine⟨itZ ?_,(Below.refl _ _).alloc (Nat.le_refl _) _⟩
  go_light
  first|(simp_all[dcZ];done)|(simp_all[dcZ];omega)|(subst_vars;simp_all[dcZ];rw[Bool.eq_iff_iff];simp)
theorem qpZb(t:Tk)(w:World):
 Calls Tryz.prog 189 #[t.val] w fun e w'=>e= .returned (.bool (dcZ t.lit t.len t.dist))/\Below w.heap.size w w':=by
 obtain⟨lit,len,dist⟩:=t
 unfold Tk.val
 go_enter Tryz.func189,Tryz.ntmps189
 go_wp2
 all_goals
  go_ret
  refine⟨itZ ?_,(Below.refl _ _).alloc (Nat.le_refl _) _⟩
  go_light
  first|(simp_all[dcZ];done)|(simp_all[dcZ];omega)|(subst_vars;simp_all[dcZ];rw[Bool.eq_iff_iff];simp)
theorem efZb{a b c d:Int}(h1:a=b)(h2:c=d):Ending.returned (.tuple #[.int .i64 a, .int .i64 c])= .returned (.tuple #[.int .i64 b, .int .i64 d]):=by rw[h1,h2]
theorem eyZ(v:Int)(w:World)(h1:1<=v)(h2:v<=4611686018427387903):
 Calls Tryz.prog 281 #[.int .i64 v] w fun e w'=>e= .returned (.tuple #[.int .i64 (lg v), .int .i64 (v-pw (lg v))])/\w=w':=by
 go_enter Tryz.func281,Tryz.ntmps281
 go_wp2
 go_loop [4,5] (fun b p=>∃ (k:Nat) (P:Int),0<=(k:Int)/\(k:Int)<P/\P<=v/\1<=P/\P=pw k/\b= .int .i64 k/\p= .int .i64 P) (fun _ p=>(v-intOf p).toNat)
 case atStart=>exact⟨0,1,by omega,by omega,by omega,by omega,by decide,rfl,rfl⟩
 case round=>
  obtain⟨k,P,hk,hkP,hPv,hP1,hP,rfl,rfl⟩:=hrel
  have HP:=hid hP
  clear hP
  by_cases hlt:2*P<=v
  ·go_wp2
   go_round
   case rel=>exact⟨k+1,2*P,by omega,by omega,by omega,by omega,by rw[HP.out,<-mwZ _ hk];rfl,by go_num,rfl⟩
   case measure=>simp[intOf];omega
  ·go_wp2
   go_ret2
   go_light
   have e:lg v=k:=kjZb v k hk (by rw[<-HP.out];omega) (by rw[<-HP.out];omega)
   exact⟨efZb e.symm (by rw[e,<-HP.out]),rfl⟩
theorem rpZb(b:Int)(h2:b<=60):wrap64 (2 ^ b.toNat)=pw b/\pw b<=1152921504606846976:=by
 have hm:=srZ b 60 h2
 rw[show pw 60=1152921504606846976 from by decide]at hm
 have hp:=iaZb b
 have e:(2:Int) ^ b.toNat=pw b:=by unfold pw;simp
 rw[e]
 exact⟨IntWalk.wrap64_in _ ⟨by omega,by omega⟩,hm⟩
theorem qjZb(v:Int)(h:1<=v)(h2:v<=4611686018427387903):((Lib.bitLen v.toNat:Nat):Int)=lg v+1:=by
 unfold lg Lib.bitLen
 have key:∀ (f n:Nat),1<=n->n<2 ^ f->Lib.bitLenAux f n=Nat.log2 n+1:=by
  intro f
  induction f with
  |zero=>intro n h1 h2;simp at h2;omega
  |succ f ih=>
   intro n h1 h2
   rw[Lib.bitLenAux,if_neg (by omega)]
   rw[Nat.log2_def]
   by_cases hn:2<=n
   ·rw[if_pos hn,ih (n / 2) (by omega) (by rw[Nat.pow_succ]at h2;omega)]
    omega
   ·have:n=1:=by omega
    subst this
    simp
    cases f<;>simp[Lib.bitLenAux]
 rw[key 64 v.toNat (by omega) (by omega)]
 omega
theorem waZb(v:Int)(w:World)(h1:1<=v)(h2:v<=4611686018427387903):
 Calls Tryz.prog 229 #[.int .u64 v] w fun e w'=>e= .returned (.int .i64 (lg v+1))/\w=w':=
 (Tryz.bits_Len v w (by omega) (by omega)).mono fun e w' ⟨he,hw⟩=>⟨by rw[he,qjZb v h1 h2],hw.symm⟩
theorem bvZ(v:Int)(w:World)(h1:1<=v)(h2:v<=1152921504606846975):
 Calls Tryz.prog 296 #[.int .i64 v] w fun e w'=>e= .returned (.tuple #[.int .i64 (lg v), .int .i64 (v-pw (lg v))])/\Below w.heap.size w w':=by
 have hl:=ggZ v
 have hl2:lg v<60:=toZ v 60 (by omega) h1 (by rw[show pw 60=1152921504606846976 from by decide];omega)
 obtain⟨p1,p2⟩:=rpZb (lg v) (by omega)
 have p3:=iaZb (lg v)
 have HP:=hid p1
 clear p1
 go_enter Tryz.func296,Tryz.ntmps296
 go_wp2_with(go_at_call 229;refine(waZb _ _ (by omega) (by omega)).mono ?_;rintro e w' ⟨rfl,rfl⟩)
 go_quiet (fail)
 go_wp2
 go_ret2
 refine⟨?_,below_drewN (Below.refl _ _) _⟩
 refine efZb rfl ?_
 show wrap64 (v-wrap64 (2 ^ (lg v).toNat))=_
 rw[HP.out]
 exact IntWalk.wrap64_in _ ⟨by omega,by omega⟩
theorem vmZ{W w1:World}(hb:Below W.heap.size W w1):(∀b o,b<W.heap.size->w1.cell? ⟨b,o,none⟩=W.cell? ⟨b,o,none⟩)/\(∀b o,b<W.heap.size->w1.frozen? ⟨b,o,none⟩=W.frozen? ⟨b,o,none⟩):=
 ⟨fun b o h=>hb.cell (p:=⟨b,o,none⟩) h,fun b o h=>hb.frozen (p:=⟨b,o,none⟩) h⟩
theorem Pc.val_mk(a b c d:Int):Pc.val ⟨a,b,c,d⟩= .agg #[.int .i64 a, .int .i64 b, .int .i64 c, .int .i64 d]:=rfl
theorem Tk.val_mk(a b c:Int):Tk.val ⟨a,b,c⟩= .agg #[.int .u8 a, .int .i64 b, .int .i64 c]:=rfl
theorem yoZ{t:Tk}(h:dcZ t.lit t.len t.dist=false):wZ t=⟨0,0,0,0⟩/\sdZ t=7:=by
 unfold wZ sdZ;rw[if_neg (by simp[h]),if_neg (by simp[h])];exact⟨rfl,rfl⟩
theorem fyZ{t:Tk}(h:dcZ t.lit t.len t.dist=true)(hl:t.len=0):wZ t=⟨t.lit,0,0,0⟩/\sdZ t=0:=by
 unfold wZ sdZ;rw[if_pos h,if_pos h,if_pos hl];exact⟨rfl,rfl⟩
theorem osZ{t:Tk}(h:dcZ t.lit t.len t.dist=true)(hl:t.len≠0):
 wZ t=⟨257+lg (t.len-2),t.len-2-pw (lg (t.len-2)),lg t.dist,t.dist-pw (lg t.dist)⟩/\sdZ t=0/\3<=t.len/\t.len<=257/\1<=t.dist/\t.dist<=4095:=by
 unfold wZ sdZ;rw[if_pos h,if_pos h,if_neg hl]
 unfold dcZ at h;rw[if_neg hl]at h
 have:=of_decide_eq_true h
 exact⟨rfl,rfl,by omega,by omega,by omega,by omega⟩
theorem zoZ(t:Tk)(w:World)(h0:0<=t.lit)(h1:t.lit<=255):
 Calls Tryz.prog 273 #[t.val] w fun e w'=>e= .returned (.tuple #[(wZ t).val, .int .i64 (sdZ t)])/\Below w.heap.size w w':=by
 have hmc:=fun w=>pjZb t w
 cases hm:dcZ t.lit t.len t.dist
 ·rw[hm]at hmc
  obtain⟨hs,he⟩:=yoZ hm
  rw[hs,he]
  have HM:=hid hmc
  clear hs he hm hmc
  obtain⟨lit,len,dist⟩:=t
  rw[Pc.val_mk]
  rw[Tk.val_mk]at *
  go_enter Tryz.func273,Tryz.ntmps273
  go_wp2_with(go_at_call 289;refine(HM.out _).mono ?_;rintro e w' ⟨rfl,hb⟩;obtain⟨hc,hf⟩:=vmZ hb)
  refine bodyPost_ret (v:= .tuple #[.agg #[.int .i64 0, .int .i64 0, .int .i64 0, .int .i64 0], .int .i64 7]) (by simp[results,Tryz.results273,go_sem,hc]) rfl ⟨rfl,?_⟩;(repeat(first|(with_reducible first|exact Below.refl _ _|assumption|refine Below.drew ?_|refine below_drewN ?_ _|refine aZ ?_|refine cZ (by assumption) ?_)|((with_reducible first|refine jZ ?_ ?_|refine eZ ?_ ?_|refine gZ (by assumption) ?_ ?_);(focus(first|(simp;done)|(simp;omega)|omega|(simp at *;omega))))))
 ·rw[hm]at hmc
  by_cases hl:t.len=0
  ·obtain⟨hs,he⟩:=fyZ hm hl
   rw[hs,he]
   have HM:=hid hmc
   clear hs he hm hmc
   obtain⟨lit,len,dist⟩:=t
   simp only at hl h0 h1
   subst hl
   rw[Pc.val_mk]
   rw[Tk.val_mk]at *
   go_enter Tryz.func273,Tryz.ntmps273
   go_wp2_with(go_at_call 289;refine(HM.out _).mono ?_;rintro e w' ⟨rfl,hb⟩;obtain⟨hc,hf⟩:=vmZ hb)
   refine bodyPost_ret (v:= .tuple #[.agg #[.int .i64 lit, .int .i64 0, .int .i64 0, .int .i64 0], .int .i64 0]) (by simp[results,Tryz.results273,go_sem,hc]) rfl ⟨rfl,?_⟩;(repeat(first|(with_reducible first|exact Below.refl _ _|assumption|refine Below.drew ?_|refine below_drewN ?_ _|refine aZ ?_|refine cZ (by assumption) ?_)|((with_reducible first|refine jZ ?_ ?_|refine eZ ?_ ?_|refine gZ (by assumption) ?_ ?_);(focus(first|(simp;done)|(simp;omega)|omega|(simp at *;omega))))))
  ·obtain⟨hs,he,a1,a2,a3,a4⟩:=osZ hm hl
   rw[hs,he]
   have HM:=hid hmc
   clear hs he hm hmc
   have c1:=fun w=>bvZ (t.len-2) w (by omega) (by omega)
   have c2:=fun w=>bvZ t.dist w (by omega) (by omega)
   obtain⟨lit,len,dist⟩:=t
   simp only at hl h0 h1 a1 a2 a3 a4 c1 c2
   obtain⟨x1,hx1⟩:∃x,x=lg (len-2):=⟨_,rfl⟩
   have b1:0<=x1:=by rw[hx1];exact ggZ _
   have b2:x1<8:=by rw[hx1];exact toZ _ 8 (by omega) (by omega) (by rw[pw_8];omega)
   simp only[<-hx1]at c1 ⊢
   obtain⟨x2,hx2⟩:∃x,x=len-2-pw x1:=⟨_,rfl⟩
   obtain⟨y1,hy1⟩:∃x,x=lg dist:=⟨_,rfl⟩
   simp only[<-hx2,<-hy1]at c1 c2 ⊢
   obtain⟨y2,hy2⟩:∃x,x=dist-pw y1:=⟨_,rfl⟩
   simp only[<-hy2]at c2 ⊢
   have C1:=hid c1
   have C2:=hid c2
   clear c1 c2 hx1 hx2 hy1 hy2
   rw[Pc.val_mk]
   rw[Tk.val_mk]at *
   go_enter Tryz.func273,Tryz.ntmps273
   go_wp2_with(go_at_call 289;refine(HM.out _).mono ?_;rintro e w' ⟨rfl,hb⟩;obtain⟨hc,hf⟩:=vmZ hb;have hz:w.heap.size+1<w'.heap.size:=(by have:=hb.size;simp at this;omega);have hy:w.heap.size<w'.heap.size:=(by omega))
   refine(C1.out _).mono ?_
   rintro e w2 ⟨rfl,hb2⟩
   obtain⟨hc2,hf2⟩:=vmZ hb2
   have hz2:w.heap.size+1<w2.heap.size:=by have:=hb2.size;omega
   have hy2:w.heap.size<w2.heap.size:=by omega
   go_wp2_with fail
   refine(C2.out _).mono ?_
   rintro e w3 ⟨rfl,hb3⟩
   obtain⟨hc3,hf3⟩:=vmZ hb3
   go_wp2
   refine bodyPost_ret (v:= .tuple #[.agg #[.int .i64 (257+x1), .int .i64 x2, .int .i64 y1, .int .i64 y2], .int .i64 0]) (by simp[results,Tryz.results273,go_sem,hc,hc2,hc3,hz,hz2]) rfl ⟨rfl,?_⟩;(repeat(first|(with_reducible first|exact Below.refl _ _|assumption|refine Below.drew ?_|refine below_drewN ?_ _|refine aZ ?_|refine cZ (by assumption) ?_)|((with_reducible first|refine jZ ?_ ?_|refine eZ ?_ ?_|refine gZ (by assumption) ?_ ?_);(focus(first|(simp;done)|(simp;omega)|omega|(simp at *;omega))))))
theorem pqZ(t:Tk)(w:World)(h0:0<=t.lit)(h1:t.lit<=255):
 Calls Tryz.prog 249 #[t.val] w fun e w'=>e= .returned (.tuple #[(wZ t).val, .int .i64 (sdZ t)])/\Below w.heap.size w w':=by
 have hmc:=fun w=>qpZb t w
 cases hm:dcZ t.lit t.len t.dist
 ·rw[hm]at hmc
  obtain⟨hs,he⟩:=yoZ hm
  rw[hs,he]
  have HM:=hid hmc
  clear hs he hm hmc
  obtain⟨lit,len,dist⟩:=t
  rw[Pc.val_mk]
  rw[Tk.val_mk]at *
  go_enter Tryz.func249,Tryz.ntmps249
  go_wp2_with(go_at_call 189;refine(HM.out _).mono ?_;rintro e w' ⟨rfl,hb⟩;obtain⟨hc,hf⟩:=vmZ hb)
  refine bodyPost_ret (v:= .tuple #[.agg #[.int .i64 0, .int .i64 0, .int .i64 0, .int .i64 0], .int .i64 7]) (by simp[results,Tryz.results249,go_sem,hc]) rfl ⟨rfl,?_⟩;(repeat(first|(with_reducible first|exact Below.refl _ _|assumption|refine Below.drew ?_|refine below_drewN ?_ _|refine aZ ?_|refine cZ (by assumption) ?_)|((with_reducible first|refine jZ ?_ ?_|refine eZ ?_ ?_|refine gZ (by assumption) ?_ ?_);(focus(first|(simp;done)|(simp;omega)|omega|(simp at *;omega))))))
 ·rw[hm]at hmc
  by_cases hl:t.len=0
  ·obtain⟨hs,he⟩:=fyZ hm hl
   rw[hs,he]
   have HM:=hid hmc
   clear hs he hm hmc
   obtain⟨lit,len,dist⟩:=t
   simp only at hl h0 h1
   subst hl
   rw[Pc.val_mk]
   rw[Tk.val_mk]at *
   go_enter Tryz.func249,Tryz.ntmps249
   go_wp2_with(go_at_call 189;refine(HM.out _).mono ?_;rintro e w' ⟨rfl,hb⟩;obtain⟨hc,hf⟩:=vmZ hb)
   refine bodyPost_ret (v:= .tuple #[.agg #[.int .i64 lit, .int .i64 0, .int .i64 0, .int .i64 0], .int .i64 0]) (by simp[results,Tryz.results249,go_sem,hc]) rfl ⟨rfl,?_⟩;(repeat(first|(with_reducible first|exact Below.refl _ _|assumption|refine Below.drew ?_|refine below_drewN ?_ _|refine aZ ?_|refine cZ (by assumption) ?_)|((with_reducible first|refine jZ ?_ ?_|refine eZ ?_ ?_|refine gZ (by assumption) ?_ ?_);(focus(first|(simp;done)|(simp;omega)|omega|(simp at *;omega))))))
  ·obtain⟨hs,he,a1,a2,a3,a4⟩:=osZ hm hl
   rw[hs,he]
   have HM:=hid hmc
   clear hs he hm hmc
   have c1:=fun w=>eyZ (t.len-2) w (by omega) (by omega)
   have c2:=fun w=>eyZ t.dist w (by omega) (by omega)
   obtain⟨lit,len,dist⟩:=t
   simp only at hl h0 h1 a1 a2 a3 a4 c1 c2
   obtain⟨x1,hx1⟩:∃x,x=lg (len-2):=⟨_,rfl⟩
   have b1:0<=x1:=by rw[hx1];exact ggZ _
   have b2:x1<8:=by rw[hx1];exact toZ _ 8 (by omega) (by omega) (by rw[pw_8];omega)
   simp only[<-hx1]at c1 ⊢
   obtain⟨x2,hx2⟩:∃x,x=len-2-pw x1:=⟨_,rfl⟩
   obtain⟨y1,hy1⟩:∃x,x=lg dist:=⟨_,rfl⟩
   simp only[<-hx2,<-hy1]at c1 c2 ⊢
   obtain⟨y2,hy2⟩:∃x,x=dist-pw y1:=⟨_,rfl⟩
   simp only[<-hy2]at c2 ⊢
   have C1:=hid c1
   have C2:=hid c2
   clear c1 c2 hx1 hx2 hy1 hy2
   rw[Pc.val_mk]
   rw[Tk.val_mk]at *
   go_enter Tryz.func249,Tryz.ntmps249
   go_wp2_with(go_at_call 189;refine(HM.out _).mono ?_;rintro e w' ⟨rfl,hb⟩;obtain⟨hc,hf⟩:=vmZ hb;have hz:w.heap.size+1<w'.heap.size:=(by have:=hb.size;simp at this;omega);have hy:w.heap.size<w'.heap.size:=(by omega))
   refine(C1.out _).mono ?_
   rintro e w2 ⟨rfl,rfl⟩
   go_wp2_with fail
   refine(C2.out _).mono ?_
   rintro e w3 ⟨rfl,rfl⟩
   go_wp2
   refine bodyPost_ret (v:= .tuple #[.agg #[.int .i64 (257+x1), .int .i64 x2, .int .i64 y1, .int .i64 y2], .int .i64 0]) (by simp[results,Tryz.results249,go_sem,hc]) rfl ⟨rfl,?_⟩;(repeat(first|(with_reducible first|exact Below.refl _ _|assumption|refine Below.drew ?_|refine below_drewN ?_ _|refine aZ ?_|refine cZ (by assumption) ?_)|((with_reducible first|refine jZ ?_ ?_|refine eZ ?_ ?_|refine gZ (by assumption) ?_ ?_);(focus(first|(simp;done)|(simp;omega)|omega|(simp at *;omega))))))
end Go.Proofs.YtmlaajebadfkoaaGreatDoor.Toks
