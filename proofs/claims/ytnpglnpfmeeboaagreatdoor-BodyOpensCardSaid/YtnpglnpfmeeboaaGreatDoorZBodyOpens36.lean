/- The statement BodyOpensSaid: the walk of the law is BodyOpens; here it -/
import Derived.Test.YtnpglnpfmeeboaaGreatDoorZBodyOpens4
import Derived.Test.YtnpglnpfmeeboaaGreatDoorZBodyOpens5
import Derived.Test.YtnpglnpfmeeboaaGreatDoorZBodyOpens6
import Derived.Test.YtnpglnpfmeeboaaGreatDoorZBodyOpens9
import Derived.Test.YtnpglnpfmeeboaaGreatDoorZBodyOpens35
import Derived.Test.YtnpglnpfmeeboaaGreatDoorZBodyOpens32
import Derived.Test.YtnpglnpfmeeboaaGreatDoorZBodyOpens31
import Derived.Test.YtnpglnpfmeeboaaGreatDoorRows
import Derived.Test.YtnpglnpfmeeboaaGreatDoorTie
import Derived.Test.YtnpglnpfmeeboaaGreatDoorCards
import Derived.SevenTiedAt
namespace Go.Proofs.YtnpglnpfmeeboaaGreatDoor end Go.Proofs.YtnpglnpfmeeboaaGreatDoor open Go.Proofs.YtnpglnpfmeeboaaGreatDoor
namespace Go.Proofs.YtnpglnpfmeeboaaGreatDoor.pBodyOpens
open Go.ChangeShapes Go.WideShapes Go.ChangeAt Go.RowKit Go.Joins Go.Deep Lift
set_option linter.unusedVariables false
set_option maxRecDepth 100000 in
theorem lifted(os:Os)(started:os.Started)(H:Type)(enc:TypeId×Value->H):
 ReturnsInHanded {} Tryz.checked os 3 .any (fun w args=>(Rows.bodyOpensSpec.pre enc Tryz.prog Tryz.f3 Rows.bodyOpensRow.domain false w args/\laidMetH Tryz.prog Door.xmZ w)/\sizedMet enc Tryz.prog Tryz.f3 (OpenSpec.ofChange Rows.bodyOpensSpec) false w args) (Rows.bodyOpensSpec.post enc Tryz.prog Tryz.f3 false true false false):=by
 refine returnsInHanded_of_change_and (C:=Tryz.checked) (X:=fun w _=>laidMetH Tryz.prog Door.xmZ w) (fun _ _ _ hh h=>h.of_heap hh) own started (by kernel_rfl) Tryz.func3
  (ChangeSpec.witness_shaped (enc:=enc) (C:=Tryz.checked) (os:=os) (X:=fun w _=>laidMetH Tryz.prog Door.xmZ w) false (World.doorLaid Tryz.prog 400 os) #[.agg #[.int .i64 0, .bool false, .int .i64 0, .int .i64 0, .int .i64 0, .int .i64 0], .slice none 0 0, .int .i64 0] 8 rfl (Door.gxZ os _) (by kernel_rfl) (by kernel_rfl) (by kernel_rfl) (Door.thZb os _)) ?_
 intro W base args ds gs before hval0 hW hcnd hsz0 hL hholds
 have ht:=Door.ekZb hL
 have hval:∀ (j:Nat) t v,Tryz.f3.params[j]? =some t->args[j]? =some v->Value.okWide Tryz.prog W .any base t v:=hval0
 have hsz:(DataW.weightsEach Tryz.prog (Tryz.f3.params.toList++Rows.bodyOpensSpec.plain.varTypes Tryz.prog) (ds++gs)).all (·<=reachBytes)=true:=hsz0
 have hW':=hW
 obtain⟨p,q,hA0,hV,rfl,hfz,hnd⟩:=hW
 have hA:DataW.TrodAll enc Tryz.prog W 0 (fun _=>true) true Tryz.f3.params.toList args.toList ds p:=hA0
 rw[Tryz.params3]at hA hval hsz
 obtain⟨v0,vs0,d0,ds0,p0,q0,hargs,rfl,rfl,h0,r0⟩:=trodAll_cons hA
 obtain⟨v1,vs1,d1,ds1,p1,q1,rfl,rfl,rfl,h1,r1⟩:=trodAll_cons r0
 obtain⟨v2,vs2,d2,ds2,p2,q2,rfl,rfl,rfl,h2,r2⟩:=trodAll_cons r1
 obtain⟨rfl,rfl,rfl⟩:=trodAll_nil r2
 obtain rfl:args=#[v0,v1,v2]:=by cases args;simp_all
 obtain⟨rfl,rfl⟩:=trodVars_none hV
 have k0:=h0
 have lt0:∀x∈p0,x.block<W.heap.size:=by obtain⟨m,hm⟩:=k0;exact DataW.trod_lt m _ _ _ hm
 have k1:=h1
 have lt1:∀x∈p1,x.block<W.heap.size:=by obtain⟨m,hm⟩:=k1;exact DataW.trod_lt m _ _ _ hm
 have k2:=h2
 have lt2:∀x∈p2,x.block<W.heap.size:=by obtain⟨m,hm⟩:=k2;exact DataW.trod_lt m _ _ _ hm
 obtain⟨a0,rfl⟩:=Open.opts (hval 0 23 v0 rfl rfl) h0
 obtain⟨A1,len1,cap1,rfl⟩:=okWide_slice Tryz.underlying24 (hval 1 24 v1 rfl rfl)
 obtain⟨fuel1,hf1⟩:=h1
 obtain⟨a2,rfl,rfl,rfl,w2⟩:=open_int Tryz.underlying3 (hval 2 3 v2 rfl rfl) h2
 have main:Calls Tryz.prog 3 #[a0.val, .slice A1 len1 cap1, .int .i64 a2] W fun e w'=>e= .returned (.bool true)/\Below W.heap.size W w':=by
  obtain⟨ls,hl,h8,hrow,hbig,hwf⟩:=Open.bkZb hf1
  have hb2:=bounds_i64 w2
  by_cases h:len1<=1500
  ·exact Body.ieZb W a0 A1 len1 cap1 ls a2 (by omega) hl h hwf.2 h8 hwf.1 ht hrow
  ·exact Body.arZ W a0 A1 len1 cap1 a2 hbig (by omega) ht
 clear hA0 hval0
 refine main.mono fun e W' ⟨he,bel⟩=> ?_
 subst he
 exact⟨_,rfl,_,_,_,[],_,[],hW',trodAll_mk1 (shut_bool Tryz.underlying4 _),(trodAll_cons_mk (Below.trod laidOut (by kernel_rfl) (of_decide_eq_true (by kernel_rfl)) k0 bel lt0) (trodAll_cons_mk (Below.trod laidOut (by kernel_rfl) (of_decide_eq_true (by kernel_rfl)) k1 bel lt1) (trodAll_cons_mk (Below.trod laidOut (by kernel_rfl) (of_decide_eq_true (by kernel_rfl)) k2 bel lt2) trodAll_mk0))),rfl,bel.frame _,fun h=>by cases h⟩
theorem jeZb:Rows.BodyOpensSaid:=
 OpenClaim.holds_of_wide 3 Tryz.f3 rfl rfl rfl rfl rfl rfl rfl ⟨rfl,rfl,rfl,rfl,rfl⟩ rfl rfl rfl rfl rfl (by kernel_rfl) Tryz.func3
  closed (of_decide_eq_true (by kernel_rfl)) (by unfold Func.isWrapper;rw[if_neg (by decide+kernel)];exact⟨rfl,rfl⟩)
  (fun os started H enc _=>lifted os started H enc)
end Go.Proofs.YtnpglnpfmeeboaaGreatDoor.pBodyOpens
