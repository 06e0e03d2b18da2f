/- The statement TwoOpensSaid: the walk of the law is TwoOpens; here it i -/
import Derived.Test.YtbgoibedicbkjaaGreatDoorZTwoOpens4
import Derived.Test.YtbgoibedicbkjaaGreatDoorZTwoOpens5
import Derived.Test.YtbgoibedicbkjaaGreatDoorZTwoOpens6
import Derived.Test.YtbgoibedicbkjaaGreatDoorZTwoOpens9
import Derived.Test.YtbgoibedicbkjaaGreatDoorZTwoOpens37
import Derived.Test.YtbgoibedicbkjaaGreatDoorZTwoOpens32
import Derived.Test.YtbgoibedicbkjaaGreatDoorRows
import Derived.Test.YtbgoibedicbkjaaGreatDoorTie
import Derived.Test.YtbgoibedicbkjaaGreatDoorCards
import Derived.SevenTiedAt
namespace Go.Proofs.YtbgoibedicbkjaaGreatDoor end Go.Proofs.YtbgoibedicbkjaaGreatDoor open Go.Proofs.YtbgoibedicbkjaaGreatDoor
namespace Go.Proofs.YtbgoibedicbkjaaGreatDoor.pTwoOpens
open Go.ChangeShapes Go.WideShapes Go.ChangeAt Go.RowKit Go.Joins Go.Deep Lift
set_option linter.unusedVariables false
set_option maxRecDepth 100000 in
theorem lifted(os:Os)(started:os.Started)(H:Type)(enc:TypeId×Value->H):
 ReturnsInHanded {} Tryz.checked os 3 .any (fun w args=>(Rows.twoOpensSpec.pre enc Tryz.prog Tryz.f3 Rows.twoOpensRow.domain false w args/\laidMetH Tryz.prog Door.ynZ w)/\sizedMet enc Tryz.prog Tryz.f3 (OpenSpec.ofChange Rows.twoOpensSpec) false w args) (Rows.twoOpensSpec.post enc Tryz.prog Tryz.f3 false true false false):=by
 refine returnsInHanded_of_change_and (C:=Tryz.checked) (X:=fun w _=>laidMetH Tryz.prog Door.ynZ w) (fun _ _ _ hh h=>h.of_heap hh) own started (by kernel_rfl) Tryz.func3
  (ChangeSpec.witness_shaped (enc:=enc) (C:=Tryz.checked) (os:=os) (X:=fun w _=>laidMetH Tryz.prog Door.ynZ w) false (World.doorLaid Tryz.prog 400 os) #[.slice none 0 0] 8 rfl (Door.kyZ os _) (by kernel_rfl) (by kernel_rfl) (by kernel_rfl) (Door.yiZb os _)) ?_
 intro W base args ds gs before hval0 hW hcnd hsz0 hL hholds
 have ht:=Door.klZb hL
 have hval:∀ (j:Nat) t v,Tryz.f3.params[j]? =some t->args[j]? =some v->Value.okWide Tryz.prog W .any base t v:=hval0
 have hsz:(DataW.weightsEach Tryz.prog (Tryz.f3.params.toList++Rows.twoOpensSpec.plain.varTypes Tryz.prog) (ds++gs)).all (·<=reachBytes)=true:=hsz0
 have hW':=hW
 obtain⟨p,q,hA0,hV,rfl,hfz,hnd⟩:=hW
 have hA:DataW.TrodAll enc Tryz.prog W 0 (fun _=>true) true Tryz.f3.params.toList args.toList ds p:=hA0
 rw[Tryz.params3]at hA hval hsz
 obtain⟨v0,vs0,d0,ds0,p0,q0,hargs,rfl,rfl,h0,r0⟩:=trodAll_cons hA
 obtain⟨rfl,rfl,rfl⟩:=trodAll_nil r0
 obtain rfl:args=#[v0]:=by cases args;simp_all
 obtain⟨rfl,rfl⟩:=trodVars_none hV
 have k0:=h0
 have lt0:∀x∈p0,x.block<W.heap.size:=by obtain⟨m,hm⟩:=k0;exact DataW.trod_lt m _ _ _ hm
 obtain⟨A0,len0,cap0,rfl⟩:=okWide_slice Tryz.underlying22 (hval 0 22 v0 rfl rfl)
 obtain⟨fuel0,hf0⟩:=h0
 have main:Calls Tryz.prog 3 #[.slice A0 len0 cap0] W fun e w'=>e= .returned (.bool true)/\Below W.heap.size W w':=by
  obtain⟨ls,hl,h8,hrow,hbig,hwf⟩:=Open.ilZb hf0
  by_cases h:len0<=1500
  ·exact Body.vbZb W A0 len0 cap0 ls hl h hwf.2 h8 hwf.1 ht hrow
  ·exact Body.drZ W A0 len0 cap0 hbig (by omega) ht
 clear hA0 hval0
 refine main.mono fun e W' ⟨he,bel⟩=> ?_
 subst he
 exact⟨_,rfl,_,_,_,[],_,[],hW',trodAll_mk1 (shut_bool Tryz.underlying4 _),(trodAll_cons_mk (Below.trod laidOut (by kernel_rfl) (of_decide_eq_true (by kernel_rfl)) k0 bel lt0) trodAll_mk0),rfl,bel.frame _,fun h=>by cases h⟩
theorem ofZb:Rows.TwoOpensSaid:=
 OpenClaim.holds_of_wide 3 Tryz.f3 rfl rfl rfl rfl rfl rfl rfl ⟨rfl,rfl,rfl,rfl,rfl⟩ rfl rfl rfl rfl rfl (by kernel_rfl) Tryz.func3
  closed (of_decide_eq_true (by kernel_rfl)) (by unfold Func.isWrapper;rw[if_neg (by decide+kernel)];exact⟨rfl,rfl⟩)
  (fun os started H enc _=>lifted os started H enc)
end Go.Proofs.YtbgoibedicbkjaaGreatDoor.pTwoOpens
