/- The statement TwoUnp -/
import Derived.Test.YtfgdoknipbpfhaaGreatDoorZTwoUnpacks4
import Derived.Test.YtfgdoknipbpfhaaGreatDoorZTwoUnpacks5
import Derived.Test.YtfgdoknipbpfhaaGreatDoorZTwoUnpacks9
import Derived.Test.YtfgdoknipbpfhaaGreatDoorZTwoUnpacks49
import Derived.Test.YtfgdoknipbpfhaaGreatDoorTie
import Derived.Test.YtfgdoknipbpfhaaGreatDoorCards
import Derived.SevenTiedAt
namespace Go.Proofs.YtfgdoknipbpfhaaGreatDoor
open Go.Proofs.Tryz
namespace pTwoUnpacks
open Go.ChangeShapes Go.WideShapes Go.ChangeAt Go.RowKit Go.Joins Go.Deep Lift
set_option linter.unusedVariables false
set_option maxRecDepth 100000 in
theorem lifted(os:Os)(G:os.Started)(H:Type)(enc:TypeId×Value->H):
 ReturnsInHanded {} Tryz.checked os 8 .any (fun w i=>(Rows.twoUnpacksSpec.pre enc prog Tryz.f8 Rows.twoUnpacksRow.domain false w i/\laidMetH prog Door.Ji w)/\sizedMet enc prog Tryz.f8 (OpenSpec.ofChange Rows.twoUnpacksSpec) false w i) (Rows.twoUnpacksSpec.post enc prog Tryz.f8 false true false false):=by
 refine returnsInHanded_of_change_and (C:=Tryz.checked) (X:=fun w _=>laidMetH prog Door.Ji w) (fun _ _ _ hh h=>h.of_heap hh) own G kG func8
  (ChangeSpec.witness_shaped (enc:=enc) (C:=Tryz.checked) (os:=os) (X:=fun w _=>laidMetH prog Door.Ji w) false (World.doorLaid prog 400 os) #[()] 8 rfl (Door.Yh os _) kG kG kG (Door.Vt os _)) ?_
 intro W base i ds gs aa z hW ai N hL Z;have ht:=Door.UE hL;have J:∀ (j:Nat) t v,Tryz.f8.params[j]? =some t->i[j]? =some v->Value.okWide prog W .any base t v:=z;have ab:(DataW.weightsEach prog (Tryz.f8.params.toList++Rows.twoUnpacksSpec.plain.varTypes prog) (ds++gs)).all (·<=reachBytes)=true:=N;have ah:=hW;obtain⟨p,q,Q,hV,rfl,ak,al⟩:=hW;have hA:DataW.TrodAll enc prog W 0 (fun _=>true) true Tryz.f8.params.toList i.toList ds p:=Q;rw[Tryz.params8]at hA J ab;obtain⟨v0,aj,d0,am,p0,q0,af,rfl,rfl,h0,r0⟩:=trodAll_cons hA;obtain⟨rfl,rfl,rfl⟩:=trodAll_nil r0;obtain rfl:i=#[v0]:=by cases i;simp_all
 obtain⟨rfl,rfl⟩:=trodVars_none hV;have k0:=h0;have ac:∀x∈p0,x.block<W.heap.size:=by obtain⟨m,hm⟩:=k0;exact DataW.trod_lt m _ _ _ hm
 obtain⟨A0,y,E,rfl⟩:=okWide_slice underlying28 (J 0 28 v0 rfl rfl);obtain⟨ae,ag⟩:=h0
 have U:Calls prog 8 #[.slice A0 y E] W fun e w'=>e= .returned (.bool true)/\aO W w':=by
  obtain⟨ls,hl,h8,M,L,Y⟩:=Open.UV ag;by_cases h:y<=1500
  ·exact Body.XL W A0 y E ls hl h Y.2 h8 Y.1 ht M
  ·exact Body.Vf W A0 y E L kR ht
 clear Q z;refine U.mono fun e W' ⟨he,bel⟩=> ?_;subst he;exact⟨_,rfl,_,_,_,[],_,[],ah,trodAll_mk1 (shut_bool underlying4 _),(trodAll_cons_mk (Below.trod laidOut kG (of_decide_eq_true kG) k0 bel ac) trodAll_mk0),rfl,bel.frame _,fun h=>by cases h⟩
theorem XE:Rows.TwoUnpacksSaid:=
 OpenClaim.holds_of_wide 8 Tryz.f8 rfl rfl rfl rfl rfl rfl rfl ⟨rfl,rfl,rfl,rfl,rfl⟩ rfl rfl rfl rfl rfl kG func8
  closed (of_decide_eq_true kG) (by unfold Func.isWrapper;rw[Aa (by decide+kernel)];exact⟨rfl,rfl⟩)
  (fun os started H enc _=>lifted os started H enc)
end pTwoUnpacks
end Go.Proofs.YtfgdoknipbpfhaaGreatDoor
