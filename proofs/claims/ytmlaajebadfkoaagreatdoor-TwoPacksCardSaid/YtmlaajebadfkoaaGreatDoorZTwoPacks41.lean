/- The statement TwoPacksSaid: the walk of the law is TwoPacks; here it i -/
import Derived.Test.YtmlaajebadfkoaaGreatDoorZTwoPacks4
import Derived.Test.YtmlaajebadfkoaaGreatDoorZTwoPacks5
import Derived.Test.YtmlaajebadfkoaaGreatDoorZTwoPacks6
import Derived.Test.YtmlaajebadfkoaaGreatDoorZTwoPacks9
import Derived.Test.YtmlaajebadfkoaaGreatDoorZTwoPacks39
import Derived.Test.YtmlaajebadfkoaaGreatDoorZTwoPacks40
import Derived.Test.YtmlaajebadfkoaaGreatDoorRows
import Derived.Test.YtmlaajebadfkoaaGreatDoorTie
import Derived.Test.YtmlaajebadfkoaaGreatDoorCards
import Derived.SevenTiedAt
namespace Go.Proofs.YtmlaajebadfkoaaGreatDoor end Go.Proofs.YtmlaajebadfkoaaGreatDoor open Go.Proofs.YtmlaajebadfkoaaGreatDoor
namespace Go.Proofs.YtmlaajebadfkoaaGreatDoor.pTwoPacks
open Go.ChangeShapes Go.WideShapes Go.ChangeAt Go.RowKit Go.Joins Go.Deep Lift
set_option linter.unusedVariables false
set_option maxRecDepth 100000 in
theorem lifted(os:Os)(started:os.Started)(H:Type)(enc:TypeId×Value->H):
 ReturnsInHanded {} Tryz.checked os 3 .any (fun w args=>(Rows.twoPacksSpec.pre enc Tryz.prog Tryz.f3 Rows.twoPacksRow.domain false w args/\laidMetH Tryz.prog Door.esZ w)/\sizedMet enc Tryz.prog Tryz.f3 (OpenSpec.ofChange Rows.twoPacksSpec) false w args) (Rows.twoPacksSpec.post enc Tryz.prog Tryz.f3 false true false false):=by
 refine returnsInHanded_of_change_and (C:=Tryz.checked) (X:=fun w _=>laidMetH Tryz.prog Door.esZ w) (fun _ _ _ hh h=>h.of_heap hh) own started (by kernel_rfl) Tryz.func3
  (ChangeSpec.witness_shaped (enc:=enc) (C:=Tryz.checked) (os:=os) (X:=fun w _=>laidMetH Tryz.prog Door.esZ w) false (World.doorLaid Tryz.prog 400 os) #[.agg #[.int .i64 0, .bool false, .int .i64 0, .int .i64 0, .int .i64 0, .int .i64 0], .slice none 0 0] 8 rfl (Door.reZb os _) (by kernel_rfl) (by kernel_rfl) (by kernel_rfl) (Door.apZb os _)) ?_
 intro W base args ds gs before hval0 hW hcnd hsz0 hL hholds
 have ht:=Door.rrZb hL
 have hval:∀ (j:Nat) t v,Tryz.f3.params[j]? =some t->args[j]? =some v->Value.okWide Tryz.prog W .any base t v:=hval0
 have hsz:(DataW.weightsEach Tryz.prog (Tryz.f3.params.toList++Rows.twoPacksSpec.plain.varTypes Tryz.prog) (ds++gs)).all (·<=reachBytes)=true:=hsz0
 have hW':=hW
 obtain⟨p,q,hA0,hV,rfl,hfz,hnd⟩:=hW
 have hA:DataW.TrodAll enc Tryz.prog W 0 (fun _=>true) true Tryz.f3.params.toList args.toList ds p:=hA0
 rw[Tryz.params3]at hA hval hsz
 obtain⟨v0,vs0,d0,ds0,p0,q0,hargs,rfl,rfl,h0,r0⟩:=trodAll_cons hA
 obtain⟨v1,vs1,d1,ds1,p1,q1,rfl,rfl,rfl,h1,r1⟩:=trodAll_cons r0
 obtain⟨rfl,rfl,rfl⟩:=trodAll_nil r1
 obtain rfl:args=#[v0,v1]:=by cases args;simp_all
 obtain⟨rfl,rfl⟩:=trodVars_none hV
 have k0:=h0
 have lt0:∀x∈p0,x.block<W.heap.size:=by obtain⟨m,hm⟩:=k0;exact DataW.trod_lt m _ _ _ hm
 have k1:=h1
 have lt1:∀x∈p1,x.block<W.heap.size:=by obtain⟨m,hm⟩:=k1;exact DataW.trod_lt m _ _ _ hm
 obtain⟨a0,rfl⟩:=Open.opts (hval 0 23 v0 rfl rfl) h0
 obtain⟨A1,len1,cap1,rfl⟩:=okWide_slice Tryz.underlying24 (hval 1 24 v1 rfl rfl)
 obtain⟨fuel1,hf1⟩:=h1
 have main:Calls Tryz.prog 3 #[a0.val, .slice A1 len1 cap1] W fun e w'=>e= .returned (.bool true)/\Below W.heap.size W w':=by
  obtain⟨la,hl,hrow,hc,hbig,hok⟩:=Open.sqZb hf1
  exact Two.viZb W a0 A1 len1 cap1 la hl hbig hc hok ht hrow
 clear hA0 hval0
 refine main.mono fun e W' ⟨he,bel⟩=> ?_
 subst he
 exact⟨_,rfl,_,_,_,[],_,[],hW',trodAll_mk1 (shut_bool Tryz.underlying4 _),(trodAll_cons_mk (Below.trod laidOut (by kernel_rfl) (of_decide_eq_true (by kernel_rfl)) k0 bel lt0) (trodAll_cons_mk (Below.trod laidOut (by kernel_rfl) (of_decide_eq_true (by kernel_rfl)) k1 bel lt1) trodAll_mk0)),rfl,bel.frame _,fun h=>by cases h⟩
theorem zlZb:Rows.TwoPacksSaid:=
 OpenClaim.holds_of_wide 3 Tryz.f3 rfl rfl rfl rfl rfl rfl rfl ⟨rfl,rfl,rfl,rfl,rfl⟩ rfl rfl rfl rfl rfl (by kernel_rfl) Tryz.func3
  closed (of_decide_eq_true (by kernel_rfl)) (by unfold Func.isWrapper;rw[if_neg (by decide+kernel)];exact⟨rfl,rfl⟩)
  (fun os started H enc _=>lifted os started H enc)
end Go.Proofs.YtmlaajebadfkoaaGreatDoor.pTwoPacks
