/- The statement BodyLo -/
import Derived.Test.YtbgoibedicbkjaaGreatDoorZBodyLogs4
import Derived.Test.YtbgoibedicbkjaaGreatDoorZBodyLogs5
import Derived.Test.YtbgoibedicbkjaaGreatDoorZBodyLogs9
import Derived.Test.YtbgoibedicbkjaaGreatDoorZBodyLogs46
import Derived.Test.YtbgoibedicbkjaaGreatDoorTie
import Derived.Test.YtbgoibedicbkjaaGreatDoorCards
import Derived.SevenTiedAt
namespace Go.Proofs.YtbgoibedicbkjaaGreatDoor
namespace pBodyLogs
open Go.ChangeShapes Go.WideShapes Go.ChangeAt Go.RowKit Go.Joins Go.Deep Lift
set_option linter.unusedVariables false
set_option maxRecDepth 100000 in
theorem lifted(os:Os)(J:os.Started)(H:Type)(enc:TypeId×Value->H):
 ReturnsInHanded {} Tryz.checked os 5 .any (fun w i=>(Rows.bodyLogsSpec.pre enc Tryz.prog Tryz.f5 Rows.bodyLogsRow.domain false w i/\laidMetH Tryz.prog Door.I6 w)/\sizedMet enc Tryz.prog Tryz.f5 (OpenSpec.ofChange Rows.bodyLogsSpec) false w i) (Rows.bodyLogsSpec.post enc Tryz.prog Tryz.f5 false true false false):=by
 refine returnsInHanded_of_change_and (C:=Tryz.checked) (X:=fun w _=>laidMetH Tryz.prog Door.I6 w) (fun _ _ _ hh h=>h.of_heap hh) own J (by kernel_rfl) Tryz.func5
  (ChangeSpec.witness_shaped (enc:=enc) (C:=Tryz.checked) (os:=os) (X:=fun w _=>laidMetH Tryz.prog Door.I6 w) false (World.doorLaid Tryz.prog 400 os) #[.agg #[.int .i64 0, .bool false, .int .i64 0, .int .i64 0, .int .i64 0, .int .i64 0], .slice none 0 0, .int .i64 0] 8 rfl (Door.VQ os _) (by kernel_rfl) (by kernel_rfl) (by kernel_rfl) (Door.Wd os _)) ?_
 intro W base i ds gs aa G hW ak Y hL Z;have ht:=Door.Ue hL;have y:∀ (j:Nat) t v,Tryz.f5.params[j]? =some t->i[j]? =some v->Value.okWide Tryz.prog W .any base t v:=G;have af:(DataW.weightsEach Tryz.prog (Tryz.f5.params.toList++Rows.bodyLogsSpec.plain.varTypes Tryz.prog) (ds++gs)).all (·<=reachBytes)=true:=Y;have ac:=hW;obtain⟨p,q,M,hV,rfl,am,an⟩:=hW;have hA:DataW.TrodAll enc Tryz.prog W 0 (fun _=>true) true Tryz.f5.params.toList i.toList ds p:=M;rw[Tryz.params5]at hA y af;obtain⟨v0,ar,d0,aq,p0,q0,ag,rfl,rfl,h0,r0⟩:=trodAll_cons hA;obtain⟨v1,aw,d1,al,p1,q1,rfl,rfl,rfl,h1,r1⟩:=trodAll_cons r0;obtain⟨v2,av,d2,au,p2,q2,rfl,rfl,rfl,h2,r2⟩:=trodAll_cons r1;obtain⟨rfl,rfl,rfl⟩:=trodAll_nil r2;obtain rfl:i=#[v0,v1,v2]:=by cases i;simp_all
 obtain⟨rfl,rfl⟩:=trodVars_none hV;have k0:=h0;have ah:∀x∈p0,x.block<W.heap.size:=by obtain⟨m,hm⟩:=k0;exact DataW.trod_lt m _ _ _ hm
 have k1:=h1;have ae:∀x∈p1,x.block<W.heap.size:=by obtain⟨m,hm⟩:=k1;exact DataW.trod_lt m _ _ _ hm
 have k2:=h2;have ai:∀x∈p2,x.block<W.heap.size:=by obtain⟨m,hm⟩:=k2;exact DataW.trod_lt m _ _ _ hm
 obtain⟨a0,rfl⟩:=Open.opts (y 0 25 v0 rfl rfl) h0;obtain⟨A1,z,E,rfl⟩:=okWide_slice Tryz.underlying22 (y 1 22 v1 rfl rfl);obtain⟨ab,aj⟩:=h1;obtain⟨a2,rfl,rfl,rfl,w2⟩:=open_int Tryz.underlying3 (y 2 3 v2 rfl rfl) h2
 have Q:Calls Tryz.prog 5 #[a0.val, .slice A1 z E, .int .i64 a2] W fun e w'=>e= .returned (.bool true)/\Below W.heap.size W w':=by
  obtain⟨ls,hl,h8,U,N,L⟩:=Open.Vo aj;by_cases h:z<=1500
  ·exact Body.Ui W a0 A1 z E ls a2 hl h L.2 h8 L.1 ht U
  ·exact Body.Ut W a0 A1 z E a2 N (by omega) ht
 clear M G;refine Q.mono fun e W' ⟨he,bel⟩=> ?_;subst he;exact⟨_,rfl,_,_,_,[],_,[],ac,trodAll_mk1 (shut_bool Tryz.underlying4 _),(trodAll_cons_mk (Below.trod laidOut (by kernel_rfl) (of_decide_eq_true (by kernel_rfl)) k0 bel ah) (trodAll_cons_mk (Below.trod laidOut (by kernel_rfl) (of_decide_eq_true (by kernel_rfl)) k1 bel ae) (trodAll_cons_mk (Below.trod laidOut (by kernel_rfl) (of_decide_eq_true (by kernel_rfl)) k2 bel ai) trodAll_mk0))),rfl,bel.frame _,fun h=>by cases h⟩
theorem Yk:Rows.BodyLogsSaid:=
 OpenClaim.holds_of_wide 5 Tryz.f5 rfl rfl rfl rfl rfl rfl rfl ⟨rfl,rfl,rfl,rfl,rfl⟩ rfl rfl rfl rfl rfl (by kernel_rfl) Tryz.func5
  closed (of_decide_eq_true (by kernel_rfl)) (by unfold Func.isWrapper;rw[Aa (by decide+kernel)];exact⟨rfl,rfl⟩)
  (fun os started H enc _=>lifted os started H enc)
end pBodyLogs
end Go.Proofs.YtbgoibedicbkjaaGreatDoor
