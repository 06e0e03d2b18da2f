/- The statement BodyOp -/
import Derived.Test.YtfgdoknipbpfhaaGreatDoorZBodyOpened4
import Derived.Test.YtfgdoknipbpfhaaGreatDoorZBodyOpened5
import Derived.Test.YtfgdoknipbpfhaaGreatDoorZBodyOpened9
import Derived.Test.YtfgdoknipbpfhaaGreatDoorZBodyOpened50
import Derived.Test.YtfgdoknipbpfhaaGreatDoorTie
import Derived.Test.YtfgdoknipbpfhaaGreatDoorCards
import Derived.SevenTiedAt
namespace Go.Proofs.YtfgdoknipbpfhaaGreatDoor
open Go.Proofs.Tryz
namespace pBodyOpened
open Go.ChangeShapes Go.WideShapes Go.ChangeAt Go.RowKit Go.Joins Go.Deep Lift
set_option linter.unusedVariables false
set_option maxRecDepth 100000 in
theorem lifted(os:Os)(E:os.Started)(H:Type)(enc:TypeId×Value->H):
 ReturnsInHanded {} Tryz.checked os 7 .any (fun w i=>(Rows.bodyOpenedSpec.pre enc prog Tryz.f7 Rows.bodyOpenedRow.domain false w i/\laidMetH prog Door.JF w)/\sizedMet enc prog Tryz.f7 (OpenSpec.ofChange Rows.bodyOpenedSpec) false w i) (Rows.bodyOpenedSpec.post enc prog Tryz.f7 false true false false):=by
 refine returnsInHanded_of_change_and (C:=Tryz.checked) (X:=fun w _=>laidMetH prog Door.JF w) (fun _ _ _ hh h=>h.of_heap hh) own E mr func7
  (ChangeSpec.witness_shaped (enc:=enc) (C:=Tryz.checked) (os:=os) (X:=fun w _=>laidMetH prog Door.JF w) false (World.doorLaid prog 400 os) #[.agg #[ij,false,ij,ij,ij,ij],(),()] 8 rfl (Door.Yc os _) mr mr mr (Door.nP os _)) ?_
 intro W base i ds gs ae z hW aw aa hL af;have ht:=Door.Yx hL;have y:∀ (j:Nat) t v,Tryz.f7.params[j]? =some t->i[j]? =some v->Value.okWide prog W .any base t v:=z;have ak:(DataW.weightsEach prog (Tryz.f7.params.toList++Rows.bodyOpenedSpec.plain.varTypes prog) (ds++gs)).all (·<=reachBytes)=true:=aa;have am:=hW;obtain⟨p,q,Z,hV,rfl,az,a4⟩:=hW;have hA:DataW.TrodAll enc prog W 0 (fun _=>true) true Tryz.f7.params.toList i.toList ds p:=Z;rw[Tryz.params7]at hA y ak;obtain⟨v0,a9,d0,a6,p0,q0,av,rfl,rfl,h0,r0⟩:=trodAll_cons hA;obtain⟨v1,a1,d1,ay,p1,q1,rfl,rfl,rfl,h1,r1⟩:=trodAll_cons r0;obtain⟨v2,a5,d2,a3,p2,q2,rfl,rfl,rfl,h2,r2⟩:=trodAll_cons r1;obtain⟨rfl,rfl,rfl⟩:=trodAll_nil r2;obtain rfl:i=#[v0,v1,v2]:=by cases i;simp_all
 obtain⟨rfl,rfl⟩:=trodVars_none hV;have k0:=h0;have aq:∀x∈p0,x.block<W.heap.size:=by obtain⟨m,hm⟩:=k0;exact DataW.trod_lt m _ _ _ hm
 have k1:=h1;have ag:∀x∈p1,x.block<W.heap.size:=by obtain⟨m,hm⟩:=k1;exact DataW.trod_lt m _ _ _ hm
 have k2:=h2;have ah:∀x∈p2,x.block<W.heap.size:=by obtain⟨m,hm⟩:=k2;exact DataW.trod_lt m _ _ _ hm
 obtain⟨a0,rfl⟩:=Open.opts (y 0 23 v0 rfl rfl) h0;obtain⟨A1,N,G,rfl⟩:=okWide_slice underlying24 (y 1 24 v1 rfl rfl);obtain⟨an,aj⟩:=h1;obtain⟨A2,J,M,rfl⟩:=okWide_slice underlying28 (y 2 28 v2 rfl rfl);obtain⟨al,ai⟩:=h2;have ac:Calls prog 7 #[a0.val, .slice A1 N G, .slice A2 J M] W fun e w'=>e= .returned (.bool true)/\Below W W w':=by obtain⟨la,hl,ab,hc,Y,ar⟩:=Open.WY aj;obtain⟨ls,au,h8,U,Q,ax⟩:=Open.YR ai;exact Body.jO W a0 A1 N G la A2 J M ls au Q h8 U hl Y hc ar ht ab
 clear Z z;refine ac.mono fun e W' ⟨he,bel⟩=> ?_;subst he;exact⟨_,rfl,_,_,_,[],_,[],am,trodAll_mk1 (shut_bool underlying4 _),(trodAll_cons_mk (Below.trod laidOut mr (of_decide_eq_true mr) k0 bel aq) (trodAll_cons_mk (Below.trod laidOut mr (of_decide_eq_true mr) k1 bel ag) (trodAll_cons_mk (Below.trod laidOut mr (of_decide_eq_true mr) k2 bel ah) trodAll_mk0))),rfl,bel.frame _,fun h=>by cases h⟩
theorem YG:Rows.BodyOpenedSaid:=
 OpenClaim.holds_of_wide 7 Tryz.f7 rfl rfl rfl rfl rfl rfl rfl ⟨rfl,rfl,rfl,rfl,rfl⟩ rfl rfl rfl rfl rfl mr func7
  closed (of_decide_eq_true mr) (by unfold Func.isWrapper;rw[Ab (by decide+kernel)];exact⟨rfl,rfl⟩)
  (fun os started H enc _=>lifted os started H enc)
end pBodyOpened
end Go.Proofs.YtfgdoknipbpfhaaGreatDoor
