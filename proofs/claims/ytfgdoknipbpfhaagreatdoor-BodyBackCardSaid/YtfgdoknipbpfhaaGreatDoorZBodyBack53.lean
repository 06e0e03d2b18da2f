/- The statement BodyBa -/
import Derived.Test.YtfgdoknipbpfhaaGreatDoorZBodyBack4
import Derived.Test.YtfgdoknipbpfhaaGreatDoorZBodyBack5
import Derived.Test.YtfgdoknipbpfhaaGreatDoorZBodyBack9
import Derived.Test.YtfgdoknipbpfhaaGreatDoorZBodyBack52
import Derived.Test.YtfgdoknipbpfhaaGreatDoorTie
import Derived.Test.YtfgdoknipbpfhaaGreatDoorCards
import Derived.SevenTiedAt
namespace Go.Proofs.YtfgdoknipbpfhaaGreatDoor
open Go.Proofs.Tryz
namespace pBodyBack
open Go.ChangeShapes Go.WideShapes Go.ChangeAt Go.RowKit Go.Joins Go.Deep Lift
set_option linter.unusedVariables false
set_option maxRecDepth 100000 in
theorem lifted(os:Os)(E:os.Started)(H:Type)(enc:TypeId×Value->H):
 ReturnsInHanded {} Tryz.checked os 4 .any (fun w i=>(Rows.bodyBackSpec.pre enc prog Tryz.f4 Rows.bodyBackRow.domain false w i/\laidMetH prog Door.JO w)/\sizedMet enc prog Tryz.f4 (OpenSpec.ofChange Rows.bodyBackSpec) false w i) (Rows.bodyBackSpec.post enc prog Tryz.f4 false true false false):=by
 refine returnsInHanded_of_change_and (C:=Tryz.checked) (X:=fun w _=>laidMetH prog Door.JO w) (fun _ _ _ hh h=>h.of_heap hh) own E my func4
  (ChangeSpec.witness_shaped (enc:=enc) (C:=Tryz.checked) (os:=os) (X:=fun w _=>laidMetH prog Door.JO w) false (World.doorLaid prog 400 os) #[.agg #[ij,false,ij,ij,ij,ij],()] 8 rfl (Door.kW os _) my my my (Door.YQ os _)) ?_
 intro W base i ds gs Z y hW aj L hL Y;have ht:=Door.eU hL;have z:∀ (j:Nat) t v,Tryz.f4.params[j]? =some t->i[j]? =some v->Value.okWide prog W .any base t v:=y;have ag:(DataW.weightsEach prog (Tryz.f4.params.toList++Rows.bodyBackSpec.plain.varTypes prog) (ds++gs)).all (·<=reachBytes)=true:=L;have ai:=hW;obtain⟨p,q,N,hV,rfl,an,aq⟩:=hW;have hA:DataW.TrodAll enc prog W 0 (fun _=>true) true Tryz.f4.params.toList i.toList ds p:=N;rw[Tryz.params4]at hA z ag;obtain⟨v0,ar,d0,ak,p0,q0,aa,rfl,rfl,h0,r0⟩:=trodAll_cons hA;obtain⟨v1,am,d1,al,p1,q1,rfl,rfl,rfl,h1,r1⟩:=trodAll_cons r0;obtain⟨rfl,rfl,rfl⟩:=trodAll_nil r1;obtain rfl:i=#[v0,v1]:=by cases i;simp_all
 obtain⟨rfl,rfl⟩:=trodVars_none hV;have k0:=h0;have ab:∀x∈p0,x.block<W.heap.size:=by obtain⟨m,hm⟩:=k0;exact DataW.trod_lt m _ _ _ hm
 have k1:=h1;have ae:∀x∈p1,x.block<W.heap.size:=by obtain⟨m,hm⟩:=k1;exact DataW.trod_lt m _ _ _ hm
 obtain⟨a0,rfl⟩:=Open.opts (z 0 23 v0 rfl rfl) h0;obtain⟨A1,G,J,rfl⟩:=okWide_slice underlying24 (z 1 24 v1 rfl rfl);obtain⟨ah,af⟩:=h1;have U:Calls prog 4 #[a0.val, .slice A1 G J] W fun e w'=>e= .returned (.bool true)/\Below W W w':=by obtain⟨la,hl,M,hc,Q,ac⟩:=Open.Zp af;exact Body.fI W a0 A1 G J la hl Q hc ac ht M
 clear N y;refine U.mono fun e W' ⟨he,bel⟩=> ?_;subst he;exact⟨_,rfl,_,_,_,[],_,[],ai,trodAll_mk1 (shut_bool underlying4 _),(trodAll_cons_mk (Below.trod laidOut my (of_decide_eq_true my) k0 bel ab) (trodAll_cons_mk (Below.trod laidOut my (of_decide_eq_true my) k1 bel ae) trodAll_mk0)),rfl,bel.frame _,fun h=>by cases h⟩
theorem d7:Rows.BodyBackSaid:=
 OpenClaim.holds_of_wide 4 Tryz.f4 rfl rfl rfl rfl rfl rfl rfl ⟨rfl,rfl,rfl,rfl,rfl⟩ rfl rfl rfl rfl rfl my func4
  closed (of_decide_eq_true my) (by unfold Func.isWrapper;rw[Aa (by decide+kernel)];exact⟨rfl,rfl⟩)
  (fun os started H enc _=>lifted os started H enc)
end pBodyBack
end Go.Proofs.YtfgdoknipbpfhaaGreatDoor
