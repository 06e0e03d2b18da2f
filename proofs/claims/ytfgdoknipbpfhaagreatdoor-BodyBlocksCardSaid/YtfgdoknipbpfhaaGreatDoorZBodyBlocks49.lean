/- The statement BodyBl -/
import Derived.Test.YtfgdoknipbpfhaaGreatDoorZBodyBlocks4
import Derived.Test.YtfgdoknipbpfhaaGreatDoorZBodyBlocks5
import Derived.Test.YtfgdoknipbpfhaaGreatDoorZBodyBlocks9
import Derived.Test.YtfgdoknipbpfhaaGreatDoorZBodyBlocks48
import Derived.Test.YtfgdoknipbpfhaaGreatDoorTie
import Derived.Test.YtfgdoknipbpfhaaGreatDoorCards
import Derived.SevenTiedAt
namespace Go.Proofs.YtfgdoknipbpfhaaGreatDoor
open Go.Proofs.Tryz
namespace pBodyBlocks
open Go.ChangeShapes Go.WideShapes Go.ChangeAt Go.RowKit Go.Joins Go.Deep Lift
set_option linter.unusedVariables false
set_option maxRecDepth 100000 in
theorem lifted(os:Os)(E:os.Started)(H:Type)(enc:TypeId×Value->H):
 ReturnsInHanded {} Tryz.checked os 3 .any (fun w i=>(Rows.bodyBlocksSpec.pre enc prog Tryz.f3 Rows.bodyBlocksRow.domain false w i/\laidMetH prog Door.JF w)/\sizedMet enc prog Tryz.f3 (OpenSpec.ofChange Rows.bodyBlocksSpec) false w i) (Rows.bodyBlocksSpec.post enc prog Tryz.f3 false true false false):=by
 refine returnsInHanded_of_change_and (C:=Tryz.checked) (X:=fun w _=>laidMetH prog Door.JF w) (fun _ _ _ hh h=>h.of_heap hh) own E mr func3
  (ChangeSpec.witness_shaped (enc:=enc) (C:=Tryz.checked) (os:=os) (X:=fun w _=>laidMetH prog Door.JF w) false (World.doorLaid prog 400 os) #[.agg #[ij,false,ij,ij,ij,ij],(), .int .u16 0] 8 rfl (Door.l8 os _) mr mr mr (Door.eY os _)) ?_
 intro W base i ds gs Z z hW al M hL Y;have ht:=Door.V3 hL;have y:∀ (j:Nat) t v,Tryz.f3.params[j]? =some t->i[j]? =some v->Value.okWide prog W .any base t v:=z;have ah:(DataW.weightsEach prog (Tryz.f3.params.toList++Rows.bodyBlocksSpec.plain.varTypes prog) (ds++gs)).all (·<=reachBytes)=true:=M;have ag:=hW;obtain⟨p,q,L,hV,rfl,av,am⟩:=hW;have hA:DataW.TrodAll enc prog W 0 (fun _=>true) true Tryz.f3.params.toList i.toList ds p:=L;rw[Tryz.params3]at hA y ah;obtain⟨v0,ax,d0,aq,p0,q0,ab,rfl,rfl,h0,r0⟩:=trodAll_cons hA;obtain⟨v1,au,d1,ar,p1,q1,rfl,rfl,rfl,h1,r1⟩:=trodAll_cons r0;obtain⟨v2,an,d2,aw,p2,q2,rfl,rfl,rfl,h2,r2⟩:=trodAll_cons r1;obtain⟨rfl,rfl,rfl⟩:=trodAll_nil r2;obtain rfl:i=#[v0,v1,v2]:=by cases i;simp_all
 obtain⟨rfl,rfl⟩:=trodVars_none hV;have k0:=h0;have aj:∀x∈p0,x.block<W.heap.size:=by obtain⟨m,hm⟩:=k0;exact DataW.trod_lt m _ _ _ hm
 have k1:=h1;have aa:∀x∈p1,x.block<W.heap.size:=by obtain⟨m,hm⟩:=k1;exact DataW.trod_lt m _ _ _ hm
 have k2:=h2;have ak:∀x∈p2,x.block<W.heap.size:=by obtain⟨m,hm⟩:=k2;exact DataW.trod_lt m _ _ _ hm
 obtain⟨a0,rfl⟩:=Open.opts (y 0 23 v0 rfl rfl) h0;obtain⟨A1,J,G,rfl⟩:=okWide_slice underlying24 (y 1 24 v1 rfl rfl);obtain⟨ae,ac⟩:=h1;obtain⟨a2,rfl,rfl,rfl,w2⟩:=open_int underlying25 (y 2 25 v2 rfl rfl) h2;have Q:Calls prog 3 #[a0.val, .slice A1 J G, .int .u16 a2] W fun e w'=>e= .returned (.bool true)/\Below W W w':=by obtain⟨la,hl,U,hc,N,ai⟩:=Open.jD ac;have af:=bounds_u16 w2;obtain⟨m,rfl⟩:=Hf af.1;exact Body.aY W a0 A1 J G la m mw hl N hc ai ht U
 clear L z;refine Q.mono fun e W' ⟨he,bel⟩=> ?_;subst he;exact⟨_,rfl,_,_,_,[],_,[],ag,trodAll_mk1 (shut_bool underlying4 _),(trodAll_cons_mk (Below.trod laidOut mr (of_decide_eq_true mr) k0 bel aj) (trodAll_cons_mk (Below.trod laidOut mr (of_decide_eq_true mr) k1 bel aa) (trodAll_cons_mk (Below.trod laidOut mr (of_decide_eq_true mr) k2 bel ak) trodAll_mk0))),rfl,bel.frame _,fun h=>by cases h⟩
theorem Xg:Rows.BodyBlocksSaid:=
 OpenClaim.holds_of_wide 3 Tryz.f3 rfl rfl rfl rfl rfl rfl rfl ⟨rfl,rfl,rfl,rfl,rfl⟩ rfl rfl rfl rfl rfl mr func3
  closed (of_decide_eq_true mr) (by unfold Func.isWrapper;rw[Aa (by decide+kernel)];exact⟨rfl,rfl⟩)
  (fun os started H enc _=>lifted os started H enc)
end pBodyBlocks
end Go.Proofs.YtfgdoknipbpfhaaGreatDoor
