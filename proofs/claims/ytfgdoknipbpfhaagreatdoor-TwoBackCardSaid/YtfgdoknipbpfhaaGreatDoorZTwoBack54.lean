/- The statement TwoBac -/
import Derived.Test.YtfgdoknipbpfhaaGreatDoorZTwoBack4
import Derived.Test.YtfgdoknipbpfhaaGreatDoorZTwoBack5
import Derived.Test.YtfgdoknipbpfhaaGreatDoorZTwoBack9
import Derived.Test.YtfgdoknipbpfhaaGreatDoorZTwoBack53
import Derived.Test.YtfgdoknipbpfhaaGreatDoorTie
import Derived.Test.YtfgdoknipbpfhaaGreatDoorCards
import Derived.SevenTiedAt
namespace Go.Proofs.YtfgdoknipbpfhaaGreatDoor
open Go.Proofs.Tryz
namespace pTwoBack
open Go.ChangeShapes Go.WideShapes Go.ChangeAt Go.RowKit Go.Joins Go.Deep
set_option linter.unusedVariables false
set_option maxRecDepth 100000 in
theorem lifted(os:Os)(z:os.Started)(H:Type)(enc:TypeId×Value->H):
 ReturnsInHanded {} Tryz.checked os 9 .any (fun w i=>(Rows.twoBackSpec.pre enc prog Tryz.f9 Rows.twoBackRow.domain false w i/\laidMetH prog Kj w)/\sizedMet enc prog Tryz.f9 (OpenSpec.ofChange Rows.twoBackSpec) false w i) (Rows.twoBackSpec.post enc prog Tryz.f9 false true false false):=by
 refine returnsInHanded_of_change_and (C:=Tryz.checked) (X:=fun w _=>laidMetH prog Kj w) (fun _ _ _ hh h=>h.of_heap hh) Al5 z my func9
  (ChangeSpec.witness_shaped (enc:=enc) (C:=Tryz.checked) (os:=os) (X:=fun w _=>laidMetH prog Kj w) false (World.doorLaid prog 400 os) #[.agg #[ij,false,ij,ij,ij,ij],()] 8 rfl (X0 os _) my my my (Y9 os _)) ?_
 intro W base i ds gs Z y hW aj U hL Y;have ht:=Y4 hL;have E:∀ (j:Nat) t v,Tryz.f9.params[j]? =some t->i[j]? =some v->Value.okWide prog W .any base t v:=y;have ah:(DataW.weightsEach prog (Tryz.f9.params.toList++Rows.twoBackSpec.plain.varTypes prog) (ds++gs)).all (·<=reachBytes)=true:=U;have ag:=hW;obtain⟨p,q,M,hV,rfl,am,al⟩:=hW;have hA:DataW.TrodAll enc prog W 0 (fun _=>true) true Tryz.f9.params.toList i.toList ds p:=M;rw[Tryz.params9]at hA E ah;obtain⟨v0,ak,d0,aq,p0,q0,af,rfl,rfl,h0,r0⟩:=trodAll_cons hA;obtain⟨v1,ar,d1,an,p1,q1,rfl,rfl,rfl,h1,r1⟩:=trodAll_cons r0;obtain⟨rfl,rfl,rfl⟩:=trodAll_nil r1;obtain rfl:i=#[v0,v1]:=by cases i;simp_all
 obtain⟨rfl,rfl⟩:=trodVars_none hV;have k0:=h0;have ai:∀x∈p0,x.block<W.heap.size:=by obtain⟨m,hm⟩:=k0;exact DataW.trod_lt m _ _ _ hm
 have k1:=h1;have aa:∀x∈p1,x.block<W.heap.size:=by obtain⟨m,hm⟩:=k1;exact DataW.trod_lt m _ _ _ hm
 obtain⟨a0,rfl⟩:=opts (E 0 23 v0 rfl rfl) h0;obtain⟨A1,G,J,rfl⟩:=okWide_slice underlying24 (E 1 24 v1 rfl rfl);obtain⟨ae,ac⟩:=h1;have N:Calls prog 9 #[a0.val, .slice A1 G J] W fun e w'=>e= .returned (.bool true)/\Below W W w':=by obtain⟨la,hl,Q,hc,L,ab⟩:=oF ac;exact gG W a0 A1 G J la hl L hc ab ht Q
 clear M y;refine N.mono fun e W' ⟨he,bel⟩=> ?_;subst he;exact⟨_,rfl,_,_,_,[],_,[],ag,trodAll_mk1 (shut_bool underlying4 _),(trodAll_cons_mk (Below.trod laidOut my (of_decide_eq_true my) k0 bel ai) (trodAll_cons_mk (Below.trod laidOut my (of_decide_eq_true my) k1 bel aa) trodAll_mk0)),rfl,bel.frame _,fun h=>by cases h⟩
theorem fC:Rows.TwoBackSaid:=
 OpenClaim.holds_of_wide 9 Tryz.f9 rfl rfl rfl rfl rfl rfl rfl ⟨rfl,rfl,rfl,rfl,rfl⟩ rfl rfl rfl rfl rfl my func9
  closed (of_decide_eq_true my) (by unfold Func.isWrapper;rw[Aa (by decide+kernel)];exact⟨rfl,rfl⟩)
  (fun os started H enc _=>lifted os started H enc)
end pTwoBack
end Go.Proofs.YtfgdoknipbpfhaaGreatDoor
