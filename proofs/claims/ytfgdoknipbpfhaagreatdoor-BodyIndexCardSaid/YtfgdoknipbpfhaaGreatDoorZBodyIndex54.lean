/- The statement BodyIn -/
import Derived.Test.YtfgdoknipbpfhaaGreatDoorZBodyIndex4
import Derived.Test.YtfgdoknipbpfhaaGreatDoorZBodyIndex5
import Derived.Test.YtfgdoknipbpfhaaGreatDoorZBodyIndex9
import Derived.Test.YtfgdoknipbpfhaaGreatDoorZBodyIndex53
import Derived.Test.YtfgdoknipbpfhaaGreatDoorTie
import Derived.Test.YtfgdoknipbpfhaaGreatDoorCards
import Derived.SevenTiedAt
namespace Go.Proofs.YtfgdoknipbpfhaaGreatDoor
open Go.Proofs.Tryz
namespace pBodyIndex
open Go.ChangeShapes Go.WideShapes Go.ChangeAt Go.RowKit Go.Joins Go.Deep Lift
set_option linter.unusedVariables false
set_option maxRecDepth 100000 in
theorem lifted(os:Os)(G:os.Started)(H:Type)(enc:TypeId×Value->H):
 ReturnsInHanded {} Tryz.checked os 5 .any (fun w i=>(Rows.bodyIndexSpec.pre enc prog Tryz.f5 Rows.bodyIndexRow.domain false w i/\laidMetH prog Door.Ki w)/\sizedMet enc prog Tryz.f5 (OpenSpec.ofChange Rows.bodyIndexSpec) false w i) (Rows.bodyIndexSpec.post enc prog Tryz.f5 false true false false):=by
 refine returnsInHanded_of_change_and (C:=Tryz.checked) (X:=fun w _=>laidMetH prog Door.Ki w) (fun _ _ _ hh h=>h.of_heap hh) own G ni func5
  (ChangeSpec.witness_shaped (enc:=enc) (C:=Tryz.checked) (os:=os) (X:=fun w _=>laidMetH prog Door.Ki w) false (World.doorLaid prog 400 os) #[.agg #[jd,false,jd,jd,jd,jd],(),()] 8 rfl (Door.mD os _) ni ni ni (Door.fL os _)) ?_
 intro W base i ds gs ag J hW ax aa hL af;have ht:=Door.bK hL;have E:∀ (j:Nat) t v,Tryz.f5.params[j]? =some t->i[j]? =some v->Value.okWide prog W .any base t v:=J;have ah:(DataW.weightsEach prog (Tryz.f5.params.toList++Rows.bodyIndexSpec.plain.varTypes prog) (ds++gs)).all (·<=reachBytes)=true:=aa;have au:=hW;obtain⟨p,q,ae,hV,rfl,a6,a9⟩:=hW;have hA:DataW.TrodAll enc prog W 0 (fun _=>true) true Tryz.f5.params.toList i.toList ds p:=ae;rw[Tryz.params5]at hA E ah;obtain⟨v0,a4,d0,a5,p0,q0,am,rfl,rfl,h0,r0⟩:=trodAll_cons hA;obtain⟨v1,az,d1,a1,p1,q1,rfl,rfl,rfl,h1,r1⟩:=trodAll_cons r0;obtain⟨v2,a3,d2,bb,p2,q2,rfl,rfl,rfl,h2,r2⟩:=trodAll_cons r1;obtain⟨rfl,rfl,rfl⟩:=trodAll_nil r2;obtain rfl:i=#[v0,v1,v2]:=by cases i;simp_all
 obtain⟨rfl,rfl⟩:=trodVars_none hV;have k0:=h0;have aj:∀x∈p0,x.block<W.heap.size:=by obtain⟨m,hm⟩:=k0;exact DataW.trod_lt m _ _ _ hm
 have k1:=h1;have aw:∀x∈p1,x.block<W.heap.size:=by obtain⟨m,hm⟩:=k1;exact DataW.trod_lt m _ _ _ hm
 have k2:=h2;have ai:∀x∈p2,x.block<W.heap.size:=by obtain⟨m,hm⟩:=k2;exact DataW.trod_lt m _ _ _ hm
 obtain⟨a0,rfl⟩:=Open.opts (E 0 23 v0 rfl rfl) h0;obtain⟨A1,M,L,rfl⟩:=okWide_slice underlying24 (E 1 24 v1 rfl rfl);obtain⟨ar,aq⟩:=h1;obtain⟨A2,N,Q,rfl⟩:=okWide_slice underlying24 (E 2 24 v2 rfl rfl);obtain⟨al,av⟩:=h2;have Z:Calls prog 5 #[a0.val, .slice A1 M L, .slice A2 N Q] W fun e w'=>e= .returned (.bool true)/\Below W W w':=by obtain⟨la,hl,ab,hc,ac,ak⟩:=Open.UM aq;obtain⟨lb,an,Y,ba,U,ay⟩:=Open.UM av;exact Body.aG W a0 A1 M L la A2 N Q lb an U Y hl ac hc ak ht ab
 clear ae J;refine Z.mono fun e W' ⟨he,bel⟩=> ?_;subst he;exact⟨_,rfl,_,_,_,[],_,[],au,trodAll_mk1 (shut_bool underlying4 _),(trodAll_cons_mk (Below.trod laidOut ni (of_decide_eq_true ni) k0 bel aj) (trodAll_cons_mk (Below.trod laidOut ni (of_decide_eq_true ni) k1 bel aw) (trodAll_cons_mk (Below.trod laidOut ni (of_decide_eq_true ni) k2 bel ai) trodAll_mk0))),rfl,bel.frame _,fun h=>jh⟩
theorem Yj:Rows.BodyIndexSaid:=
 OpenClaim.holds_of_wide 5 Tryz.f5 rfl rfl rfl rfl rfl rfl rfl ⟨rfl,rfl,rfl,rfl,rfl⟩ rfl rfl rfl rfl rfl ni func5
  closed (of_decide_eq_true ni) (by unfold Func.isWrapper;rw[Ae (by decide+kernel)];exact⟨rfl,rfl⟩)
  (fun os started H enc _=>lifted os started H enc)
end pBodyIndex
end Go.Proofs.YtfgdoknipbpfhaaGreatDoor
