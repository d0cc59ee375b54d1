/- The statement FnExactShapeJoin is proved of the given program: for every input, no condition. -/
import Derived.Test.YtehefmgplkolaaaPf1
import Derived.Test.YtehefmgplkolaaaPf2
import Derived.Test.YtehefmgplkolaaaRows
import Derived.Test.YtehefmgplkolaaaPf33
import Derived.Test.YtehefmgplkolaaaPf32
import Derived.WalkKit
import Derived.ProofKit
import Derived.OpenShut
import Derived.ShutString
import Derived.ChangeOld
import Derived.Below
import Derived.SizedLaws
namespace Go.Proofs.Ytehefmgplkolaaa.fnExactShapeJoin
open Go.ChangeShapes Go.WideShapes Go.ChangeAt Go.RowKit Go.Proofs.Ytehefmgplkolaaa.K Go.Proofs.YtehefmgplkolaaaW.PrintWords
open Go.ChangeMaps (open_string shut_string)
set_option linter.unusedVariables false
theorem own:ownKnob Try.prog.godebug=none:=by kernel_rfl
theorem laidOut:laidOutB Try.prog=true:=by kernel_rfl
set_option maxRecDepth 100000 in
set_option maxHeartbeats 2000000 in
theorem lifted (os:Os) (started:os.Started) (H:Type) (enc:TypeId×Value→H):
  ReturnsInHanded {} Try.checked os 3 .any (Rows.fnExactShapeJoinSpec.pre6 enc Try.prog Try.f3 Rows.fnExactShapeJoinRow.domain false) (Rows.fnExactShapeJoinSpec.post enc Try.prog Try.f3 false true false false):=by
 refine returnsInHanded_of_change_sized (C:=Try.checked) own started (by kernel_rfl) Try.func3
  (ChangeSpec.witness6 (enc:=enc) (C:=Try.checked) false ⟨#[],#[.slice none 0 0,.agg #[.bool false,.slice none 0 0,.slice none 0 0],.agg #[.bool false,.slice none 0 0,.slice none 0 0]],[]⟩ 8 (by kernel_rfl) (by kernel_rfl) (by kernel_rfl) (by kernel_rfl)) ?_
 intro W base args ds gs before hval0 hW hcnd hsz0 _;have hval: ∀(j:Nat) t v,Try.f3.params[j]? =some t→args[j]? =some v→Value.okWide Try.prog W .any base t v:=hval0
 have hW':=hW;obtain ⟨p,q,hA0,hV,rfl,hfz,hnd⟩:=hW;have hA:DataW.TrodAll enc Try.prog W 0 (fun _=>true) true Try.f3.params.toList args.toList ds p:=hA0
 rw [Try.params3] at hA hval;obtain ⟨v0,vs0,d0,ds0,p0,q0,hargs,rfl,rfl,h0,r0⟩:=trodAll_cons hA;obtain ⟨v1,vs1,d1,ds1,p1,q1,rfl,rfl,rfl,h1,r1⟩:=trodAll_cons r0;obtain ⟨v2,vs2,d2,ds2,p2,q2,rfl,rfl,rfl,h2,r2⟩:=trodAll_cons r1;obtain ⟨rfl,rfl,rfl⟩:=trodAll_nil r2;obtain rfl:args= #[v0,v1,v2]:=by cases args;simp_all
 obtain ⟨rfl,rfl⟩:=trodVars_none hV;have k0:=h0;have lt0: ∀x∈p0,x.block<W.heap.size:=by obtain ⟨m,hm⟩:=k0;exact DataW.trod_lt m _ _ _ hm
 obtain ⟨a0,len0,cap0,rfl⟩:=okWide_slice Try.underlying22 (hval 0 22 v0 rfl rfl);obtain ⟨fu0,hf0⟩:=h0;obtain ⟨l0,⟨A0,c0,e0,hc0,hr0⟩,g0⟩:=(opens_slice Try.underlying22 (by kernel_rfl) opens45) fu0 _ _ hf0;simp [Value.cells] at e0
 obtain ⟨rfl,rfl,rfl⟩:=e0;have k1:=h1;have lt1: ∀x∈p1,x.block<W.heap.size:=by obtain ⟨m,hm⟩:=k1;exact DataW.trod_lt m _ _ _ hm
 obtain ⟨cs1,rfl,hsz1⟩:=okWide_struct Try.underlying24 (hval 1 25 v1 rfl rfl);obtain ⟨fu1,hf1⟩:=h1;obtain ⟨l1,hK1,g1⟩:=opens25 fu1 _ _ hf1;obtain ⟨A1_1,c1_1,A1_2,c1_2,e1,hc1_1,hr1_1,hc1_2,hr1_2⟩:=k25_open hK1;obtain rfl:cs1= #[.bool l1.f0,.slice A1_1 l1.f1.length c1_1,.slice A1_2 l1.f2.length c1_2]:=by obtain ⟨z⟩:=cs1;simp only [Value.cells] at e1;rw [←e1]
 have k2:=h2;have lt2: ∀x∈p2,x.block<W.heap.size:=by obtain ⟨m,hm⟩:=k2;exact DataW.trod_lt m _ _ _ hm
 obtain ⟨cs2,rfl,hsz2⟩:=okWide_struct Try.underlying24 (hval 2 25 v2 rfl rfl);obtain ⟨fu2,hf2⟩:=h2;obtain ⟨l2,hK2,g2⟩:=opens25 fu2 _ _ hf2;obtain ⟨A2_1,c2_1,A2_2,c2_2,e2,hc2_1,hr2_1,hc2_2,hr2_2⟩:=k25_open hK2;obtain rfl:cs2= #[.bool l2.f0,.slice A2_1 l2.f1.length c2_1,.slice A2_2 l2.f2.length c2_2]:=by obtain ⟨z⟩:=cs2;simp only [Value.cells] at e2;rw [←e2]
 clear hA0 hval0 hsz0;obtain ⟨k,h⟩:=Pure.FnExactShapeJoin l0 l1 l2 g0 g1 g2;refine (laws_FnExactShapeJoin.calls k _ _ l0 l1.f0 _ _ l1.f1 _ _ l1.f2 l2.f0 _ _ l2.f1 _ _ l2.f2 true W ⟨rfl⟩ hr0 hc0 hr1_1 hc1_1 hr1_2 hc1_2 hr2_1 hc2_1 hr2_2 hc2_2 h).mono fun e W' ⟨he,bel0⟩=>?_
 have bel:Below W.heap.size W W':=bel0
 subst he;exact ⟨_,rfl,_,_,_,[],_,[],hW',trodAll_mk1 (shut_bool Try.underlying4 _),(trodAll_cons_mk (Below.trod laidOut (by kernel_rfl) (of_decide_eq_true (by kernel_rfl)) k0 bel lt0) (trodAll_cons_mk (Below.trod laidOut (by kernel_rfl) (of_decide_eq_true (by kernel_rfl)) k1 bel lt1) (trodAll_cons_mk (Below.trod laidOut (by kernel_rfl) (of_decide_eq_true (by kernel_rfl)) k2 bel lt2) trodAll_mk0))),rfl,bel.frame _,fun h=>by cases h⟩
set_option maxHeartbeats 4000000 in
theorem closed:joinedFacts Try.pinned.checked.prog 3 Try.f3 Rows.fnExactShapeJoinSpec Rows.fnExactShapeJoinRow=true:=by
 unfold joinedFacts;simp only [Bool.and_eq_true]
 repeat' (refine And.intro ?_ ?_)
 all_goals first|with_reducible exact c1|with_reducible exact c2|with_reducible exact c3|with_reducible exact c4|with_reducible exact Seat.laid1|with_reducible exact Seat.rowed1|with_reducible exact Seat.heard1|(as_aux_lemma=>kernel_rfl)
theorem over:Rows.fnExactShapeJoinRow.holds Try.pinned (OpenSpec.ofChange Rows.fnExactShapeJoinSpec):=
 OpenClaim.holds_of_wide 3 Try.f3 rfl rfl rfl rfl rfl rfl rfl ⟨rfl,rfl,rfl,rfl,rfl⟩ rfl rfl rfl rfl rfl (by kernel_rfl) Try.func3 closed
  (of_decide_eq_true (by kernel_rfl)) (by unfold Func.isWrapper;first|(rw [if_pos (by decide+kernel)];kernel_rfl)|(rw [if_neg (by decide+kernel)];exact ⟨rfl,rfl⟩))
  (fun os started H enc _=>lifted os started H enc)
theorem proved:Rows.FnExactShapeJoinSaid:=over
#print axioms proved
end Go.Proofs.Ytehefmgplkolaaa.fnExactShapeJoin
namespace Go.Proofs.Ytehefmgplkolaaa
theorem fnExactShapeJoin_holds:Rows.FnExactShapeJoinSaid:=fnExactShapeJoin.proved
end Go.Proofs.Ytehefmgplkolaaa
