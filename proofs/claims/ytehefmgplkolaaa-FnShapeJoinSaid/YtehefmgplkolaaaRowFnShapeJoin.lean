/- The statement FnShapeJoin is proved of the given program: for every input, no condition. -/
import Derived.Test.YtehefmgplkolaaaPe1
import Derived.Test.YtehefmgplkolaaaPe2
import Derived.Test.YtehefmgplkolaaaRows
import Derived.Test.YtehefmgplkolaaaPe35
import Derived.WalkKit
import Derived.ProofKit
import Derived.OpenShut
import Derived.ShutString
import Derived.ChangeOld
import Derived.Below
import Derived.SizedLaws
namespace Go.Proofs.Ytehefmgplkolaaa.fnShapeJoin
open Go.ChangeShapes Go.WideShapes Go.ChangeAt Go.RowKit Go.Proofs.Ytehefmgplkolaaa.K Go.Proofs.YtehefmgplkolaaaW.PrintWords
open Go.ChangeMaps (open_string shut_string)
set_option linter.unusedVariables false
theorem own:ownKnob Try.prog.godebug=none:=by kernel_rfl
theorem laidOut:laidOutB Try.prog=true:=by kernel_rfl
set_option maxRecDepth 100000 in
set_option maxHeartbeats 2000000 in
theorem lifted (os:Os) (started:os.Started) (H:Type) (enc:TypeId×Value→H):
  ReturnsInHanded {} Try.checked os 4 .any (Rows.fnShapeJoinSpec.pre6 enc Try.prog Try.f4 Rows.fnShapeJoinRow.domain false) (Rows.fnShapeJoinSpec.post enc Try.prog Try.f4 false true false false):=by
 refine returnsInHanded_of_change_sized (C:=Try.checked) own started (by kernel_rfl) Try.func4
  (ChangeSpec.witness6 (enc:=enc) (C:=Try.checked) false ⟨#[],#[.slice none 0 0,.slice none 0 0],[]⟩ 8 (by kernel_rfl) (by kernel_rfl) (by kernel_rfl) (by kernel_rfl)) ?_
 intro W base args ds gs before hval0 hW hcnd hsz0 _;have hval: ∀(j:Nat) t v,Try.f4.params[j]? =some t→args[j]? =some v→Value.okWide Try.prog W .any base t v:=hval0
 have hW':=hW;obtain ⟨p,q,hA0,hV,rfl,hfz,hnd⟩:=hW;have hA:DataW.TrodAll enc Try.prog W 0 (fun _=>true) true Try.f4.params.toList args.toList ds p:=hA0
 rw [Try.params4] at hA hval;obtain ⟨v0,vs0,d0,ds0,p0,q0,hargs,rfl,rfl,h0,r0⟩:=trodAll_cons hA;obtain ⟨v1,vs1,d1,ds1,p1,q1,rfl,rfl,rfl,h1,r1⟩:=trodAll_cons r0;obtain ⟨rfl,rfl,rfl⟩:=trodAll_nil r1;obtain rfl:args= #[v0,v1]:=by cases args;simp_all
 obtain ⟨rfl,rfl⟩:=trodVars_none hV;have k0:=h0;have lt0: ∀x∈p0,x.block<W.heap.size:=by obtain ⟨m,hm⟩:=k0;exact DataW.trod_lt m _ _ _ hm
 obtain ⟨a0,len0,cap0,rfl⟩:=okWide_slice Try.underlying38 (hval 0 38 v0 rfl rfl);obtain ⟨fu0,hf0⟩:=h0;obtain ⟨l0,⟨A0,c0,e0,hc0,hr0⟩,g0⟩:=(opens_slice Try.underlying38 (by kernel_rfl) (opens_int Try.underlying5)) fu0 _ _ hf0;simp [Value.cells] at e0
 obtain ⟨rfl,rfl,rfl⟩:=e0;have k1:=h1;have lt1: ∀x∈p1,x.block<W.heap.size:=by obtain ⟨m,hm⟩:=k1;exact DataW.trod_lt m _ _ _ hm
 obtain ⟨a1,len1,cap1,rfl⟩:=okWide_slice Try.underlying38 (hval 1 38 v1 rfl rfl);obtain ⟨fu1,hf1⟩:=h1;obtain ⟨l1,⟨A1,c1,e1,hc1,hr1⟩,g1⟩:=(opens_slice Try.underlying38 (by kernel_rfl) (opens_int Try.underlying5)) fu1 _ _ hf1;simp [Value.cells] at e1
 obtain ⟨rfl,rfl,rfl⟩:=e1;clear hA0 hval0 hsz0;have h:=Pure.FnShapeJoin l0 l1 g0 g1;refine (laws_FnShapeJoin.calls _ _ l0 _ _ l1 true W ⟨rfl⟩ hr0 hc0 hr1 hc1 h).mono fun e W' ⟨he,bel0⟩=>?_
 have bel:Below W.heap.size W W':=bel0
 subst he;exact ⟨_,rfl,_,_,_,[],_,[],hW',trodAll_mk1 (shut_bool Try.underlying4 _),(trodAll_cons_mk (Below.trod laidOut (by kernel_rfl) (of_decide_eq_true (by kernel_rfl)) k0 bel lt0) (trodAll_cons_mk (Below.trod laidOut (by kernel_rfl) (of_decide_eq_true (by kernel_rfl)) k1 bel lt1) trodAll_mk0)),rfl,bel.frame _,fun h=>by cases h⟩
set_option maxHeartbeats 4000000 in
theorem closed:joinedFacts Try.pinned.checked.prog 4 Try.f4 Rows.fnShapeJoinSpec Rows.fnShapeJoinRow=true:=by
 unfold joinedFacts;simp only [Bool.and_eq_true]
 repeat' (refine And.intro ?_ ?_)
 all_goals first|with_reducible exact c1|with_reducible exact c2|with_reducible exact c3|with_reducible exact c4|with_reducible exact Seat.laid1|with_reducible exact Seat.rowed1|with_reducible exact Seat.heard1|(as_aux_lemma=>kernel_rfl)
theorem over:Rows.fnShapeJoinRow.holds Try.pinned (OpenSpec.ofChange Rows.fnShapeJoinSpec):=
 OpenClaim.holds_of_wide 4 Try.f4 rfl rfl rfl rfl rfl rfl rfl ⟨rfl,rfl,rfl,rfl,rfl⟩ rfl rfl rfl rfl rfl (by kernel_rfl) Try.func4 closed
  (of_decide_eq_true (by kernel_rfl)) (by unfold Func.isWrapper;first|(rw [if_pos (by decide+kernel)];kernel_rfl)|(rw [if_neg (by decide+kernel)];exact ⟨rfl,rfl⟩))
  (fun os started H enc _=>lifted os started H enc)
theorem proved:Rows.FnShapeJoinSaid:=over
#print axioms proved
end Go.Proofs.Ytehefmgplkolaaa.fnShapeJoin
namespace Go.Proofs.Ytehefmgplkolaaa
theorem fnShapeJoin_holds:Rows.FnShapeJoinSaid:=fnShapeJoin.proved
end Go.Proofs.Ytehefmgplkolaaa
