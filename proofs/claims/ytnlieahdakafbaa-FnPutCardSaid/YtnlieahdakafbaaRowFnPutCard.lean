/- The statement FnPutCard is proved of the given program: for every input, no condition. -/
import Derived.Test.YtnlieahdakafbaaPd1
import Derived.Test.YtnlieahdakafbaaPd2
import Derived.Test.YtnlieahdakafbaaRows
import Derived.Test.YtnlieahdakafbaaPd38
import Derived.WalkKit
import Derived.ProofKit
import Derived.OpenShut
import Derived.ShutString
import Derived.ChangeOld
import Derived.Below
import Derived.SizedLaws
namespace Go.Proofs.Ytnlieahdakafbaa.fnPutCard
open Go.ChangeShapes Go.WideShapes Go.ChangeAt Go.RowKit Go.Proofs.Ytnlieahdakafbaa.K Go.Proofs.YtnlieahdakafbaaW.PrintWords
open Go.ChangeMaps (open_string shut_string)
set_option linter.unusedVariables false
theorem own:ownKnob Try.prog.godebug=none:=by kernel_rfl
theorem laidOut:laidOutB Try.prog=true:=by kernel_rfl
set_option maxRecDepth 100000 in
set_option maxHeartbeats 2000000 in
theorem lifted (os:Os) (started:os.Started) (H:Type) (enc:TypeId×Value→H):
  ReturnsInHanded {} Try.checked os 7 .any (Rows.fnPutCardSpec.pre6 enc Try.prog Try.f7 Rows.fnPutCardRow.domain false) (Rows.fnPutCardSpec.post enc Try.prog Try.f7 false true false false):=by
 refine returnsInHanded_of_change_sized (C:=Try.checked) own started (by kernel_rfl) Try.func7
  (ChangeSpec.witness6 (enc:=enc) (C:=Try.checked) false ⟨#[],#[.slice none 0 0],[]⟩ 8 (by kernel_rfl) (by kernel_rfl) (by kernel_rfl) (by kernel_rfl)) ?_
 intro W base args ds gs before hval0 hW hcnd hsz0 _;have hval: ∀(j:Nat) t v,Try.f7.params[j]? =some t→args[j]? =some v→Value.okWide Try.prog W .any base t v:=hval0
 have hW':=hW;obtain ⟨p,q,hA0,hV,rfl,hfz,hnd⟩:=hW;have hA:DataW.TrodAll enc Try.prog W 0 (fun _=>true) true Try.f7.params.toList args.toList ds p:=hA0
 rw [Try.params7] at hA hval;obtain ⟨v0,vs0,d0,ds0,p0,q0,hargs,rfl,rfl,h0,r0⟩:=trodAll_cons hA;obtain ⟨rfl,rfl,rfl⟩:=trodAll_nil r0;obtain rfl:args= #[v0]:=by cases args;simp_all
 obtain ⟨rfl,rfl⟩:=trodVars_none hV;have k0:=h0;have lt0: ∀x∈p0,x.block<W.heap.size:=by obtain ⟨m,hm⟩:=k0;exact DataW.trod_lt m _ _ _ hm
 obtain ⟨a0,len0,cap0,rfl⟩:=okWide_slice Try.underlying22 (hval 0 22 v0 rfl rfl);obtain ⟨fu0,hf0⟩:=h0;obtain ⟨l0,⟨A0,c0,e0,hc0,hr0⟩,g0⟩:=(opens_slice Try.underlying22 (by kernel_rfl) (opens_int Try.underlying5)) fu0 _ _ hf0;simp [Value.cells] at e0
 obtain ⟨rfl,rfl,rfl⟩:=e0;clear hA0 hval0 hsz0;have h:=Pure.FnPutCard l0 g0;refine (laws_FnPutCard.calls _ _ l0 true W ⟨rfl⟩ hr0 hc0 h).mono fun e W' ⟨he,bel0⟩=>?_
 have bel:Below W.heap.size W W':=bel0
 subst he;exact ⟨_,rfl,_,_,_,[],_,[],hW',trodAll_mk1 (shut_bool Try.underlying4 _),(trodAll_cons_mk (Below.trod laidOut (by kernel_rfl) (of_decide_eq_true (by kernel_rfl)) k0 bel lt0) trodAll_mk0),rfl,bel.frame _,fun h=>by cases h⟩
set_option maxHeartbeats 4000000 in
theorem closed:joinedFacts Try.pinned.checked.prog 7 Try.f7 Rows.fnPutCardSpec Rows.fnPutCardRow=true:=by
 unfold joinedFacts;simp only [Bool.and_eq_true]
 repeat' (refine And.intro ?_ ?_)
 all_goals first|with_reducible exact c1|with_reducible exact c2|with_reducible exact c3|with_reducible exact c4|with_reducible exact Seat.laid1|with_reducible exact Seat.rowed1|with_reducible exact Seat.heard1|(as_aux_lemma=>kernel_rfl)
theorem over:Rows.fnPutCardRow.holds Try.pinned (OpenSpec.ofChange Rows.fnPutCardSpec):=
 OpenClaim.holds_of_wide 7 Try.f7 rfl rfl rfl rfl rfl rfl rfl ⟨rfl,rfl,rfl,rfl,rfl⟩ rfl rfl rfl rfl rfl (by kernel_rfl) Try.func7 closed
  (of_decide_eq_true (by kernel_rfl)) (by unfold Func.isWrapper;first|(rw [if_pos (by decide+kernel)];kernel_rfl)|(rw [if_neg (by decide+kernel)];exact ⟨rfl,rfl⟩))
  (fun os started H enc _=>lifted os started H enc)
theorem proved:Rows.FnPutCardSaid:=over
#print axioms proved
end Go.Proofs.Ytnlieahdakafbaa.fnPutCard
namespace Go.Proofs.Ytnlieahdakafbaa
theorem fnPutCard_holds:Rows.FnPutCardSaid:=fnPutCard.proved
end Go.Proofs.Ytnlieahdakafbaa
