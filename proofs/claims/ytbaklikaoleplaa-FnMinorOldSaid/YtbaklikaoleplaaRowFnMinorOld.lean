/- The statement FnMinorOld is proved of the given program: for every input, no condition. -/
import Derived.Test.YtbaklikaoleplaaPh1
import Derived.Test.YtbaklikaoleplaaPh2
import Derived.Test.YtbaklikaoleplaaRows
import Derived.Test.YtbaklikaoleplaaPh35
import Derived.WalkKit
import Derived.ProofKit
import Derived.OpenShut
import Derived.ShutString
import Derived.ChangeOld
import Derived.Below
import Derived.SizedLaws
set_option maxHeartbeats 4000000
set_option maxRecDepth 100000
namespace Go.Proofs.Ytbaklikaoleplaa.fnMinorOld
open Go.ChangeShapes Go.WideShapes Go.ChangeAt Go.RowKit Go.Proofs.Ytbaklikaoleplaa.K Go.Proofs.YtbaklikaoleplaaW.PrintWords
open Go.ChangeMaps (open_string shut_string)
set_option linter.unusedVariables false
theorem own:ownKnob Try.prog.godebug=none:=by kernel_rfl
theorem laidOut:laidOutB Try.prog=true:=by kernel_rfl
theorem lifted (os:Os) (started:os.Started) (H:Type) (enc:TypeId×Value→H):
  ReturnsInHanded {} Try.checked os 4 .any (Rows.fnMinorOldSpec.pre6 enc Try.prog Try.f4 Rows.fnMinorOldRow.domain false) (Rows.fnMinorOldSpec.post enc Try.prog Try.f4 false true false false):=by
 refine returnsInHanded_of_change_sized (C:=Try.checked) own started (by kernel_rfl) Try.func4
  (ChangeSpec.witness6 (enc:=enc) (C:=Try.checked) false ⟨#[],#[.slice none 0 0],[]⟩ 8 (by kernel_rfl) (by kernel_rfl) (by kernel_rfl) (by kernel_rfl)) ?_
 intro W base args ds gs before hval0 hW hcnd hsz0 _;have hval: ∀(j:Nat) t v,Try.f4.params[j]? =some t→args[j]? =some v→Value.okWide Try.prog W .any base t v:=hval0
 have hW':=hW;obtain ⟨p,q,hA0,hV,rfl,hfz,hnd⟩:=hW;have hA:DataW.TrodAll enc Try.prog W 0 (fun _=>true) true Try.f4.params.toList args.toList ds p:=hA0
 rw [Try.params4] at hA hval;obtain ⟨v0,vs0,d0,ds0,p0,q0,hargs,rfl,rfl,h0,r0⟩:=trodAll_cons hA;obtain ⟨rfl,rfl,rfl⟩:=trodAll_nil r0;obtain rfl:args= #[v0]:=by cases args;simp_all
 obtain ⟨rfl,rfl⟩:=trodVars_none hV;have k0:=h0;have lt0: ∀x∈p0,x.block<W.heap.size:=by obtain ⟨m,hm⟩:=k0;exact DataW.trod_lt m _ _ _ hm
 obtain ⟨a0,len0,cap0,rfl⟩:=okWide_slice Try.underlying43 (hval 0 43 v0 rfl rfl);obtain ⟨fu0,hf0⟩:=h0;obtain ⟨l0,⟨A0,c0,e0,hc0,hr0⟩,g0⟩:=(bLm Try.underlying43 (by kernel_rfl) (bPk Try.underlying5)) fu0 _ _ hf0;simp [Value.cells] at e0
 obtain ⟨rfl,rfl,rfl⟩:=e0;clear hA0 hval0 hsz0;have h:=Pure.FnMinorOld l0 g0;refine (bBd _ _ l0 true W ⟨rfl⟩ hr0 hc0 h).mono fun e W' ⟨he,bel0⟩=>?_
 have bel:Below W.heap.size W W':=bel0
 subst he;exact ⟨_,rfl,_,_,_,[],_,[],hW',trodAll_mk1 (shut_bool Try.underlying4 _),(trodAll_cons_mk (Below.trod laidOut (by kernel_rfl) (bB (by kernel_rfl)) k0 bel lt0) trodAll_mk0),rfl,bel.frame _,fun h=>by cases h⟩
theorem closed:joinedFacts Try.pinned.checked.prog 4 Try.f4 Rows.fnMinorOldSpec Rows.fnMinorOldRow=true:=by
 unfold joinedFacts;simp only [dY]
 repeat' (refine And.intro ?_ ?_)
 all_goals first|with_reducible exact c1|with_reducible exact c2|with_reducible exact c3|with_reducible exact c4|with_reducible exact Seat.laid1|with_reducible exact Seat.rowed1|with_reducible exact Seat.heard1|(as_aux_lemma=>kernel_rfl)
theorem over:Rows.fnMinorOldRow.holds Try.pinned (OpenSpec.ofChange Rows.fnMinorOldSpec):=
 OpenClaim.holds_of_wide 4 Try.f4 rfl rfl rfl rfl rfl rfl rfl ⟨rfl,rfl,rfl,rfl,rfl⟩ rfl rfl rfl rfl rfl (by kernel_rfl) Try.func4 closed
  (bB (by kernel_rfl)) (by unfold Func.isWrapper;first|(rw [if_pos (by decide+kernel)];kernel_rfl)|(rw [if_neg (by decide+kernel)];exact ⟨rfl,rfl⟩))
  (fun os started H enc _=>lifted os started H enc)
theorem proved:Rows.FnMinorOldSaid:=over
#print axioms proved
end Go.Proofs.Ytbaklikaoleplaa.fnMinorOld
namespace Go.Proofs.Ytbaklikaoleplaa
theorem fnMinorOld_holds:Rows.FnMinorOldSaid:=fnMinorOld.proved
end Go.Proofs.Ytbaklikaoleplaa
