/- The statement FnExactGcMinor is proved of the given program: for every input, no condition. -/
import Derived.Test.YtbaklikaoleplaaPg1
import Derived.Test.YtbaklikaoleplaaPg2
import Derived.Test.YtbaklikaoleplaaRows
import Derived.Test.YtbaklikaoleplaaPg38
import Derived.Test.YtbaklikaoleplaaPg37
import Derived.Test.YtbaklikaoleplaaPg40
import Derived.WalkKit
import Derived.ProofKit
import Derived.OpenShut
import Derived.ShutString
import Derived.ChangeOld
import Derived.Below
import Derived.SizedLaws
namespace Go.Proofs.Ytbaklikaoleplaa.fnExactGcMinor
open Go.ChangeShapes Go.WideShapes Go.ChangeAt Go.RowKit Go.Proofs.Ytbaklikaoleplaa.K Go.Proofs.YtbaklikaoleplaaW.PrintWords
open Go.ChangeMaps (open_string shut_string)
set_option linter.unusedVariables false
theorem own:ownKnob Try.prog.godebug=none:=by kernel_rfl
theorem laidOut:laidOutB Try.prog=true:=by kernel_rfl
set_option maxRecDepth 100000 in
set_option maxHeartbeats 2000000 in
theorem lifted (os:Os) (started:os.Started) (H:Type) (enc:TypeId×Value→H):
  ReturnsInHanded {} Try.checked os 3 .any (Rows.fnExactGcMinorSpec.pre6 enc Try.prog Try.f3 Rows.fnExactGcMinorRow.domain false) (Rows.fnExactGcMinorSpec.post enc Try.prog Try.f3 false true false false):=by
 refine returnsInHanded_of_change_sized (C:=Try.checked) own started (by kernel_rfl) Try.func3
  (ChangeSpec.witness6 (enc:=enc) (C:=Try.checked) false ⟨#[],#[.slice none 0 0,.agg #[.slice none 0 0,.int .i64 0,.int .i64 0,.int .i64 0,.slice none 0 0],.slice none 0 0],[]⟩ 8 (by kernel_rfl) (by kernel_rfl) (by kernel_rfl) (by kernel_rfl)) ?_
 intro W base args ds gs before hval0 hW hcnd hsz0 _;have hval: ∀(j:Nat) t v,Try.f3.params[j]? =some t→args[j]? =some v→Value.okWide Try.prog W .any base t v:=hval0
 have hW':=hW;obtain ⟨p,q,hA0,hV,rfl,hfz,hnd⟩:=hW;have hA:DataW.TrodAll enc Try.prog W 0 (fun _=>true) true Try.f3.params.toList args.toList ds p:=hA0
 rw [Try.params3] at hA hval;obtain ⟨v0,vs0,d0,ds0,p0,q0,hargs,rfl,rfl,h0,r0⟩:=trodAll_cons hA;obtain ⟨v1,vs1,d1,ds1,p1,q1,rfl,rfl,rfl,h1,r1⟩:=trodAll_cons r0;obtain ⟨v2,vs2,d2,ds2,p2,q2,rfl,rfl,rfl,h2,r2⟩:=trodAll_cons r1;obtain ⟨rfl,rfl,rfl⟩:=trodAll_nil r2;obtain rfl:args= #[v0,v1,v2]:=by cases args;simp_all
 obtain ⟨rfl,rfl⟩:=trodVars_none hV;have k0:=h0;have lt0: ∀x∈p0,x.block<W.heap.size:=by obtain ⟨m,hm⟩:=k0;exact DataW.trod_lt m _ _ _ hm
 obtain ⟨a0,len0,cap0,rfl⟩:=okWide_slice Try.underlying22 (hval 0 22 v0 rfl rfl);obtain ⟨fu0,hf0⟩:=h0;obtain ⟨l0,⟨A0,c0,e0,hc0,hr0⟩,g0⟩:=(opens_slice Try.underlying22 (by kernel_rfl) opens50) fu0 _ _ hf0;simp [Value.cells] at e0
 obtain ⟨rfl,rfl,rfl⟩:=e0;have k1:=h1;have lt1: ∀x∈p1,x.block<W.heap.size:=by obtain ⟨m,hm⟩:=k1;exact DataW.trod_lt m _ _ _ hm
 obtain ⟨cs1,rfl,hsz1⟩:=okWide_struct Try.underlying25 (hval 1 26 v1 rfl rfl);obtain ⟨fu1,hf1⟩:=h1;obtain ⟨l1,hK1,g1⟩:=opens26 fu1 _ _ hf1;obtain ⟨A1_0,c1_0,A1_4,c1_4,e1,hc1_0,hr1_0,hc1_4,hr1_4⟩:=k26_open hK1;obtain rfl:cs1= #[.slice A1_0 l1.f0.length c1_0,.int .i64 l1.f1,.int .i64 l1.f2,.int .i64 l1.f3,.slice A1_4 l1.f4.length c1_4]:=by obtain ⟨z⟩:=cs1;simp only [Value.cells] at e1;rw [←e1]
 have k2:=h2;have lt2: ∀x∈p2,x.block<W.heap.size:=by obtain ⟨m,hm⟩:=k2;exact DataW.trod_lt m _ _ _ hm
 obtain ⟨a2,len2,cap2,rfl⟩:=okWide_slice Try.underlying23 (hval 2 23 v2 rfl rfl);obtain ⟨fu2,hf2⟩:=h2;obtain ⟨l2,⟨A2,c2,e2,hc2,hr2⟩,g2⟩:=(opens_slice Try.underlying23 (by kernel_rfl) (opens_int Try.underlying3)) fu2 _ _ hf2;simp [Value.cells] at e2
 obtain ⟨rfl,rfl,rfl⟩:=e2;clear hA0 hval0 hsz0;obtain ⟨k,h⟩:=Pure.FnExactGcMinor l0 l1 l2 g0 g1 g2;refine (laws_FnExactGcMinor.calls k _ _ l0 _ _ l1.f0 l1.f1 l1.f2 l1.f3 _ _ l1.f4 _ _ l2 true W ⟨rfl⟩ hr0 hc0 hr1_0 hc1_0 hr1_4 hc1_4 hr2 hc2 h).mono fun e W' ⟨he,bel0⟩=>?_
 have bel:Below W.heap.size W W':=bel0
 subst he;exact ⟨_,rfl,_,_,_,[],_,[],hW',trodAll_mk1 (shut_bool Try.underlying4 _),(trodAll_cons_mk (Below.trod laidOut (by kernel_rfl) (of_decide_eq_true (by kernel_rfl)) k0 bel lt0) (trodAll_cons_mk (Below.trod laidOut (by kernel_rfl) (of_decide_eq_true (by kernel_rfl)) k1 bel lt1) (trodAll_cons_mk (Below.trod laidOut (by kernel_rfl) (of_decide_eq_true (by kernel_rfl)) k2 bel lt2) trodAll_mk0))),rfl,bel.frame _,fun h=>by cases h⟩
set_option maxHeartbeats 4000000 in
theorem closed:joinedFacts Try.pinned.checked.prog 3 Try.f3 Rows.fnExactGcMinorSpec Rows.fnExactGcMinorRow=true:=by
 unfold joinedFacts;simp only [Bool.and_eq_true]
 repeat' (refine And.intro ?_ ?_)
 all_goals first|with_reducible exact c1|with_reducible exact c2|with_reducible exact c3|with_reducible exact c4|with_reducible exact Seat.laid1|with_reducible exact Seat.rowed1|with_reducible exact Seat.heard1|(as_aux_lemma=>kernel_rfl)
theorem over:Rows.fnExactGcMinorRow.holds Try.pinned (OpenSpec.ofChange Rows.fnExactGcMinorSpec):=
 OpenClaim.holds_of_wide 3 Try.f3 rfl rfl rfl rfl rfl rfl rfl ⟨rfl,rfl,rfl,rfl,rfl⟩ rfl rfl rfl rfl rfl (by kernel_rfl) Try.func3 closed
  (of_decide_eq_true (by kernel_rfl)) (by unfold Func.isWrapper;first|(rw [if_pos (by decide+kernel)];kernel_rfl)|(rw [if_neg (by decide+kernel)];exact ⟨rfl,rfl⟩))
  (fun os started H enc _=>lifted os started H enc)
theorem proved:Rows.FnExactGcMinorSaid:=over
#print axioms proved
end Go.Proofs.Ytbaklikaoleplaa.fnExactGcMinor
namespace Go.Proofs.Ytbaklikaoleplaa
theorem fnExactGcMinor_holds:Rows.FnExactGcMinorSaid:=fnExactGcMinor.proved
end Go.Proofs.Ytbaklikaoleplaa
