/- The statement FnExactGcLive is proved of the given program: for every input, no condition. -/
import Derived.Test.YtbaklikaoleplaaGreatPl1
import Derived.Test.YtbaklikaoleplaaGreatPl2
import Derived.Test.YtbaklikaoleplaaGreatRows
import Derived.Test.YtbaklikaoleplaaGreatPl34
import Derived.Test.YtbaklikaoleplaaGreatPl36
import Derived.WalkKit
import Derived.ProofKit
import Derived.OpenShut
import Derived.ShutString
import Derived.ChangeOld
import Derived.Below
import Derived.SizedLaws
set_option maxHeartbeats 4000000
set_option maxRecDepth 100000
namespace Go.Proofs.YtbaklikaoleplaaGreat.fnExactGcLive
open Go.ChangeShapes Go.WideShapes Go.ChangeAt Go.RowKit Go.Proofs.YtbaklikaoleplaaGreat.K Go.Proofs.YtbaklikaoleplaaGreatW.PrintWords
open Go.ChangeMaps (open_string shut_string)
set_option linter.unusedVariables false
theorem own:ownKnob Tryz.prog.godebug=none:=by kernel_rfl
theorem bGb:laidOutB Tryz.prog=true:=by kernel_rfl
theorem lifted (os:Os) (started:os.Started) (H:Type) (enc:TypeId×Value→H):
  ReturnsInHanded {} Tryz.checked os 4 .any (Rows.fnExactGcLiveSpec.pre6 enc Tryz.prog Tryz.f4 Rows.fnExactGcLiveRow.domain false) (Rows.fnExactGcLiveSpec.post enc Tryz.prog Tryz.f4 false true false false):=by
 refine returnsInHanded_of_change_sized (C:=Tryz.checked) own started (by kernel_rfl) Tryz.func4
  (ChangeSpec.witness6 (enc:=enc) (C:=Tryz.checked) false ⟨#[],#[.slice none 0 0,.agg #[.slice none 0 0,.int .i64 0,.int .i64 0,.int .i64 0,.slice none 0 0],.slice none 0 0],[]⟩ 8 (by kernel_rfl) (by kernel_rfl) (by kernel_rfl) (by kernel_rfl)) ?_
 intro W base args ds gs before hval0 hW hcnd hsz0 _;have hval: ∀(j:Nat) t v,Tryz.f4.params[j]? =some t→args[j]? =some v→Value.okWide Tryz.prog W .any base t v:=hval0
 have hW':=hW;obtain ⟨p,q,hA0,hV,rfl,hfz,hnd⟩:=hW;have hA:DataW.TrodAll enc Tryz.prog W 0 (fun _=>true) true Tryz.f4.params.toList args.toList ds p:=hA0
 rw [Tryz.params4] at hA hval;obtain ⟨v0,vs0,d0,ds0,p0,q0,hargs,rfl,rfl,h0,r0⟩:=trodAll_cons hA;obtain ⟨v1,vs1,d1,ds1,p1,q1,rfl,rfl,rfl,h1,r1⟩:=trodAll_cons r0;obtain ⟨v2,vs2,d2,ds2,p2,q2,rfl,rfl,rfl,h2,r2⟩:=trodAll_cons r1;obtain ⟨rfl,rfl,rfl⟩:=trodAll_nil r2;obtain rfl:args= #[v0,v1,v2]:=by cases args;simp_all
 obtain ⟨rfl,rfl⟩:=trodVars_none hV;have k0:=h0;have lt0: ∀x∈p0,x.block<W.heap.size:=by obtain ⟨m,hm⟩:=k0;exact DataW.trod_lt m _ _ _ hm
 obtain ⟨a0,len0,cap0,rfl⟩:=okWide_slice Tryz.underlying42 (hval 0 42 v0 rfl rfl);obtain ⟨fu0,hf0⟩:=h0;obtain ⟨l0,⟨A0,c0,e0,hc0,hr0⟩,g0⟩:=(sX Tryz.underlying42 (by kernel_rfl) opens75) fu0 _ _ hf0;simp [Value.cells] at e0
 obtain ⟨rfl,rfl,rfl⟩:=e0;have k1:=h1;have lt1: ∀x∈p1,x.block<W.heap.size:=by obtain ⟨m,hm⟩:=k1;exact DataW.trod_lt m _ _ _ hm
 obtain ⟨cs1,rfl,hsz1⟩:=okWide_struct Tryz.underlying26 (hval 1 43 v1 rfl rfl);obtain ⟨fu1,hf1⟩:=h1;obtain ⟨l1,hK1,g1⟩:=opens43 fu1 _ _ hf1;obtain ⟨A1_0,c1_0,A1_4,c1_4,e1,hc1_0,hr1_0,hc1_4,hr1_4⟩:=bMf hK1;obtain rfl:cs1= #[.slice A1_0 l1.f0.length c1_0,.int .i64 l1.f1,.int .i64 l1.f2,.int .i64 l1.f3,.slice A1_4 l1.f4.length c1_4]:=by obtain ⟨z⟩:=cs1;simp only [Value.cells] at e1;rw [←e1]
 have k2:=h2;have lt2: ∀x∈p2,x.block<W.heap.size:=by obtain ⟨m,hm⟩:=k2;exact DataW.trod_lt m _ _ _ hm
 obtain ⟨a2,len2,cap2,rfl⟩:=okWide_slice Tryz.underlying24 (hval 2 24 v2 rfl rfl);obtain ⟨fu2,hf2⟩:=h2;obtain ⟨l2,⟨A2,c2,e2,hc2,hr2⟩,g2⟩:=(sX Tryz.underlying24 (by kernel_rfl) (sP Tryz.underlying3)) fu2 _ _ hf2;simp [Value.cells] at e2
 obtain ⟨rfl,rfl,rfl⟩:=e2;clear hA0 hval0 hsz0;obtain ⟨k,h⟩:=Pure.FnExactGcLive l0 l1 l2 g0 g1 g2;refine (xW k _ _ l0 _ _ l1.f0 l1.f1 l1.f2 l1.f3 _ _ l1.f4 _ _ l2 true W ⟨rfl⟩ hr0 hc0 hr1_0 hc1_0 hr1_4 hc1_4 hr2 hc2 h).mono fun e W' ⟨he,bel0⟩=>?_
 have bel:Below W.heap.size W W':=bel0
 subst he;exact ⟨_,rfl,_,_,_,[],_,[],hW',trodAll_mk1 (shut_bool Tryz.underlying4 _),(trodAll_cons_mk (Below.trod bGb (by kernel_rfl) (bA (by kernel_rfl)) k0 bel lt0) (trodAll_cons_mk (Below.trod bGb (by kernel_rfl) (bA (by kernel_rfl)) k1 bel lt1) (trodAll_cons_mk (Below.trod bGb (by kernel_rfl) (bA (by kernel_rfl)) k2 bel lt2) trodAll_mk0))),rfl,bel.frame _,fun h=>by cases h⟩
theorem closed:joinedFacts Tryz.pinned.checked.prog 4 Tryz.f4 Rows.fnExactGcLiveSpec Rows.fnExactGcLiveRow=true:=by
 unfold joinedFacts;simp only [dS]
 repeat' (refine And.intro ?_ ?_)
 all_goals first|with_reducible exact c1|with_reducible exact c2|with_reducible exact c3|with_reducible exact c4|with_reducible exact Seat.laid1|with_reducible exact Seat.rowed1|with_reducible exact Seat.heard1|(as_aux_lemma=>kernel_rfl)
theorem over:Rows.fnExactGcLiveRow.holds Tryz.pinned (OpenSpec.ofChange Rows.fnExactGcLiveSpec):=
 OpenClaim.holds_of_wide 4 Tryz.f4 rfl rfl rfl rfl rfl rfl rfl ⟨rfl,rfl,rfl,rfl,rfl⟩ rfl rfl rfl rfl rfl (by kernel_rfl) Tryz.func4 closed
  (bA (by kernel_rfl)) (by unfold Func.isWrapper;first|(rw [if_pos (by decide+kernel)];kernel_rfl)|(rw [if_neg (by decide+kernel)];exact ⟨rfl,rfl⟩))
  (fun os started H enc _=>lifted os started H enc)
theorem proved:Rows.FnExactGcLiveSaid:=over
#print axioms proved
end Go.Proofs.YtbaklikaoleplaaGreat.fnExactGcLive
namespace Go.Proofs.YtbaklikaoleplaaGreat
theorem fnExactGcLive_holds:Rows.FnExactGcLiveSaid:=fnExactGcLive.proved
end Go.Proofs.YtbaklikaoleplaaGreat
