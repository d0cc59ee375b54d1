import Derived.Test.YtbaklikaoleplaaPh3
namespace Go.Proofs.YtbaklikaoleplaaW.PrintWords
theorem pP.one {α:Type} {R:α→List Value→Prop} {ps:List α} {cs:List Value} {p:α} {v:Value} (hp:R p [v]) (h:pP R 1 ps cs):pP R 1 (p::ps) (v::cs):=by
  refine ⟨by simp [h.1],fun j q hq=>?_⟩
  cases j with
  | zero =>
    simp only [List.getElem?_cons_zero,Option.some.injEq] at hq;subst hq
    simpa using hp
  | succ j =>
    simp only [List.getElem?_cons_succ] at hq;have h1:=h.2 j q hq
    simpa [Nat.mul_one] using h1
theorem pP.front {α:Type} {R:α→List Value→Prop} {size:Nat} {ps:List α} {cs c all:List Value} {p:α} (hp:R p c) (hc:c.length=size) (h:pP R size ps cs) (ha:c++cs=all):pP R size (p::ps) all:=by
  subst ha;refine ⟨by rw [List.length_append,hc,h.1,List.length_cons,Nat.succ_mul,Nat.add_comm],fun j q hq=>?_⟩
  cases j with
  | zero =>
    simp only [List.getElem?_cons_zero,Option.some.injEq] at hq;subst hq;rw [Nat.zero_mul,List.drop_zero,List.take_append_of_le_length (by omega),List.take_of_length_le (by omega)];exact hp
  | succ j =>
    simp only [List.getElem?_cons_succ] at hq;have h1:=h.2 j q hq;rw [Nat.succ_mul,List.drop_append,List.drop_of_length_le (by rw [hc];exact Nat.le_add_left _ _),List.nil_append,hc,Nat.add_sub_cancel];exact h1
theorem pP.c2 {α:Type} {R:α→List Value→Prop} {ps:List α} {cs:List Value} {p:α} {va vb:Value} (hp:R p [va,vb]) (h:pP R 2 ps cs):pP R 2 (p::ps) (va::vb::cs):=pP.front hp rfl h rfl
theorem pP.c3 {α:Type} {R:α→List Value→Prop} {ps:List α} {cs:List Value} {p:α} {va vb vc:Value} (hp:R p [va,vb,vc]) (h:pP R 3 ps cs):pP R 3 (p::ps) (va::vb::vc::cs):=pP.front hp rfl h rfl
theorem pP.c4 {α:Type} {R:α→List Value→Prop} {ps:List α} {cs:List Value} {p:α} {va vb vc vd:Value} (hp:R p [va,vb,vc,vd]) (h:pP R 4 ps cs):pP R 4 (p::ps) (va::vb::vc::vd::cs):=pP.front hp rfl h rfl
theorem pP.c5 {α:Type} {R:α→List Value→Prop} {ps:List α} {cs:List Value} {p:α} {va vb vc vd ve:Value} (hp:R p [va,vb,vc,vd,ve]) (h:pP R 5 ps cs):pP R 5 (p::ps) (va::vb::vc::vd::ve::cs):=pP.front hp rfl h rfl
theorem pP.c6 {α:Type} {R:α→List Value→Prop} {ps:List α} {cs:List Value} {p:α} {va vb vc vd ve vf:Value} (hp:R p [va,vb,vc,vd,ve,vf]) (h:pP R 6 ps cs):pP R 6 (p::ps) (va::vb::vc::vd::ve::vf::cs):=pP.front hp rfl h rfl
theorem pP.c7 {α:Type} {R:α→List Value→Prop} {ps:List α} {cs:List Value} {p:α} {va vb vc vd ve vf vg:Value} (hp:R p [va,vb,vc,vd,ve,vf,vg]) (h:pP R 7 ps cs):pP R 7 (p::ps) (va::vb::vc::vd::ve::vf::vg::cs):=pP.front hp rfl h rfl
theorem pP.c8 {α:Type} {R:α→List Value→Prop} {ps:List α} {cs:List Value} {p:α} {va vb vc vd ve vf vg vh:Value} (hp:R p [va,vb,vc,vd,ve,vf,vg,vh]) (h:pP R 8 ps cs):pP R 8 (p::ps) (va::vb::vc::vd::ve::vf::vg::vh::cs):=pP.front hp rfl h rfl
theorem pP.c9 {α:Type} {R:α→List Value→Prop} {ps:List α} {cs:List Value} {p:α} {va vb vc vd ve vf vg vh vi:Value} (hp:R p [va,vb,vc,vd,ve,vf,vg,vh,vi]) (h:pP R 9 ps cs):pP R 9 (p::ps) (va::vb::vc::vd::ve::vf::vg::vh::vi::cs):=pP.front hp rfl h rfl
theorem pP.c10 {α:Type} {R:α→List Value→Prop} {ps:List α} {cs:List Value} {p:α} {va vb vc vd ve vf vg vh vi vj:Value} (hp:R p [va,vb,vc,vd,ve,vf,vg,vh,vi,vj]) (h:pP R 10 ps cs):pP R 10 (p::ps) (va::vb::vc::vd::ve::vf::vg::vh::vi::vj::cs):=pP.front hp rfl h rfl
end Go.Proofs.YtbaklikaoleplaaW.PrintWords
