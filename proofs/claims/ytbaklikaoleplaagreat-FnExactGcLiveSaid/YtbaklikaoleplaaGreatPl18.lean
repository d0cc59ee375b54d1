import Derived.Test.YtbaklikaoleplaaGreatPl3
namespace Go.Proofs.YtbaklikaoleplaaGreatW.PrintWords
theorem pB.front {α:Type} {R:α→List Value→Prop} {size:Nat} {ps:List α} {cs c all:List Value} {p:α} (hp:R p c) (hc:c.length=size) (h:pB R size ps cs) (ha:c++cs=all):pB R size (p::ps) all:=by
  subst ha;refine ⟨by rw [List.length_append,hc,h.1,List.length_cons,Nat.succ_mul,Nat.add_comm],fun j q hq=>?_⟩
  cases j with
  | zero =>
    simp only [List.getElem?_cons_zero,Option.some.injEq] at hq;subst hq;rw [Nat.zero_mul,List.drop_zero,List.take_append_of_le_length (by omega),List.take_of_length_le (by omega)];exact hp
  | succ j =>
    simp only [List.getElem?_cons_succ] at hq;have h1:=h.2 j q hq;rw [Nat.succ_mul,List.drop_append,List.drop_of_length_le (by rw [hc];exact Nat.le_add_left _ _),List.nil_append,hc,Nat.add_sub_cancel];exact h1
theorem pB.c2 {α:Type} {R:α→List Value→Prop} {ps:List α} {cs:List Value} {p:α} {va vb:Value} (hp:R p [va,vb]) (h:pB R 2 ps cs):pB R 2 (p::ps) (va::vb::cs):=pB.front hp rfl h rfl
theorem pB.c3 {α:Type} {R:α→List Value→Prop} {ps:List α} {cs:List Value} {p:α} {va vb vc:Value} (hp:R p [va,vb,vc]) (h:pB R 3 ps cs):pB R 3 (p::ps) (va::vb::vc::cs):=pB.front hp rfl h rfl
theorem pB.c4 {α:Type} {R:α→List Value→Prop} {ps:List α} {cs:List Value} {p:α} {va vb vc vd:Value} (hp:R p [va,vb,vc,vd]) (h:pB R 4 ps cs):pB R 4 (p::ps) (va::vb::vc::vd::cs):=pB.front hp rfl h rfl
theorem pB.c5 {α:Type} {R:α→List Value→Prop} {ps:List α} {cs:List Value} {p:α} {va vb vc vd ve:Value} (hp:R p [va,vb,vc,vd,ve]) (h:pB R 5 ps cs):pB R 5 (p::ps) (va::vb::vc::vd::ve::cs):=pB.front hp rfl h rfl
theorem pB.c6 {α:Type} {R:α→List Value→Prop} {ps:List α} {cs:List Value} {p:α} {va vb vc vd ve vf:Value} (hp:R p [va,vb,vc,vd,ve,vf]) (h:pB R 6 ps cs):pB R 6 (p::ps) (va::vb::vc::vd::ve::vf::cs):=pB.front hp rfl h rfl
theorem pB.c7 {α:Type} {R:α→List Value→Prop} {ps:List α} {cs:List Value} {p:α} {va vb vc vd ve vf vg:Value} (hp:R p [va,vb,vc,vd,ve,vf,vg]) (h:pB R 7 ps cs):pB R 7 (p::ps) (va::vb::vc::vd::ve::vf::vg::cs):=pB.front hp rfl h rfl
theorem pB.c8 {α:Type} {R:α→List Value→Prop} {ps:List α} {cs:List Value} {p:α} {va vb vc vd ve vf vg vh:Value} (hp:R p [va,vb,vc,vd,ve,vf,vg,vh]) (h:pB R 8 ps cs):pB R 8 (p::ps) (va::vb::vc::vd::ve::vf::vg::vh::cs):=pB.front hp rfl h rfl
theorem pB.c9 {α:Type} {R:α→List Value→Prop} {ps:List α} {cs:List Value} {p:α} {va vb vc vd ve vf vg vh vi:Value} (hp:R p [va,vb,vc,vd,ve,vf,vg,vh,vi]) (h:pB R 9 ps cs):pB R 9 (p::ps) (va::vb::vc::vd::ve::vf::vg::vh::vi::cs):=pB.front hp rfl h rfl
theorem pB.c10 {α:Type} {R:α→List Value→Prop} {ps:List α} {cs:List Value} {p:α} {va vb vc vd ve vf vg vh vi vj:Value} (hp:R p [va,vb,vc,vd,ve,vf,vg,vh,vi,vj]) (h:pB R 10 ps cs):pB R 10 (p::ps) (va::vb::vc::vd::ve::vf::vg::vh::vi::vj::cs):=pB.front hp rfl h rfl
end Go.Proofs.YtbaklikaoleplaaGreatW.PrintWords
