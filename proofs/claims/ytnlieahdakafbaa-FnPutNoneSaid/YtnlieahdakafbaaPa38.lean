import Derived.Test.YtnlieahdakafbaaPa24
import Derived.Deep.Slices
import Derived.Deep.Fields
import Derived.ChangeSame
import Derived.ProofKit
import Derived.OpenShut
import Derived.ShutString
import Derived.ChangeOld
import Derived.SizedLaws
namespace Go.Proofs.Ytnlieahdakafbaa.K
open Go.RowKit Go.Proofs.YtnlieahdakafbaaW.PrintWords Go.Proofs.YtnlieahdakafbaaW.PrintLast Go.Proofs.YtnlieahdakafbaaW.PrintMore
attribute [local go_sem] max2_int min2_int max_two min_two max_three min_three max_four min_four
set_option linter.unusedVariables false
set_option linter.unusedSimpArgs false
section
open Go.ChangeShapes Go.WideShapes Go.ChangeAt Go.Deep
def Opens {H α:Type} (enc:TypeId×Value→H) (P:Program) (w:World) (d:Kd α) (G:α→Prop) (t:TypeId):Prop:=
  ∀(fuel:Nat) (cs:List Value) (x:DataW H×List MemPlace),DataW.trod enc P w 0 (fun _=>true) true fuel t cs=some x→∃a:α,d.K w a cs∧G a
variable {H α:Type} {enc:TypeId×Value→H} {P:Program} {w:World} {d:Kd α} {G:α→Prop} {t e:TypeId}
theorem opens_int {k:IntKind} (ht:P.underlying t=some (.int k)):Opens enc P w (Kd.int k) (fun n=>(Lit.int k n).wf=true) t:=by
 intro fuel cs x h;obtain ⟨n,rfl,_,hw⟩:=DataW.trod_int ht h;exact ⟨n,rfl,hw⟩
def GL (G:α→Prop) (xs:List α):Prop:=xs.length≤9223372036854775807∧∀x∈xs,G x
theorem list_of {Q : Nat → α → Prop} : ∀ n : Nat, (∀ i, i < n → ∃ p, Q i p) → ∃ xs : List α, xs.length = n ∧ ∀ i p, xs[i]? = some p → Q i p
  |0,_=>⟨[],rfl,fun i p h=>by simp at h⟩
  | n + 1, h => by
    obtain ⟨xs,hl,hx⟩:=list_of n (fun i hi=>h i (by omega));obtain ⟨p,hp⟩:=h n (by omega);refine ⟨xs++[p],by simp [hl],fun i q hq=>?_⟩;by_cases hi:i<n
    · rw [List.getElem?_append_left (by omega)] at hq
      exact hx i q hq
    · have : i = n := by
        have:=(List.getElem?_eq_some_iff.1 hq).1
        simp at this;omega
      subst this;rw [List.getElem?_append_right (by omega)] at hq;simp [hl] at hq
      subst hq;exact hp
theorem opens_slice (ht:P.underlying t=some (.slice e)) (hs:d.sz=P.cellsOf e) (he:Opens enc P w d G e):Opens enc P w (Kd.slice e d) (GL G) t:=by
 intro fuel cs x h;rcases open_slice ht h with ⟨rfl,_⟩|⟨a,len,cap,m,n,D,Pl,rfl,hb,hl,hm,hmm,hx,hi⟩
 ·exact ⟨[],⟨none,0,rfl,Nat.le_refl _,Kd.C_nil _ _⟩,by simp [GL]⟩
 ·have hmc : m = cap := by simpa using hmm
  obtain ⟨xs,hlen,hxs⟩:=list_of (Q:=fun i p=> ∃c,c.length=d.sz∧d.K w p c∧(∀j u,c[j]? =some u→w.cell? (a.add (i*d.sz+j))=some u)∧G p) len (fun i hil=>by
   obtain ⟨cs',hc,ht'⟩:=hi i (by omega);obtain ⟨p,hK,hG⟩:=he n cs' _ ht';obtain ⟨_,hcl,hat⟩:=World.cells?_some hc;refine ⟨p,cs',d.K_len hK,hK,fun j u hu=>?_,hG⟩;have hj:j<P.cellsOf e:=by rw [←hcl];exact (List.getElem?_eq_some_iff.1 hu).1
   have:=hat j hj
   rw [Go.Deep.add_add] at this
   rw [hs,this,hu])
  subst hlen;refine ⟨xs,⟨some a,cap,rfl,hl,rfl,?_,fun _=>⟨a,rfl,fun j p hj=>?_⟩⟩,?_,fun x hx=>?_⟩
  ·have : maxLen = 9223372036854775807 := rfl
   omega
  ·obtain ⟨c, h1, h2, h3, _⟩ := hxs j p hj
   exact ⟨c,h1,h2,h3⟩
  ·have : maxLen = 9223372036854775807 := rfl
   omega
  ·obtain ⟨i, hi', rfl⟩ := List.getElem_of_mem hx
   obtain ⟨c,_,_,_,hG⟩:=hxs i _ (List.getElem?_eq_getElem hi');exact hG
end
section
open Go.ChangeShapes Go.WideShapes Go.ChangeAt Go.Deep
end
end Go.Proofs.Ytnlieahdakafbaa.K
