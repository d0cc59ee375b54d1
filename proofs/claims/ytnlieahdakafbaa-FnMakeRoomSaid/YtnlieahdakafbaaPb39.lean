import Derived.Test.YtnlieahdakafbaaPb24
import Derived.Test.YtnlieahdakafbaaPb37
import Derived.Test.YtnlieahdakafbaaPb30
import Derived.Test.YtnlieahdakafbaaPb27
import Derived.Test.YtnlieahdakafbaaPb33
import Derived.Test.YtnlieahdakafbaaPb32
import Derived.Test.YtnlieahdakafbaaPb38
import Derived.Test.YtnlieahdakafbaaPb34
import Derived.Test.YtnlieahdakafbaaPb31
import Derived.Deep.Slices
import Derived.Deep.Fields
import Derived.ChangeSame
import Derived.ProofKit
import Derived.OpenShut
import Derived.ShutString
import Derived.ChangeOld
import Derived.SizedLaws
namespace Go.Proofs.Ytnlieahdakafbaa.Pure
open Go.RowKit Go.Proofs.Ytnlieahdakafbaa.K Go.Proofs.YtnlieahdakafbaaW.PrintWords Go.Proofs.YtnlieahdakafbaaW.PrintLast Go.Proofs.YtnlieahdakafbaaW.PrintMore
set_option linter.unusedVariables false
set_option linter.unusedSimpArgs false
theorem MemMake_eq {cs:Cs} (hf:fewF cs) {ws:List Int} {y t o:Int} {cards:List Bool} (hn:ws.length≤1048576) (hc:cards.length≤1048576) (a b:Int) (v:Bool):
  ∃s:List Int×Int×Int×Int×List Bool×Int,s.1.length≤1048576∧s.2.2.2.2.1.length≤1048576∧(∀k,4000000≤k→impl_MemMake.f k cs ws y t o cards a b v=some s)∧∀k,4000000≤k→spec_MemMake.f k cs ws y t o cards a b v=some s:=by
 obtain ⟨r,h1,h2,h3⟩:=open_eq2 (cs:=cs) hf (ws:=ws) (y:=y) (t:=t) (o:=o) (cards:=cards) hn hc
 have hj: ∀k,1≤k→spec_MemMake.j0 k cs a b v true ws y t o cards=some ([],0,0,0,[],0):=fun k hk=>by
  obtain ⟨k,rfl⟩: ∃m,k=m+1:=⟨k - 1,by omega⟩;rw [spec_MemMake.j0,if_pos rfl]
 cases r with
 |none=>exact ⟨([],0,0,0,[],0),by simp,by simp,fun k hk=>by unfold impl_MemMake.f;rw [h1 k hk];rfl,fun k hk=>by unfold spec_MemMake.f;rw [h2 k hk,Option.bind_some,if_neg (by simp),hj k (by omega)]⟩
 | some m =>
  obtain ⟨W,hb,hw,hm,hk,hp,_,_⟩:=h3 m rfl
  have hI: ∀k,4000000≤k→impl_MemMake.f k cs ws y t o cards a b v=makeOf k a b v (some m):=fun k hk2=>by
   unfold impl_MemMake.f;rw [h1 k hk2,Option.bind_some]
  have hS: ∀k,4000000≤k→spec_MemMake.f k cs ws y t o cards a b v=spec_MemMake.j0 k cs a b v (measN (allF cs) a b==0) ws y t o cards:=fun k hk2=>by
   unfold spec_MemMake.f;rw [h2 k hk2,Option.bind_some,if_pos (by simp),want_eq hb.ok a b k (by omega),Option.bind_some]
  have hmF:m.fields=allF cs:=by rw [hm]
  by_cases c0:measN (allF cs) a b=0
  ·refine ⟨([], 0, 0, 0, [], 0), by simp, by simp, fun k hk2 => ?_, fun k hk2 => ?_⟩
   ·rw [hI k hk2]
    unfold makeOf
    dsimp only
    rw [hmF,if_pos (allF_few hb.ok),if_pos c0]
   ·rw [hS k hk2,beq_iff_eq.mpr c0,hj k (by omega)]
  ·have e := tryM_len ws y t o cards a b (measN (allF cs) a b) v
   obtain ⟨p,_,_,_,hmk⟩:=make_eq hb hw m hm a b v c0;refine ⟨tryM ws y t o cards a b (measN (allF cs) a b) v,by rw [e.1];exact hn,by rw [e.2];exact hc,fun k hk2=>?_,fun k hk2=>?_⟩
   ·rw [hI k hk2]
    unfold makeOf
    dsimp only
    rw [hmF,if_pos (allF_few hb.ok),if_neg c0,hmk k (by omega),Option.bind_some,hm];unfold tryM mkTop Mm.setB Mm.setOld Mm.setTop mkAt
    cases v<;>dsimp only<;>split<;>rfl
   ·rw [hS k hk2, beq_eq_false_iff_ne.mpr c0]
    obtain ⟨k,rfl⟩: ∃m,k=m+1:=⟨k - 1,by omega⟩;rw [spec_MemMake.j0,if_neg (by simp),l21Copy_eq ws y t o cards hn hc,Option.bind_some]
    dsimp only
    rw [l21Try_eq hb a b v c0 k (by omega),Option.bind_some]
theorem leWant_at {cs:Cs} (hf:fewF cs) (hok:csOk cs=true) {a b:Int} (h1:a<cs.length) (h2:a<0→ -2≤a∧0≤b∧b≤6):laws_leWant.f 5000000 cs a b=some (measN (allF cs) a b)∧0<measN (allF cs) a b∧measN (allF cs) a b≤9:=by
 have hl:=csOk_len hok;have hz:=measN_size hok a b;by_cases c:a<0
 ·have := h2 c
  have m1:measN (allF cs) a b=2+b:=by unfold measN;rw [if_pos (by omega),if_pos ⟨this.2.1,this.2.2⟩]
  unfold laws_leWant.f;rw [if_pos c,m1,wrap64_of (by omega) (by omega)];exact ⟨rfl,by omega,by omega⟩
 ·have f := cfl_eq hok (a := a) (by omega) h1
  have m1:=measN_c b (cs:=cs) (c:=a) (by omega) h1;unfold laws_leWant.f spec_ClassFields.f spec_l2Is.f;rw [if_neg c,spec_ClassesOk_eq hf 5000000 (by omega),hok,Option.bind_some,if_pos rfl,spec_l6In_eq,wrap64_of (n:=(cs.length:Int) - 1) (by omega) (by omega),Option.bind_some,Option.bind_some,decide_eq_true (show 0≤a∧a≤(cs.length:Int) - 1 by omega),if_pos rfl,fields_same,f.2 5000000 (by omega),Option.bind_some,Option.bind_some,m1,wrap64_of (n:=1+((cfl cs a).length:Int)) (by omega) (by omega)];exact ⟨rfl,by omega,by omega⟩
section
variable {cs:Cs} {ws:List Int} {y t o:Int} {cards:List Bool} {W:List Int}
theorem make_imp (h:Opn cs ws y t o cards W) (a b:Int) (v:Bool) (h0:measN (allF cs) a b≠0) (f:Nat) (hf:4000000≤f):impl_MemMake.f f cs ws y t o cards a b v=some (tryM ws y t o cards a b (measN (allF cs) a b) v):=by
 obtain ⟨p,_,_,_,hmk⟩:=make_eq h.b h.wlk (mmOf cs ws y t o cards W) rfl a b v h0;unfold impl_MemMake.f;rw [h.to f hf,Option.bind_some];unfold makeOf
 dsimp only
 rw [show (mmOf cs ws y t o cards W).fields=allF cs from rfl,if_pos (allF_few h.b.ok),if_neg h0,hmk f (by omega),Option.bind_some];unfold mmOf tryM mkTop Mm.setB Mm.setOld Mm.setTop mkAt
 cases v<;>dsimp only<;>split<;>rfl
theorem make_zero (h:Opn cs ws y t o cards W) (a b:Int) (v:Bool) (h0:measN (allF cs) a b=0) (f:Nat) (hf:4000000≤f):impl_MemMake.f f cs ws y t o cards a b v=some ([],0,0,0,[],0):=by
 unfold impl_MemMake.f;rw [h.to f hf,Option.bind_some];unfold makeOf
 dsimp only
 rw [show (mmOf cs ws y t o cards W).fields=allF cs from rfl,if_pos (allF_few h.b.ok),if_pos h0]
theorem tryM_eq (a b s:Int) (v:Bool):tryM ws y t o cards a b s v=if (if v=true then o+s≤(ws.length:Int) else t+s≤y) then (mkW ws (mkX t o v) a b,y,if v=true then t else t+s,if v=true then o+s else o,cards,mkX t o v+1) else (ws,y,t,o,cards,0):=by
  unfold tryM tryB mkX
  cases v<;>simp
end
theorem makeroom_eq {cs:Cs} (hf:fewF cs) {ws:List Int} {y t o:Int} {cards:List Bool} (hn:ws.length≤1000) (hc:cards.length≤1000) (a b:Int) (v:Bool):
  ∃ (p1 : List Int) (p2 p3 p4 : Int) (p5 : List Bool) (p6 : Int) (bo : Bool), impl_MemMake.f 5000000 cs ws y t o cards a b v = some (p1, p2, p3, p4, p5, p6) ∧ spec_MemMake.f 5000000 cs ws y t o cards a b v = some (p1, p2, p3, p4, p5, p6) ∧ laws_leMem.f 5000000 p1 p2 p3 p4 p5 p1 p2 p3 p4 p5 = some true ∧ spec_MemOk.f 5000000 cs ws y t o cards = some bo ∧
   (bo = true → a < cs.length → (a < 0 → -2 ≤ a ∧ 0 ≤ b ∧ b ≤ 6) → (0 ≤ t ∧ t ≤ y ∧ y ≤ 1000 ∧ y ≤ o ∧ o ≤ 1000 ∧ o ≤ ws.length) ∧ ∃ s : Int, laws_leWant.f 5000000 cs a b = some s ∧
    ((if v=true then (ws.length:Int) - o else y - t)<s→p6=0∧laws_leMem.f 5000000 p1 p2 p3 p4 p5 ws y t o cards=some true)∧
    (¬(if v=true then (ws.length:Int) - o else y - t)<s→0<p6∧impl_MemOk.f 5000000 cs p1 p2 p3 p4 p5=some true∧impl_MemSize.f 5000000 cs p1 p2 p3 p4 p5 p6=some s)):=by
 obtain ⟨⟨p1,p2,p3,p4,p5,p6⟩,l1,l5,e1,e2⟩:=MemMake_eq (cs:=cs) hf (ws:=ws) (y:=y) (t:=t) (o:=o) (cards:=cards) (by omega) (by omega) a b v;obtain ⟨r,h1,h2,h3⟩:=opn_of (cs:=cs) hf (ws:=ws) (y:=y) (t:=t) (o:=o) (cards:=cards) (by omega) (by omega);dsimp only at l1 l5;refine ⟨p1,p2,p3,p4,p5,p6,r.isSome,e1 5000000 (by decide),e2 5000000 (by decide),leMem_at p1 p2 p3 p4 p5 l1 l5 5000000 (by decide),h2 5000000 (by decide),fun hr ha hb=>?_⟩
 cases r with
 |none=>simp at hr
 | some m =>
  obtain ⟨W,h,hm,hk⟩:=h3 m rfl;have n0:=h.b.n0;have n1:=h.b.n1;have y0:=h.b.y0;have y1:=h.b.y1;have t0:=h.b.t0;have t1:=h.b.t1;have o0:=h.b.o0;have o1:=h.b.o1;obtain ⟨q1,q2,q3⟩:=leWant_at hf h.b.ok ha hb;have hM:=make_imp h a b v (by omega) 5000000 (by decide);rw [e1 5000000 (by decide),tryM_eq] at hM;obtain ⟨s,hs⟩: ∃s,s=measN (allF cs) a b:=⟨_,rfl⟩;rw [←hs] at hM q1 q2 q3;refine ⟨by omega,s,q1,fun hlt=>?_,fun hge=>?_⟩
  ·rw [if_neg (by cases v <;> simp at hlt ⊢ <;> omega)] at hM
   simp only [Option.some.injEq,Prod.mk.injEq] at hM;obtain ⟨rfl,rfl,rfl,rfl,rfl,rfl⟩:=hM;exact ⟨rfl,leMem_at _ _ _ _ _ l1 l5 5000000 (by decide)⟩
  ·have hr2 : if v = true then o + s ≤ (ws.length : Int) else t + s ≤ y := by cases v <;> simp at hge ⊢ <;> omega
   rw [if_pos hr2] at hM;obtain ⟨W',K,k1,k2,k3,k4,k5,k6,k7,k8,k9⟩:=make_keep h hs (by omega) hr2;simp only [Option.some.injEq,Prod.mk.injEq] at hM;obtain ⟨rfl,rfl,rfl,rfl,rfl,rfl⟩:=hM;refine ⟨by omega,ok_imp K 5000000 (by decide),?_⟩;rw [size_imp K ((k1 _).mpr (.inl rfl)) 5000000 (by decide),k8]
theorem fewF_few {cs:Cs} (h: ∀x∈cs,x.f1.length≤3):fewF cs:=by
 intro i;unfold flds rd_T112;by_cases c:i.toNat<cs.length
 ·rw [List.getD_eq_getElem?_getD, List.getElem?_eq_getElem c]
  have:=h _ (List.getElem_mem c)
  simp only [Option.getD_some]
  omega
 ·rw [List.getD_eq_getElem?_getD, List.getElem?_eq_none (by omega)]
  simp only [Option.getD_none]
  exact Nat.zero_le _
end Go.Proofs.Ytnlieahdakafbaa.Pure
namespace Go.Proofs.Ytnlieahdakafbaa.K
open Go.RowKit Go.Proofs.YtnlieahdakafbaaW.PrintWords Go.Proofs.YtnlieahdakafbaaW.PrintLast Go.Proofs.YtnlieahdakafbaaW.PrintMore
attribute [local go_sem] max2_int min2_int max_two min_two max_three min_three max_four min_four
set_option linter.unusedVariables false
set_option linter.unusedSimpArgs false
section
open Go.ChangeShapes Go.WideShapes Go.ChangeAt Go.Deep
def Opens {H α:Type} (enc:TypeId×Value→H) (P:Program) (w:World) (d:Kd α) (G:α→Prop) (t:TypeId):Prop:=
  ∀(fuel:Nat) (cs:List Value) (x:DataW H×List MemPlace),DataW.trod enc P w 0 (fun _=>true) true fuel t cs=some x→∃a:α,d.K w a cs∧G a
variable {H α:Type} {enc:TypeId×Value→H} {P:Program} {w:World} {d:Kd α} {G:α→Prop} {t e:TypeId}
theorem opens_int {k:IntKind} (ht:P.underlying t=some (.int k)):Opens enc P w (Kd.int k) (fun n=>(Lit.int k n).wf=true) t:=by
 intro fuel cs x h;obtain ⟨n,rfl,_,hw⟩:=DataW.trod_int ht h;exact ⟨n,rfl,hw⟩
def GL (G:α→Prop) (xs:List α):Prop:=xs.length≤9223372036854775807∧∀x∈xs,G x
theorem list_of {Q : Nat → α → Prop} : ∀ n : Nat, (∀ i, i < n → ∃ p, Q i p) → ∃ xs : List α, xs.length = n ∧ ∀ i p, xs[i]? = some p → Q i p
  |0,_=>⟨[],rfl,fun i p h=>by simp at h⟩
  | n + 1, h => by
    obtain ⟨xs,hl,hx⟩:=list_of n (fun i hi=>h i (by omega));obtain ⟨p,hp⟩:=h n (by omega);refine ⟨xs++[p],by simp [hl],fun i q hq=>?_⟩;by_cases hi:i<n
    · rw [List.getElem?_append_left (by omega)] at hq
      exact hx i q hq
    · have : i = n := by
        have:=(List.getElem?_eq_some_iff.1 hq).1
        simp at this;omega
      subst this;rw [List.getElem?_append_right (by omega)] at hq;simp [hl] at hq
      subst hq;exact hp
theorem opens_slice (ht:P.underlying t=some (.slice e)) (hs:d.sz=P.cellsOf e) (he:Opens enc P w d G e):Opens enc P w (Kd.slice e d) (GL G) t:=by
 intro fuel cs x h;rcases open_slice ht h with ⟨rfl,_⟩|⟨a,len,cap,m,n,D,Pl,rfl,hb,hl,hm,hmm,hx,hi⟩
 ·exact ⟨[],⟨none,0,rfl,Nat.le_refl _,Kd.C_nil _ _⟩,by simp [GL]⟩
 ·have hmc : m = cap := by simpa using hmm
  obtain ⟨xs,hlen,hxs⟩:=list_of (Q:=fun i p=> ∃c,c.length=d.sz∧d.K w p c∧(∀j u,c[j]? =some u→w.cell? (a.add (i*d.sz+j))=some u)∧G p) len (fun i hil=>by
   obtain ⟨cs',hc,ht'⟩:=hi i (by omega);obtain ⟨p,hK,hG⟩:=he n cs' _ ht';obtain ⟨_,hcl,hat⟩:=World.cells?_some hc;refine ⟨p,cs',d.K_len hK,hK,fun j u hu=>?_,hG⟩;have hj:j<P.cellsOf e:=by rw [←hcl];exact (List.getElem?_eq_some_iff.1 hu).1
   have:=hat j hj
   rw [Go.Deep.add_add] at this
   rw [hs,this,hu])
  subst hlen;refine ⟨xs,⟨some a,cap,rfl,hl,rfl,?_,fun _=>⟨a,rfl,fun j p hj=>?_⟩⟩,?_,fun x hx=>?_⟩
  ·have : maxLen = 9223372036854775807 := rfl
   omega
  ·obtain ⟨c, h1, h2, h3, _⟩ := hxs j p hj
   exact ⟨c,h1,h2,h3⟩
  ·have : maxLen = 9223372036854775807 := rfl
   omega
  ·obtain ⟨i, hi', rfl⟩ := List.getElem_of_mem hx
   obtain ⟨c,_,_,_,hG⟩:=hxs i _ (List.getElem?_eq_getElem hi');exact hG
end
section
open Go.ChangeShapes Go.WideShapes Go.ChangeAt Go.Deep
end
end Go.Proofs.Ytnlieahdakafbaa.K
