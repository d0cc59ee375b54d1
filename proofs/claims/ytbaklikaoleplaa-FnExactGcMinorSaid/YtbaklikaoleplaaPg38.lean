import Derived.Test.YtbaklikaoleplaaPg24
import Derived.Deep.Slices
import Derived.Deep.Fields
import Derived.ChangeSame
import Derived.ProofKit
import Derived.OpenShut
import Derived.ShutString
import Derived.ChangeOld
import Derived.SizedLaws
import Derived.Test.YtbaklikaoleplaaPg37
import Derived.Test.YtbaklikaoleplaaPg30
import Derived.Test.YtbaklikaoleplaaPg28
import Derived.Test.YtbaklikaoleplaaPg31
import Derived.Test.YtbaklikaoleplaaPg32
import Derived.Test.YtbaklikaoleplaaPg25
import Derived.Test.YtbaklikaoleplaaPg26
import Derived.Test.YtbaklikaoleplaaPg27
import Derived.Test.YtbaklikaoleplaaPg33
import Derived.Laws.Bits64
import Derived.Test.YtbaklikaoleplaaPg34
namespace Go.Proofs.Ytbaklikaoleplaa.K
open Go.RowKit Go.Proofs.YtbaklikaoleplaaW.PrintWords Go.Proofs.YtbaklikaoleplaaW.PrintLast Go.Proofs.YtbaklikaoleplaaW.PrintMore
attribute [local go_sem] max2_int min2_int max_two min_two max_three min_three max_four min_four
set_option linter.unusedVariables false
set_option linter.unusedSimpArgs false
section
open Go.ChangeShapes Go.WideShapes Go.ChangeAt Go.Deep
def Opens {H α:Type} (enc:TypeId×Value→H) (P:Program) (w:World) (d:Kd α) (G:α→Prop) (t:TypeId):Prop:=
  ∀(fuel:Nat) (cs:List Value) (x:DataW H×List MemPlace),DataW.trod enc P w 0 (fun _=>true) true fuel t cs=some x→∃a:α,d.K w a cs∧G a
variable {H α:Type} {enc:TypeId×Value→H} {P:Program} {w:World} {d:Kd α} {G:α→Prop} {t e:TypeId}
theorem opens_int {k:IntKind} (ht:P.underlying t=some (.int k)):Opens enc P w (Kd.int k) (fun n=>(Lit.int k n).wf=true) t:=by
 intro fuel cs x h;obtain ⟨n,rfl,_,hw⟩:=DataW.trod_int ht h;exact ⟨n,rfl,hw⟩
theorem opens_bool (ht:P.underlying t=some .bool):Opens enc P w Kd.bool (fun _=>True) t:=by
 intro fuel cs x h;obtain ⟨b,rfl,_⟩:=DataW.trod_bool ht h;exact ⟨b,rfl,trivial⟩
def GL (G:α→Prop) (xs:List α):Prop:=xs.length≤9223372036854775807∧∀x∈xs,G x
theorem list_of {Q : Nat → α → Prop} : ∀ n : Nat, (∀ i, i < n → ∃ p, Q i p) → ∃ xs : List α, xs.length = n ∧ ∀ i p, xs[i]? = some p → Q i p
  |0,_=>⟨[],rfl,fun i p h=>by simp at h⟩
  | n + 1, h => by
    obtain ⟨xs,hl,hx⟩:=list_of n (fun i hi=>h i (by omega));obtain ⟨p,hp⟩:=h n (by omega);refine ⟨xs++[p],by simp [hl],fun i q hq=>?_⟩;by_cases hi:i<n
    · rw [List.getElem?_append_left (by omega)] at hq
      exact hx i q hq
    · have : i = n := by
        have:=(List.getElem?_eq_some_iff.1 hq).1
        simp at this;omega
      subst this;rw [List.getElem?_append_right (by omega)] at hq;simp [hl] at hq
      subst hq;exact hp
theorem opens_slice (ht:P.underlying t=some (.slice e)) (hs:d.sz=P.cellsOf e) (he:Opens enc P w d G e):Opens enc P w (Kd.slice e d) (GL G) t:=by
 intro fuel cs x h;rcases open_slice ht h with ⟨rfl,_⟩|⟨a,len,cap,m,n,D,Pl,rfl,hb,hl,hm,hmm,hx,hi⟩
 ·exact ⟨[],⟨none,0,rfl,Nat.le_refl _,Kd.C_nil _ _⟩,by simp [GL]⟩
 ·have hmc : m = cap := by simpa using hmm
  obtain ⟨xs,hlen,hxs⟩:=list_of (Q:=fun i p=> ∃c,c.length=d.sz∧d.K w p c∧(∀j u,c[j]? =some u→w.cell? (a.add (i*d.sz+j))=some u)∧G p) len (fun i hil=>by
   obtain ⟨cs',hc,ht'⟩:=hi i (by omega);obtain ⟨p,hK,hG⟩:=he n cs' _ ht';obtain ⟨_,hcl,hat⟩:=World.cells?_some hc;refine ⟨p,cs',d.K_len hK,hK,fun j u hu=>?_,hG⟩;have hj:j<P.cellsOf e:=by rw [←hcl];exact (List.getElem?_eq_some_iff.1 hu).1
   have:=hat j hj
   rw [Go.Deep.add_add] at this
   rw [hs,this,hu])
  subst hlen;refine ⟨xs,⟨some a,cap,rfl,hl,rfl,?_,fun _=>⟨a,rfl,fun j p hj=>?_⟩⟩,?_,fun x hx=>?_⟩
  ·have : maxLen = 9223372036854775807 := rfl
   omega
  ·obtain ⟨c, h1, h2, h3, _⟩ := hxs j p hj
   exact ⟨c,h1,h2,h3⟩
  ·have : maxLen = 9223372036854775807 := rfl
   omega
  ·obtain ⟨i, hi', rfl⟩ := List.getElem_of_mem hx
   obtain ⟨c,_,_,_,hG⟩:=hxs i _ (List.getElem?_eq_getElem hi');exact hG
end
section
open Go.ChangeShapes Go.WideShapes Go.ChangeAt Go.Deep
def G50 (x:S50):Prop:=(fun n:Int=>(Lit.int .i64 n).wf=true) x.f0∧(GL (fun n:Int=>(Lit.int .i64 n).wf=true)) x.f1
set_option maxRecDepth 100000 in
theorem opens50 {H:Type} {enc:TypeId×Value→H} {w:World}:Opens enc Try.prog w k50 G50 50:=by
  intro fuel cs x h;obtain ⟨xs,n,rfl,hx,hl,hxs,hg⟩:=DataW.trod_struct Try.underlying50 h;have hl2:cs.length=2:=hl.trans (by kernel_rfl)
  clear hx hl h
  match cs,hl2,hg with
  | [c0, c1], _, hg =>
    have g0:=hg 0 _ rfl;obtain ⟨y0,e0⟩: ∃y,xs[0]? =some y:=⟨xs[0]'(by rw [hxs];decide),List.getElem?_eq_getElem _⟩;obtain ⟨a0,K0,G0_⟩:=(opens_int Try.underlying3) n _ _ (g0.trans e0);have g1:=hg 1 _ rfl;obtain ⟨y1,e1⟩: ∃y,xs[1]? =some y:=⟨xs[1]'(by rw [hxs];decide),List.getElem?_eq_getElem _⟩;obtain ⟨a1,K1,G1_⟩:=(opens_slice Try.underlying23 (by kernel_rfl) (opens_int Try.underlying3)) n _ _ (g1.trans e1);exact ⟨⟨a0,a1⟩,⟨[c0],[c1],rfl,K0,K1⟩,⟨G0_,G1_⟩⟩
def G26 (x:S26):Prop:=(GL (fun n:Int=>(Lit.int .i64 n).wf=true)) x.f0∧(fun n:Int=>(Lit.int .i64 n).wf=true) x.f1∧(fun n:Int=>(Lit.int .i64 n).wf=true) x.f2∧(fun n:Int=>(Lit.int .i64 n).wf=true) x.f3∧(GL (fun _:Bool=>True)) x.f4
set_option maxRecDepth 100000 in
theorem opens26 {H:Type} {enc:TypeId×Value→H} {w:World}:Opens enc Try.prog w k26 G26 26:=by
  intro fuel cs x h;obtain ⟨xs,n,rfl,hx,hl,hxs,hg⟩:=DataW.trod_struct Try.underlying26 h;have hl2:cs.length=5:=hl.trans (by kernel_rfl)
  clear hx hl h
  match cs,hl2,hg with
  | [c0, c1, c2, c3, c4], _, hg =>
    have g0:=hg 0 _ rfl;obtain ⟨y0,e0⟩: ∃y,xs[0]? =some y:=⟨xs[0]'(by rw [hxs];decide),List.getElem?_eq_getElem _⟩;obtain ⟨a0,K0,G0_⟩:=(opens_slice Try.underlying23 (by kernel_rfl) (opens_int Try.underlying3)) n _ _ (g0.trans e0);have g1:=hg 1 _ rfl;obtain ⟨y1,e1⟩: ∃y,xs[1]? =some y:=⟨xs[1]'(by rw [hxs];decide),List.getElem?_eq_getElem _⟩;obtain ⟨a1,K1,G1_⟩:=(opens_int Try.underlying3) n _ _ (g1.trans e1);have g2:=hg 2 _ rfl;obtain ⟨y2,e2⟩: ∃y,xs[2]? =some y:=⟨xs[2]'(by rw [hxs];decide),List.getElem?_eq_getElem _⟩;obtain ⟨a2,K2,G2_⟩:=(opens_int Try.underlying3) n _ _ (g2.trans e2);have g3:=hg 3 _ rfl;obtain ⟨y3,e3⟩: ∃y,xs[3]? =some y:=⟨xs[3]'(by rw [hxs];decide),List.getElem?_eq_getElem _⟩;obtain ⟨a3,K3,G3_⟩:=(opens_int Try.underlying3) n _ _ (g3.trans e3);have g4:=hg 4 _ rfl;obtain ⟨y4,e4⟩: ∃y,xs[4]? =some y:=⟨xs[4]'(by rw [hxs];decide),List.getElem?_eq_getElem _⟩;obtain ⟨a4,K4,G4_⟩:=(opens_slice Try.underlying24 (by kernel_rfl) (opens_bool Try.underlying4)) n _ _ (g4.trans e4);exact ⟨⟨a0,a1,a2,a3,a4⟩,⟨[c0],[c1,c2,c3,c4],rfl,K0,⟨[c1],[c2,c3,c4],rfl,K1,⟨[c2],[c3,c4],rfl,K2,⟨[c3],[c4],rfl,K3,K4⟩⟩⟩⟩,⟨G0_,G1_,G2_,G3_,G4_⟩⟩
end
def laws_FnExactGcMinor.Pure:Prop:= ∀(a0:List (S50)) (a1:S26) (a2:List Int),(GL G50) a0→G26 a1→(GL (fun n:Int=>(Lit.int .i64 n).wf=true)) a2→∃k,laws_FnExactGcMinor.f k a0 a1.f0 a1.f1 a1.f2 a1.f3 a1.f4 a2=some true
end Go.Proofs.Ytbaklikaoleplaa.K
namespace Go.Proofs.Ytbaklikaoleplaa.Pure
open Go.RowKit Go.Proofs.Ytbaklikaoleplaa.K Go.Proofs.YtbaklikaoleplaaW.PrintWords Go.Proofs.YtbaklikaoleplaaW.PrintLast Go.Proofs.YtbaklikaoleplaaW.PrintMore
set_option linter.unusedVariables false
set_option linter.unusedSimpArgs false
theorem eqIntS_l0 (xs ys:List Int) (hl:xs.length=ys.length) (hb:xs.length≤140737488355328) (d:Nat): ∀(k:Nat) (i:Nat),i≤xs.length→xs.length - i=d→d<k→
  laws_eqIntS.l0 k xs ys i=some (decide (xs.drop i=ys.drop i)):=by
 induction d with
 |zero=>
  intro k i hi hd hk;obtain ⟨k,rfl⟩: ∃m,k=m+1:=⟨k - 1,by omega⟩;have:i=xs.length:=by omega
  subst this;simp only [laws_eqIntS.l0]
  rw [if_neg (by omega)];simp [hl]
 | succ d ih =>
  intro k i hi hd hk;obtain ⟨k,rfl⟩: ∃m,k=m+1:=⟨k - 1,by omega⟩;simp only [laws_eqIntS.l0]
  rw [if_pos (by omega),if_pos (by omega),if_pos (by omega),wrap_inc (n:=xs.length) (by omega) (by omega) (by omega),rd_cast,rd_cast,drop_getD xs i 0 (by omega),drop_getD ys i 0 (by omega)];by_cases h:xs.getD i 0=ys.getD i 0
  ·rw [if_pos h]
   have:=ih k (i+1) (by omega) (by omega) (by omega)
   rw [show ((i:Int)+1)=((i+1:Nat):Int) from by omega,this];simp only [List.cons.injEq,h,true_and]
  ·rw [if_neg h]
   simp only [List.cons.injEq,h,false_and,decide_false]
theorem eqIntS_ev (xs ys:List Int) (hb:xs.length≤140737488355328):Ev (fun k=>laws_eqIntS.f k xs ys) (decide (xs=ys)):=by
 by_cases hl:xs.length=ys.length
 ·refine Ev.of (k := xs.length + 1) (laws_eqIntS.mono xs ys) ?_
  simp only [laws_eqIntS.f]
  rw [if_pos (by omega)];have:=eqIntS_l0 xs ys hl hb xs.length (xs.length+1) 0 (by omega) (by omega) (by omega)
  simpa using this
 ·refine Ev.of (k := 0) (laws_eqIntS.mono xs ys) ?_
  simp only [laws_eqIntS.f]
  rw [if_neg (by omega)];have:xs≠ys:=fun h=>hl (by rw [h])
  simp [this]
theorem rdB_cast (xs:List Bool) (i:Nat):rdOf false xs (i:Int)=xs.getD i false:=by simp [rdOf]
theorem eqBoolS_l0 (xs ys:List Bool) (hl:xs.length=ys.length) (hb:xs.length≤140737488355328) (d:Nat): ∀(k:Nat) (i:Nat),i≤xs.length→xs.length - i=d→d<k→
  laws_eqBoolS.l0 k xs ys i=some (decide (xs.drop i=ys.drop i)):=by
 induction d with
 |zero=>
  intro k i hi hd hk;obtain ⟨k,rfl⟩: ∃m,k=m+1:=⟨k - 1,by omega⟩;have:i=xs.length:=by omega
  subst this;simp only [laws_eqBoolS.l0]
  rw [if_neg (by omega)];simp [hl]
 | succ d ih =>
  intro k i hi hd hk;obtain ⟨k,rfl⟩: ∃m,k=m+1:=⟨k - 1,by omega⟩;simp only [laws_eqBoolS.l0]
  rw [if_pos (by omega),if_pos (by omega),if_pos (by omega),wrap_inc (n:=xs.length) (by omega) (by omega) (by omega),rdB_cast,rdB_cast,drop_getD xs i false (by omega),drop_getD ys i false (by omega)];by_cases h:xs.getD i false=ys.getD i false
  ·rw [if_neg (by rw [h]; simp)]
   have:=ih k (i+1) (by omega) (by omega) (by omega)
   rw [show ((i:Int)+1)=((i+1:Nat):Int) from by omega,this];simp only [List.cons.injEq,h,true_and]
  ·rw [if_pos (by simpa using h)]
   simp only [List.cons.injEq,h,false_and,decide_false]
theorem eqBoolS_ev (xs ys:List Bool) (hb:xs.length≤140737488355328):Ev (fun k=>laws_eqBoolS.f k xs ys) (decide (xs=ys)):=by
 by_cases hl:xs.length=ys.length
 ·refine Ev.of (k := xs.length + 1) (laws_eqBoolS.mono xs ys) ?_
  simp only [laws_eqBoolS.f]
  rw [if_pos (by omega)];have:=eqBoolS_l0 xs ys hl hb xs.length (xs.length+1) 0 (by omega) (by omega) (by omega)
  simpa using this
 ·refine Ev.of (k := 0) (laws_eqBoolS.mono xs ys) ?_
  simp only [laws_eqBoolS.f]
  rw [if_neg (by omega)];have:xs≠ys:=fun h=>hl (by rw [h])
  simp [this]
theorem eqMem_ev (x0:List Int) (x1 x2 x3:Int) (x4:List Bool) (y0:List Int) (y1 y2 y3:Int) (y4:List Bool) (h0:x0.length≤140737488355328) (h4:x4.length≤140737488355328):
  Ev (fun k=>laws_eqMem.f k x0 x1 x2 x3 x4 y0 y1 y2 y3 y4) (decide (x0=y0∧x1=y1∧x2=y2∧x3=y3∧x4=y4)):=by
 simp only [laws_eqMem.f]
 refine (eqIntS_ev x0 y0 h0).bind ?_;by_cases e0:x0=y0
 ·simp only [e0, decide_true, if_true, true_and]
  by_cases e1:x1=y1
  ·simp only [e1, if_true, true_and]
   by_cases e2:x2=y2
   ·simp only [e2, if_true, true_and]
    by_cases e3:x3=y3
    ·simp only [e3, if_true, true_and]
     refine (eqBoolS_ev x4 y4 h4).bind ?_;by_cases e4:x4=y4
     ·simp only [e4,decide_true,if_true];exact Ev.now _
     ·simp only [e4,decide_false,if_false,Bool.false_eq_true];exact Ev.now _
    ·simp only [e3,if_false,false_and,decide_false];exact Ev.now _
   ·simp only [e2,if_false,false_and,decide_false];exact Ev.now _
  ·simp only [e1,if_false,false_and,decide_false];exact Ev.now _
 ·simp only [e0,decide_false,if_false,Bool.false_eq_true,false_and];exact Ev.now _
abbrev Cs:=List S53
def sup (cs:Cs) (c:Int):Int:=(rd_T53 cs c).f0
def flds (cs:Cs) (c:Int):List Int:=(rd_T53 cs c).f1
def fldOk (n t:Int):Bool:=decide (t=1∨t=3∨t=4∨(8≤t∧t<8+n))
def clsOk (cs : Cs) (i : Int) : Bool :=
  (flds cs i).all (fldOk cs.length)&&
    (if i=0 then decide (sup cs 0= -1∧flds cs 0=[]) else if i=1 then decide (sup cs 1=0∧flds cs 1=[1]) else decide ((0≤sup cs i∧sup cs i<i)∧(flds cs i).length≤2))
def csOk (cs:Cs):Bool:=decide (2≤cs.length∧cs.length≤5)&&(List.range cs.length).all (fun i:Nat=>clsOk cs i)
theorem csOk_len {cs:Cs} (h:csOk cs=true):2≤cs.length∧cs.length≤5:=by
  simp only [csOk,Bool.and_eq_true,decide_eq_true_eq] at h;exact h.1
theorem csOk_at {cs:Cs} (h:csOk cs=true) {i:Int} (h0:0≤i) (h1:i<cs.length):clsOk cs i=true:=by
 simp only [csOk,Bool.and_eq_true,decide_eq_true_eq,List.all_eq_true,List.mem_range] at h;have:=h.2 i.toNat (by omega)
 rwa [Int.toNat_of_nonneg h0] at this
theorem csOk_sup {cs:Cs} (h:csOk cs=true) {i:Int} (h0:0<i) (h1:i<cs.length):0≤sup cs i∧sup cs i<i:=by
 have:=csOk_at h (i:=i) (by omega) h1
 simp only [clsOk,Bool.and_eq_true] at this;have h2:=this.2;rw [if_neg (by omega)] at h2;by_cases h3:i=1
 ·subst h3
  simp only [if_true,decide_eq_true_eq] at h2;omega
 ·rw [if_neg h3, decide_eq_true_eq] at h2
  exact h2.1
def upN (cs:Cs):Nat→Int→Int→Bool
  |0,a,b=>decide (a=b)
  |n+1,a,b=>decide (a=b)||(decide (0<a)&&upN cs n (sup cs a) b)
def up (cs:Cs) (a b:Int):Bool:=upN cs a.toNat a b
theorem upN_more {cs:Cs} (h:csOk cs=true): ∀(n:Nat) (a b:Int),0≤a→a<cs.length→a.toNat≤n→upN cs (n+1) a b=upN cs n a b
 |0,a,b,h0,h1,hn=>by
  have:a=0:=by omega
  subst this;simp [upN]
 | n + 1, a, b, h0, h1, hn => by
  have e1:upN cs (n+1+1) a b=(decide (a=b)||(decide (0<a)&&upN cs (n+1) (sup cs a) b)):=rfl
  have e2:upN cs (n+1) a b=(decide (a=b)||(decide (0<a)&&upN cs n (sup cs a) b)):=rfl
  rw [e1,e2];by_cases hp:0<a
  ·have hs := csOk_sup h hp h1
   rw [upN_more h n (sup cs a) b (by omega) (by omega) (by omega)]
  ·simp [hp]
theorem cls_ind {cs:Cs} (h:csOk cs=true) {P:Int→Prop} (h00:P 0) (hs: ∀a:Int,0<a→a<cs.length→P (sup cs a)→P a): ∀a:Int,0≤a→a<cs.length→P a:=by
  suffices H: ∀(n:Nat) (a:Int),a.toNat≤n→0≤a→a<cs.length→P a from fun a h0 h1=>H a.toNat a (Nat.le_refl _) h0 h1
  intro n
  induction n with
  | zero => intro a hn h0 h1; have : a = 0 := by omega
            subst this;exact h00
  | succ n ih =>
    intro a hn h0 h1;by_cases hp:0<a
    · have := csOk_sup h hp h1
      exact hs a hp h1 (ih _ (by omega) (by omega) (by omega))
    · have : a = 0 := by omega
      subst this;exact h00
theorem spec_l6In_eq (a b c:Int):spec_l6In.f a b c=some (decide (b≤a∧a≤c)):=by
 unfold spec_l6In.f;by_cases h:a≥b
 ·rw [if_pos h];simp [show b≤a from h]
 ·rw [if_neg h];simp [show¬b≤a from h]
theorem all_drop (fs:List Int) (P:Int→Bool) (i:Nat) (h:i<fs.length):(fs.drop i).all P=(P (fs.getD i 0)&&(fs.drop (i+1)).all P):=by
  rw [drop_getD fs i 0 h,List.all_cons]
theorem spec_l2Field_eq (cs:Cs) (t:Int) (hl:cs.length≤1000):spec_l2Field.f cs t=some (fldOk cs.length t):=by
 unfold spec_l2Field.f fldOk;by_cases c1:t=1
 ·rw [if_pos c1];simp [c1]
 rw [if_neg c1];by_cases c2:t=3
 ·rw [if_pos c2];simp [c2]
 rw [if_neg c2];by_cases c3:t=4
 ·rw [if_pos c3];simp [c3]
 rw [if_neg c3,wrap64_of (n:=8+(cs.length:Int)) (by omega) (by omega),wrap64_of (by omega) (by omega),spec_l6In_eq];simp only [Option.bind_some,Option.some.injEq]
 rw [Bool.eq_iff_iff];simp only [decide_eq_true_eq];omega
def clsTail (cs:Cs) (i su:Int) (fs:List Int):Bool:=
  if i=0 then decide (su= -1∧fs=[]) else if i=1 then decide (su=0∧fs=[1]) else decide ((0≤su∧su<i)∧fs.length≤2)
theorem len_nil (fs:List Int):((fs.length:Int)==0)=decide (fs=[]):=by cases fs<;>simp;omega
theorem spec_l2Class_l0 (cs:Cs) (c su:Int) (fs:List Int) (hl:cs.length≤1000) (hf:fs.length≤140737488355328) (hc:0≤c∧c<1000) (d:Nat): ∀(k i:Nat),i≤fs.length→fs.length - i=d→d<k→
  spec_l2Class.l0 k cs c i su fs=some ((fs.drop i).all (fldOk cs.length)&&clsTail cs c su fs):=by
 induction d with
 | zero =>
  intro k i hi hd hk;obtain ⟨k,rfl⟩: ∃m,k=m+1:=⟨k - 1,by omega⟩;have:i=fs.length:=by omega
  subst this;simp only [spec_l2Class.l0]
  rw [if_neg (by omega),List.drop_length];simp only [List.all_nil,Bool.true_and]
  unfold clsTail;by_cases c0:c=0
  ·rw [if_pos c0, if_pos c0]
   by_cases s0:su= -1
   ·rw [if_pos s0,len_nil];simp [s0]
   ·rw [if_neg s0];simp [s0]
  rw [if_neg c0,if_neg c0];by_cases c1:c=1
  ·rw [if_pos c1, if_pos c1]
   by_cases s0:su=0
   ·rw [if_pos s0]
    by_cases l1:(fs.length:Int)=1
    ·rw [if_pos l1, if_pos (by omega)]
     obtain ⟨x,rfl⟩:=List.length_eq_one_iff.1 (show fs.length=1 by omega);by_cases e:x=1
     ·simp [rd,s0,e]
     ·simp [rd,s0,e]
    ·rw [if_neg l1]
     have:fs≠[1]:=fun e=>l1 (by rw [e];rfl)
     simp [this]
   ·rw [if_neg s0];simp [s0]
  rw [if_neg c1,if_neg c1,wrap64_of (by omega) (by omega),spec_l6In_eq];simp only [Option.bind_some,decide_eq_true_eq]
  by_cases z:0≤su∧su≤c - 1
  ·rw [if_pos z]
   congr 1
   rw [Bool.eq_iff_iff];simp only [decide_eq_true_eq];omega
  ·rw [if_neg z]
   congr 1
   rw [Bool.eq_iff_iff];simp only [decide_eq_true_eq,Bool.false_eq_true,false_iff];omega
 | succ d ih =>
  intro k i hi hd hk;obtain ⟨k,rfl⟩: ∃m,k=m+1:=⟨k - 1,by omega⟩;simp only [spec_l2Class.l0]
  rw [if_pos (by omega),if_pos (by omega),spec_l2Field_eq cs _ hl,rd_cast,all_drop fs _ i (by omega)];simp only [Option.bind_some]
  cases hq:fldOk cs.length (fs.getD i 0) with
  |false=>simp
  |true=>
   simp only [if_true,Bool.true_and]
   rw [wrap_inc (n:=fs.length) (by omega) (by omega) (by omega),show ((i:Int)+1)=((i+1:Nat):Int) from by omega];exact ih k (i+1) (by omega) (by omega) (by omega)
def fewF (cs:Cs):Prop:= ∀i:Int,(flds cs i).length≤1048576
theorem spec_l2Class_eq {cs:Cs} (hl:cs.length≤1000) (hf:fewF cs) {i:Int} (h0:0≤i) (h1:i<cs.length) (k:Nat) (hk:1048577≤k):spec_l2Class.f k cs i=some (clsOk cs i):=by
 unfold spec_l2Class.f;rw [if_pos h0,if_pos h1];have:=hf i
 have e:=spec_l2Class_l0 cs i (sup cs i) (flds cs i) hl (by omega) ⟨h0,by omega⟩ (flds cs i).length k 0 (by omega) (by omega) (by omega)
 have e2:spec_l2Class.l0 k cs i 0 (sup cs i) (flds cs i)=some (clsOk cs i):=by
  rw [show ((0:Nat):Int)=0 from rfl] at e;rw [e,List.drop_zero];unfold clsOk clsTail;by_cases c0:i=0
  ·subst c0;rfl
  by_cases c1:i=1
  ·subst c1;rfl
  rw [if_neg c0,if_neg c1,if_neg c0,if_neg c1]
 exact e2
theorem range_all_drop (n i:Nat) (P:Nat→Bool) (h:i<n):((List.range n).drop i).all P=(P i&&((List.range n).drop (i+1)).all P):=by
  rw [List.drop_eq_getElem_cons (by simpa using h),List.all_cons];simp
theorem spec_ClassesOk_l0 {cs:Cs} (hl:cs.length≤1000) (hf:fewF cs) (d:Nat): ∀(k i:Nat),i≤cs.length→cs.length - i=d→d+1048577≤k→
  spec_ClassesOk.l0 k cs i=some (((List.range cs.length).drop i).all (fun j:Nat=>clsOk cs j)):=by
 induction d with
 |zero=>
  intro k i hi hd hk;obtain ⟨k,rfl⟩: ∃m,k=m+1:=⟨k - 1,by omega⟩;have:i=cs.length:=by omega
  subst this;simp only [spec_ClassesOk.l0]
  rw [if_neg (by omega),List.drop_of_length_le (by simp)];rfl
 | succ d ih =>
  intro k i hi hd hk;obtain ⟨k,rfl⟩: ∃m,k=m+1:=⟨k - 1,by omega⟩;simp only [spec_ClassesOk.l0]
  rw [if_pos (by omega),spec_l2Class_eq hl hf (by omega) (by omega) k (by omega),range_all_drop _ _ _ (by omega)];simp only [Option.bind_some]
  cases hq:clsOk cs i with
  |false=>simp
  |true=>
   simp only [if_true,Bool.true_and]
   rw [wrap_inc (n:=cs.length) (by omega) (by omega) (by omega),show ((i:Int)+1)=((i+1:Nat):Int) from by omega];exact ih k (i+1) (by omega) (by omega) (by omega)
theorem spec_ClassesOk_eq {cs:Cs} (hf:fewF cs) (k:Nat) (hk:2000000≤k):spec_ClassesOk.f k cs=some (csOk cs):=by
 unfold spec_ClassesOk.f csOk;rw [spec_l6In_eq];simp only [Option.bind_some,decide_eq_true_eq]
 by_cases hl:(2:Int)≤cs.length∧(cs.length:Int)≤5
 ·rw [if_pos hl, show decide (2 ≤ cs.length ∧ cs.length ≤ 5) = true from decide_eq_true (by omega)]
  have:=spec_ClassesOk_l0 (cs:=cs) (by omega) hf cs.length k 0 (by omega) (by omega) (by omega)
  rw [show ((0:Nat):Int)=0 from rfl] at this;rw [this,List.drop_zero,Bool.true_and]
 ·rw [if_neg hl,show decide (2≤cs.length∧cs.length≤5)=false from decide_eq_false (by omega),Bool.false_and]
theorem impl_fieldType_eq (cs:Cs) (t:Int) (hl:cs.length≤1000):impl_fieldType.f cs.length t=some (fldOk cs.length t):=by
 unfold impl_fieldType.f kOk fldOk;rw [if_pos (by omega)]
 congr 1
 rw [Bool.eq_iff_iff];simp only [Bool.and_eq_true,decide_eq_true_eq];omega
def clsQ (cs:Cs) (i:Int):Bool:=(decide (i≤1)||decide (0≤sup cs i∧sup cs i<i))&&(decide ((flds cs i).length≤2)&&(flds cs i).all (fldOk cs.length))
theorem impl_ClassesOk_l1 (cs:Cs) (hl:cs.length≤1000) (i:Nat) (hi:i<1000) (fs:List Int) (hf:fs.length≤2) (R:Bool) (K:Nat) (hR: ∀k,K≤k→impl_ClassesOk.l0 k cs cs cs.length ((i+1:Nat):Int)=some R) (d:Nat): ∀(k j:Nat),j≤fs.length→fs.length - j=d→K+d+1≤k→
  impl_ClassesOk.l1 k cs cs cs.length i fs fs.length j=some ((fs.drop j).all (fldOk cs.length)&&R):=by
 induction d with
 |zero=>
  intro k j hj hd hk;obtain ⟨k,rfl⟩: ∃m,k=m+1:=⟨k - 1,by omega⟩;have:j=fs.length:=by omega
  subst this;simp only [impl_ClassesOk.l1]
  rw [if_neg (by omega),List.drop_length,wrap_inc (n:=1000) (by omega) (by omega) (by omega),show ((i:Int)+1)=((i+1:Nat):Int) from by omega,hR k (by omega)];simp
 | succ d ih =>
  intro k j hj hd hk;obtain ⟨k,rfl⟩: ∃m,k=m+1:=⟨k - 1,by omega⟩;simp only [impl_ClassesOk.l1]
  rw [if_pos (by omega),if_pos (by omega),if_pos (by omega),rd_cast,impl_fieldType_eq cs _ hl,all_drop fs _ j (by omega)];simp only [Option.bind_some]
  cases hq:fldOk cs.length (fs.getD j 0) with
  |false=>simp
  |true=>
   simp only [if_true,Bool.true_and]
   rw [wrap_inc (n:=fs.length) (by omega) (by omega) (by omega),show ((j:Int)+1)=((j+1:Nat):Int) from by omega];exact ih k (j+1) (by omega) (by omega) (by omega)
theorem impl_ClassesOk_l0 (cs:Cs) (hl:cs.length≤5) (d:Nat): ∀(i:Nat),i≤cs.length→cs.length - i=d→∀k,10*d+10≤k→
  impl_ClassesOk.l0 k cs cs cs.length i=some (((List.range cs.length).drop i).all (fun j:Nat=>clsQ cs j)):=by
 induction d with
 |zero=>
  intro i hi hd k hk;obtain ⟨k,rfl⟩: ∃m,k=m+1:=⟨k - 1,by omega⟩;have:i=cs.length:=by omega
  subst this;simp only [impl_ClassesOk.l0]
  rw [if_neg (by omega),List.drop_of_length_le (by simp)];rfl
 | succ d ih =>
  intro i hi hd k hk;obtain ⟨k,rfl⟩: ∃m,k=m+1:=⟨k - 1,by omega⟩;obtain ⟨k,rfl⟩: ∃m,k=m+1:=⟨k - 1,by omega⟩;rw [range_all_drop _ _ _ (by omega)]
  have hj:impl_ClassesOk.j4 (k+1) cs cs cs.length i false (sup cs i) (flds cs i)=some (decide ((flds cs i).length≤2)&&((flds cs i).all (fldOk cs.length)&&((List.range cs.length).drop (i+1)).all (fun j:Nat=>clsQ cs j))):=by
   simp only [impl_ClassesOk.j4]
   rw [if_neg (by simp)];by_cases h2:((flds cs i).length:Int)>2
   ·rw [if_pos h2,decide_eq_false (by omega)];rfl
   ·rw [if_neg h2, decide_eq_true (show (flds cs i).length ≤ 2 by omega), Bool.true_and]
    have:=impl_ClassesOk_l1 cs (by omega) i (by omega) (flds cs i) (by omega) _ (10*d+10) (fun k hk=>ih (i+1) (by omega) (by omega) k hk) (flds cs i).length k 0 (by omega) (by omega) (by omega)
    rw [show ((0:Nat):Int)=0 from rfl,List.drop_zero] at this;exact this
  have hjt:impl_ClassesOk.j4 (k+1) cs cs cs.length i true (sup cs i) (flds cs i)=some false:=by simp [impl_ClassesOk.j4]
  simp only [impl_ClassesOk.l0]
  rw [if_pos (by omega),if_pos (by omega),if_pos (by omega)];rw [show (rd_T53 cs (i:Int)).f0=sup cs i from rfl,show (rd_T53 cs (i:Int)).f1=flds cs i from rfl];have hQ:clsQ cs i=((decide ((i:Int)≤1)||decide (0≤sup cs i∧sup cs i<i))&&(decide ((flds cs i).length≤2)&&(flds cs i).all (fldOk cs.length))):=rfl
  rw [hQ];generalize ((List.range cs.length).drop (i+1)).all (fun j:Nat=>clsQ cs j)=T at*;by_cases h1:(i:Int)>1
  ·rw [if_pos h1]
   by_cases hs:sup cs i<0
   ·rw [if_pos hs,hjt,decide_eq_false (show¬(i:Int)≤1 by omega),decide_eq_false (show¬(0≤sup cs i∧sup cs i<i) by omega)];rfl
   ·rw [if_neg hs]
    by_cases hs2:sup cs i≥i
    ·rw [decide_eq_true hs2,hjt,decide_eq_false (show¬(i:Int)≤1 by omega),decide_eq_false (show¬(0≤sup cs i∧sup cs i<i) by omega)];rfl
    ·rw [decide_eq_false hs2, hj, decide_eq_true (show (0 ≤ sup cs i ∧ sup cs i < i) by omega)]
     simp [Bool.and_assoc]
  ·rw [if_neg h1, hj, decide_eq_true (show (i : Int) ≤ 1 by omega)]
   simp [Bool.and_assoc]
theorem impl_ClassesOk_eq (cs:Cs) (k:Nat) (hk:1000≤k):impl_ClassesOk.f k cs=some (csOk cs):=by
 obtain ⟨k,rfl⟩: ∃m,k=m+1:=⟨k - 1,by omega⟩;obtain ⟨k,rfl⟩: ∃m,k=m+1:=⟨k - 1,by omega⟩;obtain ⟨k,rfl⟩: ∃m,k=m+1:=⟨k - 1,by omega⟩;unfold impl_ClassesOk.f;by_cases h2:(cs.length:Int)<2
 ·rw [if_pos h2]
  simp only [impl_ClassesOk.j0,if_true]
  unfold csOk;rw [decide_eq_false (by omega),Bool.false_and]
 rw [if_neg h2];by_cases h5:(cs.length:Int)>5
 ·rw [decide_eq_true h5]
  simp only [impl_ClassesOk.j0,if_true]
  unfold csOk;rw [decide_eq_false (by omega),Bool.false_and]
 rw [decide_eq_false h5]
 have no: ∀i:Int,0≤i→i<cs.length→clsOk cs i=false→csOk cs=false:=by
  intro i h0 h1 hc
  cases hq:csOk cs with
  |false=>rfl
  |true=>rw [csOk_at hq h0 h1] at hc;cases hc
 simp only [impl_ClassesOk.j0,Bool.false_eq_true,if_false]
 rw [if_pos (by omega)];rw [show (rd_T53 cs 0).f0=sup cs 0 from rfl,show (rd_T53 cs 0).f1=flds cs 0 from rfl];by_cases r0:sup cs 0= -1
 case neg=>
  rw [if_neg r0];simp only [impl_ClassesOk.j1,if_true]
  rw [no 0 (by omega) (by omega) (by unfold clsOk;simp [r0])]
 rw [if_pos r0];by_cases f0:flds cs 0=[]
 case neg=>
  have:(((flds cs 0).length:Int) !=0)=true:=by
   cases hq:flds cs 0 with
   |nil=>exact absurd hq f0
   |cons x t=>simp;omega
  rw [this];simp only [impl_ClassesOk.j1,if_true]
  rw [no 0 (by omega) (by omega) (by unfold clsOk;simp [f0])]
 rw [show (((flds cs 0).length:Int) !=0)=false by rw [f0];rfl];simp only [impl_ClassesOk.j1,Bool.false_eq_true,if_false]
 rw [if_pos (by omega)];rw [show (rd_T53 cs 1).f0=sup cs 1 from rfl,show (rd_T53 cs 1).f1=flds cs 1 from rfl];have n1: ¬(sup cs 1=0∧flds cs 1=[1])→csOk cs=false:=fun z=>no 1 (by omega) (by omega) (by unfold clsOk;rw [if_neg (by omega),if_pos rfl,decide_eq_false z,Bool.and_false])
 by_cases r1:sup cs 1=0
 case neg=>
  rw [if_neg r1];simp only [impl_ClassesOk.j2,if_true]
  rw [n1 (fun z=>r1 z.1)]
 rw [if_pos r1];by_cases l1:((flds cs 1).length:Int)=1
 case neg=>
  rw [if_neg l1];simp only [impl_ClassesOk.j2,if_true]
  rw [n1 (fun z=>l1 (by rw [z.2];rfl))]
 rw [if_pos l1,if_pos (by omega)];obtain ⟨x,hx⟩:=List.length_eq_one_iff.1 (show (flds cs 1).length=1 by omega);by_cases e1:x=1
 case neg=>
  rw [show (rd (flds cs 1) 0 !=1)=true by rw [hx];simp [rd,e1]];simp only [impl_ClassesOk.j2,if_true]
  rw [n1 (fun z=>e1 (by rw [hx] at z;simpa using z.2))]
 rw [show (rd (flds cs 1) 0 !=1)=false by rw [hx];simp [rd,e1]];simp only [impl_ClassesOk.j2,Bool.false_eq_true,if_false]
 have:=impl_ClassesOk_l0 cs (by omega) cs.length 0 (by omega) (by omega) k (by omega)
 rw [show ((0:Nat):Int)=0 from rfl,List.drop_zero] at this;rw [this]
 congr 1
 unfold csOk;rw [decide_eq_true (show 2≤cs.length∧cs.length≤5 by omega),Bool.true_and,Bool.eq_iff_iff];simp only [List.all_eq_true,List.mem_range]
 refine forall_congr' fun i=>forall_congr' fun hi=>?_
 unfold clsQ clsOk;simp only [Bool.and_eq_true,Bool.or_eq_true,decide_eq_true_eq]
 by_cases i0:(i:Int)=0
 ·rw [i0,if_pos rfl,decide_eq_true_eq,r0,f0];simp
 by_cases i1:(i:Int)=1
 ·rw [i1,if_neg (by omega),if_pos rfl,decide_eq_true_eq,r1,hx,e1];simp
 rw [if_neg i0,if_neg i1,decide_eq_true_eq]
 constructor
 ·rintro ⟨h1 | h1, h3, h4⟩
  ·omega
  ·exact ⟨h4,h1,h3⟩
 ·rintro ⟨h4, h1, h3⟩
  exact ⟨Or.inr h1,h3,h4⟩
theorem fields_same (cs:Cs): ∀(k:Nat) (a:Int),spec_l2Fields.f k cs a=impl_classFields.f k cs a
  |0,a=>by rw [spec_l2Fields.f,impl_classFields.f]
  |k+1,a=>by rw [spec_l2Fields.f,impl_classFields.f,fields_same cs k]
theorem csOk_two {cs:Cs} (h:csOk cs=true) {i:Int} (h0:0≤i) (h1:i<cs.length):(flds cs i).length≤2:=by
 have h2:=csOk_at h h0 h1;unfold clsOk at h2;simp only [Bool.and_eq_true] at h2;have h3:=h2.2;by_cases c0:i=0
 ·rw [if_pos c0, decide_eq_true_eq] at h3
  rw [c0,h3.2];simp
 rw [if_neg c0] at h3;by_cases c1:i=1
 ·rw [if_pos c1, decide_eq_true_eq] at h3
  rw [c1,h3.2];simp
 rw [if_neg c1,decide_eq_true_eq] at h3;exact h3.2
theorem classFields_ev {cs:Cs} (h:csOk cs=true): ∀a:Int,0≤a→a<cs.length→∃fs,fs.length≤2*a.toNat∧∀k,a.toNat+1≤k→impl_classFields.f k cs a=some fs:=by
 refine cls_ind h ⟨[],by simp,fun k hk=>?_⟩ ?_
 ·obtain ⟨k, rfl⟩ : ∃ m, k = m + 1 := ⟨k - 1, by omega⟩
  rw [impl_classFields.f,if_pos rfl]
 ·intro a ha hl ⟨fs, hfs, hk⟩
  have hs:=csOk_sup h ha hl;have h2:=csOk_two h (by omega) hl;refine ⟨fs++flds cs a,by rw [List.length_append];omega,fun k hk2=>?_⟩;obtain ⟨k,rfl⟩: ∃m,k=m+1:=⟨k - 1,by omega⟩;have e:=hk k (by omega);rw [impl_classFields.f,if_neg (by omega),if_pos (by omega),if_pos hl];show ((impl_classFields.f k cs (sup cs a)).bind fun t=>if t.length+(flds cs a).length<17592186044416 then some (t++flds cs a) else none)=_
  rw [e,Option.bind_some,if_pos (by have:=csOk_len h;omega)]
def cfl (cs:Cs) (a:Int):List Int:=(impl_classFields.f 10 cs a).getD []
theorem cfl_eq {cs:Cs} (h:csOk cs=true) {a:Int} (h0:0≤a) (h1:a<cs.length):(cfl cs a).length≤8∧∀k,10≤k→impl_classFields.f k cs a=some (cfl cs a):=by
 have hl:=csOk_len h;obtain ⟨fs,hf,hk⟩:=classFields_ev h a h0 h1;have e:cfl cs a=fs:=by unfold cfl;rw [hk 10 (by omega)];rfl
 rw [e];exact ⟨by omega,fun k hk2=>hk k (by omega)⟩
def allF (cs:Cs):List (List Int):=(List.range cs.length).map (fun i:Nat=>cfl cs i)
theorem allF_len (cs:Cs):(allF cs).length=cs.length:=by unfold allF;simp
theorem allF_at (cs:Cs) {c:Int} (h0:0≤c) (h1:c<cs.length):rdL (allF cs) c=cfl cs c:=by
 have h2:c.toNat<cs.length:=by omega
 unfold rdL allF;rw [List.getD_eq_getElem?_getD,List.getElem?_map,List.getElem?_range h2];show cfl cs ((c.toNat:Nat):Int)=_
 rw [Int.toNat_of_nonneg h0]
theorem allF_short {cs:Cs} (h:csOk cs=true):FShort (allF cs):=by
 intro c h0 h1;rw [allF_len] at h1;rw [allF_at cs h0 h1];have:=(cfl_eq h h0 h1).1
 omega
theorem allF_all {cs:Cs} (h:csOk cs=true):(allF cs).all (fun r=>decide (r.length≤4294967296))=true:=by
 rw [List.all_eq_true];intro r hr;obtain ⟨i,hi,rfl⟩:=List.getElem_of_mem hr;have h2:=allF_short h (i:Int) (by omega) (by omega);unfold rdL at h2;rw [Int.toNat_natCast,List.getD_eq_getElem?_getD,List.getElem?_eq_getElem hi] at h2;exact decide_eq_true h2
theorem allFields_l0 {cs:Cs} (h:csOk cs=true) (d:Nat): ∀(k i:Nat),i+d=cs.length→d+11≤k→impl_allFields.l0 k cs ((List.range i).map (fun j:Nat=>cfl cs j)) cs.length i=some (allF cs):=by
 have hl:=csOk_len h
 induction d with
 |zero=>
  intro k i hi hk;obtain ⟨k,rfl⟩: ∃m,k=m+1:=⟨k - 1,by omega⟩;rw [impl_allFields.l0,if_neg (by omega)];unfold allF;rw [show i=cs.length by omega]
 |succ d ih=>
  intro k i hi hk;obtain ⟨k,rfl⟩: ∃m,k=m+1:=⟨k - 1,by omega⟩;rw [impl_allFields.l0,if_pos (by omega),(cfl_eq h (a:=(i:Int)) (by omega) (by omega)).2 k (by omega)];simp only [Option.bind_some]
  rw [if_pos (by simp;omega),wrap_inc (n:=1000) (by omega) (by omega) (by omega)];have:=ih k (i+1) (by omega) (by omega)
  rw [List.range_succ,List.map_append] at this;exact this
theorem allFields_eq {cs:Cs} (h:csOk cs=true) (k:Nat) (hk:20≤k):impl_allFields.f k cs=some (allF cs):=by
 have hl:=csOk_len h;have:=allFields_l0 h cs.length k 0 (by omega) (by omega)
 unfold impl_allFields.f;exact this
theorem measN_c {cs:Cs} {c:Int} (n:Int) (h0:0≤c) (h1:c<cs.length):measN (allF cs) c n=1+(cfl cs c).length:=by
  unfold measN;rw [if_neg (by omega),allF_len,if_pos ⟨h0,h1⟩,allF_at cs h0 h1]
theorem l21Size_eq {cs:Cs} (h:csOk cs=true) {ws:List Int} (hw:ws.length≤1048576) {i e:Int} (h0:0≤i) (he:e≤ws.length) (k:Nat) (hk:20≤k):
  spec_l21Size.f k cs ws i e=some (if i<e then mstep ws (allF cs) e i else 0):=by
 have hl:=csOk_len h;unfold spec_l21Size.f;by_cases c0:i<e
 case neg=>rw [if_pos (by omega),if_neg c0]
 case pos=>
 rw [if_neg (by omega),if_pos h0,if_pos (by omega),spec_l6In_eq,if_pos c0,wrap64_of (n:=(cs.length:Int) - 1) (by omega) (by omega)];simp only [Option.bind_some,decide_eq_true_eq]
 obtain ⟨c,hc⟩: ∃c,c=rd ws i:=⟨_,rfl⟩;unfold mstep;rw [←hc];by_cases c1:0≤c∧c≤(cs.length:Int) - 1
 ·have c1' : c < (cs.length : Int) := by omega
  obtain ⟨f1,f2⟩:=cfl_eq h c1.1 c1';rw [if_pos c1,fields_same,f2 k (by omega),if_neg (by omega),measN_c 0 c1.1 c1'];simp only [Option.bind_some]
  rw [wrap64_of (n:=1+((cfl cs c).length:Int)) (by omega) (by omega),wrap64_of (n:=i+(1+((cfl cs c).length:Int))) (by omega) (by omega)];by_cases c2:i+(1+((cfl cs c).length:Int))>e
  ·rw [if_pos c2,if_neg (by omega)]
  ·rw [if_neg c2,if_pos (by omega)]
 rw [if_neg c1];obtain ⟨k,rfl⟩: ∃m,k=m+2:=⟨k - 2,by omega⟩;have w1:wrap64 (i+1)=i+1:=wrap64_of (by omega) (by omega)
 have key: ∀b:Bool,(b=true↔(c= -1∨c= -2))→spec_l21Size.j0 (k+2) ws i e 0 b=some (if c<0 then (if i+1<e then (if measN (allF cs) c (rd ws (i+1))≤e - i then measN (allF cs) c (rd ws (i+1)) else 0) else 0) else (if measN (allF cs) c 0≤e - i then measN (allF cs) c 0 else 0)):=by
  intro b hb;rw [spec_l21Size.j0];by_cases c2:c= -1∨c= -2
  ·rw [if_pos (hb.mpr c2), w1, if_pos (show c < 0 by omega)]
   by_cases c3:i+1≥e
   ·rw [if_pos c3,spec_l21Size.j1,if_pos rfl,if_neg (show¬i+1<e by omega)]
   rw [if_neg c3,if_pos (show 0≤i+1 by omega),if_pos (show i+1<(ws.length:Int) by omega),spec_l6In_eq,if_pos (show i+1<e by omega)];simp only [Option.bind_some]
   obtain ⟨n,hn⟩: ∃n,n=rd ws (i+1):=⟨_,rfl⟩;rw [←hn];have m1:measN (allF cs) c n=if 0≤n∧n≤6 then 2+n else 0:=by unfold measN;rw [if_pos c2]
   rw [m1,spec_l21Size.j1];by_cases c4:0≤n∧n≤6
   ·rw [decide_eq_true c4, if_neg (by simp), w1, if_pos (show 0 ≤ i + 1 by omega), if_pos (show i + 1 < (ws.length : Int) by omega), if_pos c4, ← hn, wrap64_of (n := 2 + n) (by omega) (by omega), wrap64_of (n := i + (2 + n)) (by omega) (by omega)]
    by_cases c5:i+(2+n)>e
    ·rw [if_pos c5,if_neg (by omega)]
    ·rw [if_neg c5,if_pos (by omega)]
   ·rw [decide_eq_false c4,if_pos (by simp),if_neg c4,if_pos (by omega)]
  ·rw [if_neg (fun hh => c2 (hb.mp hh)), wrap64_of (n := i + 0) (by omega) (by omega), if_neg (by omega)]
   have m0: ∀n,measN (allF cs) c n=0:=fun n=>by unfold measN;rw [if_neg c2,allF_len,if_neg (by omega)]
   rw [m0,m0];by_cases c3:c<0
   ·rw [if_pos c3]
    by_cases c4:i+1<e
    ·rw [if_pos c4,if_pos (by omega)]
    ·rw [if_neg c4]
   ·rw [if_neg c3,if_pos (by omega)]
 by_cases c2:c= -1
 ·rw [if_pos c2,key true (by simp [c2])]
 ·rw [if_neg c2,key _ (by simp [c2])]
theorem rd_mem {xs:List Int} {i:Nat} (h:i<xs.length):rd xs (i:Int)=xs[i]:=by
  rw [rd_cast,List.getD_eq_getElem?_getD,List.getElem?_eq_getElem h];rfl
structure Bnd (cs:Cs) (ws:List Int) (y t o:Int) (cards:List Bool):Prop where
 ok:csOk cs=true
 y0:0≤y
 y1:y≤40
 n0:14≤(ws.length:Int) - y
 n1:(ws.length:Int) - y≤120
 t0:0≤t
 t1:t≤y
 o0:y≤o
 o1:o≤ws.length
 cd:(cards.length:Int)=((ws.length:Int) - y+3)/4
structure Wlk (cs:Cs) (ws:List Int) (W:List Int):Prop where
 mem: ∀x∈W,∃e:Int,e≤ws.length∧0≤x∧x<e∧0<mstep ws (allF cs) e x∧mstep ws (allF cs) e x≤e - x
 srt:W.Pairwise (· < ·)
 len:W.length≤200
def startsL (W:List Int) (n:Nat):List Bool:=(List.range n).map (fun j:Nat=>decide ((j:Int)∈W))
theorem startsL_len (W:List Int) (n:Nat):(startsL W n).length=n:=by simp [startsL]
theorem startsL_at (W:List Int) (n:Nat) {j:Int} (h0:0≤j) (h1:j<n):rdOf false (startsL W n) j=decide (j∈W):=by
 unfold rdOf startsL;rw [List.getD_eq_getElem?_getD,List.getElem?_map,List.getElem?_range (by omega)];show decide (((j.toNat:Nat):Int)∈W)=_
 rw [Int.toNat_of_nonneg h0]
theorem starts_l0 (W:List Int) (n:Nat) (hW: ∀x∈W,0≤x∧x<(n:Int)) (hl:W.length≤1048576) (d:Nat): ∀(k i:Nat) (S:List Bool),i+d=W.length→d<k→S.length=n→(∀j:Nat,j<n→S.getD j false=decide ((j:Int)∈W.take i))→
  spec_l21Starts.l0 k W S i=some (startsL W n):=by
 induction d with
 |zero=>
  intro k i S hi hk hS hj;obtain ⟨k,rfl⟩: ∃m,k=m+1:=⟨k - 1,by omega⟩;rw [spec_l21Starts.l0,if_neg (by omega)]
  congr 1
  refine List.ext_getElem (by rw [hS,startsL_len]) (fun j h1 h2=>?_);have:=hj j (by omega)
  rw [List.getD_eq_getElem?_getD,List.getElem?_eq_getElem h1,show i=W.length by omega,List.take_length] at this;have e2:(startsL W n)[j]=decide ((j:Int)∈W):=by simp [startsL]
  rw [e2];exact this
 | succ d ih =>
  intro k i S hi hk hS hj;obtain ⟨k,rfl⟩: ∃m,k=m+1:=⟨k - 1,by omega⟩;have hlt:i<W.length:=by omega
  have hx:=hW W[i] (List.getElem_mem hlt);rw [spec_l21Starts.l0,if_pos (by omega),if_pos (by omega),rd_mem hlt,if_pos hx.1,if_pos (by rw [hS];exact hx.2),wrap_inc (n:=1048577) (by omega) (by omega) (by omega)]
  have:=ih k (i+1) (S.set W[i].toNat true) (by omega) (by omega) (by rw [List.length_set,hS]) (fun j hj2=>by
   have h3:=hj j hj2;rw [List.take_succ_eq_append_getElem hlt];rw [List.getD_eq_getElem?_getD] at h3 ⊢;rw [List.getElem?_set];by_cases q:W[i].toNat=j
   ·rw [if_pos q, if_pos (by omega)]
    have:(j:Int)∈W.take i++[W[i]]:=by rw [List.mem_append,List.mem_singleton];right;omega
    rw [decide_eq_true this];rfl
   ·rw [if_neg q, h3]
    have:(j:Int)∈W.take i++[W[i]]↔(j:Int)∈W.take i:=by
     rw [List.mem_append,List.mem_singleton]
     constructor
     ·rintro (z | z)
      ·exact z
      ·omega
     ·exact Or.inl
    simp only [this])
  rw [show ((i+1:Nat):Int)=(i:Int)+1 by omega] at this;exact this
theorem starts_eq {W:List Int} {n:Nat} (hW: ∀x∈W,0≤x∧x<(n:Int)) (hl:W.length≤1000) (hn:n≤1048576) (k:Nat) (hk:1001≤k):spec_l21Starts.f k n W=some (startsL W n):=by
 unfold spec_l21Starts.f;rw [if_pos (by omega),if_pos (by omega),Int.toNat_natCast];have:=starts_l0 W n hW (by omega) W.length k 0 (List.replicate n false) (by omega) (by omega) (by simp) (fun j hj=>by simp [List.getD_eq_getElem?_getD,hj])
 exact this
def ldB (cs:Cs) (c k:Int):Bool:=if c= -1 then false else if c= -2 then true else (rd (cfl cs c) k !=1)
theorem thing_facts {cs : Cs} {ws : List Int} {y t o : Int} {cards : List Bool} (hb : Bnd cs ws y t o cards) {W : List Int} (hw : Wlk cs ws W) (m : Mm) (hm : m = ⟨ws, y, t, o, cards, allF cs, W.map (· + 1)⟩) {x : Int} (hx : x ∈ W) :
    ∃ c hd cnt : Int, c = rd ws x ∧ 0 ≤ x ∧ (hd = 1 ∨ hd = 2) ∧ 0 ≤ cnt ∧ cnt ≤ 8 ∧ x + hd + cnt ≤ ws.length ∧ thing_count.f m (x + 1) = some cnt ∧ thing_first.f m (x + 1) = some (x + hd) ∧ spec_l21Head.f c = some hd ∧
      (∀k,20≤k→spec_l21Size.f k cs ws x ws.length=some (hd+cnt))∧(∀k,0≤k→k<cnt→thing_leads.f m (x+1) k=some (ldB cs c k))∧(c= -1∨c= -2∨(0≤c∧c<cs.length∧hd=1∧cnt=(cfl cs c).length)):=by
  obtain ⟨e,he,h0,h1,h2,h3⟩:=hw.mem x hx;have n0:=hb.n0;have n1:=hb.n1;have y0:=hb.y0;have y1:=hb.y1;have hl:=csOk_len hb.ok
  have hc:thing_class.f m (x+1)=some (rd ws x):=by
    unfold thing_class.f;rw [hm];show (if 1≤x+1∧x+1≤(ws.length:Int)∧ws.length≤281474976710656 then some (rd ws (x+1 - 1)) else none)=_
    rw [if_pos (by omega),show x+1 - 1=x by omega]
  obtain ⟨c,hcc⟩: ∃c,c=rd ws x:=⟨_,rfl⟩;rw [←hcc] at hc
  have hsz: ∀k,20≤k→spec_l21Size.f k cs ws x ws.length=some (mstep ws (allF cs) ws.length x):=fun k hk=>by
    rw [l21Size_eq hb.ok (by omega) h0 (Int.le_refl _) k hk,if_pos (by omega)]
  by_cases c0:c<0
  · have hs : mstep ws (allF cs) e x = 2 + rd ws (x + 1) ∧ (c = -1 ∨ c = -2) ∧ x + 1 < e ∧ 0 ≤ rd ws (x + 1) ∧ rd ws (x + 1) ≤ 6 := by
      unfold mstep at h2 ⊢;rw [←hcc] at h2 ⊢;rw [if_pos c0] at h2 ⊢;by_cases c1:x+1<e
      · rw [if_pos c1] at h2 ⊢
        by_cases c2:c= -1∨c= -2
        · by_cases c3 : 0 ≤ rd ws (x + 1) ∧ rd ws (x + 1) ≤ 6
          · have m1 : measN (allF cs) c (rd ws (x + 1)) = 2 + rd ws (x + 1) := by unfold measN; rw [if_pos c2, if_pos c3]
            rw [m1] at h2 ⊢
            split at h2
            · rename_i z;rw [if_pos z];exact ⟨rfl,c2,c1,c3.1,c3.2⟩
            · omega
          · have m1 : measN (allF cs) c (rd ws (x + 1)) = 0 := by unfold measN; rw [if_pos c2, if_neg c3]
            rw [m1] at h2
            split at h2<;>omega
        · have m1 : measN (allF cs) c (rd ws (x + 1)) = 0 := by unfold measN; rw [if_neg c2, if_neg (by omega)]
          rw [m1] at h2
          split at h2<;>omega
      · rw [if_neg c1] at h2;omega
    obtain ⟨s1,s2,s3,s4,s5⟩:=hs;refine ⟨c,2,rd ws (x+1),hcc,h0,Or.inr rfl,s4,by omega,by omega,?_,?_,?_,?_,?_,?_⟩
    · unfold thing_count.f
      rw [hc,Option.bind_some,if_pos c0,hm];show (if x+1<(ws.length:Int) then some (rd ws (x+1)) else none)=_
      rw [if_pos (by omega)]
    · unfold thing_first.f
      rw [hc,Option.bind_some,if_pos c0,show x+1+1=x+2 by omega]
    · unfold spec_l21Head.f;rw [if_pos c0]
    · intro k hk
      rw [hsz k hk];unfold mstep;rw [←hcc,if_pos c0,if_pos (by omega)];have m1:measN (allF cs) c (rd ws (x+1))=2+rd ws (x+1):=by unfold measN;rw [if_pos s2,if_pos ⟨s4,s5⟩]
      rw [m1,if_pos (by omega)]
    · intro k _ _
      unfold thing_leads.f ldB;rw [hc,Option.bind_some];rcases s2 with z|z
      · rw [if_pos z,if_pos z]
      · rw [if_neg (by omega),if_pos z,if_neg (by omega),if_pos z]
    · rcases s2 with z | z
      · exact Or.inl z
      · exact Or.inr (Or.inl z)
  · have c1 : c < cs.length ∧ mstep ws (allF cs) e x = 1 + (cfl cs c).length := by
      unfold mstep at h2 ⊢;rw [←hcc] at h2 ⊢;rw [if_neg c0] at h2 ⊢;by_cases z:c<(cs.length:Int)
      · rw [measN_c 0 (by omega) z] at h2 ⊢
        split at h2
        · rename_i q;rw [if_pos q];exact ⟨z,rfl⟩
        · omega
      · have m1 : measN (allF cs) c 0 = 0 := by unfold measN; rw [if_neg (by omega), allF_len, if_neg (by omega)]
        rw [m1] at h2
        split at h2<;>omega
    have hf:=cfl_eq hb.ok (a:=c) (by omega) c1.1;refine ⟨c,1,(cfl cs c).length,hcc,h0,Or.inl rfl,by omega,by omega,by omega,?_,?_,?_,?_,?_,Or.inr (Or.inr ⟨by omega,c1.1,rfl,rfl⟩)⟩
    · unfold thing_count.f
      rw [hc,Option.bind_some,if_neg c0,hm];show (if c<((allF cs).length:Int)∧(allF cs).length≤281474976710656 then some (((rdL (allF cs) c).length:Nat):Int) else none)=_
      rw [allF_len,if_pos ⟨c1.1,by omega⟩,allF_at cs (by omega) c1.1]
    · unfold thing_first.f
      rw [hc,Option.bind_some,if_neg c0]
    · unfold spec_l21Head.f;rw [if_neg c0]
    · intro k hk
      rw [hsz k hk];unfold mstep;rw [←hcc,if_neg c0,measN_c 0 (by omega) c1.1,if_pos (by omega)]
    · intro k k0 k1
      unfold thing_leads.f ldB;have q1: ¬c= -1:=by omega
      have q2: ¬c= -2:=by omega
      rw [hc,Option.bind_some];simp only [if_neg q1,if_neg q2]
      rw [hm];show (if 0≤c∧c<((allF cs).length:Int)∧0≤k∧k<((rdL (allF cs) c).length:Int) then some (rd (rdL (allF cs) c) k !=1) else none)=_
      rw [allF_len,allF_at cs (by omega) c1.1,if_pos ⟨by omega,c1.1,k0,k1⟩]
def refsL (cs:Cs) (c hd s:Int):List Bool:=(List.range s.toNat).map (fun j:Nat=>decide (hd≤j)&&ldB cs c (j - hd))
theorem refsL_at (cs:Cs) (c hd s:Int) {j:Int} (h0:hd≤j) (h00:0≤j) (h1:j<s):rdOf false (refsL cs c hd s) j=ldB cs c (j - hd):=by
 unfold rdOf refsL;rw [List.getD_eq_getElem?_getD,List.getElem?_map,List.getElem?_range (by omega)];show (decide (hd≤((j.toNat:Nat):Int))&&ldB cs c (((j.toNat:Nat):Int) - hd))=_
 rw [Int.toNat_of_nonneg h00,decide_eq_true h0,Bool.true_and]
theorem refs_l0 {cs:Cs} (h:csOk cs=true) {c hd:Int} {s:Nat} (hs:s≤100) (hh:hd=1∨hd=2) (hc:c= -1∨c= -2∨(0≤c∧c<cs.length∧hd=1∧(s:Int)=1+(cfl cs c).length)) (d:Nat): ∀(k j:Nat) (R:List Bool),j+d=s→hd≤(j:Int)→d+30≤k→R.length=s→(∀i:Nat,i<s→R.getD i false=(decide (hd≤(i:Int)∧i<j)&&ldB cs c ((i:Int) - hd)))→
  spec_l21Refs.l0 k cs R c j=some (refsL cs c hd s):=by
 induction d with
 |zero=>
  intro k j R hj hj2 hk hR hi;obtain ⟨k,rfl⟩: ∃m,k=m+1:=⟨k - 1,by omega⟩;rw [spec_l21Refs.l0,if_neg (by omega)]
  congr 1
  refine List.ext_getElem (by rw [hR];simp [refsL]) (fun i h1 h2=>?_);have e1:=hi i (by omega);rw [List.getD_eq_getElem?_getD,List.getElem?_eq_getElem h1] at e1;have e2:(refsL cs c hd s)[i]=(decide (hd≤(i:Int))&&ldB cs c ((i:Int) - hd)):=by simp [refsL]
  rw [e2];have e3:(hd≤(i:Int)∧i<j)↔hd≤(i:Int):=⟨fun z=>z.1,fun z=>⟨z,by omega⟩⟩
  simp only [e3] at e1;exact e1
 | succ d ih =>
  intro k j R hj hj2 hk hR hi;obtain ⟨k,rfl⟩: ∃m,k=m+1:=⟨k - 1,by omega⟩
  have step: ∀b,b=ldB cs c ((j:Int) - hd)→spec_l21Refs.l0 k cs (R.set ((j:Int)).toNat b) c (wrap64 ((j:Int)+1))=some (refsL cs c hd s):=fun b hbb=>by
   rw [wrap_inc (n:=1000) (by omega) (by omega) (by omega),Int.toNat_natCast]
   have:=ih k (j+1) (R.set j b) (by omega) (by omega) (by omega) (by rw [List.length_set,hR]) (fun i hi2=>by
    have h3:=hi i hi2;rw [List.getD_eq_getElem?_getD] at h3 ⊢;rw [List.getElem?_set];by_cases q:j=i
    ·rw [if_pos q, if_pos (by omega)]
     subst q;rw [decide_eq_true (show hd≤(j:Int)∧j<j+1 from ⟨hj2,by omega⟩),Bool.true_and,hbb];rfl
    ·rw [if_neg q, h3]
     have:(hd≤(i:Int)∧i<j+1)↔(hd≤(i:Int)∧i<j):=by omega
     simp only [this])
   rw [show ((j+1:Nat):Int)=(j:Int)+1 by omega] at this;exact this
  rw [spec_l21Refs.l0,if_pos (by omega)];rcases hc with z|z|z
  ·rw [if_neg (by omega), if_neg (by omega), if_pos (by omega)]
   exact step _ (by unfold ldB;rw [if_pos z])
  ·rw [if_pos z, if_pos (by omega)]
   exact step _ (by unfold ldB;rw [if_neg (by omega),if_pos z])
  ·obtain ⟨z0, z1, z2, z3⟩ := z
   rw [if_neg (by omega),if_pos (by omega),fields_same,(cfl_eq h z0 z1).2 k (by omega)];simp only [Option.bind_some]
   rw [wrap64_of (n:=(j:Int) - 1) (by omega) (by omega),if_pos (by omega),if_pos (by omega),if_pos (by omega)];exact step _ (by unfold ldB;rw [if_neg (by omega),if_neg (by omega),z2])
def pw (ws:List Int) (F:List (List Int)) (e:Int):Nat→Int→List Int×Bool
  |0,_=>([],true)
  |n+1,i=>if i<e then (if mstep ws F e i=0 then ([],false) else (i::(pw ws F e n (i+mstep ws F e i)).1,(pw ws F e n (i+mstep ws F e i)).2)) else ([],true)
theorem pw_mwalk (ws:List Int) (F:List (List Int)) (e:Int): ∀(n:Nat) (i:Int) (acc:List Int) (q:Nat),(e - i).toNat≤n→n<q→mwalk ws F e q i acc=some ((pw ws F e n i).2,acc++(pw ws F e n i).1.map (· +1))
 |0,i,acc,q,h,hq=>by
  obtain ⟨q,rfl⟩: ∃m,q=m+1:=⟨q - 1,by omega⟩;rw [mwalk,if_neg (by omega),pw];simp
 | n + 1, i, acc, q, h, hq => by
  obtain ⟨q,rfl⟩: ∃m,q=m+1:=⟨q - 1,by omega⟩;rw [mwalk,pw];by_cases c:i<e
  ·rw [if_pos c, if_pos c]
   by_cases c2:mstep ws F e i=0
   ·rw [if_pos c2,if_pos c2];simp
   ·rw [if_neg c2, if_neg c2]
    have:=mwalk_lt ws F e i
    rw [pw_mwalk ws F e n _ _ q (by omega) (by omega)];simp
  ·rw [if_neg c,if_neg c];simp
theorem pw_len (ws:List Int) (F:List (List Int)) (e:Int): ∀(n:Nat) (i:Int),(pw ws F e n i).1.length≤n
 |0,i=>by simp [pw]
 | n + 1, i => by
  rw [pw]
  split
  ·split
   ·simp
   ·have := pw_len ws F e n (i + mstep ws F e i)
    simp only [List.length_cons];omega
  ·simp
theorem pw_mem (ws:List Int) (F:List (List Int)) (e:Int): ∀(n:Nat) (i:Int),∀x∈(pw ws F e n i).1,i≤x∧x<e∧0<mstep ws F e x∧mstep ws F e x≤e - x
 |0,i=>by simp [pw]
 | n + 1, i => by
  rw [pw];intro x hx
  split at hx
  case isTrue c=>
   split at hx
   case isTrue c2=>simp at hx
   case isFalse c2=>
    have hl:=mwalk_lt ws F e i;simp only [List.mem_cons] at hx;rcases hx with rfl|hx
    ·omega
    ·have := pw_mem ws F e n _ x hx
     omega
  case isFalse c=>simp at hx
theorem pw_sorted (ws:List Int) (F:List (List Int)) (e:Int): ∀(n:Nat) (i:Int),(pw ws F e n i).1.Pairwise (· < ·)
 |0,i=>by simp [pw]
 | n + 1, i => by
  rw [pw]
  split
  case isTrue c=>
   split
   case isTrue c2=>simp
   case isFalse c2=>
    have hl:=mwalk_lt ws F e i;refine List.Pairwise.cons (fun x hx=>?_) (pw_sorted ws F e n _);have:=pw_mem ws F e n _ x hx
    omega
  case isFalse c=>simp
theorem pw_part {cs:Cs} (h:csOk cs=true) {ws:List Int} (hw:ws.length≤1048576) {e:Int} (he:e≤ws.length): ∀(n:Nat) (i:Int) (acc:List Int) (k:Nat),0≤i→(e - i).toNat≤n→n+21≤k→acc.length+n<17592186044416→
  spec_l21Part.l0 k cs ws i e acc=some (acc++(pw ws (allF cs) e n i).1,(pw ws (allF cs) e n i).2)
 |0,i,acc,k,h0,hn,hk,ha=>by
  obtain ⟨k,rfl⟩: ∃m,k=m+1:=⟨k - 1,by omega⟩;rw [spec_l21Part.l0,if_neg (by omega),pw];simp
 | n + 1, i, acc, k, h0, hn, hk, ha => by
  obtain ⟨k,rfl⟩: ∃m,k=m+1:=⟨k - 1,by omega⟩;rw [spec_l21Part.l0,pw];by_cases c:i<e
  ·rw [if_pos c, if_pos c, l21Size_eq h hw h0 he k (by omega), if_pos c]
   simp only [Option.bind_some]
   by_cases c2:mstep ws (allF cs) e i=0
   ·rw [if_pos c2,if_pos c2];simp
   ·rw [if_neg c2, if_neg c2, if_pos (by omega)]
    have hl:=mwalk_lt ws (allF cs) e i;rw [wrap64_of (by omega) (by omega),pw_part h hw he n _ _ k (by omega) (by omega) (by omega) (by rw [List.length_append,List.length_singleton];omega)];simp
  ·rw [if_neg c,if_neg c];simp
theorem sorted_lt {xs:List Int} (h:xs.Pairwise (· < ·)) {i j:Nat} (hi:i<j) (hj:j<xs.length):xs[i]'(by omega)<xs[j]:=List.pairwise_iff_getElem.mp h i j (by omega) hj hi
theorem cmp_Less_eq (a b:Int):cmp_Less_int.f a b=some (decide (a<b)):=by
  unfold cmp_Less_int.f cmp_isNaN_int.f;rw [Option.bind_some,show (a !=a)=false from by simp,if_neg (by simp)]
theorem search_l0 {xs:List Int} (hs:xs.Pairwise (· < ·)) (hl:xs.length≤1048576) (v:Int) (d:Nat): ∀(lo hi k:Nat),hi - lo≤d→lo≤hi→hi≤xs.length→d+2≤k→(∀i (h:i<xs.length),i<lo→xs[i]<v)→(∀i (h:i<xs.length),hi≤i→v≤xs[i])→
  ∃p:Nat,p≤xs.length∧slices_BinarySearch_int_int.l0 k xs v xs.length lo hi=some ((p:Int),decide (v∈xs))∧(∀i (h:i<xs.length),i<p→xs[i]<v)∧(∀i (h:i<xs.length),p≤i→v≤xs[i]):=by
 induction d with
 | zero =>
  intro lo hi k hd hlh hhi hk h1 h2;obtain ⟨k,rfl⟩: ∃m,k=m+1:=⟨k - 1,by omega⟩;obtain rfl:lo=hi:=by omega
  refine ⟨lo,hhi,?_,h1,h2⟩;rw [slices_BinarySearch_int_int.l0,if_neg (by omega)];by_cases c:lo<xs.length
  ·rw [if_pos (by omega), if_pos (by omega), if_pos (by omega), rd_mem c]
   by_cases c2:xs[lo]=v
   ·rw [if_pos c2,decide_eq_true (by rw [←c2];exact List.getElem_mem c)]
   ·have hv := h2 lo c (Nat.le_refl _)
    rw [if_neg c2];simp only [slices_isNaN_int.f,Option.bind_some]
    have nm: ¬v∈xs:=fun hm=>by
     obtain ⟨j,hj,e⟩:=List.getElem_of_mem hm;rcases Nat.lt_trichotomy j lo with q|q|q
     ·have:=h1 j hj q;omega
     ·subst q;exact c2 e
     ·have:=sorted_lt hs q hj;omega
    rw [decide_eq_false nm];simp
  ·rw [if_neg (by omega)]
   have nm: ¬v∈xs:=fun hm=>by
    obtain ⟨j,hj,e⟩:=List.getElem_of_mem hm;have:=h1 j hj (by omega);omega
   rw [decide_eq_false nm]
 | succ d ih =>
  intro lo hi k hd hlh hhi hk h1 h2;by_cases c:lo=hi
  ·subst c
   exact ih lo lo k (by omega) (by omega) hhi (by omega) h1 h2
  obtain ⟨k,rfl⟩: ∃m,k=m+1:=⟨k - 1,by omega⟩;obtain ⟨m,hm⟩: ∃m,m=(lo+hi)/2:=⟨_,rfl⟩;have hm2:m<xs.length:=by omega
  have hm3:lo≤m:=by omega
  have hm4:m<hi:=by omega
  have e1:wrap64 ((lo:Int)+hi)=((lo+hi:Nat):Int):=by rw [wrap64_of (by omega) (by omega)];omega
  have e2:IntKind.u64.wrap ((lo+hi:Nat):Int)=((lo+hi:Nat):Int):=by rw [IntKind.wrap_u64];omega
  have e3:wrap64 (((lo+hi:Nat):Int)/2)=(m:Int):=by
   have e4:((lo+hi:Nat):Int)/2=(m:Int):=by rw [hm];exact (Int.natCast_ediv (lo+hi) 2).symm
   rw [e4];exact wrap64_of (by omega) (by omega)
  clear hm;rw [slices_BinarySearch_int_int.l0,if_pos (by omega),e1,e2,e3,if_pos (by omega),if_pos (by omega),rd_mem hm2];by_cases c2:xs[m]<v
  ·have hc : cmp_Less_int.f xs[m] v = some true := by rw [cmp_Less_eq, decide_eq_true c2]
   rw [hc];simp only [Option.bind_some,if_true]
   rw [wrap_inc (n:=1048577) (by omega) (by omega) (by omega)]
   have:=ih (m+1) hi k (by omega) (by omega) hhi (by omega) (fun i h hi'=>by
    rcases Nat.lt_or_ge i m with q|q
    ·have:=sorted_lt hs q hm2;omega
    ·obtain rfl : i = m := by omega
     exact c2) h2
   rw [show ((m+1:Nat):Int)=(m:Int)+1 by omega] at this;exact this
  ·have hc : cmp_Less_int.f xs[m] v = some false := by rw [cmp_Less_eq, decide_eq_false c2]
   rw [hc];simp only [Option.bind_some]
   rw [if_neg (by simp)]
   exact ih lo m k (by omega) (by omega) (by omega) (by omega) h1 (fun i h hi'=>by
    rcases Nat.eq_or_lt_of_le hi' with q|q
    ·subst q;omega
    ·have:=sorted_lt hs q h;omega)
theorem search_eq {xs:List Int} (hs:xs.Pairwise (· < ·)) (hl:xs.length≤1048576) (v:Int): ∃p:Nat,p≤xs.length∧(∀k,xs.length+2≤k→slices_BinarySearch_int_int.f k xs v=some ((p:Int),decide (v∈xs)))∧(∀i (h:i<xs.length),i<p→xs[i]<v)∧(∀i (h:i<xs.length),p≤i→v≤xs[i]):=by
 obtain ⟨p,hp,he,h1,h2⟩:=search_l0 hs hl v xs.length 0 xs.length (xs.length+2) (by omega) (by omega) (by omega) (by omega) (fun i h hi=>by omega) (fun i h hi=>by omega);refine ⟨p,hp,fun k hk=>?_,h1,h2⟩;have:=at_rounds (g:=fun k=>slices_BinarySearch_int_int.f k xs v) (fun k=>slices_BinarySearch_int_int.mono xs v k) hk (r:=((p:Int),decide (v∈xs))) (by unfold slices_BinarySearch_int_int.f;exact he)
 exact this
theorem mem_map1 (W:List Int) (v:Int):v∈W.map (· +1)↔v - 1∈W:=by
 rw [List.mem_map]
 constructor
 ·rintro ⟨a,ha,rfl⟩;rw [show a+1 - 1=a by omega];exact ha
 ·intro h;exact ⟨v - 1,h,by omega⟩
theorem map1_sorted {W:List Int} (h:W.Pairwise (· < ·)):(W.map (· +1)).Pairwise (· < ·):=by
  rw [List.pairwise_map];exact h.imp (fun hab=>by omega)
theorem has_eq {cs:Cs} {ws W:List Int} (hw:Wlk cs ws W) (m:Mm) (hm:m.begins=W.map (· +1)) (v:Int): ∀q,300≤q→memory_has.f q m v=some (decide (v - 1∈W)):=by
 intro q hq;have hl:=hw.len;obtain ⟨p,_,h,_,_⟩:=search_eq (map1_sorted hw.srt) (by rw [List.length_map];omega) v;unfold memory_has.f;rw [hm,h q (by rw [List.length_map];omega),Option.bind_some];simp only [mem_map1]
theorem wlk_range {cs:Cs} {ws W:List Int} (hw:Wlk cs ws W) {x:Int} (hx:x∈W):0≤x∧x<ws.length:=by
  obtain ⟨e,h1,h2,h3,_⟩:=hw.mem x hx;omega
theorem lead_eq {cs:Cs} {ws W:List Int} (hw:Wlk cs ws W) (hn:ws.length≤1048576) (v:Int):spec_l21Lead.f (startsL W ws.length) v=some (decide (v=0)||decide (v - 1∈W)):=by
 unfold spec_l21Lead.f;by_cases c0:v=0
 ·rw [if_pos c0,decide_eq_true c0];rfl
 rw [if_neg c0,spec_l6In_eq,startsL_len,decide_eq_false c0,Bool.false_or];simp only [Option.bind_some,decide_eq_true_eq]
 by_cases c1:1≤v∧v≤(ws.length:Int)
 ·rw [if_pos c1,wrap64_of (n:=v - 1) (by omega) (by omega),if_pos (by omega),if_pos (by omega),startsL_at W ws.length (by omega) (by omega)]
 ·rw [if_neg c1,decide_eq_false (fun hv=>c1 (by have:=wlk_range hw hv;omega))]
theorem word_eq {cs:Cs} {ws:List Int} {y t o:Int} {cards:List Bool} (hb:Bnd cs ws y t o cards) {W:List Int} (hw:Wlk cs ws W) (m:Mm) (hm:m=⟨ws,y,t,o,cards,allF cs,W.map (· +1)⟩)
  {x hd cnt c:Int} (h0:0≤x) (hhd:hd=1∨hd=2) (hcn:0≤cnt) (hsz:x+hd+cnt≤ws.length) (hfi:thing_first.f m (x+1)=some (x+hd)) (hle: ∀k,0≤k→k<cnt→thing_leads.f m (x+1) k=some (ldB cs c k))
  (R:List Bool) (hR:R=refsL cs c hd (hd+cnt)) {k:Int} (k0:0≤k) (k1:k<cnt):
  ∃b,(∀q,300≤q→wordAt q m (x+1) k=some b)∧∀κ:Nat,spec_l21Thing.l0 (κ+2) (startsL W ws.length) x R (hd+k) ws y t o cards=if b=true then spec_l21Thing.l0 κ (startsL W ws.length) x R (hd+k+1) ws y t o cards else some false:=by
 have n0:=hb.n0;have n1:=hb.n1;have y0:=hb.y0;have y1:=hb.y1;have cd:=hb.cd;have hRl:(R.length:Int)=hd+cnt:=by rw [hR];unfold refsL;rw [List.length_map,List.length_range];omega
 have hRk:rdOf false R (hd+k)=ldB cs c k:=by rw [hR,refsL_at cs c hd (hd+cnt) (by omega) (by omega) (by omega),show hd+k - hd=k by omega]
 obtain ⟨v,hv⟩: ∃v,v=rd ws (x+(hd+k)):=⟨_,rfl⟩;have hmw:m.words=ws:=by rw [hm]
 have hA: ∀q,wordAt q m (x+1) k=if ldB cs c k=true then (if v=0 then some true else (memory_has.f q m v).bind fun h=>if h=true then cardOk m (x+1) v (x+(hd+k)) else some false) else impl_isWord.f v:=fun q=>by
  unfold wordAt;rw [hfi,Option.bind_some,hmw,if_pos (by omega),hle k k0 k1,Option.bind_some,show x+hd+k=x+(hd+k) by omega,←hv]
 have w1:wrap64 (x+(hd+k))=x+(hd+k):=wrap64_of (by omega) (by omega)
 have w2:wrap64 (hd+k+1)=hd+k+1:=wrap64_of (by omega) (by omega)
 have hB: ∀κ:Nat,spec_l21Thing.l0 (κ+2) (startsL W ws.length) x R (hd+k) ws y t o cards=if ldB cs c k=true then spec_l21Thing.j1 (κ+1) (startsL W ws.length) x R (hd+k) v (!(decide (v=0)||decide (v - 1∈W))) ws y t o cards else spec_l21Thing.j1 (κ+1) (startsL W ws.length) x R (hd+k) v (!(decide (-128≤v∧v≤127))) ws y t o cards:=fun κ=>by
  rw [spec_l21Thing.l0,if_pos (by omega),w1,if_pos (by omega),if_pos (by omega),if_pos (by omega),hRk,←hv,lead_eq hw (by omega)];simp only [Option.bind_some]
  by_cases c0:ldB cs c k=true
  ·rw [if_pos c0, if_pos c0]
   cases (decide (v=0)||decide (v - 1∈W))<;>rfl
  ·rw [if_neg c0, if_neg c0]
   unfold spec_l1Word.f;rw [spec_l6In_eq];rfl
 have hJ: ∀(κ:Nat) (bad:Bool),spec_l21Thing.j1 (κ+1) (startsL W ws.length) x R (hd+k) v bad ws y t o cards=if bad=true then some false else (if ldB cs c k=true then (if x≥y then (if 1≤v∧v≤y then (if rdOf false cards ((x+(hd+k) - y)/4)=true then spec_l21Thing.l0 κ (startsL W ws.length) x R (hd+k+1) ws y t o cards else some false) else spec_l21Thing.l0 κ (startsL W ws.length) x R (hd+k+1) ws y t o cards) else spec_l21Thing.l0 κ (startsL W ws.length) x R (hd+k+1) ws y t o cards) else spec_l21Thing.l0 κ (startsL W ws.length) x R (hd+k+1) ws y t o cards):=fun κ bad=>by
  rw [spec_l21Thing.j1,w2,w1]
  cases bad with
  |true=>rw [if_pos rfl,if_pos rfl]
  | false =>
   simp only [Bool.false_eq_true,if_false]
   rw [if_pos (show 0≤hd+k by omega),if_pos (show hd+k<(R.length:Int) by omega),hRk];by_cases c0:ldB cs c k=true
   ·rw [if_pos c0, if_pos c0]
    by_cases c1:x≥y
    ·rw [if_pos c1, if_pos c1, spec_l6In_eq]
     simp only [Option.bind_some,decide_eq_true_eq]
     by_cases c2:1≤v∧v≤y
     ·rw [if_pos c2,if_pos c2,wrap64_of (n:=x+(hd+k) - y) (by omega) (by omega),Int.tdiv_eq_ediv_of_nonneg (by omega),wrap64_of (n:=(x+(hd+k) - y)/4) (by omega) (by omega),if_pos (by omega),if_pos (by omega)]
     ·rw [if_neg c2,if_neg c2]
    ·rw [if_neg c1,if_neg c1]
   ·rw [if_neg c0,if_neg c0]
 by_cases c0:ldB cs c k=true
 case neg=>
  refine ⟨decide (-128≤v∧v≤127),fun q hq=>?_,fun κ=>?_⟩
  ·rw [hA, if_neg c0]
   unfold impl_isWord.f;by_cases z:v≥ -128
   ·rw [if_pos z];simp [show -128≤v from z]
   ·rw [if_neg z];simp [show¬ -128≤v from z]
  ·rw [hB, if_neg c0, hJ, if_neg c0]
   cases decide (-128≤v∧v≤127)<;>rfl
 case pos=>
 by_cases c1:v=0
 ·refine ⟨true, fun q hq => by rw [hA, if_pos c0, if_pos c1], fun κ => ?_⟩
  rw [hB,if_pos c0,hJ,decide_eq_true c1,if_pos c0];rw [if_neg (by simp),if_pos rfl];by_cases c2:x≥y
  ·rw [if_pos c2,if_neg (by omega)]
  ·rw [if_neg c2]
 have hq0:=has_eq hw m (by rw [hm]) v;by_cases c2:v - 1∈W
 case neg=>
  refine ⟨false,fun q hq=>by rw [hA,if_pos c0,if_neg c1,hq0 q hq,decide_eq_false c2];rfl,fun κ=>?_⟩;rw [hB,if_pos c0,hJ,decide_eq_false c1,decide_eq_false c2];rfl
 case pos=>
 have hvr:=wlk_range hw c2
 have hA2: ∀q,300≤q→wordAt q m (x+1) k=cardOk m (x+1) v (x+(hd+k)):=fun q hq=>by
  rw [hA,if_pos c0,if_neg c1,hq0 q hq,decide_eq_true c2];rfl
 have hB2: ∀κ:Nat,spec_l21Thing.l0 (κ+2) (startsL W ws.length) x R (hd+k) ws y t o cards=(if x≥y then (if 1≤v∧v≤y then (if rdOf false cards ((x+(hd+k) - y)/4)=true then spec_l21Thing.l0 κ (startsL W ws.length) x R (hd+k+1) ws y t o cards else some false) else spec_l21Thing.l0 κ (startsL W ws.length) x R (hd+k+1) ws y t o cards) else spec_l21Thing.l0 κ (startsL W ws.length) x R (hd+k+1) ws y t o cards):=fun κ=>by
  rw [hB,if_pos c0,hJ,decide_eq_true c2,if_pos c0];rw [if_neg (by simp)]
 have hC:cardOk m (x+1) v (x+(hd+k))=if x≥y then (if 1≤v∧v≤y then some (rdOf false cards ((x+(hd+k) - y)/4)) else some true) else some true:=by
  unfold cardOk;rw [hm];show (if x+1>y then (if v>y then some true else (if 0≤wrap64 (Int.tdiv (wrap64 (x+(hd+k) - y)) 4)∧wrap64 (Int.tdiv (wrap64 (x+(hd+k) - y)) 4)<(cards.length:Int) then some (rdOf false cards (wrap64 (Int.tdiv (wrap64 (x+(hd+k) - y)) 4))) else none)) else some true)=_
  by_cases z1:x≥y
  ·rw [if_pos (show x + 1 > y by omega), if_pos z1]
   by_cases z2:v>y
   ·rw [if_pos z2,if_neg (by omega)]
   ·rw [if_neg z2,if_pos (show 1≤v∧v≤y by omega),wrap64_of (n:=x+(hd+k) - y) (by omega) (by omega),Int.tdiv_eq_ediv_of_nonneg (by omega),wrap64_of (n:=(x+(hd+k) - y)/4) (by omega) (by omega),if_pos (by omega)]
  ·rw [if_neg (show¬x+1>y by omega),if_neg z1]
 by_cases z1:x≥y
 ·by_cases z2 : 1 ≤ v ∧ v ≤ y
  ·refine ⟨rdOf false cards ((x+(hd+k) - y)/4),fun q hq=>by rw [hA2 q hq,hC,if_pos z1,if_pos z2],fun κ=>by rw [hB2,if_pos z1,if_pos z2]⟩
  ·exact ⟨true,fun q hq=>by rw [hA2 q hq,hC,if_pos z1,if_neg z2],fun κ=>by rw [hB2,if_pos z1,if_neg z2,if_pos rfl]⟩
 ·exact ⟨true,fun q hq=>by rw [hA2 q hq,hC,if_neg z1],fun κ=>by rw [hB2,if_neg z1,if_pos rfl]⟩
theorem thing_eq {cs:Cs} {ws:List Int} {y t o:Int} {cards:List Bool} (hb:Bnd cs ws y t o cards) {W:List Int} (hw:Wlk cs ws W) (m:Mm) (hm:m=⟨ws,y,t,o,cards,allF cs,W.map (· +1)⟩) {x:Int} (hx:x∈W):
  ∃b,(∀q,300≤q→wordsOk.f q m (x+1)=some b)∧∀k,200≤k→spec_l21Thing.f k cs ws y t o cards (startsL W ws.length) x=some b:=by
 obtain ⟨c,hd,cnt,hc,h0,hhd,hcn,hcn8,hsz,hco,hfi,hhe,hl21,hle,hcc⟩:=thing_facts hb hw m hm hx;have n0:=hb.n0;have n1:=hb.n1;have y0:=hb.y0;have y1:=hb.y1
 have key: ∀d:Nat,∀k:Int,0≤k→k+d=cnt→∃b,(∀q,300≤q→∀j:Nat,d+1≤j→wordsOk.l q m (x+1) cnt j k=some b)∧∀κ:Nat,2*d+1≤κ→spec_l21Thing.l0 κ (startsL W ws.length) x (refsL cs c hd (hd+cnt)) (hd+k) ws y t o cards=some b:=by
  intro d
  induction d with
  | zero =>
   intro k k0 kd;refine ⟨true,fun q hq j hj=>?_,fun κ hκ=>?_⟩
   ·obtain ⟨j, rfl⟩ : ∃ i, j = i + 1 := ⟨j - 1, by omega⟩
    rw [wordsOk.l,if_neg (by omega)]
   ·obtain ⟨κ, rfl⟩ : ∃ i, κ = i + 1 := ⟨κ - 1, by omega⟩
    have hRl:((refsL cs c hd (hd+cnt)).length:Int)=hd+cnt:=by unfold refsL;rw [List.length_map,List.length_range];omega
    rw [spec_l21Thing.l0,if_neg (by omega)]
  | succ d ih =>
   intro k k0 kd;obtain ⟨b,hb1,hb2⟩:=word_eq hb hw m hm h0 hhd hcn hsz hfi hle _ rfl k0 (show k<cnt by omega);obtain ⟨b',h1,h2⟩:=ih (k+1) (by omega) (by omega)
   cases b with
   | true =>
    refine ⟨b',fun q hq j hj=>?_,fun κ hκ=>?_⟩
    ·obtain ⟨j, rfl⟩ : ∃ i, j = i + 1 := ⟨j - 1, by omega⟩
     rw [wordsOk.l,if_pos (by omega),hb1 q hq,Option.bind_some,if_pos rfl];exact h1 q hq j (by omega)
    ·obtain ⟨κ, rfl⟩ : ∃ i, κ = i + 2 := ⟨κ - 2, by omega⟩
     rw [hb2 κ,if_pos rfl,show hd+k+1=hd+(k+1) by omega];exact h2 κ (by omega)
   | false =>
    refine ⟨false,fun q hq j hj=>?_,fun κ hκ=>?_⟩
    ·obtain ⟨j, rfl⟩ : ∃ i, j = i + 1 := ⟨j - 1, by omega⟩
     rw [wordsOk.l,if_pos (by omega),hb1 q hq,Option.bind_some,if_neg (by simp)]
    ·obtain ⟨κ, rfl⟩ : ∃ i, κ = i + 2 := ⟨κ - 2, by omega⟩
     rw [hb2 κ,if_neg (by simp)]
 obtain ⟨b,h1,h2⟩:=key cnt.toNat 0 (by omega) (by omega);refine ⟨b,fun q hq=>?_,fun k hk=>?_⟩
 ·unfold wordsOk.f
  rw [hco,Option.bind_some,if_pos (by omega)];exact h1 q hq _ (by omega)
 ·unfold spec_l21Thing.f spec_l21Refs.f
  rw [hl21 k (by omega)];simp only [Option.bind_some]
  rw [if_pos (by omega),if_pos (by omega),if_pos h0,if_pos (by omega),←hc,hhe];simp only [Option.bind_some]
  have hr:=refs_l0 (cs:=cs) hb.ok (c:=c) (hd:=hd) (s:=(hd+cnt).toNat) (by omega) hhd (by rcases hcc with z|z|z;exact Or.inl z;exact Or.inr (Or.inl z);exact Or.inr (Or.inr ⟨z.1,z.2.1,z.2.2.1,by omega⟩)) cnt.toNat k hd.toNat (List.replicate (hd+cnt).toNat false) (by omega) (by omega) (by omega) (by simp) (fun i hi=>by
   rw [decide_eq_false (show¬(hd≤(i:Int)∧i<hd.toNat) by omega)]
   simp [List.getD_eq_getElem?_getD,hi])
  rw [show ((hd.toNat:Nat):Int)=hd by omega] at hr;rw [hr];simp only [Option.bind_some]
  rw [if_pos (by omega),if_pos (by omega)];have:=h2 k (by omega)
  rw [show hd+0=hd by omega,show ((hd+cnt).toNat:Int)=hd+cnt by omega] at*;exact this
theorem all_drop_iff (l:List Int) (T:Nat):(l.drop T).all (· ==0)=true↔∀j:Nat,T≤j→j<l.length→l.getD j 0=0:=by
 rw [List.all_eq_true]
 constructor
 ·intro h j h1 h2
  have hm:l[j]∈l.drop T:=by
   rw [List.mem_iff_getElem];refine ⟨j - T,by rw [List.length_drop];omega,?_⟩;simp only [List.getElem_drop,show T+(j - T)=j by omega]
  have:=h _ hm
  rw [List.getD_eq_getElem?_getD,List.getElem?_eq_getElem h2]
  simpa using this
 ·intro h x hx
  obtain ⟨i,hi,rfl⟩:=List.getElem_of_mem hx;rw [List.length_drop] at hi;have:=h (T+i) (by omega) (by omega)
  rw [List.getD_eq_getElem?_getD,List.getElem?_eq_getElem (by omega)] at this;rw [List.getElem_drop]
  simpa using this
def Zr (ws:List Int) (y t o:Int) (i:Nat):Prop:=((t≤i∧(i:Int)≤y - 1)∨(i:Int)≥o)→ws.getD i 0=0
theorem bounds_l0 {ws:List Int} {y t o:Int} {cards:List Bool} (hn:ws.length≤1048576) (hy:0≤y) (hy2:y≤40) (d:Nat): ∀(k i:Nat),i+d=ws.length→d<k→∃b,spec_l21Bounds.l0 k ws.length i ws y t o cards=some b∧(b=true↔∀j:Nat,i≤j→j<ws.length→Zr ws y t o j):=by
 induction d with
 |zero=>
  intro k i hi hk;obtain ⟨k,rfl⟩: ∃m,k=m+1:=⟨k - 1,by omega⟩;refine ⟨true,by rw [spec_l21Bounds.l0,if_neg (by omega)],by simp only [true_iff];intro j h1 h2;omega⟩
 | succ d ih =>
  intro k i hi hk;obtain ⟨k,rfl⟩: ∃m,k=m+1:=⟨k - 1,by omega⟩;have hlt:i<ws.length:=by omega
  obtain ⟨b,h1,h2⟩:=ih k (i+1) (by omega) (by omega);rw [show ((i+1:Nat):Int)=wrap64 ((i:Int)+1) by rw [wrap_inc (n:=1048577) (by omega) (by omega) (by omega)];omega] at h1;have w:wrap64 (y - 1)=y - 1:=wrap64_of (by omega) (by omega)
  by_cases z:Zr ws y t o i
  ·refine ⟨b, ?_, h2.trans ⟨fun h j h3 h4 => ?_, fun h j h3 h4 => h j (by omega) h4⟩⟩
   ·rw [spec_l21Bounds.l0, if_pos (by omega), spec_l6In_eq, w]
    simp only [Option.bind_some,decide_eq_true_eq]
    by_cases c1:t≤(i:Int)∧(i:Int)≤y - 1
    ·rw [if_pos c1, if_pos (by omega), if_pos (by omega), rd_cast, if_pos (z (Or.inl c1))]
     exact h1
    ·rw [if_neg c1]
     by_cases c2:(i:Int)≥o
     ·rw [if_pos c2, if_pos (by omega), if_pos (by omega), rd_cast, if_pos (z (Or.inr c2))]
      exact h1
     ·rw [if_neg c2]
      exact h1
   ·rcases Nat.eq_or_lt_of_le h3 with q | q
    ·subst q;exact z
    ·exact h j (by omega) h4
  ·refine ⟨false, ?_, by constructor; intro h; simp at h; intro h; exact absurd (h i (Nat.le_refl _) hlt) z⟩
   have z2:((t≤(i:Int)∧(i:Int)≤y - 1)∨(i:Int)≥o)∧¬ws.getD i 0=0:=by
    unfold Zr at z;exact ⟨Classical.byContradiction fun q=>z (fun p=>absurd p q),fun q=>z (fun _=>q)⟩
   rw [spec_l21Bounds.l0,if_pos (by omega),spec_l6In_eq,w];simp only [Option.bind_some,decide_eq_true_eq]
   by_cases c1:t≤(i:Int)∧(i:Int)≤y - 1
   ·rw [if_pos c1,if_pos (by omega),if_pos (by omega),rd_cast,if_neg z2.2]
   ·rw [if_neg c1,if_pos (z2.1.resolve_left c1),if_pos (by omega),if_pos (by omega),rd_cast,if_neg z2.2]
theorem bounds_eq {cs:Cs} (hf:fewF cs) (hok:csOk cs=true) {ws:List Int} {y t o:Int} {cards:List Bool} (hn:ws.length≤1048576) (hc:cards.length≤1048576):
    ∃p,impl_partsOk.f ws y t o cards=some p∧(∀k,4000000≤k→spec_l21Bounds.f k cs ws y t o cards=some p)∧(p=true→Bnd cs ws y t o cards):=by
  have bad: ∀k,1≤k→spec_l21Bounds.j0 k ws.length true ws y t o cards=some false:=fun k hk=>by
    obtain ⟨k,rfl⟩: ∃m,k=m+1:=⟨k - 1,by omega⟩;rw [spec_l21Bounds.j0,if_pos rfl]
  have hp:impl_partsOk.f ws y t o cards=some (pOk ws y t o cards 0&&pOk ws y t o cards 1&&pOk ws y t o cards 2&&pOk ws y t o cards 3&&pOk ws y t o cards 4&&pOk ws y t o cards 5&&pOk ws y t o cards 6):=by
    unfold impl_partsOk.f;rw [if_pos (by omega)]
  rw [hp]
  have hs: ∀k,4000000≤k→spec_l21Bounds.f k cs ws y t o cards=if 0≤y∧y≤40 then (if 14≤wrap64 ((ws.length:Int) - y)∧wrap64 ((ws.length:Int) - y)≤120 then (if 0≤t∧t≤y then (if y≤o∧o≤ws.length then spec_l21Bounds.j0 k ws.length ((cards.length:Int) !=cardsN (wrap64 ((ws.length:Int) - y))) ws y t o cards else some false) else some false) else some false) else some false:=fun k hk=>by
    unfold spec_l21Bounds.f;rw [spec_ClassesOk_eq hf k (by omega),hok];simp only [Option.bind_some,if_true,spec_l6In_eq,decide_eq_true_eq,bad k (by omega)]
    rfl
  by_cases c0:0≤y∧y≤40
  case neg=>
    refine ⟨_,rfl,fun k hk=>?_,fun h=>?_⟩
    · rw [hs k hk,if_neg c0,show pOk ws y t o cards 0=false from decide_eq_false c0];rfl
    · rw [show pOk ws y t o cards 0=false from decide_eq_false c0] at h;simp at h
  case pos=>
  have e0:pOk ws y t o cards 0=true:=decide_eq_true c0
  have w:wrap64 ((ws.length:Int) - y)=(ws.length:Int) - y:=wrap64_of (by omega) (by omega)
  rw [e0,Bool.true_and];by_cases c1:14≤wrap64 ((ws.length:Int) - y)∧wrap64 ((ws.length:Int) - y)≤120
  case neg=>
    refine ⟨_,rfl,fun k hk=>?_,fun h=>?_⟩
    · rw [hs k hk,if_pos c0,if_neg c1,show pOk ws y t o cards 1=false from decide_eq_false c1];rfl
    · rw [show pOk ws y t o cards 1=false from decide_eq_false c1] at h;simp at h
  case pos=>
  have e1:pOk ws y t o cards 1=true:=decide_eq_true c1
  rw [e1,Bool.true_and];by_cases c2:0≤t∧t≤y
  case neg=>
    refine ⟨_,rfl,fun k hk=>?_,fun h=>?_⟩
    · rw [hs k hk,if_pos c0,if_pos c1,if_neg c2,show pOk ws y t o cards 2=false from decide_eq_false c2];rfl
    · rw [show pOk ws y t o cards 2=false from decide_eq_false c2] at h;simp at h
  case pos=>
  have e2:pOk ws y t o cards 2=true:=decide_eq_true c2
  rw [e2,Bool.true_and];by_cases c3:y≤o∧o≤(ws.length:Int)
  case neg=>
    refine ⟨_,rfl,fun k hk=>?_,fun h=>?_⟩
    · rw [hs k hk,if_pos c0,if_pos c1,if_pos c2,if_neg c3,show pOk ws y t o cards 3=false from decide_eq_false c3];rfl
    · rw [show pOk ws y t o cards 3=false from decide_eq_false c3] at h;simp at h
  case pos=>
  have e3:pOk ws y t o cards 3=true:=decide_eq_true c3
  rw [e3,Bool.true_and];by_cases c4:(cards.length:Int)=cardsN (wrap64 ((ws.length:Int) - y))
  case neg=>
    have e4:pOk ws y t o cards 4=false:=beq_eq_false_iff_ne.mpr c4
    refine ⟨_,rfl,fun k hk=>?_,fun h=>?_⟩
    · rw [hs k hk,if_pos c0,if_pos c1,if_pos c2,if_pos c3,bne_iff_ne.mpr c4,bad k (by omega),e4];rfl
    · rw [e4] at h;simp at h
  case pos=>
  have e4:pOk ws y t o cards 4=true:=beq_iff_eq.mpr c4
  rw [e4,Bool.true_and]
  have h5:pOk ws y t o cards 5=true↔∀j:Nat,t≤j→(j:Int)≤y - 1→ws.getD j 0=0:=by
    show ((ws.take y.toNat).drop t.toNat).all (· ==0)=true↔_
    rw [all_drop_iff]
    constructor
    · intro h j h1 h2
      have:=h j (by omega) (by rw [List.length_take];omega)
      rw [List.getD_eq_getElem?_getD,List.getElem?_take,if_pos (by omega)] at this;rw [List.getD_eq_getElem?_getD];exact this
    · intro h j h1 h2
      rw [List.length_take] at h2;rw [List.getD_eq_getElem?_getD,List.getElem?_take,if_pos (by omega)];have:=h j (by omega) (by omega)
      rw [List.getD_eq_getElem?_getD] at this;exact this
  have h6:pOk ws y t o cards 6=true↔∀j:Nat,o≤j→j<ws.length→ws.getD j 0=0:=by
    show ((ws.drop y.toNat).drop (o - y).toNat).all (· ==0)=true↔_
    rw [List.drop_drop,all_drop_iff]
    constructor
    · intro h j h1 h2;exact h j (by omega) h2
    · intro h j h1 h2;exact h j (by omega) h2
  obtain ⟨b,hb1,hb2⟩:=bounds_l0 (ws:=ws) (y:=y) (t:=t) (o:=o) (cards:=cards) hn c0.1 c0.2 ws.length (ws.length+1) 0 (by omega) (by omega)
  have eb:(pOk ws y t o cards 5&&pOk ws y t o cards 6)=b:=by
    rw [Bool.eq_iff_iff,Bool.and_eq_true,h5,h6,hb2]
    constructor
    · rintro ⟨q1, q2⟩ j _ hj z
      rcases z with z|z
      · exact q1 j z.1 z.2
      · exact q2 j z hj
    · intro q
      exact ⟨fun j h1 h2=>q j (by omega) (by omega) (Or.inl ⟨h1,h2⟩),fun j h1 h2=>q j (by omega) h2 (Or.inr h1)⟩
  refine ⟨_,rfl,fun k hk=>?_,fun _=>?_⟩
  · rw [hs k hk, if_pos c0, if_pos c1, if_pos c2, if_pos c3, eb]
    obtain ⟨k,rfl⟩: ∃m,k=m+1:=⟨k - 1,by omega⟩;have e:((cards.length:Int) !=cardsN (wrap64 ((ws.length:Int) - y)))=false:=by rw [←c4];simp
    rw [e,spec_l21Bounds.j0,if_neg (by simp)];exact at_rounds (g:=fun k=>spec_l21Bounds.l0 k ws.length 0 ws y t o cards) (fun k=>(spec_l21Bounds.mono_l k).2 _ _ _ _ _ _ _) (show ws.length+1≤k by omega) hb1
  · have w4 : cardsN (wrap64 ((ws.length : Int) - y)) = ((ws.length : Int) - y + 3) / 4 := by
      rw [w] at c1 ⊢;unfold cardsN;rw [wrap64_of (n:=(ws.length:Int) - y+4) (by omega) (by omega),wrap64_of (n:=(ws.length:Int) - y+4 - 1) (by omega) (by omega),Int.tdiv_eq_ediv_of_nonneg (by omega),show (ws.length:Int) - y+4 - 1=(ws.length:Int) - y+3 by omega,wrap64_of (by omega) (by omega)]
    rw [w] at c1;exact ⟨hok,c0.1,c0.2,c1.1,c1.2,c2.1,c2.2,c3.1,c3.2,by rw [c4,w4]⟩
theorem things_eq {cs:Cs} {ws:List Int} {y t o:Int} {cards:List Bool} (hb:Bnd cs ws y t o cards) {W:List Int} (hw:Wlk cs ws W) (m:Mm) (hm:m=⟨ws,y,t,o,cards,allF cs,W.map (· +1)⟩):
  ∃b,(∀q,300≤q→thingsOk q m (W.map (· +1))=some b)∧∀k,500≤k→spec_MemOk.l0 k cs W (startsL W ws.length) 0 ws y t o cards=some b:=by
 have hlen:=hw.len
 have key: ∀d i:Nat,i+d=W.length→∃b,(∀q,300≤q→thingsOk q m ((W.drop i).map (· +1))=some b)∧∀k,d+201≤k→spec_MemOk.l0 k cs W (startsL W ws.length) i ws y t o cards=some b:=by
  intro d
  induction d with
  |zero=>
   intro i hi;refine ⟨true,fun q _=>by rw [List.drop_eq_nil_of_le (by omega)];rfl,fun k hk=>?_⟩;obtain ⟨k,rfl⟩: ∃m,k=m+1:=⟨k - 1,by omega⟩;rw [spec_MemOk.l0,if_neg (by omega)]
  | succ d ih =>
   intro i hi;have hlt:i<W.length:=by omega
   obtain ⟨b,h1,h2⟩:=thing_eq hb hw m hm (List.getElem_mem hlt);obtain ⟨b',h3,h4⟩:=ih (i+1) (by omega);have hd:(W.drop i).map (· +1)=(W[i]+1)::(W.drop (i+1)).map (· +1):=by rw [List.drop_eq_getElem_cons hlt];rfl
   refine ⟨if b=true then b' else false,fun q hq=>?_,fun k hk=>?_⟩
   ·rw [hd, thingsOk, h1 q hq, Option.bind_some]
    cases b with
    |true=>exact h3 q hq
    |false=>rfl
   ·obtain ⟨k, rfl⟩ : ∃ m, k = m + 1 := ⟨k - 1, by omega⟩
    rw [spec_MemOk.l0,if_pos (by omega),if_pos (by omega),rd_mem hlt,h2 k (by omega),Option.bind_some,wrap_inc (n:=1048577) (by omega) (by omega) (by omega)]
    cases b with
    |true=>have:=h4 k (by omega);rw [show ((i+1:Nat):Int)=(i:Int)+1 by omega] at this;exact this
    |false=>rfl
 obtain ⟨b,h1,h2⟩:=key W.length 0 (by omega);exact ⟨b,h1,fun k hk=>h2 k (by omega)⟩
def Prt (cs:Cs) (ws:List Int) (y t o:Int) (W:List Int):Prop:= ∀x∈W,(0≤x∧0<mstep ws (allF cs) t x∧mstep ws (allF cs) t x≤t - x)∨(y≤x∧0<mstep ws (allF cs) o x∧mstep ws (allF cs) o x≤o - x)
theorem open_eq2 {cs:Cs} (hf:fewF cs) {ws:List Int} {y t o:Int} {cards:List Bool} (hn:ws.length≤1048576) (hc:cards.length≤1048576):
  ∃r:Option Mm,(∀k,4000000≤k→mopen k k cs ws y t o cards=some r)∧(∀k,4000000≤k→spec_MemOk.f k cs ws y t o cards=some r.isSome)∧
   (∀m,r=some m→∃W,Bnd cs ws y t o cards∧Wlk cs ws W∧m=⟨ws,y,t,o,cards,allF cs,W.map (· +1)⟩∧(∀k,4000000≤k→spec_l21Walk.f k cs ws y t o cards=some (W,true))∧Prt cs ws y t o W∧W=(pw ws (allF cs) t t.toNat 0).1++(pw ws (allF cs) o (o - y).toNat y).1∧∀q,300≤q→thingsOk q m (W.map (· +1))=some true):=by
 cases hok:csOk cs with
 | false =>
  refine ⟨none,fun k hk=>?_,fun k hk=>?_,fun m hm=>by cases hm⟩
  ·unfold mopen
   rw [impl_ClassesOk_eq cs k (by omega),hok];rfl
  ·unfold spec_MemOk.f spec_l21Bounds.f
   rw [spec_ClassesOk_eq hf k (by omega),hok];obtain ⟨k,rfl⟩: ∃m,k=m+1:=⟨k - 1,by omega⟩;rw [Option.bind_some,if_neg (by simp),spec_l21Bounds.j0,if_pos rfl];rfl
 |true=>
 obtain ⟨p,hp1,hp2,hp3⟩:=bounds_eq (cs:=cs) (y:=y) (t:=t) (o:=o) hf hok hn hc
 cases p with
 | false =>
  refine ⟨none,fun k hk=>?_,fun k hk=>?_,fun m hm=>by cases hm⟩
  ·unfold mopen
   rw [impl_ClassesOk_eq cs k (by omega),hok,Option.bind_some,if_pos rfl,hp1];rfl
  ·unfold spec_MemOk.f
   rw [hp2 k hk];rfl
 |true=>
 have hb:=hp3 rfl;have n0:=hb.n0;have n1:=hb.n1;have y0:=hb.y0;have y1:=hb.y1;have t0:=hb.t0;have t1:=hb.t1;have o0:=hb.o0;have o1:=hb.o1;obtain ⟨r1,h1⟩: ∃r1,r1=pw ws (allF cs) t t.toNat 0:=⟨_,rfl⟩;obtain ⟨r2,h2⟩: ∃r2,r2=pw ws (allF cs) o (o - y).toNat y:=⟨_,rfl⟩;have l1:=pw_len ws (allF cs) t t.toNat 0;have l2:=pw_len ws (allF cs) o (o - y).toNat y;have m1:=pw_mem ws (allF cs) t t.toNat 0;have m2:=pw_mem ws (allF cs) o (o - y).toNat y;have s1:=pw_sorted ws (allF cs) t t.toNat 0;have s2:=pw_sorted ws (allF cs) o (o - y).toNat y;rw [←h1] at l1 m1 s1;rw [←h2] at l2 m2 s2
 have hM: ∀k,4000000≤k→mopen k k cs ws y t o cards=if r1.2=true then (if r2.2=true then (thingsOk k ⟨ws,y,t,o,cards,allF cs,(r1.1++r2.1).map (· +1)⟩ ((r1.1++r2.1).map (· +1))).bind fun ok=>if ok=true then some (some ⟨ws,y,t,o,cards,allF cs,(r1.1++r2.1).map (· +1)⟩) else some none else some none) else some none:=fun k hk=>by
  unfold mopen
  rw [impl_ClassesOk_eq cs k (by omega),hok,Option.bind_some,if_pos rfl,hp1,Option.bind_some,if_pos rfl,allFields_eq hok k (by omega),Option.bind_some,if_pos ⟨allF_all hok,hn,hc⟩,
   pw_mwalk ws (allF cs) t t.toNat 0 [] k (by omega) (by omega),←h1,Option.bind_some]
  by_cases c:r1.2=true
  ·rw [if_pos c, if_pos c, if_pos (by simp; omega), pw_mwalk ws (allF cs) o (o - y).toNat y _ k (by omega) (by omega), ← h2, Option.bind_some]
   by_cases c2:r2.2=true
   ·rw [if_pos c2, if_pos c2, if_pos (by simp; omega)]
    simp only [List.nil_append,←List.map_append]
   ·rw [if_neg c2,if_neg c2]
  ·rw [if_neg c,if_neg c]
 have hW: ∀k,4000000≤k→spec_l21Walk.f k cs ws y t o cards=some (r1.1++r2.1,r1.2&&r2.2):=fun k hk=>by
  unfold spec_l21Walk.f spec_l21Part.f;rw [pw_part hok hn (by omega) t.toNat 0 [] k (by omega) (by omega) (by omega) (by simp;omega),←h1,Option.bind_some,pw_part hok hn (by omega) (o - y).toNat y [] k (by omega) (by omega) (by omega) (by simp;omega),←h2,Option.bind_some];simp only [List.nil_append]
  rw [if_pos (by omega),Option.bind_some]
  cases r1.2 with
  |true=>rw [if_pos rfl];rfl
  |false=>rw [if_neg (by simp)];rfl
 have hS: ∀k,4000000≤k→spec_MemOk.f k cs ws y t o cards=if (r1.2&&r2.2)=true then (spec_l21Starts.f k ws.length (r1.1++r2.1)).bind fun S=>spec_MemOk.l0 k cs (r1.1++r2.1) S 0 ws y t o cards else some false:=fun k hk=>by
  unfold spec_MemOk.f;rw [hp2 k hk,Option.bind_some,if_pos rfl,hW k hk,Option.bind_some]
 cases c1:r1.2 with
 |false=>
  refine ⟨none,fun k hk=>by rw [hM k hk,c1];rfl,fun k hk=>by rw [hS k hk,c1];rfl,fun m hm=>by cases hm⟩
 |true=>
 cases c2:r2.2 with
 |false=>
  refine ⟨none,fun k hk=>by rw [hM k hk,c1,c2];rfl,fun k hk=>by rw [hS k hk,c1,c2];rfl,fun m hm=>by cases hm⟩
 |true=>
 have hw:Wlk cs ws (r1.1++r2.1):=by
  refine ⟨fun x hx=>?_,?_,by rw [List.length_append];omega⟩
  ·rcases List.mem_append.mp hx with z | z
   ·have:=m1 x z;exact ⟨t,by omega,by omega,by omega,by omega,by omega⟩
   ·have:=m2 x z;exact ⟨o,by omega,by omega,by omega,by omega,by omega⟩
  ·rw [List.pairwise_append]
   exact ⟨s1,s2,fun a ha b hb'=>by have:=m1 a ha;have:=m2 b hb';omega⟩
 obtain ⟨b,b1,b2⟩:=things_eq hb hw _ rfl;have hst: ∀k,4000000≤k→spec_l21Starts.f k ws.length (r1.1++r2.1)=some (startsL (r1.1++r2.1) ws.length):=fun k hk=>starts_eq (fun x hx=>wlk_range hw hx) (by have:=hw.len;omega) (by omega) k (by omega)
 cases b with
 |false=>
  refine ⟨none,fun k hk=>by rw [hM k hk,if_pos c1,if_pos c2,b1 k (by omega)];rfl,fun k hk=>by rw [hS k hk,c1,c2,if_pos (show (true&&true)=true from rfl),hst k hk,Option.bind_some,b2 k (by omega)];rfl,fun m hm=>by cases hm⟩
 |true=>
  refine ⟨some ⟨ws,y,t,o,cards,allF cs,(r1.1++r2.1).map (· +1)⟩,fun k hk=>by rw [hM k hk,if_pos c1,if_pos c2,b1 k (by omega)];rfl,fun k hk=>by rw [hS k hk,c1,c2,if_pos (show (true&&true)=true from rfl),hst k hk,Option.bind_some,b2 k (by omega)];rfl,fun m hm=>?_⟩;obtain rfl:=Option.some.inj hm;refine ⟨r1.1++r2.1,hb,hw,rfl,fun k hk=>by rw [hW k hk,c1,c2];rfl,fun x hx=>?_,by rw [h1,h2],fun q hq=>b1 q hq⟩;rcases List.mem_append.mp hx with z|z
  ·have:=m1 x z;exact .inl ⟨by omega,this.2.2.1,this.2.2.2⟩
  ·have:=m2 x z;exact .inr ⟨by omega,this.2.2.1,this.2.2.2⟩
theorem mstep_up {ws:List Int} {F:List (List Int)} {e e' x:Int} (h:0<mstep ws F e x) (he:e≤e'):mstep ws F e' x=mstep ws F e x:=by
 unfold mstep at h ⊢;by_cases c0:rd ws x<0
 ·rw [if_pos c0] at h ⊢
  rw [if_pos c0];by_cases c1:x+1<e
  ·rw [if_pos c1] at h ⊢
   rw [if_pos (by omega)];by_cases c2:measN F (rd ws x) (rd ws (x+1))≤e - x
   ·rw [if_pos c2,if_pos (by omega)]
   ·rw [if_neg c2] at h;omega
  ·rw [if_neg c1] at h;omega
 ·rw [if_neg c0] at h ⊢
  rw [if_neg c0];by_cases c2:measN F (rd ws x) 0≤e - x
  ·rw [if_pos c2,if_pos (by omega)]
  ·rw [if_neg c2] at h;omega
def Chn (sz:Int→Int) (e:Int):Int→List Int→Prop
  |i,[]=>i=e
  |i,x::r=>x=i∧Chn sz e (i+sz i) r
theorem pw_chn (ws:List Int) (F:List (List Int)) (e N:Int) (hN:e≤N): ∀(n:Nat) (i:Int),(e - i).toNat≤n→i≤e→(pw ws F e n i).2=true→Chn (mstep ws F N) e i (pw ws F e n i).1
 |0,i,h,hi,_=>by simp only [pw,Chn];omega
 | n + 1, i, h, hi, ht => by
  rw [pw] at ht ⊢;by_cases c:i<e
  ·rw [if_pos c] at ht ⊢
   by_cases c2:mstep ws F e i=0
   ·rw [if_pos c2] at ht;simp at ht
   ·rw [if_neg c2] at ht ⊢
    have hl:=mwalk_lt ws F e i;have hu:=mstep_up (ws:=ws) (F:=F) (e:=e) (x:=i) (by omega) hN;refine ⟨rfl,?_⟩;rw [hu];exact pw_chn ws F e N hN n (i+mstep ws F e i) (by omega) (by omega) ht
  ·rw [if_neg c];simp only [Chn];omega
theorem walk_parts {cs:Cs} {ws:List Int} {y t o:Int} {cards:List Bool} (hb:Bnd cs ws y t o cards) {W:List Int} (hk: ∀k,4000000≤k→spec_l21Walk.f k cs ws y t o cards=some (W,true)):
  W=(pw ws (allF cs) t t.toNat 0).1++(pw ws (allF cs) o (o - y).toNat y).1∧(pw ws (allF cs) t t.toNat 0).2=true∧(pw ws (allF cs) o (o - y).toNat y).2=true:=by
 have n0:=hb.n0;have n1:=hb.n1;have y0:=hb.y0;have y1:=hb.y1;have t0:=hb.t0;have t1:=hb.t1;have o0:=hb.o0;have o1:=hb.o1;have l1:=pw_len ws (allF cs) t t.toNat 0;have l2:=pw_len ws (allF cs) o (o - y).toNat y;have h:=hk 4000000 (Nat.le_refl _);unfold spec_l21Walk.f spec_l21Part.f at h;rw [pw_part hb.ok (by omega) (by omega) t.toNat 0 [] 4000000 (by omega) (by omega) (by omega) (by simp;omega),Option.bind_some,pw_part hb.ok (by omega) (by omega) (o - y).toNat y [] 4000000 (by omega) (by omega) (by omega) (by simp;omega),Option.bind_some] at h;simp only [List.nil_append] at h;rw [if_pos (by omega),Option.bind_some] at h
 cases c:(pw ws (allF cs) t t.toNat 0).2 with
 |true=>
  rw [c,if_pos rfl] at h;have h2:=Option.some.inj h;exact ⟨(Prod.mk.inj h2).1.symm,rfl,(Prod.mk.inj h2).2⟩
 |false=>
  rw [c,if_neg (by simp)] at h;have h2:=Option.some.inj h;exact absurd (Prod.mk.inj h2).2 (by simp)
end Go.Proofs.Ytbaklikaoleplaa.Pure
