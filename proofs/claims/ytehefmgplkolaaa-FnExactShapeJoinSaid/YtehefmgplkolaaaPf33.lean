import Derived.Test.YtehefmgplkolaaaPf24
import Derived.Deep.Slices
import Derived.Deep.Fields
import Derived.ChangeSame
import Derived.ProofKit
import Derived.OpenShut
import Derived.ShutString
import Derived.ChangeOld
import Derived.SizedLaws
import Derived.Test.YtehefmgplkolaaaPf32
import Derived.Test.YtehefmgplkolaaaPf28
import Derived.Test.YtehefmgplkolaaaPf31
import Derived.Test.YtehefmgplkolaaaPf27
import Derived.Test.YtehefmgplkolaaaPf29
import Derived.Test.YtehefmgplkolaaaPf25
import Derived.Test.YtehefmgplkolaaaPf30
import Derived.Test.YtehefmgplkolaaaPf26
namespace Go.Proofs.Ytehefmgplkolaaa.K
open Go.RowKit Go.Proofs.YtehefmgplkolaaaW.PrintWords Go.Proofs.YtehefmgplkolaaaW.PrintLast Go.Proofs.YtehefmgplkolaaaW.PrintMore
attribute [local go_sem] max2_int min2_int max_two min_two max_three min_three max_four min_four
set_option linter.unusedVariables false
set_option linter.unusedSimpArgs false
section
open Go.ChangeShapes Go.WideShapes Go.ChangeAt Go.Deep
def Opens {H α:Type} (enc:TypeId×Value→H) (P:Program) (w:World) (d:Kd α) (G:α→Prop) (t:TypeId):Prop:=
  ∀(fuel:Nat) (cs:List Value) (x:DataW H×List MemPlace),DataW.trod enc P w 0 (fun _=>true) true fuel t cs=some x→∃a:α,d.K w a cs∧G a
variable {H α:Type} {enc:TypeId×Value→H} {P:Program} {w:World} {d:Kd α} {G:α→Prop} {t e:TypeId}
theorem opens_int {k:IntKind} (ht:P.underlying t=some (.int k)):Opens enc P w (Kd.int k) (fun n=>(Lit.int k n).wf=true) t:=by
 intro fuel cs x h;obtain ⟨n,rfl,_,hw⟩:=DataW.trod_int ht h;exact ⟨n,rfl,hw⟩
theorem opens_bool (ht:P.underlying t=some .bool):Opens enc P w Kd.bool (fun _=>True) t:=by
 intro fuel cs x h;obtain ⟨b,rfl,_⟩:=DataW.trod_bool ht h;exact ⟨b,rfl,trivial⟩
def GL (G:α→Prop) (xs:List α):Prop:=xs.length≤9223372036854775807∧∀x∈xs,G x
theorem list_of {Q : Nat → α → Prop} : ∀ n : Nat, (∀ i, i < n → ∃ p, Q i p) → ∃ xs : List α, xs.length = n ∧ ∀ i p, xs[i]? = some p → Q i p
  |0,_=>⟨[],rfl,fun i p h=>by simp at h⟩
  | n + 1, h => by
    obtain ⟨xs,hl,hx⟩:=list_of n (fun i hi=>h i (by omega));obtain ⟨p,hp⟩:=h n (by omega);refine ⟨xs++[p],by simp [hl],fun i q hq=>?_⟩;by_cases hi:i<n
    · rw [List.getElem?_append_left (by omega)] at hq
      exact hx i q hq
    · have : i = n := by
        have:=(List.getElem?_eq_some_iff.1 hq).1
        simp at this;omega
      subst this;rw [List.getElem?_append_right (by omega)] at hq;simp [hl] at hq
      subst hq;exact hp
theorem opens_slice (ht:P.underlying t=some (.slice e)) (hs:d.sz=P.cellsOf e) (he:Opens enc P w d G e):Opens enc P w (Kd.slice e d) (GL G) t:=by
 intro fuel cs x h;rcases open_slice ht h with ⟨rfl,_⟩|⟨a,len,cap,m,n,D,Pl,rfl,hb,hl,hm,hmm,hx,hi⟩
 ·exact ⟨[],⟨none,0,rfl,Nat.le_refl _,Kd.C_nil _ _⟩,by simp [GL]⟩
 ·have hmc : m = cap := by simpa using hmm
  obtain ⟨xs,hlen,hxs⟩:=list_of (Q:=fun i p=> ∃c,c.length=d.sz∧d.K w p c∧(∀j u,c[j]? =some u→w.cell? (a.add (i*d.sz+j))=some u)∧G p) len (fun i hil=>by
   obtain ⟨cs',hc,ht'⟩:=hi i (by omega);obtain ⟨p,hK,hG⟩:=he n cs' _ ht';obtain ⟨_,hcl,hat⟩:=World.cells?_some hc;refine ⟨p,cs',d.K_len hK,hK,fun j u hu=>?_,hG⟩;have hj:j<P.cellsOf e:=by rw [←hcl];exact (List.getElem?_eq_some_iff.1 hu).1
   have:=hat j hj
   rw [Go.Deep.add_add] at this
   rw [hs,this,hu])
  subst hlen;refine ⟨xs,⟨some a,cap,rfl,hl,rfl,?_,fun _=>⟨a,rfl,fun j p hj=>?_⟩⟩,?_,fun x hx=>?_⟩
  ·have : maxLen = 9223372036854775807 := rfl
   omega
  ·obtain ⟨c, h1, h2, h3, _⟩ := hxs j p hj
   exact ⟨c,h1,h2,h3⟩
  ·have : maxLen = 9223372036854775807 := rfl
   omega
  ·obtain ⟨i, hi', rfl⟩ := List.getElem_of_mem hx
   obtain ⟨c,_,_,_,hG⟩:=hxs i _ (List.getElem?_eq_getElem hi');exact hG
end
section
open Go.ChangeShapes Go.WideShapes Go.ChangeAt Go.Deep
def G45 (x:S45):Prop:=(fun n:Int=>(Lit.int .i64 n).wf=true) x.f0∧(GL (fun n:Int=>(Lit.int .i64 n).wf=true)) x.f1
set_option maxRecDepth 100000 in
theorem opens45 {H:Type} {enc:TypeId×Value→H} {w:World}:Opens enc Try.prog w k45 G45 45:=by
  intro fuel cs x h;obtain ⟨xs,n,rfl,hx,hl,hxs,hg⟩:=DataW.trod_struct Try.underlying45 h;have hl2:cs.length=2:=hl.trans (by kernel_rfl)
  clear hx hl h
  match cs,hl2,hg with
  | [c0, c1], _, hg =>
    have g0:=hg 0 _ rfl;obtain ⟨y0,e0⟩: ∃y,xs[0]? =some y:=⟨xs[0]'(by rw [hxs];decide),List.getElem?_eq_getElem _⟩;obtain ⟨a0,K0,G0_⟩:=(opens_int Try.underlying3) n _ _ (g0.trans e0);have g1:=hg 1 _ rfl;obtain ⟨y1,e1⟩: ∃y,xs[1]? =some y:=⟨xs[1]'(by rw [hxs];decide),List.getElem?_eq_getElem _⟩;obtain ⟨a1,K1,G1_⟩:=(opens_slice Try.underlying23 (by kernel_rfl) (opens_int Try.underlying3)) n _ _ (g1.trans e1);exact ⟨⟨a0,a1⟩,⟨[c0],[c1],rfl,K0,K1⟩,⟨G0_,G1_⟩⟩
def G25 (x:S25):Prop:=(fun _:Bool=>True) x.f0∧(GL (fun n:Int=>(Lit.int .i64 n).wf=true)) x.f1∧(GL (fun n:Int=>(Lit.int .i64 n).wf=true)) x.f2
set_option maxRecDepth 100000 in
theorem opens25 {H:Type} {enc:TypeId×Value→H} {w:World}:Opens enc Try.prog w k25 G25 25:=by
  intro fuel cs x h;obtain ⟨xs,n,rfl,hx,hl,hxs,hg⟩:=DataW.trod_struct Try.underlying25 h;have hl2:cs.length=3:=hl.trans (by kernel_rfl)
  clear hx hl h
  match cs,hl2,hg with
  | [c0, c1, c2], _, hg =>
    have g0:=hg 0 _ rfl;obtain ⟨y0,e0⟩: ∃y,xs[0]? =some y:=⟨xs[0]'(by rw [hxs];decide),List.getElem?_eq_getElem _⟩;obtain ⟨a0,K0,G0_⟩:=(opens_bool Try.underlying4) n _ _ (g0.trans e0);have g1:=hg 1 _ rfl;obtain ⟨y1,e1⟩: ∃y,xs[1]? =some y:=⟨xs[1]'(by rw [hxs];decide),List.getElem?_eq_getElem _⟩;obtain ⟨a1,K1,G1_⟩:=(opens_slice Try.underlying23 (by kernel_rfl) (opens_int Try.underlying3)) n _ _ (g1.trans e1);have g2:=hg 2 _ rfl;obtain ⟨y2,e2⟩: ∃y,xs[2]? =some y:=⟨xs[2]'(by rw [hxs];decide),List.getElem?_eq_getElem _⟩;obtain ⟨a2,K2,G2_⟩:=(opens_slice Try.underlying23 (by kernel_rfl) (opens_int Try.underlying3)) n _ _ (g2.trans e2);exact ⟨⟨a0,a1,a2⟩,⟨[c0],[c1,c2],rfl,K0,⟨[c1],[c2],rfl,K1,K2⟩⟩,⟨G0_,G1_,G2_⟩⟩
end
def laws_FnExactShapeJoin.Pure:Prop:= ∀(a0:List (S45)) (a1:S25) (a2:S25),(GL G45) a0→G25 a1→G25 a2→∃k,laws_FnExactShapeJoin.f k a0 a1.f0 a1.f1 a1.f2 a2.f0 a2.f1 a2.f2=some true
end Go.Proofs.Ytehefmgplkolaaa.K
namespace Go.Proofs.Ytehefmgplkolaaa.Pure
open Go.RowKit Go.Proofs.Ytehefmgplkolaaa.K Go.Proofs.YtehefmgplkolaaaW.PrintWords Go.Proofs.YtehefmgplkolaaaW.PrintLast Go.Proofs.YtehefmgplkolaaaW.PrintMore
set_option linter.unusedVariables false
set_option linter.unusedSimpArgs false
abbrev Cs:=List S48
def sup (cs:Cs) (c:Int):Int:=(rd_T48 cs c).f0
def flds (cs:Cs) (c:Int):List Int:=(rd_T48 cs c).f1
def fldOk (n t:Int):Bool:=decide (t=1∨t=3∨t=4∨(8≤t∧t<8+n))
def clsOk (cs : Cs) (i : Int) : Bool :=
  (flds cs i).all (fldOk cs.length)&&
    (if i=0 then decide (sup cs 0= -1∧flds cs 0=[]) else if i=1 then decide (sup cs 1=0∧flds cs 1=[1]) else decide ((0≤sup cs i∧sup cs i<i)∧(flds cs i).length≤2))
def csOk (cs:Cs):Bool:=decide (2≤cs.length∧cs.length≤5)&&(List.range cs.length).all (fun i:Nat=>clsOk cs i)
theorem csOk_len {cs:Cs} (h:csOk cs=true):2≤cs.length∧cs.length≤5:=by
  simp only [csOk,Bool.and_eq_true,decide_eq_true_eq] at h;exact h.1
theorem csOk_at {cs:Cs} (h:csOk cs=true) {i:Int} (h0:0≤i) (h1:i<cs.length):clsOk cs i=true:=by
 simp only [csOk,Bool.and_eq_true,decide_eq_true_eq,List.all_eq_true,List.mem_range] at h;have:=h.2 i.toNat (by omega)
 rwa [Int.toNat_of_nonneg h0] at this
theorem csOk_root {cs:Cs} (h:csOk cs=true):sup cs 0= -1∧flds cs 0=[]:=by
 have hl:=csOk_len h;have:=csOk_at h (i:=0) (by omega) (by omega)
 simp only [clsOk,if_true,Bool.and_eq_true,decide_eq_true_eq] at this;exact this.2
theorem csOk_sup {cs:Cs} (h:csOk cs=true) {i:Int} (h0:0<i) (h1:i<cs.length):0≤sup cs i∧sup cs i<i:=by
 have:=csOk_at h (i:=i) (by omega) h1
 simp only [clsOk,Bool.and_eq_true] at this;have h2:=this.2;rw [if_neg (by omega)] at h2;by_cases h3:i=1
 ·subst h3
  simp only [if_true,decide_eq_true_eq] at h2;omega
 ·rw [if_neg h3, decide_eq_true_eq] at h2
  exact h2.1
def upN (cs:Cs):Nat→Int→Int→Bool
  |0,a,b=>decide (a=b)
  |n+1,a,b=>decide (a=b)||(decide (0<a)&&upN cs n (sup cs a) b)
def up (cs:Cs) (a b:Int):Bool:=upN cs a.toNat a b
theorem upN_more {cs:Cs} (h:csOk cs=true): ∀(n:Nat) (a b:Int),0≤a→a<cs.length→a.toNat≤n→upN cs (n+1) a b=upN cs n a b
 |0,a,b,h0,h1,hn=>by
  have:a=0:=by omega
  subst this;simp [upN]
 | n + 1, a, b, h0, h1, hn => by
  have e1:upN cs (n+1+1) a b=(decide (a=b)||(decide (0<a)&&upN cs (n+1) (sup cs a) b)):=rfl
  have e2:upN cs (n+1) a b=(decide (a=b)||(decide (0<a)&&upN cs n (sup cs a) b)):=rfl
  rw [e1,e2];by_cases hp:0<a
  ·have hs := csOk_sup h hp h1
   rw [upN_more h n (sup cs a) b (by omega) (by omega) (by omega)]
  ·simp [hp]
theorem upN_eq {cs:Cs} (h:csOk cs=true) {a b:Int} (h0:0≤a) (h1:a<cs.length): ∀d:Nat,upN cs (a.toNat+d) a b=up cs a b
  |0=>rfl
  |d+1=>by rw [←Nat.add_assoc,upN_more h _ a b h0 h1 (by omega),upN_eq h h0 h1 d]
theorem up_step {cs:Cs} (h:csOk cs=true) {a:Int} (b:Int) (h0:0≤a) (h1:a<cs.length):up cs a b=(decide (a=b)||(decide (0<a)&&up cs (sup cs a) b)):=by
 rw [←upN_eq h h0 h1 1,upN];by_cases hp:0<a
 ·have hs := csOk_sup h hp h1
  have e:=upN_eq h (a:=sup cs a) (b:=b) hs.1 (by omega) (a.toNat - (sup cs a).toNat);rw [show (sup cs a).toNat+(a.toNat - (sup cs a).toNat)=a.toNat from by omega] at e;rw [e]
 ·simp [hp]
theorem up_refl (cs:Cs) (a:Int):up cs a a=true:=by
  unfold up
  cases a.toNat<;>simp [upN]
theorem cls_ind {cs:Cs} (h:csOk cs=true) {P:Int→Prop} (h00:P 0) (hs: ∀a:Int,0<a→a<cs.length→P (sup cs a)→P a): ∀a:Int,0≤a→a<cs.length→P a:=by
  suffices H: ∀(n:Nat) (a:Int),a.toNat≤n→0≤a→a<cs.length→P a from fun a h0 h1=>H a.toNat a (Nat.le_refl _) h0 h1
  intro n
  induction n with
  | zero => intro a hn h0 h1; have : a = 0 := by omega
            subst this;exact h00
  | succ n ih =>
    intro a hn h0 h1;by_cases hp:0<a
    · have := csOk_sup h hp h1
      exact hs a hp h1 (ih _ (by omega) (by omega) (by omega))
    · have : a = 0 := by omega
      subst this;exact h00
theorem up_le {cs:Cs} (h:csOk cs=true) {b:Int}: ∀a:Int,0≤a→a<cs.length→up cs a b=true→b≤a∧0≤b:=by
 refine cls_ind h ?_ ?_
 ·intro hu
  rw [up_step h b (by omega) (by have:=csOk_len h;omega)] at hu;simp at hu;omega
 ·intro a hp h1 ih hu
  have hs:=csOk_sup h hp h1;rw [up_step h b (by omega) h1] at hu;simp only [Bool.or_eq_true,decide_eq_true_eq,Bool.and_eq_true] at hu;rcases hu with hu|hu
  ·omega
  ·have:=ih hu.2;omega
theorem up_anti {cs:Cs} (h:csOk cs=true) {a b:Int} (ha:0≤a) (ha1:a<cs.length) (hb:0≤b) (hb1:b<cs.length) (h1:up cs a b=true) (h2:up cs b a=true):a=b:=by
 have:=up_le h a ha ha1 h1
 have:=up_le h b hb hb1 h2
 omega
theorem up_root {cs:Cs} (h:csOk cs=true): ∀a:Int,0≤a→a<cs.length→up cs a 0=true:=by
 refine cls_ind h (up_refl cs 0) ?_;intro a hp h1 ih;rw [up_step h 0 (by omega) h1,ih];simp [hp]
def marksI:Nat→Int→List Int
  |0,_=>[]
  |n+1,a=>a::marksI n (a+1)
theorem markIntS_l0 (d:Nat): ∀(k:Nat) (pre post:List Int) (a:Int),post.length=d→d<k→0≤a→a+d≤4611686018427387904→pre.length+d≤140737488355328→
  laws_markIntS.l0 k (pre++post) a (pre.length:Int)=some (a+d,pre++marksI d a):=by
 induction d with
 |zero=>
  intro k pre post a hd hk ha hb hc;obtain ⟨k,rfl⟩: ∃m,k=m+1:=⟨k - 1,by omega⟩;obtain rfl:post=[]:=List.eq_nil_of_length_eq_zero hd;simp only [laws_markIntS.l0]
  rw [if_neg (by simp)];simp [marksI]
 | succ d ih =>
  intro k pre post a hd hk ha hb hc;obtain ⟨k,rfl⟩: ∃m,k=m+1:=⟨k - 1,by omega⟩;obtain ⟨x,post,rfl⟩: ∃x t,post=x::t:=by cases post with|nil=>simp at hd|cons x t=>exact ⟨x,t,rfl⟩
  simp only [laws_markIntS.l0]
  simp only [List.length_cons] at hd;rw [if_pos (by simp only [List.length_append,List.length_cons];omega),if_pos (by omega),wrap_inc (n:=4611686018427387904) ha (by omega) (by omega),wrap_inc (n:=4611686018427387904) (by omega) (by omega) (by omega)]
  have e:(pre++x::post).set ((pre.length:Int).toNat) a=(pre++[a])++post:=by
   simp
  rw [e];have:=ih k (pre++[a]) post (a+1) (by omega) (by omega) (by omega) (by omega) (by simp;omega)
  rw [show ((pre.length:Int)+1)=(((pre++[a]).length:Nat):Int) from by simp,this];simp [marksI]
  omega
theorem markIntS_ev (xs:List Int) (a:Int) (ha:0≤a) (hb:a+xs.length≤4611686018427387904) (hc:xs.length≤140737488355328):
  Ev (fun k=>laws_markIntS.f k xs a) (a+xs.length,marksI xs.length a):=by
 refine Ev.of (k:=xs.length+1) (laws_markIntS.mono xs a) ?_;have:=markIntS_l0 xs.length (xs.length+1) [] xs a rfl (by omega) ha hb (by simpa using hc)
 simpa [laws_markIntS.f] using this
theorem heldIntS_l0 (d:Nat): ∀(k:Nat) (pre:List Int) (a:Int),d<k→0≤a→a+d≤4611686018427387904→pre.length+d≤140737488355328→
  laws_heldIntS.l0 k (pre++marksI d a) a (pre.length:Int)=some (a+d):=by
 induction d with
 |zero=>
  intro k pre a hk ha hb hc;obtain ⟨k,rfl⟩: ∃m,k=m+1:=⟨k - 1,by omega⟩;simp only [laws_heldIntS.l0,marksI,List.append_nil]
  rw [if_neg (by omega)];simp
 |succ d ih=>
  intro k pre a hk ha hb hc;obtain ⟨k,rfl⟩: ∃m,k=m+1:=⟨k - 1,by omega⟩;show laws_heldIntS.l0 (k+1) (pre++(a::marksI d (a+1))) a (pre.length:Int)=_
  simp only [laws_heldIntS.l0]
  rw [if_pos (by simp only [List.length_append,List.length_cons];omega),if_pos (by omega),wrap_inc (n:=4611686018427387904) ha (by omega) (by omega),wrap_inc (n:=4611686018427387904) (by omega) (by omega) (by omega),rd_cast,if_pos (by simp [List.getD_eq_getElem?_getD])];have:=ih k (pre++[a]) (a+1) (by omega) (by omega) (by omega) (by simp;omega)
  rw [show pre++a::marksI d (a+1)=(pre++[a])++marksI d (a+1) from by simp,show ((pre.length:Int)+1)=(((pre++[a]).length:Nat):Int) from by simp,this];simp;omega
theorem heldIntS_ev (n:Nat) (a:Int) (ha:0≤a) (hb:a+n≤4611686018427387904) (hc:n≤140737488355328):
  Ev (fun k=>laws_heldIntS.f k (marksI n a) a) (a+n):=by
 refine Ev.of (k:=n+1) (laws_heldIntS.mono _ a) ?_;have:=heldIntS_l0 n (n+1) [] a (by omega) ha hb (by simpa using hc)
 simpa [laws_heldIntS.f] using this
theorem mcs_ev: ∀(cs:Cs) (a:Int),0≤a→(∀c∈cs,c.f1.length≤1048576)→a+cs.length*1048577≤2305843009213693952→∃b,Ev (fun k=>mcs k cs a) b∧0≤b∧b≤a+cs.length*1048577
 |[],a,ha,_,_=>⟨a,Ev.now _,ha,by simp⟩
 |x::r,a,ha,hx,hb=>by
  have h1:=hx x (List.mem_cons_self ..);simp only [List.length_cons] at hb ⊢;obtain ⟨b,e,b0,b1⟩:=mcs_ev r (a+1+x.f1.length) (by omega) (fun c hc=>hx c (List.mem_cons_of_mem _ hc)) (by omega);refine ⟨b,?_,b0,by omega⟩;have w:wrap64 (a+1)=a+1:=wrap64_of (by omega) (by omega)
  have:=(markIntS_ev x.f1 (a+1) (by omega) (by omega) (by omega)).bind (f:=fun k p=>mcs k r p.1) e
  simpa only [mcs,w] using this
theorem eqIntS_l0 (xs ys:List Int) (hl:xs.length=ys.length) (hb:xs.length≤140737488355328) (d:Nat): ∀(k:Nat) (i:Nat),i≤xs.length→xs.length - i=d→d<k→
  laws_eqIntS.l0 k xs ys i=some (decide (xs.drop i=ys.drop i)):=by
 induction d with
 |zero=>
  intro k i hi hd hk;obtain ⟨k,rfl⟩: ∃m,k=m+1:=⟨k - 1,by omega⟩;have:i=xs.length:=by omega
  subst this;simp only [laws_eqIntS.l0]
  rw [if_neg (by omega)];simp [hl]
 | succ d ih =>
  intro k i hi hd hk;obtain ⟨k,rfl⟩: ∃m,k=m+1:=⟨k - 1,by omega⟩;simp only [laws_eqIntS.l0]
  rw [if_pos (by omega),if_pos (by omega),if_pos (by omega),wrap_inc (n:=xs.length) (by omega) (by omega) (by omega),rd_cast,rd_cast,drop_getD xs i 0 (by omega),drop_getD ys i 0 (by omega)];by_cases h:xs.getD i 0=ys.getD i 0
  ·rw [if_pos h]
   have:=ih k (i+1) (by omega) (by omega) (by omega)
   rw [show ((i:Int)+1)=((i+1:Nat):Int) from by omega,this];simp only [List.cons.injEq,h,true_and]
  ·rw [if_neg h]
   simp only [List.cons.injEq,h,false_and,decide_false]
theorem eqIntS_ev (xs ys:List Int) (hb:xs.length≤140737488355328):Ev (fun k=>laws_eqIntS.f k xs ys) (decide (xs=ys)):=by
 by_cases hl:xs.length=ys.length
 ·refine Ev.of (k := xs.length + 1) (laws_eqIntS.mono xs ys) ?_
  simp only [laws_eqIntS.f]
  rw [if_pos (by omega)];have:=eqIntS_l0 xs ys hl hb xs.length (xs.length+1) 0 (by omega) (by omega) (by omega)
  simpa using this
 ·refine Ev.of (k := 0) (laws_eqIntS.mono xs ys) ?_
  simp only [laws_eqIntS.f]
  rw [if_neg (by omega)];have:xs≠ys:=fun h=>hl (by rw [h])
  simp [this]
theorem spec_l6In_eq (a b c:Int):spec_l6In.f a b c=some (decide (b≤a∧a≤c)):=by
 unfold spec_l6In.f;by_cases h:a≥b
 ·rw [if_pos h];simp [show b≤a from h]
 ·rw [if_neg h];simp [show¬b≤a from h]
theorem all_drop (fs:List Int) (P:Int→Bool) (i:Nat) (h:i<fs.length):(fs.drop i).all P=(P (fs.getD i 0)&&(fs.drop (i+1)).all P):=by
  rw [drop_getD fs i 0 h,List.all_cons]
theorem spec_l2Field_eq (cs:Cs) (t:Int) (hl:cs.length≤1000):spec_l2Field.f cs t=some (fldOk cs.length t):=by
 unfold spec_l2Field.f fldOk;by_cases c1:t=1
 ·rw [if_pos c1];simp [c1]
 rw [if_neg c1];by_cases c2:t=3
 ·rw [if_pos c2];simp [c2]
 rw [if_neg c2];by_cases c3:t=4
 ·rw [if_pos c3];simp [c3]
 rw [if_neg c3,wrap64_of (n:=8+(cs.length:Int)) (by omega) (by omega),wrap64_of (by omega) (by omega),spec_l6In_eq];simp only [Option.bind_some,Option.some.injEq]
 rw [Bool.eq_iff_iff];simp only [decide_eq_true_eq];omega
def clsTail (cs:Cs) (i su:Int) (fs:List Int):Bool:=
  if i=0 then decide (su= -1∧fs=[]) else if i=1 then decide (su=0∧fs=[1]) else decide ((0≤su∧su<i)∧fs.length≤2)
theorem len_nil (fs:List Int):((fs.length:Int)==0)=decide (fs=[]):=by cases fs<;>simp;omega
theorem spec_l2Class_l0 (cs:Cs) (c su:Int) (fs:List Int) (hl:cs.length≤1000) (hf:fs.length≤140737488355328) (hc:0≤c∧c<1000) (d:Nat): ∀(k i:Nat),i≤fs.length→fs.length - i=d→d<k→
  spec_l2Class.l0 k cs c i su fs=some ((fs.drop i).all (fldOk cs.length)&&clsTail cs c su fs):=by
 induction d with
 | zero =>
  intro k i hi hd hk;obtain ⟨k,rfl⟩: ∃m,k=m+1:=⟨k - 1,by omega⟩;have:i=fs.length:=by omega
  subst this;simp only [spec_l2Class.l0]
  rw [if_neg (by omega),List.drop_length];simp only [List.all_nil,Bool.true_and]
  unfold clsTail;by_cases c0:c=0
  ·rw [if_pos c0, if_pos c0]
   by_cases s0:su= -1
   ·rw [if_pos s0,len_nil];simp [s0]
   ·rw [if_neg s0];simp [s0]
  rw [if_neg c0,if_neg c0];by_cases c1:c=1
  ·rw [if_pos c1, if_pos c1]
   by_cases s0:su=0
   ·rw [if_pos s0]
    by_cases l1:(fs.length:Int)=1
    ·rw [if_pos l1, if_pos (by omega)]
     obtain ⟨x,rfl⟩:=List.length_eq_one_iff.1 (show fs.length=1 by omega);by_cases e:x=1
     ·simp [rd,s0,e]
     ·simp [rd,s0,e]
    ·rw [if_neg l1]
     have:fs≠[1]:=fun e=>l1 (by rw [e];rfl)
     simp [this]
   ·rw [if_neg s0];simp [s0]
  rw [if_neg c1,if_neg c1,wrap64_of (by omega) (by omega),spec_l6In_eq];simp only [Option.bind_some,decide_eq_true_eq]
  by_cases z:0≤su∧su≤c - 1
  ·rw [if_pos z]
   congr 1
   rw [Bool.eq_iff_iff];simp only [decide_eq_true_eq];omega
  ·rw [if_neg z]
   congr 1
   rw [Bool.eq_iff_iff];simp only [decide_eq_true_eq,Bool.false_eq_true,false_iff];omega
 | succ d ih =>
  intro k i hi hd hk;obtain ⟨k,rfl⟩: ∃m,k=m+1:=⟨k - 1,by omega⟩;simp only [spec_l2Class.l0]
  rw [if_pos (by omega),if_pos (by omega),spec_l2Field_eq cs _ hl,rd_cast,all_drop fs _ i (by omega)];simp only [Option.bind_some]
  cases hq:fldOk cs.length (fs.getD i 0) with
  |false=>simp
  |true=>
   simp only [if_true,Bool.true_and]
   rw [wrap_inc (n:=fs.length) (by omega) (by omega) (by omega),show ((i:Int)+1)=((i+1:Nat):Int) from by omega];exact ih k (i+1) (by omega) (by omega) (by omega)
def fewF (cs:Cs):Prop:= ∀i:Int,(flds cs i).length≤1048576
theorem spec_l2Class_eq {cs:Cs} (hl:cs.length≤1000) (hf:fewF cs) {i:Int} (h0:0≤i) (h1:i<cs.length) (k:Nat) (hk:1048577≤k):spec_l2Class.f k cs i=some (clsOk cs i):=by
 unfold spec_l2Class.f;rw [if_pos h0,if_pos h1];have:=hf i
 have e:=spec_l2Class_l0 cs i (sup cs i) (flds cs i) hl (by omega) ⟨h0,by omega⟩ (flds cs i).length k 0 (by omega) (by omega) (by omega)
 have e2:spec_l2Class.l0 k cs i 0 (sup cs i) (flds cs i)=some (clsOk cs i):=by
  rw [show ((0:Nat):Int)=0 from rfl] at e;rw [e,List.drop_zero];unfold clsOk clsTail;by_cases c0:i=0
  ·subst c0;rfl
  by_cases c1:i=1
  ·subst c1;rfl
  rw [if_neg c0,if_neg c1,if_neg c0,if_neg c1]
 exact e2
theorem range_all_drop (n i:Nat) (P:Nat→Bool) (h:i<n):((List.range n).drop i).all P=(P i&&((List.range n).drop (i+1)).all P):=by
  rw [List.drop_eq_getElem_cons (by simpa using h),List.all_cons];simp
theorem spec_ClassesOk_l0 {cs:Cs} (hl:cs.length≤1000) (hf:fewF cs) (d:Nat): ∀(k i:Nat),i≤cs.length→cs.length - i=d→d+1048577≤k→
  spec_ClassesOk.l0 k cs i=some (((List.range cs.length).drop i).all (fun j:Nat=>clsOk cs j)):=by
 induction d with
 |zero=>
  intro k i hi hd hk;obtain ⟨k,rfl⟩: ∃m,k=m+1:=⟨k - 1,by omega⟩;have:i=cs.length:=by omega
  subst this;simp only [spec_ClassesOk.l0]
  rw [if_neg (by omega),List.drop_of_length_le (by simp)];rfl
 | succ d ih =>
  intro k i hi hd hk;obtain ⟨k,rfl⟩: ∃m,k=m+1:=⟨k - 1,by omega⟩;simp only [spec_ClassesOk.l0]
  rw [if_pos (by omega),spec_l2Class_eq hl hf (by omega) (by omega) k (by omega),range_all_drop _ _ _ (by omega)];simp only [Option.bind_some]
  cases hq:clsOk cs i with
  |false=>simp
  |true=>
   simp only [if_true,Bool.true_and]
   rw [wrap_inc (n:=cs.length) (by omega) (by omega) (by omega),show ((i:Int)+1)=((i+1:Nat):Int) from by omega];exact ih k (i+1) (by omega) (by omega) (by omega)
theorem spec_ClassesOk_eq {cs:Cs} (hf:fewF cs) (k:Nat) (hk:2000000≤k):spec_ClassesOk.f k cs=some (csOk cs):=by
 unfold spec_ClassesOk.f csOk;rw [spec_l6In_eq];simp only [Option.bind_some,decide_eq_true_eq]
 by_cases hl:(2:Int)≤cs.length∧(cs.length:Int)≤5
 ·rw [if_pos hl, show decide (2 ≤ cs.length ∧ cs.length ≤ 5) = true from decide_eq_true (by omega)]
  have:=spec_ClassesOk_l0 (cs:=cs) (by omega) hf cs.length k 0 (by omega) (by omega) (by omega)
  rw [show ((0:Nat):Int)=0 from rfl] at this;rw [this,List.drop_zero,Bool.true_and]
 ·rw [if_neg hl,show decide (2≤cs.length∧cs.length≤5)=false from decide_eq_false (by omega),Bool.false_and]
theorem impl_fieldType_eq (cs:Cs) (t:Int) (hl:cs.length≤1000):impl_fieldType.f cs.length t=some (fldOk cs.length t):=by
 unfold impl_fieldType.f kOk fldOk;rw [if_pos (by omega)]
 congr 1
 rw [Bool.eq_iff_iff];simp only [Bool.and_eq_true,decide_eq_true_eq];omega
def clsQ (cs:Cs) (i:Int):Bool:=(decide (i≤1)||decide (0≤sup cs i∧sup cs i<i))&&(decide ((flds cs i).length≤2)&&(flds cs i).all (fldOk cs.length))
theorem impl_ClassesOk_l1 (cs:Cs) (hl:cs.length≤1000) (i:Nat) (hi:i<1000) (fs:List Int) (hf:fs.length≤2) (R:Bool) (K:Nat) (hR: ∀k,K≤k→impl_ClassesOk.l0 k cs cs cs.length ((i+1:Nat):Int)=some R) (d:Nat): ∀(k j:Nat),j≤fs.length→fs.length - j=d→K+d+1≤k→
  impl_ClassesOk.l1 k cs cs cs.length i fs fs.length j=some ((fs.drop j).all (fldOk cs.length)&&R):=by
 induction d with
 |zero=>
  intro k j hj hd hk;obtain ⟨k,rfl⟩: ∃m,k=m+1:=⟨k - 1,by omega⟩;have:j=fs.length:=by omega
  subst this;simp only [impl_ClassesOk.l1]
  rw [if_neg (by omega),List.drop_length,wrap_inc (n:=1000) (by omega) (by omega) (by omega),show ((i:Int)+1)=((i+1:Nat):Int) from by omega,hR k (by omega)];simp
 | succ d ih =>
  intro k j hj hd hk;obtain ⟨k,rfl⟩: ∃m,k=m+1:=⟨k - 1,by omega⟩;simp only [impl_ClassesOk.l1]
  rw [if_pos (by omega),if_pos (by omega),if_pos (by omega),rd_cast,impl_fieldType_eq cs _ hl,all_drop fs _ j (by omega)];simp only [Option.bind_some]
  cases hq:fldOk cs.length (fs.getD j 0) with
  |false=>simp
  |true=>
   simp only [if_true,Bool.true_and]
   rw [wrap_inc (n:=fs.length) (by omega) (by omega) (by omega),show ((j:Int)+1)=((j+1:Nat):Int) from by omega];exact ih k (j+1) (by omega) (by omega) (by omega)
theorem impl_ClassesOk_l0 (cs:Cs) (hl:cs.length≤5) (d:Nat): ∀(i:Nat),i≤cs.length→cs.length - i=d→∀k,10*d+10≤k→
  impl_ClassesOk.l0 k cs cs cs.length i=some (((List.range cs.length).drop i).all (fun j:Nat=>clsQ cs j)):=by
 induction d with
 |zero=>
  intro i hi hd k hk;obtain ⟨k,rfl⟩: ∃m,k=m+1:=⟨k - 1,by omega⟩;have:i=cs.length:=by omega
  subst this;simp only [impl_ClassesOk.l0]
  rw [if_neg (by omega),List.drop_of_length_le (by simp)];rfl
 | succ d ih =>
  intro i hi hd k hk;obtain ⟨k,rfl⟩: ∃m,k=m+1:=⟨k - 1,by omega⟩;obtain ⟨k,rfl⟩: ∃m,k=m+1:=⟨k - 1,by omega⟩;rw [range_all_drop _ _ _ (by omega)]
  have hj:impl_ClassesOk.j4 (k+1) cs cs cs.length i false (sup cs i) (flds cs i)=some (decide ((flds cs i).length≤2)&&((flds cs i).all (fldOk cs.length)&&((List.range cs.length).drop (i+1)).all (fun j:Nat=>clsQ cs j))):=by
   simp only [impl_ClassesOk.j4]
   rw [if_neg (by simp)];by_cases h2:((flds cs i).length:Int)>2
   ·rw [if_pos h2,decide_eq_false (by omega)];rfl
   ·rw [if_neg h2, decide_eq_true (show (flds cs i).length ≤ 2 by omega), Bool.true_and]
    have:=impl_ClassesOk_l1 cs (by omega) i (by omega) (flds cs i) (by omega) _ (10*d+10) (fun k hk=>ih (i+1) (by omega) (by omega) k hk) (flds cs i).length k 0 (by omega) (by omega) (by omega)
    rw [show ((0:Nat):Int)=0 from rfl,List.drop_zero] at this;exact this
  have hjt:impl_ClassesOk.j4 (k+1) cs cs cs.length i true (sup cs i) (flds cs i)=some false:=by simp [impl_ClassesOk.j4]
  simp only [impl_ClassesOk.l0]
  rw [if_pos (by omega),if_pos (by omega),if_pos (by omega)];rw [show (rd_T48 cs (i:Int)).f0=sup cs i from rfl,show (rd_T48 cs (i:Int)).f1=flds cs i from rfl];have hQ:clsQ cs i=((decide ((i:Int)≤1)||decide (0≤sup cs i∧sup cs i<i))&&(decide ((flds cs i).length≤2)&&(flds cs i).all (fldOk cs.length))):=rfl
  rw [hQ];generalize ((List.range cs.length).drop (i+1)).all (fun j:Nat=>clsQ cs j)=T at*;by_cases h1:(i:Int)>1
  ·rw [if_pos h1]
   by_cases hs:sup cs i<0
   ·rw [if_pos hs,hjt,decide_eq_false (show¬(i:Int)≤1 by omega),decide_eq_false (show¬(0≤sup cs i∧sup cs i<i) by omega)];rfl
   ·rw [if_neg hs]
    by_cases hs2:sup cs i≥i
    ·rw [decide_eq_true hs2,hjt,decide_eq_false (show¬(i:Int)≤1 by omega),decide_eq_false (show¬(0≤sup cs i∧sup cs i<i) by omega)];rfl
    ·rw [decide_eq_false hs2, hj, decide_eq_true (show (0 ≤ sup cs i ∧ sup cs i < i) by omega)]
     simp [Bool.and_assoc]
  ·rw [if_neg h1, hj, decide_eq_true (show (i : Int) ≤ 1 by omega)]
   simp [Bool.and_assoc]
theorem impl_ClassesOk_eq (cs:Cs) (k:Nat) (hk:1000≤k):impl_ClassesOk.f k cs=some (csOk cs):=by
 obtain ⟨k,rfl⟩: ∃m,k=m+1:=⟨k - 1,by omega⟩;obtain ⟨k,rfl⟩: ∃m,k=m+1:=⟨k - 1,by omega⟩;obtain ⟨k,rfl⟩: ∃m,k=m+1:=⟨k - 1,by omega⟩;unfold impl_ClassesOk.f;by_cases h2:(cs.length:Int)<2
 ·rw [if_pos h2]
  simp only [impl_ClassesOk.j0,if_true]
  unfold csOk;rw [decide_eq_false (by omega),Bool.false_and]
 rw [if_neg h2];by_cases h5:(cs.length:Int)>5
 ·rw [decide_eq_true h5]
  simp only [impl_ClassesOk.j0,if_true]
  unfold csOk;rw [decide_eq_false (by omega),Bool.false_and]
 rw [decide_eq_false h5]
 have no: ∀i:Int,0≤i→i<cs.length→clsOk cs i=false→csOk cs=false:=by
  intro i h0 h1 hc
  cases hq:csOk cs with
  |false=>rfl
  |true=>rw [csOk_at hq h0 h1] at hc;cases hc
 simp only [impl_ClassesOk.j0,Bool.false_eq_true,if_false]
 rw [if_pos (by omega)];rw [show (rd_T48 cs 0).f0=sup cs 0 from rfl,show (rd_T48 cs 0).f1=flds cs 0 from rfl];by_cases r0:sup cs 0= -1
 case neg=>
  rw [if_neg r0];simp only [impl_ClassesOk.j1,if_true]
  rw [no 0 (by omega) (by omega) (by unfold clsOk;simp [r0])]
 rw [if_pos r0];by_cases f0:flds cs 0=[]
 case neg=>
  have:(((flds cs 0).length:Int) !=0)=true:=by
   cases hq:flds cs 0 with
   |nil=>exact absurd hq f0
   |cons x t=>simp;omega
  rw [this];simp only [impl_ClassesOk.j1,if_true]
  rw [no 0 (by omega) (by omega) (by unfold clsOk;simp [f0])]
 rw [show (((flds cs 0).length:Int) !=0)=false by rw [f0];rfl];simp only [impl_ClassesOk.j1,Bool.false_eq_true,if_false]
 rw [if_pos (by omega)];rw [show (rd_T48 cs 1).f0=sup cs 1 from rfl,show (rd_T48 cs 1).f1=flds cs 1 from rfl];have n1: ¬(sup cs 1=0∧flds cs 1=[1])→csOk cs=false:=fun z=>no 1 (by omega) (by omega) (by unfold clsOk;rw [if_neg (by omega),if_pos rfl,decide_eq_false z,Bool.and_false])
 by_cases r1:sup cs 1=0
 case neg=>
  rw [if_neg r1];simp only [impl_ClassesOk.j2,if_true]
  rw [n1 (fun z=>r1 z.1)]
 rw [if_pos r1];by_cases l1:((flds cs 1).length:Int)=1
 case neg=>
  rw [if_neg l1];simp only [impl_ClassesOk.j2,if_true]
  rw [n1 (fun z=>l1 (by rw [z.2];rfl))]
 rw [if_pos l1,if_pos (by omega)];obtain ⟨x,hx⟩:=List.length_eq_one_iff.1 (show (flds cs 1).length=1 by omega);by_cases e1:x=1
 case neg=>
  rw [show (rd (flds cs 1) 0 !=1)=true by rw [hx];simp [rd,e1]];simp only [impl_ClassesOk.j2,if_true]
  rw [n1 (fun z=>e1 (by rw [hx] at z;simpa using z.2))]
 rw [show (rd (flds cs 1) 0 !=1)=false by rw [hx];simp [rd,e1]];simp only [impl_ClassesOk.j2,Bool.false_eq_true,if_false]
 have:=impl_ClassesOk_l0 cs (by omega) cs.length 0 (by omega) (by omega) k (by omega)
 rw [show ((0:Nat):Int)=0 from rfl,List.drop_zero] at this;rw [this]
 congr 1
 unfold csOk;rw [decide_eq_true (show 2≤cs.length∧cs.length≤5 by omega),Bool.true_and,Bool.eq_iff_iff];simp only [List.all_eq_true,List.mem_range]
 refine forall_congr' fun i=>forall_congr' fun hi=>?_
 unfold clsQ clsOk;simp only [Bool.and_eq_true,Bool.or_eq_true,decide_eq_true_eq]
 by_cases i0:(i:Int)=0
 ·rw [i0,if_pos rfl,decide_eq_true_eq,r0,f0];simp
 by_cases i1:(i:Int)=1
 ·rw [i1,if_neg (by omega),if_pos rfl,decide_eq_true_eq,r1,hx,e1];simp
 rw [if_neg i0,if_neg i1,decide_eq_true_eq]
 constructor
 ·rintro ⟨h1 | h1, h3, h4⟩
  ·omega
  ·exact ⟨h4,h1,h3⟩
 ·rintro ⟨h4, h1, h3⟩
  exact ⟨Or.inr h1,h3,h4⟩
abbrev Ls:=List S45
def toC (c:S45):S48:=⟨c.f0,c.f1⟩
def toCs (l:Ls):Cs:=l.map toC
theorem toIntS_l0 (d:Nat): ∀(k:Nat) (pre post:List Int) (xs:List Int),xs.length=pre.length+post.length→xs.take pre.length=pre→post.length=d→d<k→pre.length+d≤140737488355328→
  laws_toIntS.l0 k xs (pre++post) (pre.length:Int)=some xs:=by
 induction d with
 |zero=>
  intro k pre post xs hl ht hd hk hc;obtain ⟨k,rfl⟩: ∃m,k=m+1:=⟨k - 1,by omega⟩;obtain rfl:post=[]:=List.eq_nil_of_length_eq_zero hd;simp only [laws_toIntS.l0]
  simp only [List.length_nil,Nat.add_zero] at hl;rw [if_neg (by omega)];rw [←hl,List.take_length] at ht;rw [ht];simp
 | succ d ih =>
  intro k pre post xs hl ht hd hk hc;obtain ⟨k,rfl⟩: ∃m,k=m+1:=⟨k - 1,by omega⟩;obtain ⟨x,post,rfl⟩: ∃x t,post=x::t:=by cases post with|nil=>simp at hd|cons x t=>exact ⟨x,t,rfl⟩
  simp only [List.length_cons] at hl hd;simp only [laws_toIntS.l0]
  rw [if_pos (by omega),if_pos (by omega),if_pos (by simp only [List.length_append,List.length_cons];omega),wrap_inc (n:=4611686018427387904) (by omega) (by omega) (by omega)];have e:(pre++x::post).set ((pre.length:Int).toNat) (rd xs pre.length)=(pre++[rd xs pre.length])++post:=by simp
  rw [e]
  have:=ih k (pre++[rd xs pre.length]) post xs (by simp only [List.length_append,List.length_cons,List.length_nil];omega) (by
   rw [List.length_append,List.length_singleton,List.take_succ_eq_append_getElem (by omega),ht,rd_cast]
   simp [List.getD_eq_getElem?_getD,show pre.length<xs.length by omega]) (by omega) (by omega) (by simp only [List.length_append,List.length_cons,List.length_nil];omega)
  rw [show ((pre.length:Int)+1)=(((pre++[rd xs pre.length]).length:Nat):Int) from by simp,this]
theorem toIntS_eq (xs:List Int) (hx:xs.length≤35184372088832) (k:Nat) (hk:xs.length<k):laws_toIntS.f k xs=some xs:=by
 unfold laws_toIntS.f;rw [if_pos (by omega),if_pos (by omega),Int.toNat_natCast];have:=toIntS_l0 xs.length k [] (List.replicate xs.length 0) xs (by simp) (by simp) (by simp) hk (by simp;omega)
 simpa using this
def fewL (l:Ls):Prop:= ∀c∈l,c.f1.length≤1048576
theorem toClassS_l0 (d:Nat): ∀(k:Nat) (l:Ls) (pre:Cs) (post:Cs),l.length=pre.length+post.length→(l.take pre.length).map toC=pre→post.length=d→d+1048578≤k→fewL l→pre.length+d≤140737488355328→
  laws_toClassS.l0 k l (pre++post) (pre.length:Int)=some (toCs l):=by
 induction d with
 |zero=>
  intro k l pre post hl ht hd hk hf hc;obtain ⟨k,rfl⟩: ∃m,k=m+1:=⟨k - 1,by omega⟩;obtain rfl:post=[]:=List.eq_nil_of_length_eq_zero hd;simp only [laws_toClassS.l0]
  simp only [List.length_nil,Nat.add_zero] at hl;rw [if_neg (by omega)];rw [←hl,List.take_length] at ht;unfold toCs;rw [ht];simp
 | succ d ih =>
  intro k l pre post hl ht hd hk hf hc;obtain ⟨k,rfl⟩: ∃m,k=m+1:=⟨k - 1,by omega⟩;obtain ⟨x,post,rfl⟩: ∃x t,post=x::t:=by cases post with|nil=>simp at hd|cons x t=>exact ⟨x,t,rfl⟩
  simp only [List.length_cons] at hl hd;have hlt:pre.length<l.length:=by omega
  have hrd:rd_T45 l pre.length=l[pre.length]:=by simp [rd_T45,List.getD_eq_getElem?_getD,hlt]
  have hfl:=hf l[pre.length] (List.getElem_mem _);simp only [laws_toClassS.l0,laws_toClass.f]
  rw [if_pos (by omega),if_pos (by omega),hrd,toIntS_eq _ (by omega) k (by omega)];simp only [Option.bind_some]
  rw [if_pos (by simp only [List.length_append,List.length_cons];omega),wrap_inc (n:=4611686018427387904) (by omega) (by omega) (by omega)];have e:(pre++x::post).set ((pre.length:Int).toNat) (toC l[pre.length])=(pre++[toC l[pre.length]])++post:=by simp
  show laws_toClassS.l0 k l ((pre++x::post).set ((pre.length:Int).toNat) (toC l[pre.length])) _=_
  rw [e]
  have:=ih k l (pre++[toC l[pre.length]]) post (by simp only [List.length_append,List.length_cons,List.length_nil];omega) (by
   rw [List.length_append,List.length_singleton,List.take_succ_eq_append_getElem hlt,List.map_append,ht];simp) (by omega) (by omega) hf (by simp only [List.length_append,List.length_cons,List.length_nil];omega)
  rw [show ((pre.length:Int)+1)=(((pre++[toC l[pre.length]]).length:Nat):Int) from by simp,this]
theorem toClassS_eq (l:Ls) (hf:fewL l) (hl:l.length≤1048576) (k:Nat) (hk:4000000≤k):laws_toClassS.f k l=some (toCs l):=by
 unfold laws_toClassS.f;rw [if_pos (by omega),if_pos (by omega),Int.toNat_natCast];have:=toClassS_l0 l.length k l [] (List.replicate l.length z48) (by simp) (by simp) (by simp) (by omega) hf (by simp;omega)
 simpa using this
theorem szIntS_eq (xs:List Int) (a:Int) (h:xs.length≤9223372036854775807) (ha:0≤a∧a≤1048576):laws_szIntS.f xs a=some (if (xs.length:Int)≤a then a - xs.length else -1):=by
 unfold laws_szIntS.f;rw [wrap64_of (by omega) (by omega)];by_cases q:(xs.length:Int)≤a
 ·rw [if_neg (by omega),if_pos q]
 ·rw [if_pos (by omega),if_neg q]
theorem szClass_eq (s:Int) (xs:List Int) (a:Int) (h:xs.length≤9223372036854775807) (ha:0≤a∧a≤1048576):laws_szClass.f s xs a=some (if (xs.length:Int)≤a then a - xs.length else -1):=by
 unfold laws_szClass.f;rw [szIntS_eq xs a h ha];simp only [Option.bind_some]
 split
 ·rw [if_neg (by omega)]
 ·rw [if_pos (by omega)]
theorem szClassS_l0 (l:Ls) (hg: ∀c∈l,c.f1.length≤9223372036854775807) (hl:l.length≤1048576) (d:Nat): ∀(i:Nat) (a:Int) (k:Nat),i≤l.length→l.length - i=d→0≤a∧a≤1048576→d<k→
  ∃r,laws_szClassS.l0 k l a i=some r∧r≤1048576∧(0≤r→∀j:Nat,i≤j→∀c,l[j]? =some c→c.f1.length≤1048576):=by
 induction d with
 |zero=>
  intro i a k hi hd ha hk;obtain ⟨k,rfl⟩: ∃m,k=m+1:=⟨k - 1,by omega⟩;refine ⟨a,?_,ha.2,fun _ j hj c hc=>?_⟩
  ·simp only [laws_szClassS.l0];rw [if_neg (by omega)]
  ·have:=(List.getElem?_eq_some_iff.1 hc).1;omega
 | succ d ih =>
  intro i a k hi hd ha hk;obtain ⟨k,rfl⟩: ∃m,k=m+1:=⟨k - 1,by omega⟩;have hlt:i<l.length:=by omega
  have hrd:rd_T45 l i=l[i]:=by simp [rd_T45,List.getD_eq_getElem?_getD,hlt]
  simp only [laws_szClassS.l0]
  rw [if_pos (by omega),if_pos (by omega),hrd,szClass_eq _ _ a (hg _ (List.getElem_mem _)) ha];simp only [Option.bind_some]
  by_cases q:(l[i].f1.length:Int)≤a
  ·rw [if_pos q, if_neg (by omega), wrap_inc (n := l.length) (by omega) (by omega) (by omega)]
   obtain ⟨r,h1,h2,h3⟩:=ih (i+1) (a - l[i].f1.length) k (by omega) (by omega) (by omega) (by omega);refine ⟨r,by rw [show ((i:Int)+1)=((i+1:Nat):Int) from by omega];exact h1,h2,fun hr j hj c hc=>?_⟩;by_cases e:j=i
   ·subst e
    rw [List.getElem?_eq_getElem hlt] at hc;obtain rfl:=Option.some.inj hc;omega
   ·exact h3 hr j (by omega) c hc
  ·rw [if_neg q, if_pos (by omega)]
   exact ⟨-1,rfl,by omega,fun hr=>by omega⟩
theorem szClassS_eq (l:Ls) (hg:GL G45 l) (k:Nat) (hk:1048578≤k): ∃r,laws_szClassS.f k l 1048576=some r∧r≤1048576∧(0≤r→l.length≤1048576∧fewL l):=by
 unfold laws_szClassS.f;have h1:=hg.1;rw [wrap64_of (by omega) (by omega)];by_cases q:(1048576:Int) - l.length<0
 ·rw [if_pos q];exact ⟨-1,rfl,by omega,fun h=>by omega⟩
 ·rw [if_neg q]
  obtain ⟨r,h2,h3,h4⟩:=szClassS_l0 l (fun c hc=>(hg.2 c hc).2.1) (by omega) l.length 0 (1048576 - l.length) k (by omega) (by omega) (by omega) (by omega);refine ⟨r,h2,h3,fun hr=>⟨by omega,fun c hc=>?_⟩⟩;obtain ⟨j,hj,rfl⟩:=List.getElem_of_mem hc;exact h4 hr j (by omega) _ (List.getElem?_eq_getElem hj)
theorem fewF_of {l:Ls} (h:fewL l):fewF (toCs l):=by
 intro i;unfold flds rd_T48 toCs;rw [List.getD_eq_getElem?_getD,List.getElem?_map]
 cases hq:l[i.toNat]? with
 |none=>simp [z48]
 |some c=>simpa [toC] using h c (List.mem_of_getElem? hq)
theorem eqClassS_l0 (cs:Cs) (hf:fewF cs) (hl:cs.length≤1048576) (d:Nat): ∀(i k:Nat),i≤cs.length→cs.length - i=d→d+1048578≤k→laws_eqClassS.l0 k cs cs i=some true:=by
 induction d with
 |zero=>
  intro i k hi hd hk;obtain ⟨k,rfl⟩: ∃m,k=m+1:=⟨k - 1,by omega⟩;simp only [laws_eqClassS.l0];rw [if_neg (by omega)]
 | succ d ih =>
  intro i k hi hd hk;obtain ⟨k,rfl⟩: ∃m,k=m+1:=⟨k - 1,by omega⟩;simp only [laws_eqClassS.l0,laws_eqClass.f]
  have hq:=hf i;have e:=eqIntS_l0 (flds cs i) (flds cs i) rfl (by omega) (flds cs i).length k 0 (by omega) (by omega) (by omega)
  have e2:laws_eqIntS.f k (rd_T48 cs i).f1 (rd_T48 cs i).f1=some true:=by
   unfold laws_eqIntS.f;rw [if_pos rfl];exact e.trans (by simp)
  rw [if_pos (by omega),if_pos (by omega),if_pos (by omega)];simp only [if_true,e2,Option.bind_some]
  rw [wrap_inc (n:=cs.length) (by omega) (by omega) (by omega),show ((i:Int)+1)=((i+1:Nat):Int) from by omega];exact ih (i+1) k (by omega) (by omega) (by omega)
theorem eqClassS_self (cs:Cs) (hf:fewF cs) (hl:cs.length≤1048576) (k:Nat) (hk:4000000≤k):laws_eqClassS.f k cs cs=some true:=by
 unfold laws_eqClassS.f;rw [if_pos rfl];exact eqClassS_l0 cs hf hl cs.length 0 k (by omega) (by omega) (by omega)
theorem evfrom {α:Type} {f:Nat→Option α} {r:α} (K:Nat) (h: ∀k,K≤k→f k=some r):Ev f r:=⟨K,h⟩
theorem evsome {α β:Type} {a:α} {f:α→Nat→Option β} {r:β} (h:Ev (f a) r):Ev (fun k=>(some a).bind fun x=>f x k) r:=h
abbrev Shs:=S25
theorem toShape_ev (M:Shs) (h1:M.f1.length≤1048576) (h2:M.f2.length≤1048576):Ev (fun k=>laws_toShape.f k M.f0 M.f1 M.f2) (M.f0,M.f1,M.f2):=by
 refine evfrom 1048577 (fun k hk=>?_);unfold laws_toShape.f;rw [toIntS_eq M.f1 (by omega) k (by omega),Option.bind_some,toIntS_eq M.f2 (by omega) k (by omega),Option.bind_some]
theorem szShape_eq (a:Bool) (L S:List Int) (r:Int) (g1:L.length≤9223372036854775807) (g2:S.length≤9223372036854775807) (hr:0≤r∧r≤1048576): ∃q,laws_szShape.f a L S r=some q∧q≤r∧(0≤q→L.length≤1048576∧S.length≤1048576):=by
 unfold laws_szShape.f;rw [szIntS_eq L r g1 hr,Option.bind_some];by_cases c1:(L.length:Int)≤r
 ·rw [if_pos c1, if_neg (by omega), szIntS_eq S _ g2 (by omega), Option.bind_some]
  by_cases c2:(S.length:Int)≤r - L.length
  ·rw [if_pos c2, if_neg (by omega)]
   exact ⟨_,rfl,by omega,fun _=>by omega⟩
  ·rw [if_neg c2, if_pos (by omega)]
   exact ⟨_,rfl,by omega,fun h=>absurd h (by decide)⟩
 ·rw [if_neg c1, if_pos (by omega)]
  exact ⟨_,rfl,by omega,fun h=>absurd h (by decide)⟩
theorem smallS_ev (l:Ls) (M1 M2:Shs) (hl:GL G45 l) (h1:G25 M1) (h2:G25 M2) {f:Nat→Option Bool}
  (h:l.length≤1048576→fewL l→M1.f1.length≤1048576→M1.f2.length≤1048576→M2.f1.length≤1048576→M2.f2.length≤1048576→Ev f true):
  Ev (fun k=>(laws_szClassS.f k l 1048576).bind fun t=>if t<0 then some true else ((laws_szShape.f M1.f0 M1.f1 M1.f2 t).bind fun t2=>if t2<0 then some true else ((laws_szShape.f M2.f0 M2.f1 M2.f2 t2).bind fun t3=>if t3<0 then some true else f k))) true:=by
 obtain ⟨r,hr,r1,r2⟩:=szClassS_eq l hl 1048578 (Nat.le_refl _);have e1: ∀k,1048578≤k→laws_szClassS.f k l 1048576=some r:=fun k hk=>at_rounds (g:=fun k=>laws_szClassS.f k l 1048576) (fun k=>laws_szClassS.mono l 1048576 k) hk hr
 refine (evfrom 1048578 e1).bind ?_;by_cases c:r<0
 ·exact evp c (Ev.now _)
 refine evn c ?_;obtain ⟨q1,q2⟩:=r2 (by omega);obtain ⟨t2,e2,s1,s2⟩:=szShape_eq M1.f0 M1.f1 M1.f2 r h1.2.1.1 h1.2.2.1 (by omega);rw [e2];refine evsome ?_;by_cases c2:t2<0
 ·exact evp c2 (Ev.now _)
 refine evn c2 ?_;obtain ⟨t3,e3,s3,s4⟩:=szShape_eq M2.f0 M2.f1 M2.f2 t2 h2.2.1.1 h2.2.2.1 (by omega);rw [e3];refine evsome ?_;by_cases c3:t3<0
 ·exact evp c3 (Ev.now _)
 refine evn c3 ?_;have u1:=s2 (by omega);have u2:=s4 (by omega);exact h q1 q2 u1.1 u1.2 u2.1 u2.2
theorem eqShape_ev (a:Bool) (L S:List Int) (h1:L.length≤1048576) (h2:S.length≤1048576):Ev (fun k=>laws_eqShape.f k a L S a L S) true:=by
 unfold laws_eqShape.f;refine evn (by simp) ?_;have e1:=eqIntS_ev L L (by omega);have e2:=eqIntS_ev S S (by omega);simp only [decide_true] at e1 e2;refine e1.bind ?_;refine evp rfl ?_;refine e2.bind ?_;exact evp rfl (Ev.now _)
theorem markShape_ev (a:Bool) (L S:List Int) (x:Int) (h0:0≤x) (hx:x≤2305843009213693952) (h1:L.length≤1048576) (h2:S.length≤1048576):Ev (fun k=>laws_markShape.f k a L S x) (x+L.length+S.length,marksI L.length x,marksI S.length (x+L.length)):=by
 unfold laws_markShape.f;refine (markIntS_ev L x h0 (by omega) (by omega)).bind ?_;refine (markIntS_ev S (x+L.length) (by omega) (by omega) (by omega)).bind ?_;exact Ev.now _
theorem heldShape_ev (a:Bool) (n m:Nat) (x:Int) (h0:0≤x) (hx:x≤2305843009213693952) (h1:n≤1048576) (h2:m≤1048576):Ev (fun k=>laws_heldShape.f k a (marksI n x) (marksI m (x+n)) x) (x+n+m):=by
 unfold laws_heldShape.f;refine (heldIntS_ev n x h0 (by omega) (by omega)).bind ?_;refine evn (by omega) ?_;refine (heldIntS_ev m (x+n) (by omega) (by omega) (by omega)).bind ?_;exact evn (by omega) (Ev.now _)
theorem rd_mem {xs:List Int} {i:Nat} (h:i<xs.length):rd xs (i:Int)=xs[i]:=by
  rw [rd_cast,List.getD_eq_getElem?_getD,List.getElem?_eq_getElem h];rfl
theorem impl_classUp_eq {cs:Cs} (h:csOk cs=true) (b:Int): ∀a:Int,0≤a→a<cs.length→∀k:Nat,a.toNat+2≤k→impl_classUp.f k cs a b=some (up cs a b):=by
 have hl:=csOk_len h;refine cls_ind h ?_ ?_
 ·intro k hk
  obtain ⟨k,rfl⟩: ∃m,k=m+1:=⟨k - 1,by omega⟩;obtain ⟨k,rfl⟩: ∃m,k=m+1:=⟨k - 1,by omega⟩;simp only [impl_classUp.f,impl_classUp.l0]
  rw [if_pos (by omega),up_step h b (by omega) (by omega)];by_cases hb:(0:Int)=b
  ·rw [if_pos hb];simp [hb]
  ·rw [if_neg hb, if_pos (by omega), if_pos (by omega), show (rd_T48 cs 0).f0 = -1 from (csOk_root h).1, if_neg (by omega)]
   simp [hb]
 ·intro a hp h1 ih k hk
  obtain ⟨k,rfl⟩: ∃m,k=m+1:=⟨k - 1,by omega⟩;have hs:=csOk_sup h hp h1;simp only [impl_classUp.f,impl_classUp.l0]
  rw [if_pos (by omega),up_step h b (by omega) h1];by_cases hb:a=b
  ·rw [if_pos hb];simp [hb]
  ·rw [if_neg hb, if_pos (by omega), if_pos (by omega)]
   have:=ih k (by omega)
   simp only [impl_classUp.f] at this;rw [show (rd_T48 cs a).f0=sup cs a from rfl,this];simp [hb,hp]
theorem spec_l2Up_eq {cs : Cs} (h : csOk cs = true) {b : Int} (hb : 0 ≤ b) : ∀ a : Int, 0 ≤ a → a < cs.length → ∀ k : Nat, a.toNat + 1 ≤ k → spec_l2Up.f k cs a b = some (up cs a b) := by
  have hl:=csOk_len h;refine cls_ind h ?_ ?_
  · intro k hk
    obtain ⟨k,rfl⟩: ∃m,k=m+1:=⟨k - 1,by omega⟩;simp only [spec_l2Up.f,spec_l2Up.l0]
    rw [if_neg (by omega),up_step h b (by omega) (by omega)];by_cases e:(0:Int)=b
    · simp [e]
    · simp [e]
  · intro a hp h1 ih k hk
    obtain ⟨k,rfl⟩: ∃m,k=m+1:=⟨k - 1,by omega⟩;have hs:=csOk_sup h hp h1;simp only [spec_l2Up.f,spec_l2Up.l0]
    rw [up_step h b (by omega) h1];by_cases hab:a>b
    · rw [if_pos hab, if_pos (by omega), if_pos (by omega)]
      have:=ih k (by omega)
      simp only [spec_l2Up.f] at this;rw [show (rd_T48 cs a).f0=sup cs a from rfl,this];simp [hp,show¬a=b from by omega]
    · rw [if_neg hab]
      by_cases e:a=b
      · simp [e]
      · have hno : up cs (sup cs a) b = false := by
          cases hq:up cs (sup cs a) b with
          |false=>rfl
          |true=>have:=up_le h _ hs.1 (by omega) hq;omega
        rw [hno];simp [e]
def tOk (cs:Cs) (t:Int):Prop:=(0≤t∧t≤4)∨(8≤t∧t<8+(cs.length:Int))
instance (cs:Cs) (t:Int):Decidable (tOk cs t):=inferInstanceAs (Decidable (_∨_))
def tIn (cs:Cs) (a b:Int):Bool:=
  if a=b∨b=0 then true else if a=2 then decide (2≤b) else if a<2∨b<8 then false else if a<8 then decide (b=8) else up cs (a - 8) (b - 8)
theorem kOk_eq (cs:Cs) (t:Int):kOk cs.length t=decide (tOk cs t):=rfl
theorem tIn_cls {cs:Cs} {a b:Int} (ha:8≤a) (hb:8≤b):tIn cs a b=up cs (a - 8) (b - 8):=by
 unfold tIn;by_cases e:a=b
 ·rw [if_pos (Or.inl e),e,up_refl]
 ·rw [if_neg (by omega),if_neg (by omega),if_neg (by omega),if_neg (by omega)]
theorem kndIn_eq {cs:Cs} (h:csOk cs=true) {a b:Int} (ha:tOk cs a) (hb:tOk cs b):kndIn cs a b=some (tIn cs a b):=by
 have hl:=csOk_len h;unfold tOk at ha hb;unfold kndIn tIn;by_cases c1:a=b∨b=0
 ·rw [if_pos c1,if_pos c1]
 ·rw [if_neg c1, if_neg c1]
  by_cases c2:a=2
  ·rw [if_pos c2, if_pos c2]
   have:(!decide (b=1))=decide (2≤b):=by
    rw [Bool.eq_iff_iff];simp;omega
   rw [this]
  ·rw [if_neg c2, if_neg c2]
   by_cases c3:a=3∨a=4
   ·rw [if_pos c3]
    by_cases c4:b<8
    ·rw [if_pos (Or.inr c4),decide_eq_false (by omega)]
    ·rw [if_neg (by omega),if_pos (by omega)]
   ·rw [if_neg c3]
    by_cases c4:8≤a
    ·rw [if_pos c4]
     by_cases c5:8≤b
     ·rw [if_pos c5,if_neg (by omega),if_neg (by omega),impl_classUp_eq h (b - 8) (a - 8) (by omega) (by omega) 100 (by omega)]
     ·rw [if_neg c5,if_pos (by omega)]
    ·rw [if_neg c4,if_pos (by omega)]
theorem spec_l2In_eq {cs:Cs} (h:csOk cs=true) {a b:Int} (ha:tOk cs a) (hb:tOk cs b) (k:Nat) (hk:20≤k):spec_l2In.f k cs a b=some (tIn cs a b):=by
 have hl:=csOk_len h;obtain ⟨k,rfl⟩: ∃m,k=m+1:=⟨k - 1,by omega⟩;obtain ⟨k,rfl⟩: ∃m,k=m+1:=⟨k - 1,by omega⟩;unfold tOk at ha hb;unfold spec_l2In.f tIn;by_cases c0:a=b
 ·rw [if_pos c0,if_pos (Or.inl c0)];simp [spec_l2In.j0]
 rw [if_neg c0];by_cases c1:b=0
 ·rw [if_pos (Or.inr c1)];simp [spec_l2In.j0,c1]
 rw [if_neg (by omega)];simp only [spec_l2In.j0,spec_l2Ref.f,Option.bind_some]
 rw [if_neg (by simp [c1])];by_cases c2:a=2
 ·rw [if_pos c2,if_pos c2]
 rw [if_neg c2,if_neg c2];by_cases c3:a<2
 ·rw [if_neg (by simp;omega),if_pos (Or.inl c3)];simp [spec_l2In.j1]
 rw [if_pos (by simp;omega)];by_cases c4:b<8
 ·rw [if_pos (Or.inr c4)];simp [spec_l2In.j1,c4]
 rw [if_neg (by omega)];simp only [spec_l2In.j1]
 rw [if_neg (by simp;omega)];by_cases c5:a<8
 ·rw [if_pos c5, if_pos c5]
  by_cases e:b=8<;>simp [e]
 ·rw [if_neg c5, if_neg c5, wrap64_of (by omega) (by omega), wrap64_of (by omega) (by omega), spec_l2Up_eq h (b := b - 8) (by omega) (a - 8) (by omega) (by omega) k (by omega)]
  rfl
theorem tIn_anti {cs : Cs} (h : csOk cs = true) {a b : Int} (ha : tOk cs a) (hb : tOk cs b) (h1 : tIn cs a b = true) (h2 : tIn cs b a = true) : a = b := by
 unfold tOk at ha hb;by_cases e:8≤a∧8≤b
 ·rw [tIn_cls e.1 e.2] at h1
  rw [tIn_cls e.2 e.1] at h2;have:=up_anti h (a:=a - 8) (b:=b - 8) (by omega) (by omega) (by omega) (by omega) h1 h2
  omega
 ·unfold tIn at h1 h2
  split at h1
  ·split at h2
   ·omega
   ·split at h2
    ·simp at h2;omega
    ·split at h2
     ·simp at h2
     ·omega
  ·split at h1
   ·simp only [decide_eq_true_eq] at h1
    split at h2
    ·omega
    ·split at h2
     ·omega
     ·split at h2
      ·simp at h2
      ·omega
   ·split at h1
    ·simp at h1
    ·split at h1
     ·simp only [decide_eq_true_eq] at h1
      split at h2
      ·omega
      ·split at h2
       ·omega
       ·split at h2
        ·simp at h2
        ·omega
     ·omega
theorem tIn_refl (cs:Cs) (a:Int):tIn cs a a=true:=by simp [tIn]
theorem tIn_none (cs:Cs) (a:Int):tIn cs a 0=true:=by simp [tIn]
theorem l2Join_spec {cs:Cs} (h:csOk cs=true) {b:Int} (hb:0≤b) (hb1:b<cs.length): ∀a:Int,0≤a→a<cs.length→∃j,(∀k:Nat,a.toNat+10≤k→spec_l2Join.f k cs a b=some j)∧0≤j∧j<cs.length∧up cs a j=true∧up cs b j=true∧∀c,up cs a c=true→up cs b c=true→up cs j c=true:=by
 have hl:=csOk_len h
 have key: ∀a:Int,0≤a→a<cs.length→up cs b a=true→∃j,(∀k:Nat,a.toNat+10≤k→spec_l2Join.f k cs a b=some j)∧0≤j∧j<cs.length∧up cs a j=true∧up cs b j=true∧∀c,up cs a c=true→up cs b c=true→up cs j c=true:=by
  intro a h0 h1 hu;refine ⟨a,fun k hk=>?_,h0,h1,up_refl cs a,hu,fun c hc _=>hc⟩;obtain ⟨k,rfl⟩: ∃m,k=m+1:=⟨k - 1,by omega⟩;simp only [spec_l2Join.f,spec_l2Join.l0]
  rw [spec_l2Up_eq h h0 b hb hb1 k (by omega),hu];rfl
 refine cls_ind h (key 0 (by omega) (by omega) (up_root h b hb hb1)) ?_;intro a hp h1 ih
 cases hu:up cs b a with
 |true=>exact key a (by omega) h1 hu
 | false =>
  have hs:=csOk_sup h hp h1;obtain ⟨j,hk,j0,j1,ja,jb,jm⟩:=ih;refine ⟨j,fun k hk2=>?_,j0,j1,?_,jb,fun c hc hcb=>?_⟩
  ·obtain ⟨k, rfl⟩ : ∃ m, k = m + 1 := ⟨k - 1, by omega⟩
   have:=hk k (by omega)
   simp only [spec_l2Join.f] at this;simp only [spec_l2Join.f,spec_l2Join.l0]
   rw [spec_l2Up_eq h (by omega) b hb hb1 k (by omega),hu];simp only [Option.bind_some,Bool.false_eq_true,if_false]
   rw [if_pos (by omega),if_pos (by omega)];exact this
  ·rw [up_step h j (by omega) h1,ja];simp [hp]
  ·rw [up_step h c (by omega) h1] at hc
   simp only [Bool.or_eq_true,decide_eq_true_eq,Bool.and_eq_true] at hc;rcases hc with hc|hc
   ·subst hc;rw [hu] at hcb;cases hcb
   ·exact jm c hc.2 hcb
theorem l2Meets_spec {cs : Cs} (h : csOk cs = true) {a b : Int} (ha : tOk cs a) (hb : tOk cs b) : ∃ m, (∀ k : Nat, 40 ≤ k → spec_l2Meets.f k cs a b = some m) ∧ tOk cs m ∧ tIn cs a m = true ∧ tIn cs b m = true ∧ ∀ c, tOk cs c → tIn cs a c = true → tIn cs b c = true → tIn cs m c = true := by
  have hl:=csOk_len h;by_cases c1:tIn cs a b=true
  · refine ⟨b, fun k hk => ?_, hb, c1, tIn_refl cs b, fun c _ _ hc => hc⟩
    unfold spec_l2Meets.f;rw [spec_l2In_eq h ha hb k (by omega),c1];rfl
  by_cases c2:tIn cs b a=true
  · refine ⟨a, fun k hk => ?_, ha, tIn_refl cs a, c2, fun c _ hc _ => hc⟩
    unfold spec_l2Meets.f;rw [spec_l2In_eq h ha hb k (by omega),Bool.not_eq_true _ |>.mp c1,spec_l2In_eq h hb ha k (by omega),c2];rfl
  have c1:=Bool.not_eq_true _ |>.mp c1
  have c2:=Bool.not_eq_true _ |>.mp c2
  have ha':=ha;have hb':=hb;unfold tOk at ha hb;by_cases c3:a<2∨b<2
  · refine ⟨0, fun k hk => ?_, by unfold tOk; omega, tIn_none cs a, tIn_none cs b, fun c hc h1 h2 => ?_⟩
    · obtain ⟨k, rfl⟩ : ∃ m, k = m + 1 := ⟨k - 1, by omega⟩
      unfold spec_l2Meets.f;rw [spec_l2In_eq h ha' hb' (k+1) (by omega),c1,spec_l2In_eq h hb' ha' (k+1) (by omega),c2];simp only [spec_l2Ref.f,Option.bind_some,Bool.false_eq_true,if_false]
      by_cases c4:a<2
      · rw [if_neg (by simp;omega)];simp [spec_l2Meets.j0]
      · rw [if_pos (by simp; omega)]
        have:decide (b≥2)=false:=decide_eq_false (by omega)
        rw [this];simp [spec_l2Meets.j0]
    · have : c = 0 := by
        unfold tOk at hc;unfold tIn at c1 c2 h1 h2
        split at c1<;>try (simp at c1;done)
        split at c2<;>try (simp at c2;done)
        split at h1
        · split at h2
          · omega
          · split at h2
            · simp only [decide_eq_true_eq] at h2
              rename_i z1 z2 z3 z4 z5
              by_cases q:c=0
              · exact q
              · exfalso
                have:a=c:=by omega
                subst this;rw [if_pos z5] at c2;simp at c2;omega
            · split at h2
              · simp at h2
              · omega
        · split at h1
          · simp only [decide_eq_true_eq] at h1
            rename_i z1 z2 z3 z4
            split at h2
            · rename_i z5
              by_cases q:b=c
              · subst q
                rw [if_pos z4] at c1;simp at c1;omega
              · omega
            · split at h2
              · omega
              · split at h2
                · simp at h2
                · omega
          · split at h1
            · simp at h1
            · split at h2
              · omega
              · split at h2
                · omega
                · split at h2
                  · simp at h2
                  · omega
      subst this;exact tIn_none cs 0
  have a2:a≠2:=fun e=>by
    subst e;unfold tIn at c1
    split at c1
    · simp at c1
    · simp at c1;omega
  have b2:b≠2:=fun e=>by
    subst e;unfold tIn at c2
    split at c2
    · simp at c2
    · simp at c2;omega
  have low: ∀{x c:Int},3≤x→x<8→tIn cs x c=true→c=x∨c=0∨c=8:=by
    intro x c h1 h2 hc;unfold tIn at hc
    split at hc
    · omega
    · rw [if_neg (by omega)] at hc
      split at hc
      · simp at hc
      · try simp only [if_pos h2, decide_eq_true_eq] at hc
        omega
  by_cases c4:a<8∨b<8
  · have in8 : ∀ {x : Int}, 3 ≤ x → x < 8 + (cs.length : Int) → tIn cs x 8 = true := by
      intro x h1 h2;by_cases q:8≤x
      · rw [tIn_cls q (by omega)];exact up_root h _ (by omega) (by omega)
      · unfold tIn
        rw [if_neg (by omega),if_neg (by omega),if_neg (by omega),if_pos (by omega)];rfl
    refine ⟨8,fun k hk=>?_,by unfold tOk;omega,in8 (by omega) (by omega),in8 (by omega) (by omega),fun c hc h1 h2=>?_⟩
    · obtain ⟨k, rfl⟩ : ∃ m, k = m + 1 := ⟨k - 1, by omega⟩
      unfold spec_l2Meets.f;rw [spec_l2In_eq h ha' hb' (k+1) (by omega),c1,spec_l2In_eq h hb' ha' (k+1) (by omega),c2];simp only [spec_l2Ref.f,Option.bind_some,Bool.false_eq_true,if_false]
      rw [if_pos (by simp;omega),show decide (b≥2)=true from decide_eq_true (by omega)];simp only [spec_l2Meets.j0,Bool.not_true,Bool.false_eq_true,if_false]
      by_cases q:a<8
      · rw [if_pos q]
      · rw [if_neg q,if_pos (by omega)]
    · rcases c4 with q | q
      · rcases low (by omega) q h1 with e | e | e
        · subst e;rw [h2] at c2;cases c2
        · subst e;exact tIn_none cs 8
        · subst e;exact tIn_refl cs 8
      · rcases low (by omega) q h2 with e | e | e
        · subst e;rw [h1] at c1;cases c1
        · subst e;exact tIn_none cs 8
        · subst e;exact tIn_refl cs 8
  obtain ⟨j,hj,j0,j1,ja,jb,jm⟩:=l2Join_spec h (b:=b - 8) (by omega) (by omega) (a - 8) (by omega) (by omega);refine ⟨8+j,fun k hk=>?_,by unfold tOk;omega,?_,?_,fun c hc h1 h2=>?_⟩
  · obtain ⟨k, rfl⟩ : ∃ m, k = m + 1 := ⟨k - 1, by omega⟩
    unfold spec_l2Meets.f;rw [spec_l2In_eq h ha' hb' (k+1) (by omega),c1,spec_l2In_eq h hb' ha' (k+1) (by omega),c2];simp only [spec_l2Ref.f,Option.bind_some,Bool.false_eq_true,if_false]
    rw [if_pos (by simp;omega),show decide (b≥2)=true from decide_eq_true (by omega)];simp only [spec_l2Meets.j0,Bool.not_true,Bool.false_eq_true,if_false]
    rw [if_neg (by omega),if_neg (by omega),wrap64_of (by omega) (by omega),wrap64_of (by omega) (by omega),hj k (by omega)];simp only [Option.bind_some]
    rw [wrap64_of (by omega) (by omega)]
  · rw [tIn_cls (by omega) (by omega),show 8+j - 8=j from by omega];exact ja
  · rw [tIn_cls (by omega) (by omega),show 8+j - 8=j from by omega];exact jb
  · by_cases q : 8 ≤ c
    · rw [tIn_cls (by omega) q] at h1 h2
      rw [tIn_cls (by omega) q,show 8+j - 8=j from by omega];exact jm _ h1 h2
    · have : c = 0 := by
        unfold tIn at h1;by_cases z:a=c∨c=0
        · omega
        · rw [if_neg z,if_neg (by omega),if_pos (by omega)] at h1;cases h1
      subst this;exact tIn_none cs _
theorem nearIn_eq {cn:Int→Option Bool} {un:Int→Int→Option Bool} {c:Int→Bool} {u:Int→Int→Bool} {one:Int}: ∀{l:List Int},(∀t∈l,cn t=some (c t)∧un one t=some (u one t))→nearIn cn un one l=some (l.all (fun t=>!(c t)||u one t))
 |[],_=>rfl
 | o :: os, h => by
  obtain ⟨h1,h2⟩:=h o List.mem_cons_self;have ih:=nearIn_eq (l:=os) (fun t ht=>h t (List.mem_cons_of_mem _ ht));simp only [nearIn,h1,Option.bind_some]
  cases hc:c o with
  |false=>simp [hc,ih]
  |true=>
   simp only [if_true,h2,Option.bind_some]
   cases hu:u one o with
   |false=>simp [hc,hu]
   |true=>simp [hc,hu,ih]
theorem nearOut_eq {cn:Int→Option Bool} {un:Int→Int→Option Bool} {c:Int→Bool} {u:Int→Int→Bool} {all:List Int}: ∀{l:List Int},(∀t∈l,cn t=some (c t)∧∀s∈all,cn s=some (c s)∧un t s=some (u t s))→nearOut cn un all l=some (l.find? (fun t=>c t&&all.all (fun s=>!(c s)||u t s)))
 |[],_=>rfl
 | o :: os, h => by
  obtain ⟨h1,h2⟩:=h o List.mem_cons_self;have ih:=nearOut_eq (l:=os) (fun t ht=>h t (List.mem_cons_of_mem _ ht));simp only [nearOut,h1,Option.bind_some]
  cases hc:c o with
  |false=>simp [hc,ih]
  |true=>
   simp only [if_true,nearIn_eq h2,Option.bind_some]
   cases hu:all.all (fun s=>!(c s)||u o s) with
   |false=>rw [List.find?_cons_of_neg (by simp [hc,hu])];simp [ih]
   |true=>rw [List.find?_cons_of_pos (by simp [hc,hu])];simp
theorem typeJoin_eq {cs:Cs} (h:csOk cs=true) (a b:Int): ∃m,impl_typeJoin.f cs a b=some m∧(tOk cs a→tOk cs b→∀k:Nat,40≤k→spec_l2Meets.f k cs a b=some m)∧(¬(tOk cs a∧tOk cs b)→m=0):=by
 have hl:=csOk_len h;unfold impl_typeJoin.f;rw [if_pos (by omega)];by_cases ho:tOk cs a∧tOk cs b
 ·obtain ⟨ha, hb⟩ := ho
  rw [if_pos ⟨by rw [kOk_eq];exact decide_eq_true ha,by rw [kOk_eq];exact decide_eq_true hb⟩];obtain ⟨m,hm,mo,ma,mb,ml⟩:=l2Meets_spec h ha hb
  have hall: ∀t,t∈allK cs.length↔tOk cs t:=by
   intro t;unfold allK tOk;simp only [List.mem_append,List.mem_cons,List.mem_map,List.mem_range,List.not_mem_nil,or_false]
   constructor
   ·rintro (q|⟨i,hi,rfl⟩)<;>omega
   ·rintro (q | q)
    ·left;omega
    ·right;exact ⟨(t - 8).toNat,by omega,by omega⟩
  have hcn: ∀t,tOk cs t→cnF cs a b t=some (tIn cs a t&&tIn cs b t):=by
   intro t ht;unfold cnF;rw [kndIn_eq h ha ht,kndIn_eq h hb ht];simp only [Option.bind_some]
   cases tIn cs a t<;>simp
  rw [nearOut_eq (c:=fun t=>tIn cs a t&&tIn cs b t) (u:=tIn cs) (fun t ht=>⟨hcn t ((hall t).1 ht),fun s hs=>⟨hcn s ((hall s).1 hs),kndIn_eq h ((hall t).1 ht) ((hall s).1 hs)⟩⟩)];refine ⟨m,?_,fun _ _=>hm,fun z=>absurd ⟨ha,hb⟩ z⟩
  have hf:(allK cs.length).find? (fun t=>(tIn cs a t&&tIn cs b t)&&(allK cs.length).all (fun s=>!(tIn cs a s&&tIn cs b s)||tIn cs t s))=some m:=by
   cases hq:(allK cs.length).find? (fun t=>(tIn cs a t&&tIn cs b t)&&(allK cs.length).all (fun s=>!(tIn cs a s&&tIn cs b s)||tIn cs t s)) with
   |none=>
    have:=List.find?_eq_none.1 hq m ((hall m).2 mo)
    refine absurd ?_ this;simp only [ma,mb,Bool.and_self,Bool.true_and,List.all_eq_true]
    intro s hs
    cases h1:tIn cs a s<;>cases h2:tIn cs b s<;>simp
    exact ml s ((hall s).1 hs) h1 h2
   |some x=>
    have hx:=List.find?_some hq;have hxm:=List.mem_of_find?_eq_some hq;simp only [Bool.and_eq_true,List.all_eq_true] at hx;obtain ⟨⟨xa,xb⟩,xl⟩:=hx;have hxo:=(hall x).1 hxm;have h1:=xl m ((hall m).2 mo);rw [ma,mb] at h1;simp at h1
    rw [tIn_anti h hxo mo h1 (ml x hxo xa xb)]
  rw [hf];rfl
 ·rw [if_neg (by rw [kOk_eq, kOk_eq, decide_eq_true_eq, decide_eq_true_eq]; exact ho)]
  exact ⟨0,rfl,fun ha hb=>absurd ⟨ha,hb⟩ ho,fun _=>rfl⟩
theorem spec_TypeOk_eq {cs:Cs} (hf:fewF cs) (t:Int) (k:Nat) (hk:2000000≤k):spec_TypeOk.f k cs t=some (csOk cs&&decide (tOk cs t)):=by
 unfold spec_TypeOk.f;rw [spec_ClassesOk_eq hf k hk];simp only [Option.bind_some]
 cases hc:csOk cs with
 |false=>simp
 | true =>
  have hl:=csOk_len hc;simp only [if_true,Bool.true_and]
  by_cases c0:t=0
  ·rw [if_pos c0,decide_eq_true (by unfold tOk;omega)]
  rw [if_neg c0];by_cases c2:t=2
  ·rw [if_pos c2,decide_eq_true (by unfold tOk;omega)]
  rw [if_neg c2,spec_l2Field_eq cs t (by omega)];simp only [Option.bind_some,Option.some.injEq]
  unfold fldOk;by_cases z:tOk cs t
  ·rw [decide_eq_true z]
   have z':(0≤t∧t≤4)∨(8≤t∧t<8+(cs.length:Int)):=z
   have y:t=1∨t=3∨t=4∨(8≤t∧t<8+(cs.length:Int)):=by omega
   exact decide_eq_true y
  ·rw [decide_eq_false z]
   have z': ¬((0≤t∧t≤4)∨(8≤t∧t<8+(cs.length:Int))):=z
   have y: ¬(t=1∨t=3∨t=4∨(8≤t∧t<8+(cs.length:Int))):=by omega
   exact decide_eq_false y
def jn (cs:Cs) (a b:Int):Int:=(impl_typeJoin.f cs a b).getD 0
theorem jn_eq {cs:Cs} (h:csOk cs=true) (a b:Int):impl_typeJoin.f cs a b=some (jn cs a b)∧(tOk cs a→tOk cs b→∀k:Nat,40≤k→spec_l2Meets.f k cs a b=some (jn cs a b))∧(¬(tOk cs a∧tOk cs b)→jn cs a b=0):=by
 obtain ⟨m,h1,h2,h3⟩:=typeJoin_eq h a b;have e:jn cs a b=m:=by unfold jn;rw [h1];rfl
 rw [e];exact ⟨h1,h2,h3⟩
def okL (cs:Cs) (L:List Int):Bool:=L.all fun t=>decide (tOk cs t)
def okS (cs:Cs) (S:List Int):Bool:=S.all fun t=>decide (tOk cs t)&&decide (t≠0)
theorem okL_drop {cs:Cs} {L:List Int} {i:Nat} (h:i<L.length):okL cs (L.drop i)=(decide (tOk cs L[i])&&okL cs (L.drop (i+1))):=by
  unfold okL;rw [List.drop_eq_getElem_cons h,List.all_cons]
theorem okS_drop {cs:Cs} {L:List Int} {i:Nat} (h:i<L.length):okS cs (L.drop i)=((decide (tOk cs L[i])&&decide (L[i]≠0))&&okS cs (L.drop (i+1))):=by
  unfold okS;rw [List.drop_eq_getElem_cons h,List.all_cons]
theorem sok_l1 {cs:Cs} (hc:cs.length≤1000) (S:List Int) (hS:S.length≤1048576) (d:Nat): ∀(k i:Nat),i+d=S.length→d<k→impl_shapeOk.l1 k cs S S.length i=some (okS cs (S.drop i)):=by
 induction d with
 |zero=>
  intro k i hi hk;obtain ⟨k,rfl⟩: ∃m,k=m+1:=⟨k - 1,by omega⟩;rw [impl_shapeOk.l1,if_neg (by omega),List.drop_eq_nil_of_le (by omega)];rfl
 | succ d ih =>
  intro k i hi hk;obtain ⟨k,rfl⟩: ∃m,k=m+1:=⟨k - 1,by omega⟩;have hlt:i<S.length:=by omega
  have:=ih k (i+1) (by omega) (by omega)
  rw [show ((i+1:Nat):Int)=(i:Int)+1 by omega] at this;rw [impl_shapeOk.l1,if_pos (by omega),if_pos (by omega),if_pos (by omega),rd_mem hlt,okS_drop hlt,wrap_inc (n:=1048577) (by omega) (by omega) (by omega)];unfold kOkF.f;rw [if_pos (show 0≤(cs.length:Int)∧(cs.length:Int)≤281474976710656 by omega),kOk_eq];by_cases z:S[i]=0
  ·rw [if_pos z,decide_eq_false (show¬S[i]≠0 from fun q=>q z)];simp
  ·rw [if_neg z, decide_eq_true (show S[i] ≠ 0 from z), Option.bind_some]
   by_cases t:tOk cs S[i]
   ·rw [decide_eq_true t,if_pos rfl,this];simp
   ·rw [decide_eq_false t];simp
theorem sok_l0 {cs:Cs} (hc:cs.length≤1000) (L S:List Int) (hL:L.length≤1048576) (hS:S.length≤1048576) (a:Bool) (d:Nat): ∀(k i:Nat),i+d=L.length→d+S.length+2<k→impl_shapeOk.l0 k cs L L.length i a L S=some (okL cs (L.drop i)&&okS cs S):=by
 induction d with
 |zero=>
  intro k i hi hk;obtain ⟨k,rfl⟩: ∃m,k=m+1:=⟨k - 1,by omega⟩;have:=sok_l1 hc S hS S.length k 0 (by omega) (by omega)
  rw [impl_shapeOk.l0,if_neg (by omega),List.drop_eq_nil_of_le (by omega)];rw [List.drop_zero] at this;exact this
 |succ d ih=>
  intro k i hi hk;obtain ⟨k,rfl⟩: ∃m,k=m+1:=⟨k - 1,by omega⟩;have hlt:i<L.length:=by omega
  have:=ih k (i+1) (by omega) (by omega)
  rw [show ((i+1:Nat):Int)=(i:Int)+1 by omega] at this;rw [impl_shapeOk.l0,if_pos (by omega),if_pos (by omega),if_pos (by omega),rd_mem hlt,okL_drop hlt,wrap_inc (n:=1048577) (by omega) (by omega) (by omega)];unfold kOkF.f;rw [if_pos (show 0≤(cs.length:Int)∧(cs.length:Int)≤281474976710656 by omega),kOk_eq,Option.bind_some];by_cases t:tOk cs L[i]
  ·rw [decide_eq_true t,if_pos rfl,this];simp
  ·rw [decide_eq_false t];simp
theorem sok_eq {cs:Cs} (hc:cs.length≤1000) (L S:List Int) (hL:L.length≤1048576) (hS:S.length≤1048576) (k:Nat) (hk:3000000≤k):impl_shapeOk.f k cs L.length true L S=some (decide (S.length≤4)&&(okL cs L&&okS cs S)):=by
 unfold impl_shapeOk.f;rw [if_pos rfl,if_pos rfl];obtain ⟨k,rfl⟩: ∃m,k=m+1:=⟨k - 1,by omega⟩;rw [impl_shapeOk.j0];by_cases z:S.length≤4
 ·rw [decide_eq_false (show ¬ (S.length : Int) > 4 by omega), if_neg (by simp), decide_eq_true z]
  have:=sok_l0 hc L S hL hS true L.length k 0 (by omega) (by omega)
  rw [List.drop_zero] at this;exact this
 ·rw [decide_eq_true (show (S.length:Int)>4 by omega),if_pos rfl,decide_eq_false z];rfl
theorem pok_l1 {cs:Cs} (hf:fewF cs) (hok:csOk cs=true) (L S:List Int) (hS:S.length≤1048576) (a:Bool) (d:Nat): ∀(k i:Nat),i+d=S.length→d+2000001<k→spec_ShapeOk.l1 k cs i a L S=some (okS cs (S.drop i)):=by
 induction d with
 |zero=>
  intro k i hi hk;obtain ⟨k,rfl⟩: ∃m,k=m+1:=⟨k - 1,by omega⟩;rw [spec_ShapeOk.l1,if_neg (by omega),List.drop_eq_nil_of_le (by omega)];rfl
 | succ d ih =>
  intro k i hi hk;obtain ⟨k,rfl⟩: ∃m,k=m+1:=⟨k - 1,by omega⟩;have hlt:i<S.length:=by omega
  have:=ih k (i+1) (by omega) (by omega)
  rw [show ((i+1:Nat):Int)=(i:Int)+1 by omega] at this;rw [spec_ShapeOk.l1,if_pos (by omega),if_pos (by omega),rd_mem hlt,okS_drop hlt,wrap_inc (n:=1048577) (by omega) (by omega) (by omega),spec_TypeOk_eq hf _ k (by omega),hok,Option.bind_some,Bool.true_and];by_cases t:tOk cs S[i]
  ·rw [decide_eq_true t, if_pos rfl]
   by_cases z:S[i]=0
   ·rw [if_pos z,decide_eq_false (show¬S[i]≠0 from fun q=>q z)];simp
   ·rw [if_neg z,decide_eq_true (show S[i]≠0 from z),this];simp
  ·rw [decide_eq_false t];simp
theorem pok_l0 {cs:Cs} (hf:fewF cs) (hok:csOk cs=true) (L S:List Int) (hL:L.length≤1048576) (hS:S.length≤1048576) (a:Bool) (d:Nat): ∀(k i:Nat),i+d=L.length→d+S.length+2000002<k→spec_ShapeOk.l0 k cs i a L S=some (okL cs (L.drop i)&&okS cs S):=by
 induction d with
 |zero=>
  intro k i hi hk;obtain ⟨k,rfl⟩: ∃m,k=m+1:=⟨k - 1,by omega⟩;have:=pok_l1 hf hok L S hS a S.length k 0 (by omega) (by omega)
  rw [spec_ShapeOk.l0,if_neg (by omega),List.drop_eq_nil_of_le (by omega)];rw [List.drop_zero] at this;exact this
 |succ d ih=>
  intro k i hi hk;obtain ⟨k,rfl⟩: ∃m,k=m+1:=⟨k - 1,by omega⟩;have hlt:i<L.length:=by omega
  have:=ih k (i+1) (by omega) (by omega)
  rw [show ((i+1:Nat):Int)=(i:Int)+1 by omega] at this;rw [spec_ShapeOk.l0,if_pos (by omega),if_pos (by omega),rd_mem hlt,okL_drop hlt,wrap_inc (n:=1048577) (by omega) (by omega) (by omega),spec_TypeOk_eq hf _ k (by omega),hok,Option.bind_some,Bool.true_and];by_cases t:tOk cs L[i]
  ·rw [decide_eq_true t,if_pos rfl,this];simp
  ·rw [decide_eq_false t];simp
theorem pok_eq {cs:Cs} (hf:fewF cs) (hok:csOk cs=true) (n:Nat) (L S:List Int) (hL:L.length≤1048576) (hS:S.length≤1048576) (k:Nat) (hk:4500000≤k):spec_ShapeOk.f k cs n true L S=some (decide (L.length=n)&&(decide (S.length≤4)&&(okL cs L&&okS cs S))):=by
 unfold spec_ShapeOk.f;rw [spec_ClassesOk_eq hf k (by omega),hok,Option.bind_some,if_pos rfl,if_pos rfl];obtain ⟨k,rfl⟩: ∃m,k=m+1:=⟨k - 1,by omega⟩;by_cases e:L.length=n
 ·rw [if_pos (by omega), decide_eq_true e, spec_ShapeOk.j0]
  by_cases z:S.length≤4
  ·rw [decide_eq_false (show ¬ (S.length : Int) > 4 by omega), if_neg (by simp), decide_eq_true z]
   have:=pok_l0 hf hok L S hL hS true L.length k 0 (by omega) (by omega)
   rw [List.drop_zero] at this;exact this
  ·rw [decide_eq_true (show (S.length:Int)>4 by omega),if_pos rfl,decide_eq_false z];rfl
 ·rw [if_neg (by omega),decide_eq_false e,spec_ShapeOk.j0,if_pos rfl];rfl
def fitB (cs:Cs) (a:Bool) (L S:List Int) (b:Bool) (L2 S2:List Int):Bool:=
  a&&(b&&(decide (L.length=L2.length)&&(decide (S.length=S2.length)&&((decide (S.length≤4)&&(okL cs L&&okS cs S))&&(decide (S2.length≤4)&&(okL cs L2&&okS cs S2))))))
theorem fit_eq {cs:Cs} (hc:cs.length≤1000) {a b:Bool} {L S L2 S2:List Int} (hL:L.length≤1048576) (hS:S.length≤1048576) (hL2:L2.length≤1048576) (hS2:S2.length≤1048576) (k:Nat) (hk:3000000≤k):impl_shapeFit.f k cs a L S b L2 S2=some (fitB cs a L S b L2 S2):=by
 unfold impl_shapeFit.f fitB
 cases a with
 |false=>rfl
 | true =>
  cases b with
  |false=>rfl
  | true =>
   rw [if_pos rfl,if_pos rfl,sok_eq hc L S hL hS k hk,sok_eq hc L2 S2 hL2 hS2 k hk];by_cases e1:L.length=L2.length
   ·rw [if_pos (by omega), decide_eq_true e1]
    by_cases e2:S.length=S2.length
    ·rw [if_pos (by omega), decide_eq_true e2, Option.bind_some]
     cases (decide (S.length≤4)&&(okL cs L&&okS cs S))<;>rfl
    ·rw [if_neg (by omega),decide_eq_false e2];rfl
   ·rw [if_neg (by omega),decide_eq_false e1];rfl
theorem fits_eq {cs:Cs} (hf:fewF cs) {a b:Bool} {L S L2 S2:List Int} (hL:L.length≤1048576) (hS:S.length≤1048576) (hL2:L2.length≤1048576) (hS2:S2.length≤1048576) (k:Nat) (hk:4500000≤k):spec_l11Fits.f k cs a L S b L2 S2=some (csOk cs&&fitB cs a L S b L2 S2):=by
 unfold spec_l11Fits.f fitB
 cases a with
 |false=>simp
 | true =>
  cases b with
  |false=>simp
  | true =>
   cases hok:csOk cs with
   |false=>
    unfold spec_ShapeOk.f;rw [spec_ClassesOk_eq hf k (by omega),hok];rfl
   | true =>
    rw [if_pos rfl,if_pos rfl,pok_eq hf hok _ L S hL hS k hk,pok_eq hf hok _ L2 S2 hL2 hS2 k hk,Option.bind_some];by_cases e1:L.length=L2.length
    ·rw [decide_eq_true e1, decide_eq_true (show L2.length = L.length from e1.symm), decide_eq_true (rfl : L.length = L.length)]
     simp only [Bool.true_and]
     by_cases e2:S.length=S2.length
     ·rw [decide_eq_true e2, show ((S.length : Int) == (S2.length : Int)) = true from beq_iff_eq.mpr (by omega)]
      cases (decide (S.length≤4)&&(okL cs L&&okS cs S))
      ·rfl
      ·cases (decide (S2.length≤4)&&(okL cs L2&&okS cs S2))<;>rfl
     ·rw [decide_eq_false e2, show ((S.length : Int) == (S2.length : Int)) = false from beq_eq_false_iff_ne.mpr (by omega)]
      cases (decide (S.length≤4)&&(okL cs L&&okS cs S))
      ·rfl
      ·cases (decide (S2.length≤4)&&(okL cs L2&&okS cs S2))<;>rfl
    ·rw [decide_eq_false e1, decide_eq_false (show ¬ L2.length = L.length from fun q => e1 q.symm)]
     simp
theorem okL_at {cs:Cs} {L:List Int} (h:okL cs L=true) {i:Nat} (hi:i<L.length):tOk cs L[i]:=by
 unfold okL at h;rw [List.all_eq_true] at h;exact of_decide_eq_true (h _ (List.getElem_mem hi))
theorem okS_at {cs:Cs} {L:List Int} (h:okS cs L=true) {i:Nat} (hi:i<L.length):tOk cs L[i]∧L[i]≠0:=by
 unfold okS at h;rw [List.all_eq_true] at h;have:=h _ (List.getElem_mem hi)
 rw [Bool.and_eq_true] at this;exact ⟨of_decide_eq_true this.1,of_decide_eq_true this.2⟩
def joinR (cs:Cs) (L S L2 S2:List Int):Bool×List Int×List Int:=
  if 0∈List.zipWith (jn cs) S S2 then (false,[],[]) else (true,List.zipWith (jn cs) L L2,List.zipWith (jn cs) S S2)
theorem zip_drop {cs:Cs} {S S2:List Int} {i:Nat} (h1:i<S.length) (h2:i<S2.length):(List.zipWith (jn cs) S S2).drop i=jn cs S[i] S2[i]::(List.zipWith (jn cs) S S2).drop (i+1):=by
  have hz:i<(List.zipWith (jn cs) S S2).length:=by rw [List.length_zipWith];omega
  rw [List.drop_eq_getElem_cons hz,List.getElem_zipWith]
theorem ij_l1 {cs:Cs} (hok:csOk cs=true) (S L2 S2 LJ:List Int) (hS:S.length≤1048576) (he:S.length=S2.length) (b:Bool) (d:Nat): ∀(k i:Nat) (acc:List Int),i+d=S.length→d<k→acc.length=i→
  impl_shapeJoin.l1 k cs S S.length i b L2 S2 true LJ acc=some (if 0∈(List.zipWith (jn cs) S S2).drop i then (false,[],[]) else (true,LJ,acc++(List.zipWith (jn cs) S S2).drop i)):=by
 induction d with
 |zero=>
  intro k i acc hi hk ha;obtain ⟨k,rfl⟩: ∃m,k=m+1:=⟨k - 1,by omega⟩;rw [impl_shapeJoin.l1,if_neg (by omega),List.drop_eq_nil_of_le (by rw [List.length_zipWith];omega)];simp
 | succ d ih =>
  intro k i acc hi hk ha;obtain ⟨k,rfl⟩: ∃m,k=m+1:=⟨k - 1,by omega⟩;have h1:i<S.length:=by omega
  have h2:i<S2.length:=by omega
  rw [impl_shapeJoin.l1,if_pos (by omega),if_pos (by omega),if_pos (by omega),if_pos (by omega),rd_mem h1,rd_mem h2,(jn_eq hok _ _).1,Option.bind_some,zip_drop h1 h2,wrap_inc (n:=1048577) (by omega) (by omega) (by omega)];by_cases z:jn cs S[i] S2[i]=0
  ·rw [if_pos z,if_pos (by rw [z];exact List.mem_cons_self ..)]
  ·have := ih k (i + 1) (acc ++ [jn cs S[i] S2[i]]) (by omega) (by omega) (by simp [ha])
   rw [show ((i+1:Nat):Int)=(i:Int)+1 by omega] at this;rw [if_neg z,if_pos (by omega),this]
   congr 1
   by_cases m:0∈(List.zipWith (jn cs) S S2).drop (i+1)
   ·rw [if_pos m,if_pos (List.mem_cons_of_mem _ m)]
   ·rw [if_neg m,if_neg (fun q=>by rcases List.mem_cons.mp q with q|q;exact z q.symm;exact m q),List.append_assoc];rfl
theorem ij_l0 {cs:Cs} (hok:csOk cs=true) (L S L2 S2:List Int) (hL:L.length≤1048576) (hS:S.length≤1048576) (hl:L.length=L2.length) (he:S.length=S2.length) (a b:Bool) (d:Nat): ∀(k i:Nat) (acc:List Int),i+d=L.length→d+S.length+2<k→acc.length=i→
  impl_shapeJoin.l0 k cs L L.length i a L S b L2 S2 true acc=some (if 0∈List.zipWith (jn cs) S S2 then (false,[],[]) else (true,acc++(List.zipWith (jn cs) L L2).drop i,List.zipWith (jn cs) S S2)):=by
 induction d with
 |zero=>
  intro k i acc hi hk ha;obtain ⟨k,rfl⟩: ∃m,k=m+1:=⟨k - 1,by omega⟩;have:=ij_l1 hok S L2 S2 acc hS he b S.length k 0 [] (by omega) (by omega) rfl
  rw [impl_shapeJoin.l0,if_neg (by omega),List.drop_eq_nil_of_le (i:=i) (by rw [List.length_zipWith];omega),List.append_nil];rw [List.drop_zero,List.nil_append] at this;exact this
 |succ d ih=>
  intro k i acc hi hk ha;obtain ⟨k,rfl⟩: ∃m,k=m+1:=⟨k - 1,by omega⟩;have h1:i<L.length:=by omega
  have h2:i<L2.length:=by omega
  have:=ih k (i+1) (acc++[jn cs L[i] L2[i]]) (by omega) (by omega) (by simp [ha])
  rw [show ((i+1:Nat):Int)=(i:Int)+1 by omega] at this;rw [impl_shapeJoin.l0,if_pos (by omega),if_pos (by omega),if_pos (by omega),if_pos (by omega),rd_mem h1,rd_mem h2,(jn_eq hok _ _).1,Option.bind_some,if_pos (by omega),wrap_inc (n:=1048577) (by omega) (by omega) (by omega),this,zip_drop (S:=L) (S2:=L2) h1 h2,List.append_assoc];rfl
theorem set_fill {Z T:List Int} {i:Nat} (hi:i<T.length) (hz:i<Z.length):(Z.take i++T.drop i).set i Z[i]=Z.take (i+1)++T.drop (i+1):=by
  have hl:(Z.take i).length=i:=by rw [List.length_take];omega
  rw [List.drop_eq_getElem_cons hi,List.set_append_right _ _ (by omega),hl,Nat.sub_self,List.set_cons_zero,List.take_succ_eq_append_getElem hz,List.append_assoc];rfl
theorem sj_l1 {cs:Cs} (hok:csOk cs=true) (L S L2 S2 LJ:List Int) (hS:S.length≤1048576) (he:S.length=S2.length) (o1:okS cs S=true) (o2:okS cs S2=true) (a b c:Bool) (d:Nat): ∀(k i:Nat),i+d=S.length→d+40<k→
  spec_l11Join.l1 k cs i a L S b L2 S2 c LJ ((List.zipWith (jn cs) S S2).take i++S.drop i)=some (if 0∈(List.zipWith (jn cs) S S2).drop i then (false,[],[]) else (c,LJ,List.zipWith (jn cs) S S2)):=by
 have hzl:(List.zipWith (jn cs) S S2).length=S.length:=by rw [List.length_zipWith];omega
 induction d with
 |zero=>
  intro k i hi hk;obtain ⟨k,rfl⟩: ∃m,k=m+1:=⟨k - 1,by omega⟩;rw [spec_l11Join.l1,if_neg (by omega),List.drop_eq_nil_of_le (show S.length≤i by omega),List.append_nil,List.take_of_length_le (by omega),List.drop_eq_nil_of_le (by omega)];simp
 | succ d ih =>
  intro k i hi hk;obtain ⟨k,rfl⟩: ∃m,k=m+1:=⟨k - 1,by omega⟩;have h1:i<S.length:=by omega
  have h2:i<S2.length:=by omega
  have hm:=(jn_eq hok S[i] S2[i]).2.1 (okS_at o1 h1).1 (okS_at o2 h2).1 k (by omega);have hll:(((List.zipWith (jn cs) S S2).take i++S.drop i).length:Int)=S.length:=by rw [List.length_append,List.length_take,List.length_drop];omega
  rw [spec_l11Join.l1,if_pos (by omega),if_pos (by omega),if_pos (by omega),rd_mem h1,rd_mem h2,hm,Option.bind_some,if_pos (by omega),zip_drop h1 h2,wrap_inc (n:=1048577) (by omega) (by omega) (by omega)];by_cases z:jn cs S[i] S2[i]=0
  ·rw [if_pos z,if_pos (by rw [z];exact List.mem_cons_self ..)];rfl
  ·have := ih k (i + 1) (by omega) (by omega)
   rw [show ((i+1:Nat):Int)=(i:Int)+1 by omega] at this;have hset:=set_fill (Z:=List.zipWith (jn cs) S S2) (T:=S) h1 (by omega);rw [List.getElem_zipWith] at hset;rw [if_neg z,Int.toNat_natCast,hset,this]
   congr 1
   by_cases m:0∈(List.zipWith (jn cs) S S2).drop (i+1)
   ·rw [if_pos m,if_pos (List.mem_cons_of_mem _ m)]
   ·rw [if_neg m,if_neg (fun q=>by rcases List.mem_cons.mp q with q|q;exact z q.symm;exact m q)]
theorem sj_l0 {cs:Cs} (hok:csOk cs=true) (L S L2 S2:List Int) (hL:L.length≤1048576) (hS:S.length≤1048576) (hl:L.length=L2.length) (he:S.length=S2.length) (o1:okS cs S=true) (o2:okS cs S2=true) (p1:okL cs L=true) (p2:okL cs L2=true) (a b c:Bool) (d:Nat): ∀(k i:Nat),i+d=L.length→d+S.length+50<k→
  spec_l11Join.l0 k cs i a L S b L2 S2 c ((List.zipWith (jn cs) L L2).take i++L.drop i) S=some (if 0∈List.zipWith (jn cs) S S2 then (false,[],[]) else (c,List.zipWith (jn cs) L L2,List.zipWith (jn cs) S S2)):=by
 have hzl:(List.zipWith (jn cs) L L2).length=L.length:=by rw [List.length_zipWith];omega
 induction d with
 |zero=>
  intro k i hi hk;obtain ⟨k,rfl⟩: ∃m,k=m+1:=⟨k - 1,by omega⟩;have:=sj_l1 hok L S L2 S2 (List.zipWith (jn cs) L L2) hS he o1 o2 a b c S.length k 0 (by omega) (by omega)
  rw [spec_l11Join.l0,if_neg (by omega),List.drop_eq_nil_of_le (show L.length≤i by omega),List.append_nil,List.take_of_length_le (by omega)];rw [List.take_zero,List.nil_append,List.drop_zero,List.drop_zero] at this;exact this
 |succ d ih=>
  intro k i hi hk;obtain ⟨k,rfl⟩: ∃m,k=m+1:=⟨k - 1,by omega⟩;have h1:i<L.length:=by omega
  have h2:i<L2.length:=by omega
  have hm:=(jn_eq hok L[i] L2[i]).2.1 (okL_at p1 h1) (okL_at p2 h2) k (by omega);have hll:(((List.zipWith (jn cs) L L2).take i++L.drop i).length:Int)=L.length:=by rw [List.length_append,List.length_take,List.length_drop];omega
  have:=ih k (i+1) (by omega) (by omega)
  rw [show ((i+1:Nat):Int)=(i:Int)+1 by omega] at this;have hset:=set_fill (Z:=List.zipWith (jn cs) L L2) (T:=L) h1 (by omega);rw [List.getElem_zipWith] at hset;rw [spec_l11Join.l0,if_pos (by omega),if_pos (by omega),if_pos (by omega),rd_mem h1,rd_mem h2,hm,Option.bind_some,if_pos (by omega),wrap_inc (n:=1048577) (by omega) (by omega) (by omega),Int.toNat_natCast,hset,this]
theorem ShapeJoin_eq {cs : Cs} (hf : fewF cs) {a b : Bool} {L S L2 S2 : List Int} (hL : L.length ≤ 1048576) (hS : S.length ≤ 1048576) (hL2 : L2.length ≤ 1048576) (hS2 : S2.length ≤ 1048576) (k : Nat) (hk : 4500000 ≤ k) :
    impl_ShapeJoin.f k cs a L S b L2 S2=some (if (csOk cs&&fitB cs a L S b L2 S2)=true then joinR cs L S L2 S2 else (false,[],[]))∧spec_ShapeJoin.f k cs a L S b L2 S2=some (if (csOk cs&&fitB cs a L S b L2 S2)=true then joinR cs L S L2 S2 else (false,[],[])):=by
  unfold impl_ShapeJoin.f spec_ShapeJoin.f;rw [impl_ClassesOk_eq cs k (by omega),fits_eq hf hL hS hL2 hS2 k hk,Option.bind_some,Option.bind_some]
  cases hok:csOk cs with
  |false=>exact ⟨by rfl,by rfl⟩
  | true =>
    have hc:=csOk_len hok;rw [if_pos rfl];unfold impl_shapeJoin.f;rw [fit_eq (by omega) hL hS hL2 hS2 k (by omega),Option.bind_some,Bool.true_and]
    cases hfit:fitB cs a L S b L2 S2 with
    |false=>exact ⟨by rfl,by rfl⟩
    | true =>
      unfold fitB at hfit;simp only [Bool.and_eq_true,decide_eq_true_eq] at hfit;obtain ⟨ha,hb,e1,e2,⟨s1,o1,o2⟩,s2,o3,o4⟩:=hfit;rw [if_pos rfl,if_pos rfl,if_pos rfl];have h1:=ij_l0 hok L S L2 S2 hL hS e1 e2 a b L.length k 0 [] (by omega) (by omega) rfl;rw [List.drop_zero,List.nil_append] at h1;have h2:=sj_l0 hok L S L2 S2 hL hS e1 e2 o2 o4 o1 o3 a b a L.length k 0 (by omega) (by omega);rw [List.take_zero,List.nil_append,List.drop_zero] at h2;refine ⟨?_,?_⟩
      · rw [show ((0 : Nat) : Int) = 0 from rfl] at h1
        rw [h1];rfl
      · have hcp : spec_l11Copy.f a L S = some (a, L, S) := by
          unfold spec_l11Copy.f;rw [Option.bind_some,if_pos (by simp only [List.length_nil];omega),Option.bind_some,if_pos (by simp only [List.length_nil];omega)];rfl
        unfold spec_l11Join.f;rw [hcp,Option.bind_some,if_pos (by omega)];rw [show ((0:Nat):Int)=0 from rfl] at h2
        dsimp only
        rw [h2,ha];rfl
end Go.Proofs.Ytehefmgplkolaaa.Pure
namespace Go.Proofs.Ytehefmgplkolaaa.K
open Go.RowKit Go.Proofs.YtehefmgplkolaaaW.PrintWords Go.Proofs.YtehefmgplkolaaaW.PrintLast Go.Proofs.YtehefmgplkolaaaW.PrintMore
attribute [local go_sem] max2_int min2_int max_two min_two max_three min_three max_four min_four
set_option linter.unusedVariables false
set_option linter.unusedSimpArgs false
mutual
def impl_shapeIn.l0:Nat→List (S48)→List Int→Int→Int→Bool→List Int→List Int→Bool→List Int→List Int→Option (Bool)
 |0,_,_,_,_,_,_,_,_,_,_=>none
 |k+1,x0,x17,x18,x19,x385000,x385001,x385002,x386000,x386001,x386002=>if x19<x18 then (if 0≤x19 then (if x19<(x17.length:Int) then (if x19<(x386001.length:Int) then ((impl_typeIn.f x0 (rd x17 x19) (rd x386001 x19)).bind fun t389=>(if t389=true then (impl_shapeIn.l0 k x0 x17 x18 (wrap64 (x19+1)) x385000 x385001 x385002 x386000 x386001 x386002) else (some false))) else (none)) else (none)) else (none)) else (impl_shapeIn.l1 k x0 x385002 (x385002.length:Int) 0 x386000 x386001 x386002)
def impl_shapeIn.l1:Nat→List (S48)→List Int→Int→Int→Bool→List Int→List Int→Option (Bool)
 |0,_,_,_,_,_,_,_=>none
 |k+1,x0,x35,x36,x37,x386000,x386001,x386002=>if x37<x36 then (if 0≤x37 then (if x37<(x35.length:Int) then (if x37<(x386002.length:Int) then ((impl_typeIn.f x0 (rd x35 x37) (rd x386002 x37)).bind fun t392=>(if t392=true then (impl_shapeIn.l1 k x0 x35 x36 (wrap64 (x37+1)) x386000 x386001 x386002) else (some false))) else (none)) else (none)) else (none)) else (some true)
end
def impl_shapeIn.f (k:Nat) (l0:List (S48)) (a1_0:Bool) (l1_1:List Int) (l1_2:List Int) (a2_0:Bool) (l2_1:List Int) (l2_2:List Int):Option (Bool):=(impl_shapeFit.f k l0 a1_0 l1_1 l1_2 a2_0 l2_1 l2_2).bind fun t386=>(if t386=true then (impl_shapeIn.l0 k l0 l1_1 (l1_1.length:Int) 0 a1_0 l1_1 l1_2 a2_0 l2_1 l2_2) else (some false))
end Go.Proofs.Ytehefmgplkolaaa.K
namespace Go.Proofs.Ytehefmgplkolaaa.K
open Go.RowKit Go.Proofs.YtehefmgplkolaaaW.PrintWords Go.Proofs.YtehefmgplkolaaaW.PrintLast Go.Proofs.YtehefmgplkolaaaW.PrintMore
attribute [local go_sem] max2_int min2_int max_two min_two max_three min_three max_four min_four
set_option linter.unusedVariables false
set_option linter.unusedSimpArgs false
def impl_ShapeIn.f (k:Nat) (l0:List (S48)) (a1_0:Bool) (l1_1:List Int) (l1_2:List Int) (a2_0:Bool) (l2_1:List Int) (l2_2:List Int):Option (Bool):=(impl_ClassesOk.f k l0).bind fun t395=>(if t395=true then ((impl_shapeIn.f k l0 a1_0 l1_1 l1_2 a2_0 l2_1 l2_2).bind fun t396=>(some t396)) else (some false))
end Go.Proofs.Ytehefmgplkolaaa.K
namespace Go.Proofs.Ytehefmgplkolaaa.Pure
open Go.RowKit Go.Proofs.Ytehefmgplkolaaa.K Go.Proofs.YtehefmgplkolaaaW.PrintWords Go.Proofs.YtehefmgplkolaaaW.PrintLast Go.Proofs.YtehefmgplkolaaaW.PrintMore
set_option linter.unusedVariables false
set_option linter.unusedSimpArgs false
end Go.Proofs.Ytehefmgplkolaaa.Pure
namespace Go.Proofs.Ytehefmgplkolaaa.Pure
open Go.RowKit Go.Proofs.Ytehefmgplkolaaa.K Go.Proofs.YtehefmgplkolaaaW.PrintWords Go.Proofs.YtehefmgplkolaaaW.PrintLast Go.Proofs.YtehefmgplkolaaaW.PrintMore
set_option linter.unusedVariables false
set_option linter.unusedSimpArgs false
def shJ (cs:Cs) (a:Bool) (L S:List Int) (b:Bool) (L2 S2:List Int):Bool×List Int×List Int:=if (csOk cs&&fitB cs a L S b L2 S2)=true then joinR cs L S L2 S2 else (false,[],[])
end Go.Proofs.Ytehefmgplkolaaa.Pure
namespace Go.Proofs.Ytehefmgplkolaaa.K
open Go.RowKit Go.Proofs.YtehefmgplkolaaaW.PrintWords Go.Proofs.YtehefmgplkolaaaW.PrintLast Go.Proofs.YtehefmgplkolaaaW.PrintMore
attribute [local go_sem] max2_int min2_int max_two min_two max_three min_three max_four min_four
set_option linter.unusedVariables false
set_option linter.unusedSimpArgs false
def laws_leInts.l0:Nat→List Int→List Int→Int→Option (Bool)
  |0,_,_,_=>none
  |k+1,x0,x1,x5=>if x5<(x0.length:Int) then (if 0≤x5 then (if x5<(x1.length:Int) then (if (rd x0 x5)=(rd x1 x5) then (laws_leInts.l0 k x0 x1 (wrap64 (x5+1))) else (some false)) else (none)) else (none)) else (some true)
def laws_leInts.f (k:Nat) (l0:List Int) (l1:List Int):Option (Bool):=if (l0.length:Int)=(l1.length:Int) then (laws_leInts.l0 k l0 l1 0) else (some false)
end Go.Proofs.Ytehefmgplkolaaa.K
namespace Go.Proofs.Ytehefmgplkolaaa.K
open Go.RowKit Go.Proofs.YtehefmgplkolaaaW.PrintWords Go.Proofs.YtehefmgplkolaaaW.PrintLast Go.Proofs.YtehefmgplkolaaaW.PrintMore
attribute [local go_sem] max2_int min2_int max_two min_two max_three min_three max_four min_four
set_option linter.unusedVariables false
set_option linter.unusedSimpArgs false
def laws_leShape.f (k:Nat) (a0_0:Bool) (l0_1:List Int) (l0_2:List Int) (a1_0:Bool) (l1_1:List Int) (l1_2:List Int):Option (Bool):=if (a0_0==a1_0)=true then ((laws_leInts.f k l0_1 l1_1).bind fun t382=>(if t382=true then ((laws_leInts.f k l0_2 l1_2).bind fun t383=>(some t383)) else (some false))) else (some false)
end Go.Proofs.Ytehefmgplkolaaa.K
namespace Go.Proofs.Ytehefmgplkolaaa.Pure
open Go.RowKit Go.Proofs.Ytehefmgplkolaaa.K Go.Proofs.YtehefmgplkolaaaW.PrintWords Go.Proofs.YtehefmgplkolaaaW.PrintLast Go.Proofs.YtehefmgplkolaaaW.PrintMore
set_option linter.unusedVariables false
set_option linter.unusedSimpArgs false
end Go.Proofs.Ytehefmgplkolaaa.Pure
namespace Go.Proofs.Ytehefmgplkolaaa.Pure
open Go.RowKit Go.Proofs.Ytehefmgplkolaaa.K Go.Proofs.YtehefmgplkolaaaW.PrintWords Go.Proofs.YtehefmgplkolaaaW.PrintLast Go.Proofs.YtehefmgplkolaaaW.PrintMore
set_option linter.unusedVariables false
set_option linter.unusedSimpArgs false
theorem shJ_len {cs:Cs} {a b:Bool} {L S L2 S2:List Int} {x:Bool} {LX SX:List Int} (hx:shJ cs a L S b L2 S2=(x,LX,SX)):LX.length≤L.length∧SX.length≤S.length:=by
 unfold shJ at hx
 split at hx
 ·unfold joinR at hx
  split at hx
  ·obtain ⟨_, h2⟩ := Prod.mk.inj hx
   obtain ⟨rfl,rfl⟩:=Prod.mk.inj h2;exact ⟨Nat.zero_le _,Nat.zero_le _⟩
  ·obtain ⟨_, h2⟩ := Prod.mk.inj hx
   obtain ⟨rfl,rfl⟩:=Prod.mk.inj h2
   constructor<;>(rw [List.length_zipWith];omega)
 ·obtain ⟨_, h2⟩ := Prod.mk.inj hx
  obtain ⟨rfl,rfl⟩:=Prod.mk.inj h2;exact ⟨Nat.zero_le _,Nat.zero_le _⟩
end Go.Proofs.Ytehefmgplkolaaa.Pure
namespace Go.Proofs.Ytehefmgplkolaaa.Pure
open Go.RowKit Go.Proofs.Ytehefmgplkolaaa.K Go.Proofs.YtehefmgplkolaaaW.PrintWords Go.Proofs.YtehefmgplkolaaaW.PrintLast Go.Proofs.YtehefmgplkolaaaW.PrintMore
set_option linter.unusedVariables false
set_option linter.unusedSimpArgs false
theorem FnExactShapeJoin:laws_FnExactShapeJoin.Pure:=by
 intro l M1 M2 hl hM1 hM2;refine Ev.rounds ?_;simp only [laws_FnExactShapeJoin.f]
 refine smallS_ev l M1 M2 hl hM1 hM2 (fun q1 q2 q3 q4 q5 q6=>?_);have hF:=fewF_of q2;have hL:(toCs l).length≤1048576:=by unfold toCs;rw [List.length_map];exact q1
 obtain ⟨⟨s0,s1,s2⟩,hs⟩: ∃z,shJ (toCs l) M1.f0 M1.f1 M1.f2 M2.f0 M2.f1 M2.f2=z:=⟨_,rfl⟩;obtain ⟨b1,b2⟩:=shJ_len hs;have hs':(if (csOk (toCs l)&&fitB (toCs l) M1.f0 M1.f1 M1.f2 M2.f0 M2.f1 M2.f2)=true then joinR (toCs l) M1.f1 M1.f2 M2.f1 M2.f2 else (false,[],[]))=(s0,s1,s2):=hs
 have hj:=fun k hk=>ShapeJoin_eq (cs:=toCs l) hF (a:=M1.f0) (b:=M2.f0) (L:=M1.f1) (S:=M1.f2) (L2:=M2.f1) (S2:=M2.f2) q3 q4 q5 q6 k hk
 rw [hs'] at hj;refine (evfrom 4000000 (fun k hk=>toClassS_eq l q2 q1 k hk)).bind ?_;refine (toShape_ev M1 q3 q4).bind ?_;refine (toShape_ev M2 q5 q6).bind ?_;refine evp ⟨rfl,rfl,hL⟩ ?_;refine (evfrom 4500000 (fun k hk=>(hj k hk).2)).bind ?_;refine (evfrom 4500000 (fun k hk=>(hj k hk).1)).bind ?_;refine (eqShape_ev s0 s1 s2 (by omega) (by omega)).bind ?_;refine (evfrom 4000000 (fun k hk=>eqClassS_self (toCs l) hF hL k hk)).bind ?_;refine (eqShape_ev M1.f0 M1.f1 M1.f2 q3 q4).bind ?_;refine (eqShape_ev M2.f0 M2.f1 M2.f2 q5 q6).bind ?_
 obtain ⟨c,e,c0,c1⟩:=mcs_ev (toCs l) 1 (by omega) (fun c hc=>by
  obtain ⟨c',hc',rfl⟩:=List.mem_map.mp hc
  exact q2 c' hc') (by omega)
 refine e.bind ?_;refine (markShape_ev M1.f0 M1.f1 M1.f2 c c0 (by omega) q3 q4).bind ?_;refine (markShape_ev M2.f0 M2.f1 M2.f2 _ (by show 0≤c+(M1.f1.length:Int)+M1.f2.length;omega) (by show c+(M1.f1.length:Int)+M1.f2.length≤_;omega) q5 q6).bind ?_;refine (markShape_ev s0 s1 s2 1 (by omega) (by omega) (by omega) (by omega)).bind ?_;refine (heldShape_ev s0 s1.length s2.length 1 (by omega) (by omega) (by omega) (by omega)).bind ?_;exact evp ⟨rfl,⟨rfl,rfl,rfl,rfl⟩,by show 0≤c+(M1.f1.length:Int)+M1.f2.length+M2.f1.length+M2.f2.length;omega,rfl,by omega⟩ (Ev.now _)
end Go.Proofs.Ytehefmgplkolaaa.Pure
