import Derived.Test.YtbaklikaoleplaaProg
import Derived.Below
import Derived.Deep.Draws
import Derived.Deep.AppendLies
import Derived.Maps.AppendAt
import Derived.OwnWalk
import Derived.Laws.BytesArg
import Derived.Laws.MakeOwn
import Derived.Laws.OwnMore
import Derived.Deep.OwnRows
import Derived.Tactics
import Derived.Lib.ConvBytes
import Derived.Laws.Slices
import Derived.WalkKit
import Derived.KernelRfl
import Derived.RowKit3
import Derived.Deep.LoopGhost
import Derived.Deep.QuietTactic
import Derived.BigQuiet
import Derived.WideLaws
import Derived.Deep.DeepCutAuto
import Derived.Deep.CutBlock
import Derived.Deep.RegionHeld3
import Derived.Laws.Rows
import Derived.Lib.AppendStr
import Derived.ArgAppend
import Derived.Laws.IdiomCopy
import Derived.OrdersHeld
import Derived.Laws.BitsLemmas
import Derived.RowKit
import Derived.Test.YtbaklikaoleplaaPh3
import Derived.Test.YtbaklikaoleplaaPh4
import Derived.Test.YtbaklikaoleplaaPh5
import Derived.Test.YtbaklikaoleplaaPh6
import Derived.Test.YtbaklikaoleplaaPh7
import Derived.Test.YtbaklikaoleplaaPh8
import Derived.Test.YtbaklikaoleplaaPh9
import Derived.Test.YtbaklikaoleplaaPh10
import Derived.Test.YtbaklikaoleplaaPh11
import Derived.Test.YtbaklikaoleplaaPh12
import Derived.Test.YtbaklikaoleplaaPh13
import Derived.Test.YtbaklikaoleplaaPh14
import Derived.Test.YtbaklikaoleplaaPh15
import Derived.Test.YtbaklikaoleplaaPh16
import Derived.Test.YtbaklikaoleplaaPh17
import Derived.Test.YtbaklikaoleplaaPh18
import Derived.Test.YtbaklikaoleplaaPh19
import Derived.Test.YtbaklikaoleplaaPh20
import Derived.Test.YtbaklikaoleplaaPh21
import Derived.Test.YtbaklikaoleplaaPh22
import Derived.Test.YtbaklikaoleplaaPh23
import Derived.BigRegion
set_option maxHeartbeats 8000000
set_option maxRecDepth 100000
namespace Go.Proofs.Ytbaklikaoleplaa.K
open Go.RowKit Go.Proofs.YtbaklikaoleplaaW.PrintWords Go.Proofs.YtbaklikaoleplaaW.PrintLast Go.Proofs.YtbaklikaoleplaaW.PrintMore
attribute [local go_sem] gD gB gY gW fR fQ gC gA
set_option linter.unusedVariables false
set_option linter.unusedSimpArgs false
def errW:Option Int→Value
  |none=> .nilIface
  |some c=> .iface 0 (.int .i64 c)
theorem dS:errW none= .nilIface:=rfl
theorem dR (c:Int):errW (some c)= .iface 0 (.int .i64 c):=rfl
def lA (n m:Nat):Array Bool:=((List.range n).map (Nat.testBit m)).toArray
theorem lA1 {α:Type} (l:List α) (i:Nat) (a:α):l.toArray.setIfInBounds i a=(l.set i a).toArray:=List.setIfInBounds_toArray l i a
theorem lA2 {α:Type} {x a:α} {l:List α}:(x::l).set 0 a=a::l:=List.set_cons_zero
theorem lA3 {α:Type} {x a:α} {l:List α} {n:Nat}:(x::l).set (n+1) a=x::l.set n a:=List.set_cons_succ
section
open Go.Proofs.YtbaklikaoleplaaW.PrintLast
variable {P:Program} {ops:Array Oper} {Q:Exit→Act→World→Prop} {md:Region.Mode} {S:World→Prop} {ds:List Nat} {oi:Oper} {v:Value} {fuel:Nat} {l:Array Bool} {a a':Act} {w:World}
theorem pS (i:Nat) (n:Tmp) (l':Array Bool) (h:fD P md ops Q S ds fuel l' a' w) (hi:ops[i]? =some oi:=by exact rfl) (hN:oi.dst=some n:=by exact rfl) (hc:bMk md ops l l' i=true:=by as_aux_lemma=>kernel_rfl) (hQ: ∀c a w,Q (.panic c) (a.put oi.dst v) w→Q (.panic c) a w:=by exact fun _ _ _ h=>h) (hw:Region.wanted oi (yielded ops a.tmps)=true:=by rfl) (hv: ∀w',(execOp a.eval oi).run P w'= .ok (.value v) w':=by intro w';go_simp;with_reducible rfl) (ha:a.put (some n) v=a':=by simp only [Act.put,lA1,lA2,lA3,mN,qN];rfl):fD P md ops Q S ds (fuel+1) l a w:=
  pure_ l' hi hN hc hQ (Or.inl ⟨hw,hv⟩) ha h
theorem pU (i:Nat) (n:Tmp) (l':Array Bool) (h:fD P md ops Q S ds fuel l' a' w) (hi:ops[i]? =some oi:=by exact rfl) (hN:oi.dst=some n:=by exact rfl) (hc:bMk md ops l l' i=true:=by as_aux_lemma=>kernel_rfl) (hQ: ∀c a w,Q (.panic c) (a.put oi.dst undef) w→Q (.panic c) a w:=by exact fun _ _ _ h=>h) (hw:Region.wanted oi (yielded ops a.tmps)=false:=by rfl) (ha:a.put (some n) undef=a':=by simp only [Act.put,lA1,lA2,lA3,mN,qN];rfl):fD P md ops Q S ds (fuel+1) l a w:=
  pure_ l' hi hN hc hQ (Or.inr ⟨hw,rfl⟩) ha h
theorem tS (i:Nat) (n:Tmp) (l':Array Bool) (hi:ops[i]? =some oi) (hN:oi.dst=some n) (hc:bIo md ops ds l l' i=true) (hS:S w) (hv: ∀w',S w'→(execOp a.eval oi).run P w'= .ok (.value v) w') (h:fD P md ops Q S ds fuel l' a' w) (hQ: ∀c a w,Q (.panic c) (a.put oi.dst v) w→Q (.panic c) a w:=by exact fun _ _ _ h=>h) (hw:Region.wanted oi (yielded ops a.tmps)=true:=by rfl) (ha:a.put (some n) v=a':=by simp only [Act.put,lA1,lA2,lA3,mN,qN];rfl):fD P md ops Q S ds (fuel+1) l a w:=
  take_ l' hi hN hc hQ (Or.inl ⟨hw,hv⟩) hS ha h
end
theorem qT:(Try.prog.info? 3).map (fun i=>(i.zero,i.size,i.bytes))=some (some (.int .i64 0),1,8):=by kernel_rfl
theorem bGa:(Try.prog.info? 4).map (fun i=>(i.zero,i.size,i.bytes))=some (some (.bool false),1,1):=by kernel_rfl
theorem info5:(Try.prog.info? 5).map (fun i=>(i.zero,i.size,i.bytes))=some (some (.int .u8 0),1,1):=by kernel_rfl
theorem info23:(Try.prog.info? 23).map (fun i=>(i.zero,i.size,i.bytes))=some (some (.slice none 0 0),1,24):=by kernel_rfl
theorem bRw:(Try.prog.info? 53).map (fun i=>(i.zero,i.size,i.bytes))=some (some (.agg #[(.int .i64 0),(.slice none 0 0)]),2,32):=by kernel_rfl
def bLk (xs:List (List Int)) (i:Int):(List Int):=xs.getD i.toNat ([]:List Int)
theorem at_L1 {w:World} {A:Option Addr} {n:Nat} {xs:List (List Int)} (h:Kd.C (Kd.slice 3 (Kd.int .i64)) w A n xs) (i:Int) (h0:0≤i) (h1:i<n): ∃ad A0 c0,A=some ad∧w.cell? (ad.add i.toNat)=some (.slice A0 (bLk xs i).length c0)∧(bLk xs i).length≤c0∧(Kd.int .i64).C w A0 (bLk xs i).length (bLk xs i):=by
 obtain ⟨ad,c,e,_,hK,hc0⟩:=Kd.C_get h ([]:List Int) i h0 h1;have hc: ∀j u,c[j]? =some u→w.cell? (ad.add (i.toNat*1+j))=some u:=hc0
 obtain ⟨A0,c0,rfl,l0,g0⟩:=hK;exact ⟨ad,A0,c0,e,by have hq:=hc 0 _ rfl;rwa [Nat.mul_one,Nat.add_zero] at hq,l0,g0⟩
structure S53 where
  f0:Int
  f1:(List Int)
def z53:S53:=⟨(0:Int),([]:List Int)⟩
def tU:Kd S53:=Kd.iso (Kd.pair (Kd.int .i64) (Kd.slice 3 (Kd.int .i64))) (fun x:S53=>(x.f0,x.f1))
theorem bRv {w:World} {x:S53} {cs:List Value} (h:tU.K w x cs): ∃A1 c1,cs=[.int .i64 x.f0,.slice A1 x.f1.length c1]∧x.f1.length≤c1∧(Kd.int .i64).C w A1 x.f1.length x.f1:=by
  obtain ⟨_,_,rfl,rfl,⟨A1,c1,rfl,l1,g1⟩⟩:=h;exact ⟨A1,c1,rfl,l1,g1⟩
theorem bPt {w:World} {base:Nat} {ok:Nat→Prop} {x:S53} {cs:List Value} (h:tU.M w base ok x cs): ∃v1,cs=[.int .i64 x.f0,v1]∧(Kd.int .i64).R 3 w base ok v1 x.f1:=by
  obtain ⟨_,_,rfl,rfl,⟨v1,rfl,g1⟩⟩:=h;exact ⟨v1,rfl,g1⟩
theorem bKf (w:World) (x:S53) {A1:Option Addr} {c1:Nat} (l1:x.f1.length≤c1) (g1:(Kd.int .i64).C w A1 x.f1.length x.f1):tU.K w x [.int .i64 x.f0,.slice A1 x.f1.length c1]:=⟨[.int .i64 x.f0],[.slice A1 x.f1.length c1],rfl,rfl,⟨A1,c1,rfl,l1,g1⟩⟩
theorem bAv (w:World) (base:Nat) (ok:Nat→Prop) (x:S53) {v1:Value} (g1:(Kd.int .i64).R 3 w base ok v1 x.f1):tU.M w base ok x [.int .i64 x.f0,v1]:=⟨[.int .i64 x.f0],[v1],rfl,rfl,⟨v1,rfl,g1⟩⟩
def cY (xs:List S53) (i:Int):S53:=xs.getD i.toNat z53
theorem bAb {w:World} {A:Option Addr} {n:Nat} {xs:List S53} (h:Kd.C tU w A n xs) (i:Int) (h0:0≤i) (h1:i<n): ∃ad A1 c1,A=some ad∧w.cell? (ad.add (i.toNat*2))=some (.int .i64 (cY xs i).f0)∧w.cell? ⟨(ad.add (i.toNat*2)).block,(ad.add (i.toNat*2)).off+1,none⟩=some (.slice A1 (cY xs i).f1.length c1)∧(cY xs i).f1.length≤c1∧(Kd.int .i64).C w A1 (cY xs i).f1.length (cY xs i).f1:=by
 obtain ⟨ad,c,e,_,hK,hc0⟩:=Kd.C_get h z53 i h0 h1;have hc: ∀j u,c[j]? =some u→w.cell? (ad.add (i.toNat*2+j))=some u:=hc0
 obtain ⟨A1,c1,rfl,l1,g1⟩:=bRv hK;exact ⟨ad,A1,c1,e,hc 0 _ rfl,by rw [←bQe _ _ 1 (by omega)];exact hc 1 _ rfl,l1,g1⟩
theorem bAz {w:World} {g:Nat} {t:TypeId} {a0 a1:Value} (h:Aside0 (w.heap[g]? =some (.cells #[a0,a1] t (0,0)))):w.cell? ⟨g,0,none⟩=some a0∧w.cell? ⟨g,1,none⟩=some a1∧w.frozen? ⟨g,0,none⟩=false∧w.frozen? ⟨g,1,none⟩=false:=⟨(bA h.out 0).trans rfl,(bA h.out 1).trans rfl,bL h.out 0,bL h.out 1⟩
theorem nP {w:World} {g:Nat} {t:TypeId} {a0 a1 a2 a3 a4:Value} (h:Aside0 (w.heap[g]? =some (.cells #[a0,a1,a2,a3,a4] t (0,0)))):w.cell? ⟨g,0,none⟩=some a0∧w.cell? ⟨g,1,none⟩=some a1∧w.cell? ⟨g,2,none⟩=some a2∧w.cell? ⟨g,3,none⟩=some a3∧w.cell? ⟨g,4,none⟩=some a4∧w.frozen? ⟨g,0,none⟩=false∧w.frozen? ⟨g,1,none⟩=false∧w.frozen? ⟨g,2,none⟩=false∧w.frozen? ⟨g,3,none⟩=false∧w.frozen? ⟨g,4,none⟩=false:=⟨(bA h.out 0).trans rfl,(bA h.out 1).trans rfl,(bA h.out 2).trans rfl,(bA h.out 3).trans rfl,(bA h.out 4).trans rfl,bL h.out 0,bL h.out 1,bL h.out 2,bL h.out 3,bL h.out 4⟩
abbrev bB:=@of_decide_eq_true
abbrev bC:=@Option.bind_some
abbrev bD:=@decide_eq_true
abbrev bE:=@Option.some.inj
abbrev bF:=@Classical.byContradiction
abbrev bH:=@Below.refl
abbrev bM:=@decide_eq_false
abbrev bN:=@World.block_lt_of_cell?
abbrev bO:=@eq_true
abbrev bP:=@List.getD_eq_getElem?_getD
abbrev bT:=@List.getElem?_eq_getElem
abbrev bV:=@Nat.le_refl
abbrev bZ:=@Kd.R_below
abbrev cD:=@Kd.R_reads'
abbrev cG:=@Kd.C_below
abbrev cH:=@List.length_append
abbrev cI:=@Kd.R_mono
abbrev cL:=@Kd.R_slice
abbrev dA:=@Kd.R_drewN
abbrev dB:=@List.length_take
abbrev dC:=@Kd.R_drew
abbrev dD:=@IntWalk.i64_in
abbrev dE:=@Kd.R_lower
abbrev dF:=@Int.toNat_natCast
abbrev dI:=@decide_eq_true_eq
abbrev dJ:=@List.length_drop
abbrev dL:=@Kd.at_int
abbrev dO:=@Nat.le_trans
abbrev dP:=@List.length_map
abbrev dT:=@trivial
abbrev dU:=@List.setIfInBounds_toArray
abbrev dV:=@List.length_set
abbrev dX:=@World.drewN_drewN
abbrev dY:=@Bool.and_eq_true
abbrev fB:=@Option.some.injEq
abbrev fC:=@List.mem_cons_of_mem
abbrev fE:=@Nat.mul_le_mul_right
abbrev fH:=@List.getElem?_eq_some_iff
abbrev fI:=@List.length_replicate
abbrev fL:=@List.getElem?_take
abbrev fM:=@bodyPost_ret
abbrev fO:=@List.drop_eq_getElem_cons
abbrev fS:=@Below.heap_setCell
abbrev fT:=@List.set_cons_succ
abbrev fY:=@List.set_cons_zero
abbrev fZ:=@Kd.R_bound
abbrev gF:=@congrArg
abbrev gG:=@List.mem_cons_self
abbrev gK:=@List.length_zipIdx
abbrev gU:=@List.map_cons
abbrev hU:=@Nat.zero_le
abbrev hY:=@Option.map_eq_some_iff
abbrev hZ:=@List.drop_eq_nil_of_le
abbrev jA:=@Kd.R_far
abbrev jB:=@Int.tdiv_eq_ediv_of_nonneg
abbrev jC:=@Kd.R_of_own
abbrev jE:=@List.getElem?_append_left
abbrev jI:=@List.getElem?_drop
abbrev jL:=@List.getElem?_append_right
abbrev jO:=@Kd.own_of_R
abbrev jQ:=@Bool.true_and
abbrev jW:=@List.getElem?_eq_none
abbrev jY:=@results_cell_row
abbrev jZ:=@List.getElem_mem
abbrev kH:=@Nat.add_assoc
abbrev kL:=@Nat.min_eq_left
abbrev kN:=@Kd.at_bool
abbrev kO:=@Kd.R_cell
abbrev kV:=@List.length_range
abbrev kY:=@Kd.V_below
abbrev mH:=@List.drop_zero
abbrev mI:=@Kd.R_nil
abbrev mK:=@List.mem_append_right
abbrev mO:=@List.take_succ_eq_append_getElem
abbrev mP:=@List.map_nil
abbrev nA:=@List.map_append
abbrev nJ:=@Kd.R_types
abbrev nN:=@Kd.R_base
abbrev nU:=@List.mem_singleton
abbrev nX:=@List.map_toArray
abbrev nY:=@List.all_eq_true
abbrev pF:=@Nat.succ_mul
abbrev pG:=@Kd.R_form
abbrev pI:=@Nat.mul_one
abbrev pJ:=@List.nil_append
abbrev pM:=@Kd.R_lt
abbrev pO:=@eq_false
abbrev pZ:=@Nat.lt_of_lt_of_le
abbrev qA:=@Kd.V_mono
abbrev qB:=@Kd.V_kept
abbrev qG:=@Kd.V_reads'
abbrev qO:=@Nat.le_mul_of_pos_right
abbrev qP:=@Kd.R_ne
abbrev qX:=@List.getElem_of_mem
abbrev rR:=@List.length_singleton
abbrev rZ:=@Bool.or_eq_true
abbrev sA:=@Nat.zero_add
abbrev sB:=@Nat.lt_or_ge
abbrev sC:=@List.getElem?_zipIdx
abbrev sD:=@List.getElem?_map
abbrev sE:=@Kd.R_append
abbrev sU:=@List.length_cons
abbrev sV:=@Kd.R_make_step
abbrev sW:=@Eq.trans
abbrev tD:=@List.take_append_of_le_length
abbrev tE:=@List.eq_nil_of_length_eq_zero
abbrev tM:=@decide_eq_true_iff
abbrev tN:=@Nat.eq_zero_or_pos
abbrev tO:=@List.take_of_length_le
abbrev tP:=@List.getElem?_set_self
abbrev tQ:=@Bool.false_eq_true
abbrev tX:=@List.append_nil
abbrev vK:=@List.ext_getElem?
abbrev vL:=@List.append_assoc
abbrev vU:=@List.mem_append_left
abbrev vV:=@Kd.S_slice
abbrev vW:=@Int.le_refl
abbrev xD:=@Nat.ne_of_lt
abbrev xE:=@List.foldlM_cons
abbrev xF:=@Kd.R_append_rows
abbrev xP:=@beq_eq_false_iff_ne
abbrev xQ:=@World.grownBy_alloc
abbrev xR:=@List.getElem?_range
abbrev xS:=@Int.toNat_of_nonneg
abbrev yH:=@List.sum_cons
abbrev yI:=@Kd.R_lit
abbrev yL:=@if_true
abbrev yM:=@List.foldlM_nil
abbrev yN:=@Bool.eq_iff_iff
abbrev zH:=@beq_iff_eq
abbrev zK:=@List.getElem?_replicate
theorem aK {p:Prop} (h:p):Aside0 p:=Aside0.mk h
section
variable {P:Program} {ops:Array Oper} {Q:Exit→Act→World→Prop} {md:Region.Mode} {S:World→Prop} {ds:List Nat} {oi:Oper} {v:Value} {fuel:Nat} {l:Array Bool} {a a':Act} {w:World}
theorem pT {T:Bool×List (List Nat×List Nat)} (i:Nat) (n:Tmp) (l':Array Bool) (HT:Aside0 (vF md ops=T)) (h:fD P md ops Q S ds fuel l' a' w) (hi:ops[i]? =some oi:=by exact rfl) (hN:oi.dst=some n:=by exact rfl) (hc:bSj T l.toList l'.toList i=true:=by kernel_rfl) (hQ: ∀c a w,Q (.panic c) (a.put oi.dst v) w→Q (.panic c) a w:=by exact fun _ _ _ h=>h) (hw:Region.wanted oi (yielded ops a.tmps)=true:=by rfl) (hv: ∀w',(execOp a.eval oi).run P w'= .ok (.value v) w':=by intro w';go_simp;with_reducible rfl) (ha:a.put (some n) v=a':=by simp only [Act.put,dU,fY,fT,mN,qN];rfl):fD P md ops Q S ds (fuel+1) l a w:=pS i n l' h hi hN (bNw HT.out hc) hQ hw hv ha
theorem nS (n:Tmp) (h:fD P md ops Q S ds fuel l a' w) (ha:a.put (some n) v=a':=by simp only [Act.put,dU,fY,fT,mN,qN];rfl):fD P md ops Q S ds fuel l (a.put (some n) v) w:=sH ha h
theorem oS (i:Nat) (n:Tmp) (l':Array Bool) (hi:ops[i]? =some oi) (hN:oi.dst=some n) (h: ∀K:Act→World→Prop,Shut (∀a' w',S w'→(S w'→fD P md ops Q S ds fuel l' a' w')→K a' w')→if Region.wanted oi (yielded ops a.tmps)=true then Oper.wp P oi a w K Q else K (a.put (some n) undef) w) (hc:bDs md ops l l' i=true:=by kernel_rfl) (hd:i∉ds:=by decide):fD P md ops Q S ds (fuel+1) l a w:=pD l' hi hN hc hd h
end
theorem lA0 (n:Nat):Array.replicate n false=lA n 0:=by simp [lA,Array.ext_iff]
section
variable {P:Program} {ops:Array Oper} {Q:Exit→Act→World→Prop} {rest:List Oper} {oi:Oper} {a:Act} {w:World}
theorem sT {id:Nat} (n:Nat) {S:World→Prop} {ds:List Nat} (hS:S w.drew) (h:S w.drew→fD P .any ops Q S ds n (lA n 0) a w.drew) (hm:P.follows .mixedOrders=true:=by kernel_rfl) (hn:ops.size=n:=by rfl):(Code.region id ops true).wp P Q a w:=start_ (lA n 0) hm hn (lA0 n) hS h
theorem gL (n : Tmp) {f : FuncId} {fn : Func} {xs : Array Operand} {ts : Array TypeId} (hf : P.funcs[f]? = some fn) (args : Array Value) (h : Calls P f args w fun e w' => ∃ v, e = .returned v ∧ wpList P ops Q rest (a.put (some n) v) w') (hd : oi.dst = some n := by exact rfl) (hg : oi.guard = none := by exact rfl) (hname : (fn.name == "runtime.NumGoroutine") = false := by kernel_rfl) (hb : fn.body.isSome = true := by exact rfl) (hop : oi.op = .call { callee := .value (.func f), args := xs, argTypes := ts } := by exact rfl) (hargs : xs.map a.eval = args := by simp only [nX, gU, mP]; rfl) : wpList P ops Q (oi :: rest) a w := gE (some n) hd hg hf hname hb args hop hargs h
theorem gO {N : Option Tmp} {K : Act → World → Prop} {f : FuncId} {fn : Func} {xs : Array Operand} {ts : Array TypeId} (hf : P.funcs[f]? = some fn) (args : Array Value) (h : Calls P f args w fun e w' => ∃ v, e = .returned v ∧ K (a.put N v) w') (hname : (fn.name == "runtime.NumGoroutine") = false := by kernel_rfl) (hb : fn.body.isSome = true := by exact rfl) (hw : Region.wanted oi (yielded ops a.tmps) = true := by rfl) (hN : oi.dst = N := by exact rfl) (hop : oi.op = .call { callee := .value (.func f), args := xs, argTypes := ts } := by exact rfl) (hargs : xs.map a.eval = args := by simp only [nX, gU, mP]; rfl) : if Region.wanted oi (yielded ops a.tmps) = true then Oper.wp P oi a w K Q else K (a.put N undef) w := qU hf hname hb args hw hN hop hargs h
end
section
variable {P:Program} {ops:Array Oper} {Q:Exit→Act→World→Prop} {md:Region.Mode} {S:World→Prop} {ds:List Nat} {oi:Oper} {v:Value} {fuel:Nat} {l:Array Bool} {a a':Act} {w:World} {T:Bool×List (List Nat×List Nat)} {n m m':Nat} {N:Tmp}
theorem cJ (i:Nat) (h:fD P md ops Q S ds fuel (lA n m') a' w) (hi:ops[i]? =some oi:=by exact rfl) (hN:oi.dst=some N:=by exact rfl) (hm:m ||| 2 ^ i=m':=by simp only [Nat.reducePow,Nat.reduceOr];exact rfl) (hc:bMk md ops (lA n m) (lA n m') i=true:=by as_aux_lemma=>kernel_rfl) (hQ: ∀c a w,Q (.panic c) (a.put oi.dst v) w→Q (.panic c) a w:=by exact fun _ _ _ h=>h) (hw:Region.wanted oi (yielded ops a.tmps)=true:=by rfl) (hv: ∀w',(execOp a.eval oi).run P w'= .ok (.value v) w':=by intro w';go_simp;with_reducible rfl) (ha:a.put (some N) v=a':=by simp only [Act.put,dU,fY,fT,mN,qN];rfl):fD P md ops Q S ds (fuel+1) (lA n m) a w:=pS i N (lA n m') h hi hN hc hQ hw hv ha
theorem fW (i:Nat) (h:fD P md ops Q S ds fuel (lA n m') a' w) (hi:ops[i]? =some oi:=by exact rfl) (hN:oi.dst=some N:=by exact rfl) (hm:m ||| 2 ^ i=m':=by simp only [Nat.reducePow,Nat.reduceOr];exact rfl) (hc:bMk md ops (lA n m) (lA n m') i=true:=by as_aux_lemma=>kernel_rfl) (hQ: ∀c a w,Q (.panic c) (a.put oi.dst undef) w→Q (.panic c) a w:=by exact fun _ _ _ h=>h) (hw:Region.wanted oi (yielded ops a.tmps)=false:=by rfl) (ha:a.put (some N) undef=a':=by simp only [Act.put,dU,fY,fT,mN,qN];rfl):fD P md ops Q S ds (fuel+1) (lA n m) a w:=pU i N (lA n m') h hi hN hc hQ hw ha
theorem mC (i:Nat) (h:fD P md ops Q S ds fuel (lA n m') a' w) (hi:ops[i]? =some oi:=by exact rfl) (hN:oi.dst=some N:=by exact rfl) (hm:m ||| 2 ^ i=m':=by simp only [Nat.reducePow,Nat.reduceOr];exact rfl) (HT:Aside0 (vF md ops=T):=by exact HT_) (hc:bSj T (lA n m).toList (lA n m').toList i=true:=by kernel_rfl) (hQ: ∀c a w,Q (.panic c) (a.put oi.dst v) w→Q (.panic c) a w:=by exact fun _ _ _ h=>h) (hw:Region.wanted oi (yielded ops a.tmps)=true:=by rfl) (hv: ∀w',(execOp a.eval oi).run P w'= .ok (.value v) w':=by intro w';go_simp;with_reducible rfl) (ha:a.put (some N) v=a':=by simp only [Act.put,dU,fY,fT,mN,qN];rfl):fD P md ops Q S ds (fuel+1) (lA n m) a w:=pS i N (lA n m') h hi hN (bNw HT.out hc) hQ hw hv ha
theorem nZ (i:Nat) (h:fD P md ops Q S ds fuel (lA n m') a' w) (hi:ops[i]? =some oi:=by exact rfl) (hN:oi.dst=some N:=by exact rfl) (hm:m ||| 2 ^ i=m':=by simp only [Nat.reducePow,Nat.reduceOr];exact rfl) (HT:Aside0 (vF md ops=T):=by exact HT_) (hc:bSj T (lA n m).toList (lA n m').toList i=true:=by kernel_rfl) (hQ: ∀c a w,Q (.panic c) (a.put oi.dst undef) w→Q (.panic c) a w:=by exact fun _ _ _ h=>h) (hw:Region.wanted oi (yielded ops a.tmps)=false:=by rfl) (ha:a.put (some N) undef=a':=by simp only [Act.put,dU,fY,fT,mN,qN];rfl):fD P md ops Q S ds (fuel+1) (lA n m) a w:=pU i N (lA n m') h hi hN (bNw HT.out hc) hQ hw ha
end
section
variable {w w1:World} {g:Nat} {t:TypeId} {p0 p1 p2 p3 p4 p5 p6 p7:Addr} {v0 v1 v2 v3 v4 v5 v6 v7:Value}
theorem xO (h:w.heap[g]? =some (.cells #[v0,v1,v2,v3,v4] t (0,0))):w.cell? ⟨g,0,none⟩=some v0∧w.cell? ⟨g,1,none⟩=some v1∧w.cell? ⟨g,2,none⟩=some v2∧w.cell? ⟨g,3,none⟩=some v3∧w.cell? ⟨g,4,none⟩=some v4:=⟨(bA h 0).trans rfl,(bA h 1).trans rfl,(bA h 2).trans rfl,(bA h 3).trans rfl,(bA h 4).trans rfl⟩
theorem b7_2 (hb:Below w.heap.size w w1) (h:w.cell? p0=some v0∧w.cell? p1=some v1):w1.cell? p0=some v0∧w1.cell? p1=some v1:=⟨bU hb h.1,bU hb h.2⟩
theorem bNv (hb:Below w.heap.size w w1) (h:w.cell? p0=some v0∧w.cell? p1=some v1∧w.cell? p2=some v2∧w.cell? p3=some v3):w1.cell? p0=some v0∧w1.cell? p1=some v1∧w1.cell? p2=some v2∧w1.cell? p3=some v3:=⟨bU hb h.1,bU hb h.2.1,bU hb h.2.2.1,bU hb h.2.2.2⟩
theorem bDe (hb:Below w.heap.size w w1) (h:w.cell? p0=some v0∧w.cell? p1=some v1∧w.cell? p2=some v2∧w.cell? p3=some v3∧w.cell? p4=some v4):w1.cell? p0=some v0∧w1.cell? p1=some v1∧w1.cell? p2=some v2∧w1.cell? p3=some v3∧w1.cell? p4=some v4:=⟨bU hb h.1,bU hb h.2.1,bU hb h.2.2.1,bU hb h.2.2.2.1,bU hb h.2.2.2.2⟩
theorem bNu (hb:Below w.heap.size w w1) (h:w.cell? p0=some v0∧w.cell? p1=some v1∧w.cell? p2=some v2∧w.cell? p3=some v3∧w.cell? p4=some v4∧w.cell? p5=some v5):w1.cell? p0=some v0∧w1.cell? p1=some v1∧w1.cell? p2=some v2∧w1.cell? p3=some v3∧w1.cell? p4=some v4∧w1.cell? p5=some v5:=⟨bU hb h.1,bU hb h.2.1,bU hb h.2.2.1,bU hb h.2.2.2.1,bU hb h.2.2.2.2.1,bU hb h.2.2.2.2.2⟩
theorem b7_7 (hb:Below w.heap.size w w1) (h:w.cell? p0=some v0∧w.cell? p1=some v1∧w.cell? p2=some v2∧w.cell? p3=some v3∧w.cell? p4=some v4∧w.cell? p5=some v5∧w.cell? p6=some v6):w1.cell? p0=some v0∧w1.cell? p1=some v1∧w1.cell? p2=some v2∧w1.cell? p3=some v3∧w1.cell? p4=some v4∧w1.cell? p5=some v5∧w1.cell? p6=some v6:=⟨bU hb h.1,bU hb h.2.1,bU hb h.2.2.1,bU hb h.2.2.2.1,bU hb h.2.2.2.2.1,bU hb h.2.2.2.2.2.1,bU hb h.2.2.2.2.2.2⟩
end
theorem nQ {p:Prop} (h:p:=by repeat (first|(with_reducible first|exact HB.out|apply bJ|apply bI|apply bG)|exact HB.out)):p:=h
theorem qD {p:Prop} (h:p:=by (try simp only [nX,gU,mP]);first|done|rfl|(simp only [dJ,dB];rfl)):p:=h
theorem jX {p:Prop} (h:p:=by first|(with_reducible assumption)|assumption):p:=h
theorem pK {p:Prop} (h:p:=by rintro w' ⟨s0,s1,s2,s3,s4,s5⟩;go_simp;with_reducible rfl):p:=h
theorem bDl {p:Prop} (h:p:=by repeat (first|exact (cG HR0.out HB.out)|(with_reducible refine Kd.C_alloc ?_ _)|(with_reducible refine Kd.C_drewN ?_ _)|(with_reducible refine Kd.C_drew ?_))):p:=h
theorem bEe {p:Prop} (h:p:=by repeat (first|exact (cG HR1_0.out HB.out)|(with_reducible refine Kd.C_alloc ?_ _)|(with_reducible refine Kd.C_drewN ?_ _)|(with_reducible refine Kd.C_drew ?_))):p:=h
theorem nR {p:Prop} (h:p:=by first|rfl|(simp;done)|(simp [*];done)):p:=h
theorem zL {p:Prop} (h:p:=by first|rfl|(simp [dS,dR]<;>rfl)|(simp [*,dS,dR]<;>rfl)):p:=h
theorem bIn {p:Prop} (h:p:=by repeat (first|(with_reducible first|exact HB.out|apply bJ|apply bI|apply bG|refine cE ?_ GE358.out)|exact HB.out)):p:=h
theorem qV {p:Prop} (h:p:=by rintro w' ⟨s0,s1,s2,s3,s4⟩;go_simp;with_reducible rfl):p:=h
theorem bDn {p:Prop} (h:p:=by repeat (first|exact (cG HR0_0.out HB.out)|(with_reducible refine Kd.C_alloc ?_ _)|(with_reducible refine Kd.C_drewN ?_ _)|(with_reducible refine Kd.C_drew ?_))):p:=h
theorem bDm {p:Prop} (h:p:=by repeat (first|(with_reducible first|exact HB.out|apply bJ|apply bI|apply bG|refine cE ?_ GE204.out)|exact HB.out)):p:=h
theorem sM {p:Prop} (h:p:=by rintro w' ⟨s0,s1,s2,s3⟩;go_simp;with_reducible rfl):p:=h
theorem sF {p:Prop} (h:p:=by repeat (first|exact Drawn0.refl _|apply Drawn0.step)):p:=h
theorem bGg {p:Prop} (h:p:=by repeat (first|(with_reducible first|exact HB.out|apply bJ|apply bI|apply bG|refine cE ?_ GE137.out)|exact HB.out)):p:=h
theorem bAf {p:Prop} (h:p:=by rintro w' ⟨s0,s1,s2,s3,s4,s5,s6,s7,s8,s9,s10⟩;go_simp;with_reducible rfl):p:=h
theorem bLb {p:Prop} (h:p:=by repeat (first|(with_reducible first|exact HB.out|apply bJ|apply bI|apply bG|refine cE ?_ GE226.out|refine cE ?_ GE227.out|refine cE ?_ GE228.out)|exact HB.out)):p:=h
theorem bIe {p:Prop} (h:p:=by repeat (first|exact (cG HR1_4.out HB.out)|(with_reducible refine Kd.C_alloc ?_ _)|(with_reducible refine Kd.C_drewN ?_ _)|(with_reducible refine Kd.C_drew ?_))):p:=h
theorem bEf {p:Prop} (h:p:=by (with_reducible repeat (first|refine bX ?_ _|refine bY ?_|refine bQ ?_ _));exact BK358.out):p:=h
theorem bId {p:Prop} (h:p:=by repeat (first|(with_reducible first|exact HB.out|apply bJ|apply bI|apply bG|refine cE ?_ GE163.out)|exact HB.out)):p:=h
theorem bCw {p:Prop} (h:p:=by simp only [zZ,Act.put,dU,fY,fT]):p:=h
theorem bJt {p:Prop} (h:p:=by repeat (first|(with_reducible first|exact HB.out|apply bJ|apply bI|apply bG|refine cE ?_ GE433.out)|exact HB.out)):p:=h
theorem bJs {p:Prop} (h:p:=by repeat (first|(with_reducible first|exact HB.out|apply bJ|apply bI|apply bG|refine cE ?_ GE215.out)|exact HB.out)):p:=h
theorem bLa {p:Prop} (h:p:=by repeat (first|(with_reducible first|exact HB.out|apply bJ|apply bI|apply bG|refine cE ?_ GE156.out)|exact HB.out)):p:=h
theorem tW {p:Prop} (h:p:=by have:=HGr.out;have:=HGW.out;omega):p:=h
theorem bCv {p:Prop} (h:p:=by rintro w' ⟨s0,s1,s2,s3,s4,s5,s6⟩;go_simp;with_reducible rfl):p:=h
theorem bMx {p:Prop} (h:p:=by repeat (first|(with_reducible first|exact HB.out|apply bJ|apply bI|apply bG|refine cE ?_ (IsS96.ge HI0.out))|exact HB.out)):p:=h
theorem bKz {p:Prop} (h:p:=by repeat (first|(with_reducible first|exact HK.out|apply gZ.set_|apply nI|apply nD|apply kM)|exact HK.out)):p:=h
theorem bAe {p:Prop} (h:p:=by rintro w' ⟨s0,s1⟩;go_simp;with_reducible rfl):p:=h
theorem bQo {p:Prop} (h:p:=by (with_reducible repeat (first|refine bX ?_ _|refine bY ?_|refine bQ ?_ _));exact BK433.out):p:=h
theorem bMw {p:Prop} (h:p:=by repeat (first|(with_reducible first|exact HI0.out|apply IsS96.alloc|apply IsS96.drewN|apply IsS96.drew|apply IsS96.set_1)|exact HI0.out)):p:=h
theorem bBg {p:Prop} (h:p:=by rintro w' ⟨s0,s1,s2⟩;go_simp;with_reducible rfl):p:=h
theorem bKy {p:Prop} (h:p:=by (with_reducible repeat (first|refine bX ?_ _|refine bY ?_|refine bQ ?_ _));exact BK226.out):p:=h
theorem bKx {p:Prop} (h:p:=by (with_reducible repeat (first|refine bX ?_ _|refine bY ?_|refine bQ ?_ _));exact BK204.out):p:=h
theorem bQn {p:Prop} (h:p:=by repeat (first|(with_reducible first|exact HB.out|apply bJ|apply bI|apply bG|refine cE ?_ GE282.out)|exact HB.out)):p:=h
theorem bQm {p:Prop} (h:p:=by repeat (first|(with_reducible first|exact HB.out|apply bJ|apply bI|apply bG|refine cE ?_ GE189.out)|exact HB.out)):p:=h
theorem bCu {p:Prop} (h:p:=by have:=HGp.out;have:=HGW.out;omega):p:=h
theorem bOv {p:Prop} (h:p:=by (with_reducible repeat (first|refine bX ?_ _|refine bY ?_|refine bQ ?_ _));exact BK163.out):p:=h
theorem bOu {p:Prop} (h:p:=by (with_reducible repeat (first|refine bX ?_ _|refine bY ?_|refine bQ ?_ _));exact BK137.out):p:=h
theorem bKw {p:Prop} (h:p:=by rintro w' ⟨s0,s1,s2,s3,s4,s5,s6,s7,s8,s9⟩;go_simp;with_reducible rfl):p:=h
theorem xH {p:Prop} (h:p:=by have:=HL.out;omega):p:=h
theorem bQl {p:Prop} (h:p:=by (with_reducible repeat (first|refine bX ?_ _|refine bY ?_|refine bQ ?_ _));exact BK241.out):p:=h
theorem bQk {p:Prop} (h:p:=by (with_reducible repeat (first|refine bX ?_ _|refine bY ?_|refine bQ ?_ _));exact BK227.out):p:=h
theorem zz44 {p:Prop} (h:p:=by repeat (first|exact HR0.out|(with_reducible refine Kd.C_alloc ?_ _)|(with_reducible refine Kd.C_drewN ?_ _)|(with_reducible refine Kd.C_drew ?_))):p:=h
theorem zM {p:Prop} (h:p:=by have:=HM.out;omega):p:=h
theorem bQj {p:Prop} (h:p:=by (with_reducible repeat (first|apply Kd.R_alloc|apply dA|apply dC));exact HO363.out):p:=h
theorem zz47 {p:Prop} (h:p:=by exact (by rw [hg];exact xD (dN (g:=gb433) (o:= .cells #[.slice A0_0 l0_0.length c0_0,.int .i64 a0_1,.int .i64 a0_2,.int .i64 a0_3,.slice A0_4 l0_4.length c0_4] 29 (0,0)) bQo):gb433≠gb434)):p:=h
theorem zz48 {p:Prop} (h:p:=by exact (by rw [hg];exact Nat.ne_of_gt (dN (g:=gb433) (o:= .cells #[.slice A0_0 l0_0.length c0_0,.int .i64 a0_1,.int .i64 a0_2,.int .i64 a0_3,.slice A0_4 l0_4.length c0_4] 29 (0,0)) bQo):gb434≠gb433)):p:=h
theorem zz49 {p:Prop} (h:p:=by repeat (first|(with_reducible first|exact HBW.out|apply bJ|apply bI|apply bG)|exact HBW.out)):p:=h
theorem zz50 {p:Prop} (h:p:=by repeat (first|(with_reducible first|exact HB.out|apply bJ|apply bI|apply bG|refine cE ?_ GE433.out|refine cE ?_ GE434.out)|exact HB.out)):p:=h
theorem zz51 {p:Prop} (h:p:=by repeat (first|(with_reducible first|exact HB.out|apply bJ|apply bI|apply bG|refine cE ?_ GE282.out|refine cE ?_ GE285.out)|exact HB.out)):p:=h
theorem zz52 {p:Prop} (h:p:=by repeat (first|(with_reducible first|exact HB.out|apply bJ|apply bI|apply bG|refine cE ?_ GE226.out|refine cE ?_ GE227.out)|exact HB.out)):p:=h
theorem bGx {p:Prop} (h:p:=by have:=HM.out;have:=HX2.out;omega):p:=h
theorem bMv {p:Prop} (h:p:=by have:=B1.out;unfold rM at this;rw [HO.out];exact this):p:=h
theorem zz55 {p:Prop} (h:p:=by (with_reducible repeat (first|refine bX ?_ _|refine bY ?_|refine bQ ?_ _));exact BK215.out):p:=h
structure Mm where
 words:List Int
 young:Int
 top:Int
 old:Int
 cards:List Bool
 fields:List (List Int)
 begins:List Int
def MV (w:World) (g:Nat) (m:Mm):Prop:= ∃AW cW AC cC AF cF AB cB,
 w.heap[g]? =some (.cells #[.slice AW m.words.length cW,.int .i64 m.young,.int .i64 m.top,.int .i64 m.old,.slice AC m.cards.length cC,.slice AF m.fields.length cF,.slice AB m.begins.length cB] 68 (0,0))∧
 Kd.C (Kd.int .i64) w AW m.words.length m.words∧Kd.C Kd.bool w AC m.cards.length m.cards∧Kd.C (Kd.slice 3 (Kd.int .i64)) w AF m.fields.length m.fields∧Kd.C (Kd.int .i64) w AB m.begins.length m.begins∧
 m.words.length≤cW∧m.cards.length≤cC∧m.fields.length≤cF∧m.begins.length≤cB
theorem dH {w w':World} {g:Nat} {m:Mm} (h:MV w g m) (hb:Below w.heap.size w w'):MV w' g m:=by
  obtain ⟨AW,cW,AC,cC,AF,cF,AB,cB,h0,h1,h2,h3,h4,h5⟩:=h;exact ⟨AW,cW,AC,cC,AF,cF,AB,cB,(hb.block g (dN h0)).trans h0,cG h1 hb,cG h2 hb,cG h3 hb,cG h4 hb,h5⟩
def bHc (g:Nat) (at_:Int):Value:= .agg #[.pointer (some ⟨g,0,none⟩),.int .i64 at_]
def nG (m:Mm) (at_:Int):Option Int:=if 1≤at_∧at_≤m.words.length∧m.words.length≤281474976710656 then some (rd m.words (at_ - 1)) else none
theorem kQ (g:Nat) (m:Mm) (at_ r:Int) (w:World) (hm:MV w g m) (h:nG m at_=some r):
  Calls Try.prog 109 #[bHc g at_] w fun e w'=>e= .returned (.int .i64 r)∧Below w.heap.size w w':=by
 unfold nG at h
 split at h
 case isFalse=>simp at h
 case isTrue hb=>
 have HR:=aK (bE h);clear h;obtain ⟨AW,cW,AC,cC,AF,cF,AB,cB,h0,h1,h2,h3,h4,h5⟩:=hm;have HG:=dN h0;obtain ⟨j,hj⟩: ∃j,j=at_ - 1:=⟨_,rfl⟩;have q:IntKind.i64.wrap (at_ - 1)=j:=by rw [hj];exact dD _ ⟨by omega,by omega⟩
 have p1:=bO (show 0≤j by omega);have p2:=bO (show j<(m.words.length:Int) by omega);obtain ⟨ad,e0,hx⟩:=dL h1 j (by omega) (by omega)
 cases e0
 have x0: ∀o,(w.alloc o).cell? (ad.add j.toNat)=some (.int .i64 (rd m.words j)):=fun o=>((bJ (bH _ _) o).cell (bN w _ hx)).trans hx
 rw [←hj] at HR;have c0: ∀o,(w.alloc o).cell? ⟨g,0,none⟩=_:=fun o=>(bA (bQ h0 o) 0).trans rfl
 clear h1 h2 h3 h4 h5 hb hj;unfold bHc;go_enter Try.func109,Try.ntmps109;go_wp2
 go_quiet (fail)
 go_wp2;go_ret;exact ⟨by rw [←HR.out];rfl,by repeat (first|exact bH _ _|apply bJ|apply bI|(refine cE ?_ (by simp)))⟩
theorem bCs {w w':World} {cs:Array Value} {t:TypeId} (hb:Below (w.alloc (.cells cs t (0,0))).heap.size (w.alloc (.cells cs t (0,0))) w'):w'.heap[w.heap.size]? =some (.cells cs t (0,0)):=(hb.block w.heap.size (dN (kU w _))).trans (kU w _)
def bIc (xs:List (List Int)) (i:Int):List Int:=xs.getD i.toNat []
theorem bOp {w:World} {A:Option Addr} {n:Nat} {xs:List (List Int)} (h:Kd.C (Kd.slice 3 (Kd.int .i64)) w A n xs) (i:Int) (h0:0≤i) (h1:i<n): ∃ad A1 c1,A=some ad∧w.cell? (ad.add i.toNat)=some (.slice A1 (bIc xs i).length c1)∧(bIc xs i).length≤c1∧Kd.C (Kd.int .i64) w A1 (bIc xs i).length (bIc xs i):=by
  obtain ⟨ad,c,e,_,⟨A1,c1,rfl,l1,g1⟩,hc⟩:=Kd.C_get h [] i h0 h1;exact ⟨ad,A1,c1,e,by have:=hc 0 _ rfl;rw [show i.toNat*(Kd.slice 3 (Kd.int .i64)).sz+0=i.toNat from by show i.toNat*1+0=_;omega] at this;exact this,l1,g1⟩
def xJ (l0:List Int):Option (List Int):=if l0.length≤17592186044416 then some l0 else none
theorem bHt (n c:Nat) (W:World):(binOp .eql 23 (.slice none n c) (.slice none 0 0)).run Try.prog W= .ok (.bool true) W:=by kernel_rfl
theorem bGd (ad:Addr) (n c:Nat) (W:World):(binOp .eql 23 (.slice (some ad) n c) (.slice none 0 0)).run Try.prog W= .ok (.bool false) W:=by kernel_rfl
theorem bDc (A0:Option Addr) (c0:Nat) (l0 r:List Int) (w:World) (hr0:Kd.C (Kd.int .i64) w A0 l0.length l0) (hc0:l0.length≤c0) (h:xJ l0=some r):
  Calls Try.prog 79 #[.slice A0 l0.length c0] w fun e w'=> ∃v,e= .returned v∧Kd.R (Kd.int .i64) 3 w' w.heap.size (fun _=>True) v r∧Below w.heap.size w w':=by
 unfold xJ at h
 split at h
 case isFalse=>simp at h
 case isTrue hl=>
 obtain rfl:=bE h;have HR0:=aK hr0;have HC0:=aK hc0;have HL:=aK hl;clear h hl hc0
 cases A0 with
 | none =>
  have hz:l0=[]:=by
   cases l0 with
   |nil=>rfl
   |cons x xs=>obtain ⟨ad,_,e,_⟩:=Kd.C_get hr0 x 0 (by omega) (by simp);cases e
  subst hz;clear hr0;have N1:=bHt;have N2:=bGd;go_enter Try.func79,Try.ntmps79;go_wp2;go_ret;exact ⟨_,rfl,mI _ _ _ _ _,by repeat (first|exact bH _ _|apply bJ|apply bI|apply bG)⟩
 | some ad =>
  clear hr0;have N1:=bHt;have N2:=bGd;go_enter Try.func79,Try.ntmps79
  go_wp2_with (first
   |((with_reducible refine dK (N:=5) rfl ?_);refine yI (Kd.int .i64) _ 3 ?hg (N:=5) ?hd (xs:=([]:List Int)) (inner:=[]) (ok:=fun _=>True) (okp:=fun _=>True) ?hr ?hp (fun _ hk=>hk) dT (bH _ _) (bV _) (by simp) ?_;(case hd=>rfl);(case hg=>rfl);(case hr=>first|(go_simp;done)|(go_simp;rfl));(case hp=>exact (pP.none _ _));intro v5 w5 ho5 hb5 hg5 hn5;have HO5:=aK ho5;have HB5:=aK hb5;clear ho5 hb5 hg5 hn5)
   |((with_reducible refine jK (b:= .append) (xs:= #[.tmp 5,.tmp 6]) rfl ?_);at_builtin;refine xF (Kd.int .i64) (w0:=w) w.heap.size rfl (.tmp 5) (.tmp 6) 23 3 (.int .i64 0) 8 rfl Try.underlying23 qT rfl (by decide) (by omega) v5 [] l0 _ _ _ (fun _=>True) (fun _=>False) rfl rfl ?aO ?aR (fun _ _ h=>h) (fun _ h=>h.elim) (fun _ _=>trivial) ?aB ?aS ?aL ?_;(case aR=>exact cG HR0.out HB5.out);(case aB=>exact HB5.out);(case aO=>exact HO5.out);(case aS=>exact bW HB5.out);(case aL=>have:=HL.out;simp;omega);intro v7 w7 ho7 hb7 hg7 hn7;have HO7:=aK ho7;have HB7:=aK hb7;clear ho7 hb7 hg7 hn7))
  go_ret;exact ⟨_,rfl,HO7.out,HB7.out⟩
theorem bFn (W:World) (o o':Obj):((W.alloc o).alloc o').heap[W.heap.size]? =some o∧((W.alloc o).alloc o').heap[W.heap.size+1]? =some o':=
  ⟨bQ (kU W o) o',by simpa using kU (W.alloc o) o'⟩
def xK (l0:List Bool):Option (List Bool):=if l0.length≤17592186044416 then some l0 else none
theorem bHu (n c:Nat) (W:World):(binOp .eql 24 (.slice none n c) (.slice none 0 0)).run Try.prog W= .ok (.bool true) W:=by kernel_rfl
theorem bGe (ad:Addr) (n c:Nat) (W:World):(binOp .eql 24 (.slice (some ad) n c) (.slice none 0 0)).run Try.prog W= .ok (.bool false) W:=by kernel_rfl
theorem bDd (A0:Option Addr) (c0:Nat) (l0 r:List Bool) (w:World) (hr0:Kd.C (Kd.bool) w A0 l0.length l0) (hc0:l0.length≤c0) (h:xK l0=some r):
  Calls Try.prog 80 #[.slice A0 l0.length c0] w fun e w'=> ∃v,e= .returned v∧Kd.R (Kd.bool) 4 w' w.heap.size (fun _=>True) v r∧Below w.heap.size w w':=by
 unfold xK at h
 split at h
 case isFalse=>simp at h
 case isTrue hl=>
 obtain rfl:=bE h;have HR0:=aK hr0;have HC0:=aK hc0;have HL:=aK hl;clear h hl hc0
 cases A0 with
 | none =>
  have hz:l0=[]:=by
   cases l0 with
   |nil=>rfl
   |cons x xs=>obtain ⟨ad,_,e,_⟩:=Kd.C_get hr0 x 0 (by omega) (by simp);cases e
  subst hz;clear hr0;have N1:=bHu;have N2:=bGe;go_enter Try.func80,Try.ntmps80;go_wp2;go_ret;exact ⟨_,rfl,mI _ _ _ _ _,by repeat (first|exact bH _ _|apply bJ|apply bI|apply bG)⟩
 | some ad =>
  clear hr0;have N1:=bHu;have N2:=bGe;go_enter Try.func80,Try.ntmps80
  go_wp2_with (first
   |((with_reducible refine dK (N:=5) rfl ?_);refine yI (Kd.bool) _ 4 ?hg (N:=5) ?hd (xs:=([]:List Bool)) (inner:=[]) (ok:=fun _=>True) (okp:=fun _=>True) ?hr ?hp (fun _ hk=>hk) dT (bH _ _) (bV _) (by simp) ?_;(case hd=>rfl);(case hg=>rfl);(case hr=>first|(go_simp;done)|(go_simp;rfl));(case hp=>exact (pP.none _ _));intro v5 w5 ho5 hb5 hg5 hn5;have HO5:=aK ho5;have HB5:=aK hb5;clear ho5 hb5 hg5 hn5)
   |((with_reducible refine jK (b:= .append) (xs:= #[.tmp 5,.tmp 6]) rfl ?_);at_builtin;refine xF (Kd.bool) (w0:=w) w.heap.size rfl (.tmp 5) (.tmp 6) 24 4 (.bool false) 1 rfl Try.underlying24 bGa rfl (by decide) (by omega) v5 [] l0 _ _ _ (fun _=>True) (fun _=>False) rfl rfl ?aO ?aR (fun _ _ h=>h) (fun _ h=>h.elim) (fun _ _=>trivial) ?aB ?aS ?aL ?_;(case aR=>exact cG HR0.out HB5.out);(case aB=>exact HB5.out);(case aO=>exact HO5.out);(case aS=>exact bW HB5.out);(case aL=>have:=HL.out;simp;omega);intro v7 w7 ho7 hb7 hg7 hn7;have HO7:=aK ho7;have HB7:=aK hb7;clear ho7 hb7 hg7 hn7))
  go_ret;exact ⟨_,rfl,HO7.out,HB7.out⟩
theorem sS (A0:Option Addr) (c0:Nat) (l0:List Int) (a1 a2 a3:Int) (A4:Option Addr) (c4:Nat) (l4:List Bool) (w:World) (hr0:Kd.C (Kd.int .i64) w A0 l0.length l0) (hc0:l0.length≤c0) (hr4:Kd.C Kd.bool w A4 l4.length l4) (hc4:l4.length≤c4) (h0:l0.length≤17592186044416) (h4:l4.length≤17592186044416):
  Calls Try.prog 52 #[.agg #[.slice A0 l0.length c0,.int .i64 a1,.int .i64 a2,.int .i64 a3,.slice A4 l4.length c4]] w fun e w'=> ∃u v,e= .returned (.agg #[u,.int .i64 a1,.int .i64 a2,.int .i64 a3,v])∧Kd.R (Kd.int .i64) 3 w' w.heap.size (fun k=>some k≠v.ownBlock) u l0∧Kd.R Kd.bool 4 w' w.heap.size (fun k=>some k≠u.ownBlock) v l4∧Below w.heap.size w w':=by
 have HR0:=aK hr0;have HC0:=aK hc0;have HR4:=aK hr4;have HC4:=aK hc4;have HL0:=aK h0;have HL4:=aK h4;clear hr0 hc0 hr4 hc4 h0 h4;go_enter Try.func52,Try.ntmps52
 go_wp2_with fail
 go_at_call 79;have HB1:=aK (show Below w.heap.size w ((w.alloc (.cells #[.slice A0 l0.length c0,.int .i64 a1,.int .i64 a2,.int .i64 a3,.slice A4 l4.length c4] 29 (0,0))).alloc (.cells #[.slice none 0 0,.int .i64 0,.int .i64 0,.int .i64 0,.slice none 0 0] 29 (0,0))) by repeat (first|exact bH _ _|apply bJ));refine (bDc A0 c0 l0 l0 _ (cG HR0.out HB1.out) HC0.out (by unfold xJ;rw [if_pos HL0.out])).mono ?_;rintro e w2 ⟨u,rfl,hu,hb⟩;have HB2:=aK (bK HB1.out hb);have X1:=aK ((hb.block w.heap.size (by simp;omega)).trans (bFn w _ _).1);have X2:=aK ((hb.block (w.heap.size+1) (by simp)).trans (bFn w _ _).2);have HU:=aK (show Kd.R (Kd.int .i64) 3 w2 (w.heap.size+2) (fun _=>True) u l0 by simpa using hu);have hS2:w.heap.size+2≤w2.heap.size:=by have:=bW hb;simpa using this
 obtain ⟨AU,cU,rfl⟩:=cL hu;clear hu hb HB1;have c0':=(bA X1.out 0).trans rfl;have f0':=bL X1.out 0;have c4':=(bA X1.out 4).trans rfl
 go_wp2_with fail
 go_at_call 80;have HB3:=aK (show Below w.heap.size w (w2.setCell ⟨w.heap.size,0,none⟩ (.slice AU l0.length cU)) from cE HB2.out (bV _));have Y1:=aK (fF X1.out 0 (.slice AU l0.length cU) rfl);have Y2:=aK (jG X2.out (show w.heap.size+1≠w.heap.size by omega) (p:=⟨w.heap.size,0,none⟩) (.slice AU l0.length cU));clear c0' f0' c4' X1 X2;generalize hW3:w2.setCell ⟨w.heap.size,0,none⟩ (.slice AU l0.length cU)=W3 at HB3 Y1 Y2 ⊢;refine (bDd A4 c4 l4 l4 _ (cG HR4.out HB3.out) HC4.out (by unfold xK;rw [if_pos HL4.out])).mono ?_;rintro e w4 ⟨v,rfl,hv,hb⟩;have HB4:=aK (bK HB3.out hb);have Z1:=aK ((hb.block _ (dN Y1.out)).trans Y1.out);have Z2:=aK ((hb.block _ (dN Y2.out)).trans Y2.out);have HV:=aK hv;obtain ⟨AV,cV,rfl⟩:=cL hv;have Z3:w4.heap[w.heap.size]? =some (.cells #[.slice AU l0.length cU,.int .i64 a1,.int .i64 a2,.int .i64 a3,.slice A4 l4.length c4] 29 (0,0)):=Z1.out
 have Z4:=Z2.out;have c0':=(bA Z3 0).trans rfl;have f0':=bL Z3 0;have d0':=(bA Z4 0).trans rfl;have e0':=bL Z4 0;have c1':=(bA Z3 1).trans rfl;have f1':=bL Z3 1;have d1':=(bA Z4 1).trans rfl;have e1':=bL Z4 1;have c2':=(bA Z3 2).trans rfl;have f2':=bL Z3 2;have d2':=(bA Z4 2).trans rfl;have e2':=bL Z4 2;have c3':=(bA Z3 3).trans rfl;have f3':=bL Z3 3;have d3':=(bA Z4 3).trans rfl;have e3':=bL Z4 3;have c4':=(bA Z3 4).trans rfl;have f4':=bL Z3 4;have d4':=(bA Z4 4).trans rfl;have e4':=bL Z4 4;have Z5:=aK Z4;have HS3:=aK (show W3.heap.size=w2.heap.size by rw [←hW3];simp);have HS2:=aK (show w.heap.size+2≤w2.heap.size from hS2);have K3:=aK (show∀k,k≠w.heap.size→W3.heap[k]? =w2.heap[k]? from fun k hk=>by rw [←hW3];exact fS w2 ⟨w.heap.size,0,none⟩ _ k hk);have HBb:=aK hb;clear hv hb Z1 Z3 Z4 Y1 Y2 HB3 hW3 Z2;go_wp2;refine fM (jY rfl _ _ (w.heap.size+1) 29 #[.slice AU l0.length cU,.int .i64 a1,.int .i64 a2,.int .i64 a3,.slice AV l4.length cV] (0,0) _ rfl (fF (fF (fF (fF (fF (jG Z5.out (show w.heap.size+1≠w.heap.size by omega) (p:=⟨w.heap.size,4,none⟩) _) 0 _ rfl) 1 _ rfl) 2 _ rfl) 3 _ rfl) 4 _ rfl) Try.underlying29 rfl (by kernel_rfl)) rfl ?_
 have KF: ∀k,k≠w.heap.size→k≠w.heap.size+1→((((((w4.setCell ⟨w.heap.size,4,none⟩ (.slice AV l4.length cV)).setCell ⟨w.heap.size+1,0,none⟩ (.slice AU l0.length cU)).setCell ⟨w.heap.size+1,1,none⟩ (.int .i64 a1)).setCell ⟨w.heap.size+1,2,none⟩ (.int .i64 a2)).setCell ⟨w.heap.size+1,3,none⟩ (.int .i64 a3)).setCell ⟨w.heap.size+1,4,none⟩ (.slice AV l4.length cV)).heap[k]? =w4.heap[k]? :=by
  intro k h1 h2;rw [fS _ _ _ k h2,fS _ _ _ k h2,fS _ _ _ k h2,fS _ _ _ k h2,fS _ _ _ k h2,fS _ _ _ k h1]
 have s3:=HS3.out;have s2:=HS2.out;refine ⟨_,_,rfl,?_,?_,?_⟩
 ·refine dE (cI (Kd.R_step (fZ HU.out) (fun k hk hlt => ?_)) (fun k hk he => ?_)) (by omega)
  ·obtain ⟨_, h1, h2, _⟩ := hk
   exact (KF k (by omega) (by omega)).trans ((HBb.out.block k (by omega)).trans (K3.out k (by omega)))
  ·have h1 := nN HV.out k he.symm
   have h2:=hk.2.2.1;omega
 ·refine dE (cI (Kd.R_step (fZ HV.out) (fun k hk hlt => ?_)) (fun k hk he => ?_)) (by omega)
  ·obtain ⟨_, h1, h2, _⟩ := hk
   exact KF k (by omega) (by omega)
  ·have h1 := pM HU.out k he.symm
   have h2:=hk.2.1;omega
 ·repeat (refine cE ?_ (by simp))
  exact HB4.out
def bGl (t:Int):Value:=
 if t=0 then .iface 137 (.agg #[])
 else if t=1 then .iface 131 (.agg #[])
 else if t=2 then .iface 138 (.agg #[])
 else if t=3 then .iface 133 (.agg #[.bool false])
 else if t=4 then .iface 133 (.agg #[.bool true])
 else .iface 135 (.agg #[.int .i64 (t - 8)])
def kv (t:Int):Prop:=(0≤t∧t≤4)∨8≤t
def bOm (n t:Int):Bool:=decide ((0≤t∧t≤4)∨(8≤t∧t<8+n))
def bHp (n t:Int):Value:=if bOm n t=true then bGl t else .nilIface
theorem bHo {t:Int} (h:kv t):t=0∨t=1∨t=2∨t=3∨t=4∨8≤t:=by unfold kv at h;omega
theorem bEv {t:Int} (h:8≤t):bGl t= .iface 135 (.agg #[.int .i64 (t - 8)]):=by
  unfold bGl;rw [if_neg (by omega),if_neg (by omega),if_neg (by omega),if_neg (by omega),if_neg (by omega)]
theorem bRt {s:Int} (hs:kv s) (W:World):(Instr.typeAssert (bGl s) 128 131 true).run Try.prog W= .ok (.tuple #[.agg #[],.bool (decide (s=1))]) W:=by
 rcases bHo hs with rfl|rfl|rfl|rfl|rfl|hs
 all_goals first
  |(rw [bEv hs,bM (by omega)];kernel_rfl)
  |kernel_rfl
theorem bRu {s:Int} (hs:kv s) (W:World):(Instr.typeAssert (bGl s) 128 133 true).run Try.prog W= .ok (.tuple #[.agg #[.bool (decide (s=4))],.bool (decide (s=3∨s=4))]) W:=by
 rcases bHo hs with rfl|rfl|rfl|rfl|rfl|hs
 all_goals first
  |(rw [bEv hs,bM (p:=s=4) (by omega),bM (by omega)];kernel_rfl)
  |kernel_rfl
def clsOf (t:Int):Int:=if 8≤t then t - 8 else 0
theorem bNo {s:Int} (hs:kv s) (W:World):(Instr.typeAssert (bGl s) 128 135 true).run Try.prog W= .ok (.tuple #[.agg #[.int .i64 (clsOf s)],.bool (decide (8≤s))]) W:=by
 rcases bHo hs with rfl|rfl|rfl|rfl|rfl|hs
 all_goals first
  |(rw [bEv hs,bD hs,show clsOf s=s - 8 from if_pos hs];kernel_rfl)
  |kernel_rfl
theorem nil_int (W:World):(Instr.typeAssert .nilIface 128 131 true).run Try.prog W= .ok (.tuple #[.agg #[],.bool false]) W:=by kernel_rfl
theorem nil_arr (W:World):(Instr.typeAssert .nilIface 128 133 true).run Try.prog W= .ok (.tuple #[.agg #[.bool false],.bool false]) W:=by kernel_rfl
theorem bPl (W:World):(Instr.typeAssert .nilIface 128 135 true).run Try.prog W= .ok (.tuple #[.agg #[.int .i64 0],.bool false]) W:=by kernel_rfl
theorem zU (a0 a1:Int) (w:World) (h0:0≤a0) (h1:a0≤281474976710656):
  Calls Try.prog 114 #[.int .i64 a0,.int .i64 a1] w fun e w'=>e= .returned (bHp a0 a1)∧Drawn0 w w':=by
 by_cases c0:a1=0
 ·subst c0
  have HF:=aK (show bHp a0 0=bGl 0 from if_pos (by simp [bOm]));go_enter Try.func114,Try.ntmps114;go_wp2;go_ret;exact ⟨by rw [HF.out];rfl,Drawn0.refl _⟩
 by_cases c1:a1=1
 ·subst c1
  have HF:=aK (show bHp a0 1=bGl 1 from if_pos (by simp [bOm]));go_enter Try.func114,Try.ntmps114;go_wp2;go_ret;exact ⟨by rw [HF.out];rfl,Drawn0.refl _⟩
 by_cases c2:a1=2
 ·subst c2
  have HF:=aK (show bHp a0 2=bGl 2 from if_pos (by simp [bOm]));go_enter Try.func114,Try.ntmps114;go_wp2;go_ret;exact ⟨by rw [HF.out];rfl,Drawn0.refl _⟩
 by_cases c3:a1=3
 ·subst c3
  have HF:=aK (show bHp a0 3=bGl 3 from if_pos (by simp [bOm]));go_enter Try.func114,Try.ntmps114;go_wp2;go_ret;exact ⟨by rw [HF.out];rfl,Drawn0.refl _⟩
 by_cases c4:a1=4
 ·subst c4
  have HF:=aK (show bHp a0 4=bGl 4 from if_pos (by simp [bOm]));go_enter Try.func114,Try.ntmps114;go_wp2;go_ret;exact ⟨by rw [HF.out];rfl,Drawn0.refl _⟩
 have d0:(a1==0)=false:=xP.2 c0
 have d1:(a1==1)=false:=xP.2 c1
 have d2:(a1==2)=false:=xP.2 c2
 have d3:(a1==3)=false:=xP.2 c3
 have d4:(a1==4)=false:=xP.2 c4
 by_cases c5:8≤a1
 ·by_cases c6 : a1 < 8 + a0
  ·have HF := aK (show bHp a0 a1 = .iface 135 (.agg #[.int .i64 (a1 - 8)]) from (if_pos (by simp [bOm]; omega)).trans (bEv c5))
   have d5:decide (8≤a1)=true:=bD c5
   have d6:decide (a1<8+a0)=true:=bD c6
   clear c0 c1 c2 c3 c4;go_enter Try.func114,Try.ntmps114;go_wp2;go_ret;exact ⟨by rw [HF.out];rfl,Drawn0.refl _⟩
  ·have HF := aK (show bHp a0 a1 = .nilIface from if_neg (by simp [bOm]; omega))
   have d5:decide (8≤a1)=true:=bD c5
   have d6:decide (a1<8+a0)=false:=bM c6
   clear c0 c1 c2 c3 c4;go_enter Try.func114,Try.ntmps114;go_wp2;go_ret;exact ⟨by rw [HF.out];rfl,Drawn0.refl _⟩
 ·have HF := aK (show bHp a0 a1 = .nilIface from if_neg (by simp [bOm]; omega))
  have d5:decide (8≤a1)=false:=bM c5
  clear c0 c1 c2 c3 c4;go_enter Try.func114,Try.ntmps114;go_wp2;go_ret;exact ⟨by rw [HF.out];rfl,Drawn0.refl _⟩
def kOkF.f (n t:Int):Option Bool:=if 0≤n∧n≤281474976710656 then some (bOm n t) else none
def rD (a0 a1:Int):Option Bool:=if 0≤a0∧a0≤281474976710656 then some (bOm a0 a1&&decide (a1=1∨a1=3∨a1=4∨8≤a1)) else none
theorem xC (a0:Int) (a1:Int) (r:Bool) (w:World) (h:rD a0 a1=some r):
  Calls Try.prog 94 #[.int .i64 a0,.int .i64 a1] w fun e w'=>e= .returned (.bool r)∧Drawn0 w w':=by
 unfold rD at h
 split at h
 case isFalse=>simp at h
 case isTrue hb=>
  obtain ⟨h0,h1⟩:=hb;have HR:=aK (bE h);clear h;by_cases hk:bOm a0 a1=true
  ·have hv : kv a1 := by simp [bOm] at hk; unfold kv; omega
   have HO:=aK (show bHp a0 a1=bGl a1 from if_pos hk);have t1:=bRt hv;have t2:=bRu hv;have t3:=bNo hv;have HK:=aK hk;clear hk hv;go_enter Try.func94,Try.ntmps94
   go_wp2_with (go_at_call 114;refine (zU a0 a1 _ h0 h1).mono ?_;rintro e w' ⟨rfl,⟨n,rfl⟩⟩;rw [HO.out])
   ·go_ret
    exact ⟨by show Ending.returned (.bool true)=_;rw [←HR.out,HK.out,bD (by omega)];rfl,Drawn0.step (Drawn0.refl _) _⟩
   ·go_ret
    exact ⟨by show Ending.returned (.bool false)=_;rw [←HR.out,HK.out,bM (by omega)];rfl,Drawn0.step (Drawn0.refl _) _⟩
  ·have HO := aK (show bHp a0 a1 = .nilIface from if_neg hk)
   have HK:=aK (Bool.not_eq_true _ |>.mp hk);have t1:=nil_int;have t2:=nil_arr;have t3:=bPl;clear hk;go_enter Try.func94,Try.ntmps94
   go_wp2_with (go_at_call 114;refine (zU a0 a1 _ h0 h1).mono ?_;rintro e w' ⟨rfl,⟨n,rfl⟩⟩;rw [HO.out])
   go_ret;exact ⟨by show Ending.returned (.bool false)=_;rw [←HR.out,HK.out];rfl,Drawn0.step (Drawn0.refl _) _⟩
mutual
def kF:Nat→List (S53)→Bool→Option (Bool)
 |0,_,_=>none
 |k+1,x0,x15=>if x15=true then (some false) else (if 0<(x0.length:Int) then (if ((cY x0 0).f0)=(-1) then (mM k x0 ((((cY x0 0).f1).length:Int) !=0)) else (mM k x0 true)) else (none))
def mM:Nat→List (S53)→Bool→Option (Bool)
 |0,_,_=>none
 |k+1,x0,x28=>if x28=true then (some false) else (if 1<(x0.length:Int) then (if ((cY x0 1).f0)=0 then (if (((cY x0 1).f1).length:Int)=1 then (if 0<(((cY x0 1).f1).length:Int) then (kE k x0 ((rd ((cY x0 1).f1) 0) !=1)) else (none)) else (kE k x0 true)) else (kE k x0 true)) else (none))
def kE:Nat→List (S53)→Bool→Option (Bool)
 |0,_,_=>none
 |k+1,x0,x47=>if x47=true then (some false) else (kT k x0 x0 (x0.length:Int) 0)
def kT:Nat→List (S53)→List (S53)→Int→Int→Option (Bool)
 |0,_,_,_,_=>none
 |k+1,x0,x48,x49,x50=>if x50<x49 then (if 0≤x50 then (if x50<(x48.length:Int) then (if x50>1 then (if ((cY x48 x50).f0)<0 then (kD k x0 x48 x49 x50 true ((cY x48 x50).f0) ((cY x48 x50).f1)) else (kD k x0 x48 x49 x50 (decide (((cY x48 x50).f0)≥x50)) ((cY x48 x50).f0) ((cY x48 x50).f1))) else (kD k x0 x48 x49 x50 false ((cY x48 x50).f0) ((cY x48 x50).f1))) else (none)) else (none)) else (some true)
def kD:Nat→List (S53)→List (S53)→Int→Int→Bool→Int→List Int→Option (Bool)
 |0,_,_,_,_,_,_,_=>none
 |k+1,x0,x48,x49,x50,x67,x286000,x286001=>if x67=true then (some false) else (if (x286001.length:Int)>2 then (some false) else (mL k x0 x48 x49 x50 x286001 (x286001.length:Int) 0))
def mL:Nat→List (S53)→List (S53)→Int→Int→List Int→Int→Int→Option (Bool)
 |0,_,_,_,_,_,_,_=>none
 |k+1,x0,x48,x49,x50,x73,x74,x75=>if x75<x74 then (if 0≤x75 then (if x75<(x73.length:Int) then ((rD (x0.length:Int) (rd x73 x75)).bind fun t287=>(if t287=true then (mL k x0 x48 x49 x50 x73 x74 (wrap64 (x75+1))) else (some false))) else (none)) else (none)) else (kT k x0 x48 x49 (wrap64 (x50+1)))
end
def sO (k:Nat) (l0:List (S53)):Option (Bool):=if (l0.length:Int)<2 then (kF k l0 true) else (kF k l0 (decide ((l0.length:Int)>5)))
theorem sJ (k : Nat) (A0 : Option Addr) (c0 : Nat) (l0 : List (S53)) (r : Bool) (w : World) (hr0 : Kd.C tU w A0 l0.length l0) (hc0 : l0.length ≤ c0) (h : sO k l0 = some r) :
  Calls Try.prog 65 #[.slice A0 l0.length c0] w fun e w'=>e= .returned (.bool r)∧Below w.heap.size w w':=by
 have hu53:=Try.underlying53;have HR0:=aK hr0;have HC0:=aK hc0;clear hr0 hc0;have HB:=aK (bH w.heap.size w);have H:(if (l0.length:Int)<2 then (kF k l0 true) else (kF k l0 (decide ((l0.length:Int)>5))))=some r:=h
 clear h;have HC2:=aK H;clear H;go_enter Try.func65,Try.ntmps65
 go_upto_region 1 with (fail)
 go_cut [15] (fun v15 wc=> ∃(kq:Nat) (x15_1:Bool),v15= .bool x15_1∧Aside0 (kF kq l0 x15_1=some r)∧Aside0 (kq≤k)∧Aside0 (Below w.heap.size w wc))
 case first=>
  have H:=HC2.out;clear HC2;by_cases c3:(l0.length:Int)<2
  ·rw [if_pos c3] at H
   have c3b0:decide ((l0.length:Int)<2)=true:=bD c3
   have c3b1:decide (l0.length<2)=true:=bD (by omega)
   clear c3
   (first|rw [c3b0]|(simp only [mN,qN];rw [c3b0])|skip)
   have H':=aK H;clear H;go_wp2;go_meet
   case rel=>exact ⟨_,(true),nR,H',⟨by first|omega|exact bV _⟩,⟨by repeat (first|(with_reducible first|exact HB.out|apply bJ|apply bI|apply bG)|exact HB.out)⟩⟩
  ·rw [if_neg c3] at H
   have c3b0:decide ((l0.length:Int)<2)=false:=bM c3
   have c3b1:decide (l0.length<2)=false:=bM (by omega)
   clear c3
   (first|rw [c3b0]|(simp only [mN,qN];rw [c3b0])|skip)
   have H':=aK H;clear H;go_wp2;go_meet
   case rel=>exact ⟨_,(decide ((l0.length:Int)>5)),nR,H',⟨by first|omega|exact bV _⟩,⟨by repeat (first|(with_reducible first|exact HB.out|apply bJ|apply bI|apply bG)|exact HB.out)⟩⟩
 case rest =>
  clear HC2;(try clear p2);(try clear c3);(try clear c3b0);(try clear c3b1);obtain ⟨kq,x15_1,rfl,HA,HJ1,HB⟩:=hcut
  cases kq with
  |zero=>exact absurd HA.out (by simp [kF])
  | succ kj1 =>
   have H:=HA.out;clear HA;simp only [kF] at H;by_cases c4:x15_1=true
   ·subst c4
    rw [if_pos rfl] at H;obtain rfl:=bE H;go_wp2;go_ret;exact ⟨zL,nQ⟩
   ·replace c4 := Bool.eq_false_iff.mpr c4
    subst c4;rw [if_neg (show¬(false=true) by decide)] at H;have HC5:=aK H;clear H
    go_upto_region 3 with (fail)
    go_cut [28] (fun v28 wc=> ∃(kq:Nat) (x28_4:Bool),v28= .bool x28_4∧Aside0 (mM kq l0 x28_4=some r)∧Aside0 (kq≤kj1)∧Aside0 (Below w.heap.size w wc))
    case first=>
     have H:=HC5.out;clear HC5;by_cases c6:0<(l0.length:Int)
     ·rw [if_pos c6] at H
      have c6b0:decide (0<(l0.length:Int))=true:=bD c6
      have c6b1:decide (0<l0.length)=true:=bD (by omega)
      clear c6
      (first|rw [c6b0]|(simp only [mN,qN];rw [c6b0])|skip)
      by_cases c7:((cY l0 0).f0)=(-1)
      ·rw [if_pos c7] at H
       have c7b0:(((cY l0 0).f0)==(-1))=true:=zH.mpr c7
       have c7b1:(((cY l0 0).f0) !=(-1))=false:=bne_eq_false_iff_eq.mpr c7
       clear c7;have H':=aK H;clear H;have p279:0≤(0:Int):=(by omega)
       have q279:0<(l0.length:Int):=bB jX
       obtain ⟨ad279,A279_1,c279_1,e279,hx279_0,hx279_1,hl279_1,hi279_1⟩:=bAb HR0.out 0 p279 q279
       cases e279
       have qi279:(0<l0.length)=True:=bO (by omega)
       (try rw [show ((0:Int)).toNat=0 from rfl] at hx279_0)
       (try rw [show 0*2=0 from rfl] at hx279_0)
       (try rw [Addr.add_zero'] at hx279_0)
       (try rw [show ((0:Int)).toNat=0 from rfl] at hx279_1)
       (try rw [show 0*2=0 from rfl] at hx279_1)
       (try rw [Addr.add_zero'] at hx279_1)
       replace hx279_0:=(HB.out.cell (bN w _ hx279_0)).trans hx279_0;replace hx279_1:=(HB.out.cell (bN w _ hx279_1)).trans hx279_1;have HR279_1:=aK hi279_1;have HC279_1:=aK hl279_1;clear hi279_1 hl279_1;replace p279:=bO p279;replace q279:=bO q279;have p280:0≤(0:Int):=(by omega)
       have q280:0<(l0.length:Int):=bB jX
       obtain ⟨ad280,A280_1,c280_1,e280,hx280_0,hx280_1,hl280_1,hi280_1⟩:=bAb HR0.out 0 p280 q280;obtain rfl:ad279=ad280:=(by injection e280);have qi280:(0<l0.length)=True:=bO (by omega)
       (try rw [show ((0:Int)).toNat=0 from rfl] at hx280_0)
       (try rw [show 0*2=0 from rfl] at hx280_0)
       (try rw [Addr.add_zero'] at hx280_0)
       (try rw [show ((0:Int)).toNat=0 from rfl] at hx280_1)
       (try rw [show 0*2=0 from rfl] at hx280_1)
       (try rw [Addr.add_zero'] at hx280_1)
       replace hx280_0:=(HB.out.cell (bN w _ hx280_0)).trans hx280_0;replace hx280_1:=(HB.out.cell (bN w _ hx280_1)).trans hx280_1;have HR280_1:=aK hi280_1;have HC280_1:=aK hl280_1;clear hi280_1 hl280_1;replace p280:=bO p280;replace q280:=bO q280;have ea_:=bE (hx279_1.symm.trans hx280_1);injection ea_ with ea_ en_ ec_;subst ea_;subst ec_;clear en_;go_wp2;go_meet
       case rel=>exact ⟨_,(((((cY l0 0).f1).length:Int) !=0)),nR,H',⟨by have:=HJ1.out;first|omega|exact bV _⟩,⟨by repeat (first|(with_reducible first|exact HB.out|apply bJ|apply bI|apply bG)|exact HB.out)⟩⟩
      ·rw [if_neg c7] at H
       have c7b0:(((cY l0 0).f0)==(-1))=false:=xP.mpr c7
       have c7b1:(((cY l0 0).f0) !=(-1))=true:=bne_iff_ne.mpr c7
       have H':=aK H;clear H;have p279:0≤(0:Int):=(by omega)
       have q279:0<(l0.length:Int):=bB jX
       obtain ⟨ad279,A279_1,c279_1,e279,hx279_0,hx279_1,hl279_1,hi279_1⟩:=bAb HR0.out 0 p279 q279
       cases e279
       have qi279:(0<l0.length)=True:=bO (by omega)
       (try rw [show ((0:Int)).toNat=0 from rfl] at hx279_0)
       (try rw [show 0*2=0 from rfl] at hx279_0)
       (try rw [Addr.add_zero'] at hx279_0)
       (try rw [show ((0:Int)).toNat=0 from rfl] at hx279_1)
       (try rw [show 0*2=0 from rfl] at hx279_1)
       (try rw [Addr.add_zero'] at hx279_1)
       replace hx279_0:=(HB.out.cell (bN w _ hx279_0)).trans hx279_0;replace hx279_1:=(HB.out.cell (bN w _ hx279_1)).trans hx279_1;have HR279_1:=aK hi279_1;have HC279_1:=aK hl279_1;clear hi279_1 hl279_1;replace p279:=bO p279;replace q279:=bO q279;go_wp2;go_meet
       case rel=>exact ⟨_,(true),nR,H',⟨by have:=HJ1.out;first|omega|exact bV _⟩,⟨by repeat (first|(with_reducible first|exact HB.out|apply bJ|apply bI|apply bG)|exact HB.out)⟩⟩
     ·rw [if_neg c6] at H
      exact absurd H (by simp)
    case rest =>
     clear HC5;(try clear c2);(try clear p2);(try clear q2);(try clear hx2);(try clear qi2);(try clear c3);(try clear c3b0);(try clear c3b1);(try clear c4);(try clear c6);(try clear c6b0);(try clear c6b1);(try clear c7);(try clear c7b0);(try clear c7b1);(try clear hx279_0);(try clear hx279_1);(try clear hx280_0);(try clear hx280_1);(try clear p2);(try clear p279);(try clear p280);(try clear q279);(try clear q280);obtain ⟨kq,x28_4,rfl,HA,HJ4,HB⟩:=hcut
     cases kq with
     |zero=>exact absurd HA.out (by simp [mM])
     | succ kj4 =>
      have H:=HA.out;clear HA;simp only [mM] at H;by_cases c8:x28_4=true
      ·subst c8
       rw [if_pos rfl] at H;obtain rfl:=bE H;go_wp2;go_ret;exact ⟨zL,nQ⟩
      ·replace c8 := Bool.eq_false_iff.mpr c8
       subst c8;rw [if_neg (show¬(false=true) by decide)] at H;by_cases c9:1<(l0.length:Int)
       ·rw [if_pos c9] at H
        have c9b0:decide (1<(l0.length:Int))=true:=bD c9
        have c9b1:decide (1<l0.length)=true:=bD (by omega)
        clear c9;have HC10:=aK H;clear H;have p281:0≤(1:Int):=(by omega)
        have q281:1<(l0.length:Int):=bB jX
        obtain ⟨ad281,A281_1,c281_1,e281,hx281_0,hx281_1,hl281_1,hi281_1⟩:=bAb HR0.out 1 p281 q281
        cases e281
        (try simp only [show (1:Int).toNat=1 from rfl,Nat.reduceMul,Nat.reduceEqDiff,Go.Addr.add,↓reduceIte] at hx281_0)
        (try simp only [show (1:Int).toNat=1 from rfl,Nat.reduceMul,Nat.reduceEqDiff,Go.Addr.add,↓reduceIte] at hx281_1)
        have qi281:(1<l0.length)=True:=bO (by omega)
        (try rw [show ((1:Int)).toNat=1 from rfl] at hx281_0)
        (try rw [show 1*2=2 from rfl] at hx281_0)
        (try rw [show ((1:Int)).toNat=1 from rfl] at hx281_1)
        (try rw [show 1*2=2 from rfl] at hx281_1)
        replace hx281_0:=(HB.out.cell (bN w _ hx281_0)).trans hx281_0;replace hx281_1:=(HB.out.cell (bN w _ hx281_1)).trans hx281_1;have HR281_1:=aK hi281_1;have HC281_1:=aK hl281_1;clear hi281_1 hl281_1;replace p281:=bO p281;replace q281:=bO q281
        go_upto_region 6 with (first|((with_reducible refine dK (N:=3) rfl ?_);(try (refine qS (by rfl) ?_;dsimp only));refine dM ?hg (N:=3) ?hd (cs:= #[.int .i64 0,.slice none 0 0]) (t:=53) ?hr ?_;(case hd=>rfl);(case hg=>rfl);(case hr=>first|(go_simp;done)|(go_simp;rfl));intro gb282 hg w11 hbox hb;have BK282:=aK (hbox);have GW282:=aK ((by rw [hg];exact (bW nQ):w.heap.size≤gb282));have GE282:=aK ((by rw [hg];exact (bW nQ):w.heap.size≤gb282));replace HB:=aK (bK nQ hb);clear hb hbox hg;obtain ⟨hcz12_0,hcz12_1,hfz12_0,hfz12_1⟩:=bAz BK282))
        (try simp only [Act.put,dU,fY,fT])
        go_cut [47] (fun v47 wc=> ∃(kq:Nat) (x47_9:Bool),v47= .bool x47_9∧Aside0 (kE kq l0 x47_9=some r)∧Aside0 (kq≤kj4)∧Aside0 (wc.heap[gb282]? =some (.cells #[.int .i64 ((cY l0 1).f0),(.slice A281_1 ((cY l0 1).f1).length c281_1)] 53 (0,0)))∧Aside0 (Below w.heap.size w wc))
        case first=>
         have H:=HC10.out;clear HC10;by_cases c13:((cY l0 1).f0)=0
         ·rw [if_pos c13] at H
          have c13b0:(((cY l0 1).f0)==0)=true:=zH.mpr c13
          have c13b1:(((cY l0 1).f0) !=0)=false:=bne_eq_false_iff_eq.mpr c13
          clear c13
          (first|rw [c13b0]|(simp only [mN,qN];rw [c13b0])|skip)
          by_cases c14:(((cY l0 1).f1).length:Int)=1
          ·rw [if_pos c14] at H
           have c14b0:((((cY l0 1).f1).length:Int)==1)=true:=zH.mpr c14
           have c14b1:((((cY l0 1).f1).length:Int) !=1)=false:=bne_eq_false_iff_eq.mpr c14
           clear c14;by_cases c15:0<(((cY l0 1).f1).length:Int)
           ·rw [if_pos c15] at H
            have c15b0:decide (0<(((cY l0 1).f1).length:Int))=true:=bD c15
            have c15b1:decide (0<((cY l0 1).f1).length)=true:=bD (by omega)
            clear c15;have H':=aK H;clear H;obtain ⟨hcz16_0,hcz16_1,hfz16_0,hfz16_1⟩:=bAz BK282;have p283:0≤(0:Int):=(by omega)
            have q283:0<(((cY l0 1).f1).length:Int):=bB jX
            obtain ⟨ad283,e283,hx283_0⟩:=dL HR281_1.out 0 p283 q283
            cases e283
            have qi283:(0<((cY l0 1).f1).length)=True:=bO (by omega)
            (try rw [show ((0:Int)).toNat=0 from rfl] at hx283_0)
            (try rw [Addr.add_zero'] at hx283_0)
            have hn283_0:ad283.block≠gb282:=xD (pZ (by have:=bN _ _ hx283_0;first|rwa [sP] at this|exact this) GW282.out)
            have hn283_1:ad283.block≠gb282:=xD (pZ (by have:=bN _ _ hx283_0;first|rwa [sP] at this|exact this) GW282.out)
            replace hx283_0:=(HB.out.cell (bN w _ hx283_0)).trans hx283_0;replace hx283_0:=(bMj (p:=⟨gb282,0,none⟩) (by first|(rw [sP];exact hn283_0)|(show (Addr.add _ _).block≠_;rw [sP];exact hn283_0)|exact hn283_0) (.int .i64 ((cY l0 1).f0))).trans hx283_0;replace hx283_0:=(bMj (p:=⟨gb282,1,none⟩) (by first|(rw [sP];exact hn283_1)|(show (Addr.add _ _).block≠_;rw [sP];exact hn283_1)|exact hn283_1) (.slice (some ad283) ((cY l0 1).f1).length c281_1)).trans hx283_0;clear hn283_0;clear hn283_1;replace p283:=bO p283;replace q283:=bO q283;go_wp2;go_meet
            case rel=>exact ⟨_,(((rd ((cY l0 1).f1) 0) !=1)),nR,H',⟨by have:=HJ1.out;have:=HJ4.out;first|omega|exact bV _⟩,⟨by (with_reducible repeat (first|refine bX ?_ _|refine bY ?_|refine bQ ?_ _));refine fF (cs:= #[.int .i64 ((cY l0 1).f0),.slice none 0 0]) ?_ 1 _ rfl;(with_reducible repeat (first|refine bX ?_ _|refine bY ?_|refine bQ ?_ _));refine fF (cs:= #[.int .i64 0,.slice none 0 0]) ?_ 0 _ rfl;(with_reducible repeat (first|refine bX ?_ _|refine bY ?_|refine bQ ?_ _));exact BK282.out⟩,⟨by repeat (first|(with_reducible first|exact HB.out|apply bJ|apply bI|apply bG|refine cE ?_ GE282.out)|exact HB.out)⟩⟩
           ·rw [if_neg c15] at H
            exact absurd H (by simp)
          ·rw [if_neg c14] at H
           have c14b0:((((cY l0 1).f1).length:Int)==1)=false:=xP.mpr c14
           have c14b1:((((cY l0 1).f1).length:Int) !=1)=true:=bne_iff_ne.mpr c14
           have H':=aK H;clear H;obtain ⟨hcz17_0,hcz17_1,hfz17_0,hfz17_1⟩:=bAz BK282;go_wp2;go_meet
           case rel=>exact ⟨_,(true),nR,H',⟨by have:=HJ1.out;have:=HJ4.out;first|omega|exact bV _⟩,⟨by (with_reducible repeat (first|refine bX ?_ _|refine bY ?_|refine bQ ?_ _));refine fF (cs:= #[.int .i64 ((cY l0 1).f0),.slice none 0 0]) ?_ 1 _ rfl;(with_reducible repeat (first|refine bX ?_ _|refine bY ?_|refine bQ ?_ _));refine fF (cs:= #[.int .i64 0,.slice none 0 0]) ?_ 0 _ rfl;(with_reducible repeat (first|refine bX ?_ _|refine bY ?_|refine bQ ?_ _));exact BK282.out⟩,⟨by repeat (first|(with_reducible first|exact HB.out|apply bJ|apply bI|apply bG|refine cE ?_ GE282.out)|exact HB.out)⟩⟩
         ·rw [if_neg c13] at H
          have c13b0:(((cY l0 1).f0)==0)=false:=xP.mpr c13
          have c13b1:(((cY l0 1).f0) !=0)=true:=bne_iff_ne.mpr c13
          (first|rw [c13b0]|(simp only [mN,qN];rw [c13b0])|skip)
          have H':=aK H;clear H;obtain ⟨hcz18_0,hcz18_1,hfz18_0,hfz18_1⟩:=bAz BK282;go_wp2;go_meet
          case rel=>exact ⟨_,(true),nR,H',⟨by have:=HJ1.out;have:=HJ4.out;first|omega|exact bV _⟩,⟨by (with_reducible repeat (first|refine bX ?_ _|refine bY ?_|refine bQ ?_ _));refine fF (cs:= #[.int .i64 ((cY l0 1).f0),.slice none 0 0]) ?_ 1 _ rfl;(with_reducible repeat (first|refine bX ?_ _|refine bY ?_|refine bQ ?_ _));refine fF (cs:= #[.int .i64 0,.slice none 0 0]) ?_ 0 _ rfl;(with_reducible repeat (first|refine bX ?_ _|refine bY ?_|refine bQ ?_ _));exact BK282.out⟩,⟨by repeat (first|(with_reducible first|exact HB.out|apply bJ|apply bI|apply bG|refine cE ?_ GE282.out)|exact HB.out)⟩⟩
        case rest =>
         clear HC10;(try clear c1);(try clear c2);(try clear p2);(try clear q2);(try clear hx2);(try clear qi2);(try clear c3);(try clear c3b0);(try clear c3b1);(try clear c4);(try clear c6);(try clear c6b0);(try clear c6b1);(try clear c7);(try clear c7b0);(try clear c7b1);(try clear c8);(try clear c9);(try clear c9b0);(try clear c9b1);(try clear c13);(try clear c13b0);(try clear c13b1);(try clear c14);(try clear c14b0);(try clear c14b1);(try clear c15);(try clear c15b0);(try clear c15b1);(try clear hcz12_0);(try clear hcz12_1);(try clear hcz16_0);(try clear hcz16_1);(try clear hcz17_0);(try clear hcz17_1);(try clear hcz18_0);(try clear hcz18_1);(try clear hfz12_0);(try clear hfz12_1);(try clear hfz16_0);(try clear hfz16_1);(try clear hfz17_0);(try clear hfz17_1);(try clear hfz18_0);(try clear hfz18_1);(try clear hx279_0);(try clear hx279_1);(try clear hx280_0);(try clear hx280_1);(try clear hx281_0);(try clear hx281_1);(try clear hx283_0);(try clear p2);(try clear p279);(try clear p280);(try clear p281);(try clear p283);(try clear q2);(try clear q279);(try clear q280);(try clear q281);(try clear q283);obtain ⟨kq,x47_9,rfl,HA,HJ9,BK282,HB⟩:=hcut
         cases kq with
         |zero=>exact absurd HA.out (by simp [kE])
         | succ kj9 =>
          have H:=HA.out;clear HA;simp only [kE] at H;by_cases c19:x47_9=true
          ·subst c19
           rw [if_pos rfl] at H;obtain rfl:=bE H;go_wp2;go_ret;exact ⟨zL,bQn⟩
          ·replace c19 := Bool.eq_false_iff.mpr c19
           subst c19;rw [if_neg (show¬(false=true) by decide)] at H;have H':=aK H;clear H;go_wp2
           go_loopg [50] kj9 (fun kq v50 w'=> ∃(x50_4:Int),v50= .int .i64 x50_4∧Aside0 (kT kq l0 l0 (l0.length:Int) x50_4=some r)∧Aside0 (kq≤kj9)∧Aside0 (w'.heap[gb282]? =some (.cells #[.int .i64 ((cY l0 1).f0),(.slice A281_1 ((cY l0 1).f1).length c281_1)] 53 (0,0)))∧Aside0 (Below w.heap.size w w'))
           case atStart=>exact ⟨(0),nR,H',⟨bV _⟩,⟨by (with_reducible repeat (first|refine bX ?_ _|refine bY ?_|refine bQ ?_ _));exact BK282.out⟩,⟨by repeat (first|(with_reducible first|exact HB.out|apply bJ|apply bI|apply bG|refine cE ?_ GE282.out)|exact HB.out)⟩⟩
           case round =>
            clear H';(try clear c1);(try clear c2);(try clear p2);(try clear q2);(try clear hx2);(try clear qi2);(try clear c3);(try clear c3b0);(try clear c3b1);(try clear c4);(try clear c6);(try clear c6b0);(try clear c6b1);(try clear c7);(try clear c7b0);(try clear c7b1);(try clear c8);(try clear c9);(try clear c9b0);(try clear c9b1);(try clear c13);(try clear c13b0);(try clear c13b1);(try clear c14);(try clear c14b0);(try clear c14b1);(try clear c15);(try clear c15b0);(try clear c15b1);(try clear c19);(try clear hcz12_0);(try clear hcz12_1);(try clear hcz16_0);(try clear hcz16_1);(try clear hcz17_0);(try clear hcz17_1);(try clear hcz18_0);(try clear hcz18_1);(try clear hfz12_0);(try clear hfz12_1);(try clear hfz16_0);(try clear hfz16_1);(try clear hfz17_0);(try clear hfz17_1);(try clear hfz18_0);(try clear hfz18_1);(try clear hx279_0);(try clear hx279_1);(try clear hx280_0);(try clear hx280_1);(try clear hx281_0);(try clear hx281_1);(try clear hx283_0);(try clear p2);(try clear p279);(try clear p280);(try clear p281);(try clear p283);(try clear q2);(try clear q279);(try clear q280);(try clear q281);(try clear q283);obtain ⟨x50_4,rfl,HA,HK4,BK282,HB⟩:=hrel
            cases gk with
            |zero=>exact absurd HA.out (by simp [kT])
            | succ k4 =>
             have H:=HA.out;clear HA;simp only [kT] at H;by_cases c20:x50_4<(l0.length:Int)
             ·rw [if_pos c20] at H
              have c20b0:decide (x50_4<(l0.length:Int))=true:=bD c20
              clear c20;by_cases c21:0≤x50_4
              ·rw [if_pos c21] at H
               have c21b0:decide (0≤x50_4)=true:=bD c21
               clear c21;by_cases c22:x50_4<(l0.length:Int)
               ·rw [if_pos c22] at H
                have c22b0:decide (x50_4<(l0.length:Int))=true:=bD c22
                clear c22;have HC23:=aK H;clear H;have p284:0≤(x50_4:Int):=bB jX
                have q284:x50_4<(l0.length:Int):=bB jX
                obtain ⟨ad284,A284_1,c284_1,e284,hx284_0,hx284_1,hl284_1,hi284_1⟩:=bAb HR0.out x50_4 p284 q284;obtain rfl:ad281=ad284:=(by injection e284);replace hx284_0:=(HB.out.cell (bN w _ hx284_0)).trans hx284_0;replace hx284_1:=(HB.out.cell (bN w _ hx284_1)).trans hx284_1;have HR284_1:=aK hi284_1;have HC284_1:=aK hl284_1;clear hi284_1 hl284_1;replace p284:=bO p284;replace q284:=bO q284
                go_upto_region 11 with (first|((with_reducible refine dK (N:=5) rfl ?_);(try (refine qS (by rfl) ?_;dsimp only));refine dM ?hg (N:=5) ?hd (cs:= #[.int .i64 0,.slice none 0 0]) (t:=53) ?hr ?_;(case hd=>rfl);(case hg=>rfl);(case hr=>first|(go_simp;done)|(go_simp;rfl));intro gb285 hg w24 hbox hb;have BK285:=aK (hbox);have GW285:=aK ((by rw [hg];exact (bW bQn):w.heap.size≤gb285));have GE285:=aK ((by rw [hg];exact (bW bQn):w.heap.size≤gb285));have NB282_285:=aK ((by rw [hg];exact xD (dN (g:=gb282) (o:= .cells #[.int .i64 ((cY l0 1).f0),.slice A281_1 ((cY l0 1).f1).length c281_1] 53 (0,0)) (by (with_reducible repeat (first|refine bX ?_ _|refine bY ?_|refine bQ ?_ _));exact BK282.out)):gb282≠gb285));have NB285_282:=aK ((by rw [hg];exact Nat.ne_of_gt (dN (g:=gb282) (o:= .cells #[.int .i64 ((cY l0 1).f0),.slice A281_1 ((cY l0 1).f1).length c281_1] 53 (0,0)) (by (with_reducible repeat (first|refine bX ?_ _|refine bY ?_|refine bQ ?_ _));exact BK282.out)):gb285≠gb282));replace BK282:=aK (bS (g:=gb282) (o:= .cells #[.int .i64 ((cY l0 1).f0),.slice A281_1 ((cY l0 1).f1).length c281_1] 53 (0,0)) (by (with_reducible repeat (first|refine bX ?_ _|refine bY ?_|refine bQ ?_ _));exact BK282.out) hb);replace HB:=aK (bK bQn hb);clear hb hbox hg;have hnb25:=NB285_282.out;have hnc25:=NB282_285.out;obtain ⟨hcz26_0,hcz26_1,hfz26_0,hfz26_1⟩:=bAz BK285))
                (try simp only [Act.put,dU,fY,fT])
                go_cut [67] (fun v67 wc=> ∃(kq:Nat) (x67_22:Bool),v67= .bool x67_22∧Aside0 (kD kq l0 l0 (l0.length:Int) x50_4 x67_22 ((cY l0 x50_4).f0) ((cY l0 x50_4).f1)=some r)∧Aside0 (kq≤k4)∧Aside0 (wc.heap[gb282]? =some (.cells #[.int .i64 ((cY l0 1).f0),(.slice A281_1 ((cY l0 1).f1).length c281_1)] 53 (0,0)))∧Aside0 (wc.heap[gb285]? =some (.cells #[.int .i64 ((cY l0 x50_4).f0),(.slice A284_1 ((cY l0 x50_4).f1).length c284_1)] 53 (0,0)))∧Aside0 (Below w.heap.size w wc))
                case first=>
                 have H:=HC23.out;clear HC23;by_cases c27:x50_4>1
                 ·rw [if_pos c27] at H
                  have c27b0:decide (1<x50_4)=true:=bD c27
                  clear c27
                  (first|rw [c27b0]|(simp only [mN,qN];rw [c27b0])|skip)
                  by_cases c28:((cY l0 x50_4).f0)<0
                  ·rw [if_pos c28] at H
                   have c28b0:decide (((cY l0 x50_4).f0)<0)=true:=bD c28
                   clear c28;have H':=aK H;clear H;have hnb29:=NB285_282.out;have hnc29:=NB282_285.out;obtain ⟨hcz30_0,hcz30_1,hfz30_0,hfz30_1⟩:=bAz BK285;go_wp2;go_meet
                   case rel=>exact ⟨_,(true),nR,H',⟨by have:=HJ1.out;have:=HJ4.out;have:=HJ9.out;have:=HK4.out;first|omega|exact bV _⟩,⟨by (with_reducible repeat (first|refine bX ?_ _|refine bY ?_|refine bQ ?_ _));refine jG ?_ NB282_285.out _;(with_reducible repeat (first|refine bX ?_ _|refine bY ?_|refine bQ ?_ _));refine jG ?_ NB282_285.out _;(with_reducible repeat (first|refine bX ?_ _|refine bY ?_|refine bQ ?_ _));exact BK282.out⟩,⟨by (with_reducible repeat (first|refine bX ?_ _|refine bY ?_|refine bQ ?_ _));refine fF (cs:= #[.int .i64 ((cY l0 x50_4).f0),.slice none 0 0]) ?_ 1 _ rfl;(with_reducible repeat (first|refine bX ?_ _|refine bY ?_|refine bQ ?_ _));refine fF (cs:= #[.int .i64 0,.slice none 0 0]) ?_ 0 _ rfl;(with_reducible repeat (first|refine bX ?_ _|refine bY ?_|refine bQ ?_ _));exact BK285.out⟩,⟨by repeat (first|(with_reducible first|exact HB.out|apply bJ|apply bI|apply bG|refine cE ?_ GE282.out|refine cE ?_ GE285.out)|exact HB.out)⟩⟩
                  ·rw [if_neg c28] at H
                   have c28b0:decide (((cY l0 x50_4).f0)<0)=false:=bM c28
                   clear c28;have H':=aK H;clear H;have hnb31:=NB285_282.out;have hnc31:=NB282_285.out;obtain ⟨hcz32_0,hcz32_1,hfz32_0,hfz32_1⟩:=bAz BK285;go_wp2;go_meet
                   case rel=>exact ⟨_,(decide (((cY l0 x50_4).f0)≥x50_4)),nR,H',⟨by have:=HJ1.out;have:=HJ4.out;have:=HJ9.out;have:=HK4.out;first|omega|exact bV _⟩,⟨by (with_reducible repeat (first|refine bX ?_ _|refine bY ?_|refine bQ ?_ _));refine jG ?_ NB282_285.out _;(with_reducible repeat (first|refine bX ?_ _|refine bY ?_|refine bQ ?_ _));refine jG ?_ NB282_285.out _;(with_reducible repeat (first|refine bX ?_ _|refine bY ?_|refine bQ ?_ _));exact BK282.out⟩,⟨by (with_reducible repeat (first|refine bX ?_ _|refine bY ?_|refine bQ ?_ _));refine fF (cs:= #[.int .i64 ((cY l0 x50_4).f0),.slice none 0 0]) ?_ 1 _ rfl;(with_reducible repeat (first|refine bX ?_ _|refine bY ?_|refine bQ ?_ _));refine fF (cs:= #[.int .i64 0,.slice none 0 0]) ?_ 0 _ rfl;(with_reducible repeat (first|refine bX ?_ _|refine bY ?_|refine bQ ?_ _));exact BK285.out⟩,⟨by repeat (first|(with_reducible first|exact HB.out|apply bJ|apply bI|apply bG|refine cE ?_ GE282.out|refine cE ?_ GE285.out)|exact HB.out)⟩⟩
                 ·rw [if_neg c27] at H
                  have c27b0:decide (1<x50_4)=false:=bM c27
                  clear c27
                  (first|rw [c27b0]|(simp only [mN,qN];rw [c27b0])|skip)
                  have H':=aK H;clear H;go_wp2;go_meet
                  case rel=>exact ⟨_,(false),nR,H',⟨by have:=HJ1.out;have:=HJ4.out;have:=HJ9.out;have:=HK4.out;first|omega|exact bV _⟩,⟨by (with_reducible repeat (first|refine bX ?_ _|refine bY ?_|refine bQ ?_ _));refine jG ?_ NB282_285.out _;(with_reducible repeat (first|refine bX ?_ _|refine bY ?_|refine bQ ?_ _));refine jG ?_ NB282_285.out _;(with_reducible repeat (first|refine bX ?_ _|refine bY ?_|refine bQ ?_ _));exact BK282.out⟩,⟨by (with_reducible repeat (first|refine bX ?_ _|refine bY ?_|refine bQ ?_ _));refine fF (cs:= #[.int .i64 ((cY l0 x50_4).f0),.slice none 0 0]) ?_ 1 _ rfl;(with_reducible repeat (first|refine bX ?_ _|refine bY ?_|refine bQ ?_ _));refine fF (cs:= #[.int .i64 0,.slice none 0 0]) ?_ 0 _ rfl;(with_reducible repeat (first|refine bX ?_ _|refine bY ?_|refine bQ ?_ _));exact BK285.out⟩,⟨by repeat (first|(with_reducible first|exact HB.out|apply bJ|apply bI|apply bG|refine cE ?_ GE282.out|refine cE ?_ GE285.out)|exact HB.out)⟩⟩
                case rest =>
                 clear HC23;(try clear c1);(try clear c2);(try clear p2);(try clear q2);(try clear hx2);(try clear qi2);(try clear c3);(try clear c3b0);(try clear c3b1);(try clear c4);(try clear c6);(try clear c6b0);(try clear c6b1);(try clear c7);(try clear c7b0);(try clear c7b1);(try clear c8);(try clear c9);(try clear c9b0);(try clear c9b1);(try clear c13);(try clear c13b0);(try clear c13b1);(try clear c14);(try clear c14b0);(try clear c14b1);(try clear c15);(try clear c15b0);(try clear c15b1);(try clear c19);(try clear c20);(try clear c20b0);(try clear c21);(try clear c21b0);(try clear c22);(try clear c22b0);(try clear c25);(try clear c27);(try clear c27b0);(try clear p27);(try clear q27);(try clear hx27);(try clear qi27);(try clear c28);(try clear c28b0);(try clear p28);(try clear q28);(try clear hx28);(try clear qi28);(try clear c29);(try clear c31);(try clear hcz12_0);(try clear hcz12_1);(try clear hcz16_0);(try clear hcz16_1);(try clear hcz17_0);(try clear hcz17_1);(try clear hcz18_0);(try clear hcz18_1);(try clear hcz26_0);(try clear hcz26_1);(try clear hcz30_0);(try clear hcz30_1);(try clear hcz32_0);(try clear hcz32_1);(try clear hfz12_0);(try clear hfz12_1);(try clear hfz16_0);(try clear hfz16_1);(try clear hfz17_0);(try clear hfz17_1);(try clear hfz18_0);(try clear hfz18_1);(try clear hfz26_0);(try clear hfz26_1);(try clear hfz30_0);(try clear hfz30_1);(try clear hfz32_0);(try clear hfz32_1);(try clear hx279_0);(try clear hx279_1);(try clear hx280_0);(try clear hx280_1);(try clear hx281_0);(try clear hx281_1);(try clear hx283_0);(try clear hx284_0);(try clear hx284_1);(try clear p2);(try clear p279);(try clear p280);(try clear p281);(try clear p283);(try clear p284);(try clear q2);(try clear q279);(try clear q280);(try clear q281);(try clear q283);(try clear q284);obtain ⟨kq,x67_22,rfl,HA,HJ22,BK282,BK285,HB⟩:=hcut
                 cases kq with
                 |zero=>exact absurd HA.out (by simp [kD])
                 | succ kj22 =>
                  have H:=HA.out;clear HA;simp only [kD] at H;by_cases c33:x67_22=true
                  ·subst c33
                   rw [if_pos rfl] at H;obtain rfl:=bE H;go_wp2;go_ret;exact ⟨zL,zz51⟩
                  ·replace c33 := Bool.eq_false_iff.mpr c33
                   subst c33;rw [if_neg (show¬(false=true) by decide)] at H;by_cases c34:(((cY l0 x50_4).f1).length:Int)>2
                   ·rw [if_pos c34] at H
                    have c34b0:decide (2<(((cY l0 x50_4).f1).length:Int))=true:=bD c34
                    have c34b1:decide (2<((cY l0 x50_4).f1).length)=true:=bD (by omega)
                    clear c34;obtain rfl:=bE H;have hnb35:=NB285_282.out;have hnc35:=NB282_285.out;obtain ⟨hcz36_0,hcz36_1,hfz36_0,hfz36_1⟩:=bAz BK285;go_wp2;go_ret;exact ⟨zL,zz51⟩
                   ·rw [if_neg c34] at H
                    have c34b0:decide (2<(((cY l0 x50_4).f1).length:Int))=false:=bM c34
                    have c34b1:decide (2<((cY l0 x50_4).f1).length)=false:=bM (by omega)
                    clear c34;have H':=aK H;clear H;have hnb37:=NB285_282.out;have hnc37:=NB282_285.out;obtain ⟨hcz38_0,hcz38_1,hfz38_0,hfz38_1⟩:=bAz BK285;go_wp2
                    go_loopg [75] kj22 (fun kq v75 w'=> ∃(x75_6:Int),v75= .int .i64 x75_6∧Aside0 (mL kq l0 l0 (l0.length:Int) x50_4 ((cY l0 x50_4).f1) (((cY l0 x50_4).f1).length:Int) x75_6=some r)∧Aside0 (kq≤kj22)∧Aside0 (w'.heap[gb282]? =some (.cells #[.int .i64 ((cY l0 1).f0),(.slice A281_1 ((cY l0 1).f1).length c281_1)] 53 (0,0)))∧Aside0 (w'.heap[gb285]? =some (.cells #[.int .i64 ((cY l0 x50_4).f0),(.slice A284_1 ((cY l0 x50_4).f1).length c284_1)] 53 (0,0)))∧Aside0 (Below w.heap.size w w'))
                    case atStart=>exact ⟨(0),nR,H',⟨bV _⟩,⟨by (with_reducible repeat (first|refine bX ?_ _|refine bY ?_|refine bQ ?_ _));exact BK282.out⟩,⟨by (with_reducible repeat (first|refine bX ?_ _|refine bY ?_|refine bQ ?_ _));exact BK285.out⟩,⟨by repeat (first|(with_reducible first|exact HB.out|apply bJ|apply bI|apply bG|refine cE ?_ GE282.out|refine cE ?_ GE285.out)|exact HB.out)⟩⟩
                    case round =>
                     clear H';(try clear c1);(try clear c2);(try clear p2);(try clear q2);(try clear hx2);(try clear qi2);(try clear c3);(try clear c3b0);(try clear c3b1);(try clear c4);(try clear c6);(try clear c6b0);(try clear c6b1);(try clear c7);(try clear c7b0);(try clear c7b1);(try clear c8);(try clear c9);(try clear c9b0);(try clear c9b1);(try clear c13);(try clear c13b0);(try clear c13b1);(try clear c14);(try clear c14b0);(try clear c14b1);(try clear c15);(try clear c15b0);(try clear c15b1);(try clear c19);(try clear c20);(try clear c20b0);(try clear c21);(try clear c21b0);(try clear c22);(try clear c22b0);(try clear c25);(try clear c27);(try clear c27b0);(try clear p27);(try clear q27);(try clear hx27);(try clear qi27);(try clear c28);(try clear c28b0);(try clear p28);(try clear q28);(try clear hx28);(try clear qi28);(try clear c29);(try clear c31);(try clear c33);(try clear c34);(try clear c34b0);(try clear c34b1);(try clear c35);(try clear c37);(try clear hcz12_0);(try clear hcz12_1);(try clear hcz16_0);(try clear hcz16_1);(try clear hcz17_0);(try clear hcz17_1);(try clear hcz18_0);(try clear hcz18_1);(try clear hcz26_0);(try clear hcz26_1);(try clear hcz30_0);(try clear hcz30_1);(try clear hcz32_0);(try clear hcz32_1);(try clear hcz36_0);(try clear hcz36_1);(try clear hcz38_0);(try clear hcz38_1);(try clear hfz12_0);(try clear hfz12_1);(try clear hfz16_0);(try clear hfz16_1);(try clear hfz17_0);(try clear hfz17_1);(try clear hfz18_0);(try clear hfz18_1);(try clear hfz26_0);(try clear hfz26_1);(try clear hfz30_0);(try clear hfz30_1);(try clear hfz32_0);(try clear hfz32_1);(try clear hfz36_0);(try clear hfz36_1);(try clear hfz38_0);(try clear hfz38_1);(try clear hx279_0);(try clear hx279_1);(try clear hx280_0);(try clear hx280_1);(try clear hx281_0);(try clear hx281_1);(try clear hx283_0);(try clear hx284_0);(try clear hx284_1);(try clear p2);(try clear p27);(try clear p279);(try clear p28);(try clear p280);(try clear p281);(try clear p283);(try clear p284);(try clear q2);(try clear q27);(try clear q279);(try clear q28);(try clear q280);(try clear q281);(try clear q283);(try clear q284);obtain ⟨x75_6,rfl,HA,HK6,BK282,BK285,HB⟩:=hrel
                     cases gk with
                     |zero=>exact absurd HA.out (by simp [mL])
                     | succ k6 =>
                      have H:=HA.out;clear HA;simp only [mL] at H;by_cases c39:x75_6<(((cY l0 x50_4).f1).length:Int)
                      ·rw [if_pos c39] at H
                       have c39b0:decide (x75_6<(((cY l0 x50_4).f1).length:Int))=true:=bD c39
                       clear c39;by_cases c40:0≤x75_6
                       ·rw [if_pos c40] at H
                        have c40b0:decide (0≤x75_6)=true:=bD c40
                        clear c40;by_cases c41:x75_6<(((cY l0 x50_4).f1).length:Int)
                        ·rw [if_pos c41] at H
                         have c41b0:decide (x75_6<(((cY l0 x50_4).f1).length:Int))=true:=bD c41
                         clear c41;replace H:=Option.bind_eq_some_iff.mp H;obtain ⟨t287,A420,H⟩:=H;(try dsimp only at H);have A42:=aK A420;clear A420;by_cases c43:t287=true
                         ·subst c43
                          rw [if_pos rfl] at H;have H':=aK H;clear H;have p286:0≤(x75_6:Int):=bB jX
                          have q286:x75_6<(((cY l0 x50_4).f1).length:Int):=bB jX
                          obtain ⟨ad286,e286,hx286_0⟩:=dL HR284_1.out x75_6 p286 q286
                          cases e286
                          replace hx286_0:=(HB.out.cell (bN w _ hx286_0)).trans hx286_0;replace p286:=bO p286;replace q286:=bO q286
                          go_wp2_with (first|((with_reducible refine dG (f:=94) rfl ?_);refine gE (some 82) rfl rfl Try.func94 (by kernel_rfl) rfl #[.int .i64 (l0.length:Int),.int .i64 (rd ((cY l0 x50_4).f1) x75_6)] rfl qD ?_;(with_reducible refine (xC (l0.length:Int) (rd ((cY l0 x50_4).f1) x75_6) true _ A42.out).mono ?_);rintro e w' ⟨rfl,⟨nd,rfl⟩⟩;refine ⟨_,rfl,?_⟩))
                          go_roundg k6
                          case measure=>have:=HJ1.out;have:=HJ4.out;have:=HJ9.out;have:=HK4.out;have:=HJ22.out;have:=HK6.out;omega
                          case rel=>exact ⟨(wrap64 (x75_6+1)),nR,H',⟨by have:=HJ1.out;have:=HJ4.out;have:=HJ9.out;have:=HK4.out;have:=HJ22.out;have:=HK6.out;omega⟩,⟨by (with_reducible repeat (first|refine bX ?_ _|refine bY ?_|refine bQ ?_ _));exact BK282.out⟩,⟨by (with_reducible repeat (first|refine bX ?_ _|refine bY ?_|refine bQ ?_ _));exact BK285.out⟩,⟨by repeat (first|(with_reducible first|exact HB.out|apply bJ|apply bI|apply bG|refine cE ?_ GE282.out|refine cE ?_ GE285.out)|exact HB.out)⟩⟩
                         ·replace c43 := Bool.eq_false_iff.mpr c43
                          subst c43;rw [if_neg (show¬(false=true) by decide)] at H;obtain rfl:=bE H;have p286:0≤(x75_6:Int):=bB jX
                          have q286:x75_6<(((cY l0 x50_4).f1).length:Int):=bB jX
                          obtain ⟨ad286,e286,hx286_0⟩:=dL HR284_1.out x75_6 p286 q286
                          cases e286
                          replace hx286_0:=(HB.out.cell (bN w _ hx286_0)).trans hx286_0;replace p286:=bO p286;replace q286:=bO q286
                          go_wp2_with (first|((with_reducible refine dG (f:=94) rfl ?_);refine gE (some 82) rfl rfl Try.func94 (by kernel_rfl) rfl #[.int .i64 (l0.length:Int),.int .i64 (rd ((cY l0 x50_4).f1) x75_6)] rfl qD ?_;(with_reducible refine (xC (l0.length:Int) (rd ((cY l0 x50_4).f1) x75_6) false _ A42.out).mono ?_);rintro e w' ⟨rfl,⟨nd,rfl⟩⟩;refine ⟨_,rfl,?_⟩))
                          go_ret;exact ⟨zL,zz51⟩
                        ·rw [if_neg c41] at H
                         exact absurd H (by simp)
                       ·rw [if_neg c40] at H
                        exact absurd H (by simp)
                      ·rw [if_neg c39] at H
                       have c39b0:decide (x75_6<(((cY l0 x50_4).f1).length:Int))=false:=bM c39
                       clear c39;have H':=aK H;clear H;go_wp2
                       go_roundg k6
                       case measure=>have:=HJ1.out;have:=HJ4.out;have:=HJ9.out;have:=HK4.out;have:=HJ22.out;have:=HK6.out;omega
                       case rel=>exact ⟨(wrap64 (x50_4+1)),nR,H',⟨by have:=HJ1.out;have:=HJ4.out;have:=HJ9.out;have:=HK4.out;have:=HJ22.out;have:=HK6.out;omega⟩,⟨by (with_reducible repeat (first|refine bX ?_ _|refine bY ?_|refine bQ ?_ _));exact BK282.out⟩,⟨by repeat (first|(with_reducible first|exact HB.out|apply bJ|apply bI|apply bG|refine cE ?_ GE282.out|refine cE ?_ GE285.out)|exact HB.out)⟩⟩
               ·rw [if_neg c22] at H
                exact absurd H (by simp)
              ·rw [if_neg c21] at H
               exact absurd H (by simp)
             ·rw [if_neg c20] at H
              have c20b0:decide (x50_4<(l0.length:Int))=false:=bM c20
              clear c20;obtain rfl:=bE H;go_wp2;go_ret;exact ⟨zL,bQn⟩
       ·rw [if_neg c9] at H
        exact absurd H (by simp)
end Go.Proofs.Ytbaklikaoleplaa.K
namespace Go.Proofs.Ytbaklikaoleplaa.K
open Go.RowKit Go.Proofs.YtbaklikaoleplaaW.PrintWords Go.Proofs.YtbaklikaoleplaaW.PrintLast Go.Proofs.YtbaklikaoleplaaW.PrintMore
attribute [local go_sem] gD gB gY gW fR fQ gC gA
set_option linter.unusedVariables false
set_option linter.unusedSimpArgs false
theorem xX (x:Int) (w:World):Calls Try.prog 95 #[.int .i64 x] w fun e w'=>e= .returned (.bool (x==0))∧Below w.heap.size w w':=by
 go_enter Try.func95,Try.ntmps95;go_wp2;go_ret;exact ⟨rfl,by repeat (first|exact bH _ _|apply bG|apply bI)⟩
theorem rE (A:Option Addr) (c:Nat) (l:List Int) (W:World) (hr:Kd.C (Kd.int .i64) W A l.length l) (hl:l.length≤281474976710656):
  Calls Try.prog 76 #[.slice A l.length c,.func (.func 95) #[] #[]] W fun e w'=>e= .returned (.bool (l.all (· ==0)))∧Below W.heap.size W w':=by
 have HR:=aK hr;have HL:=aK hl;clear hr hl;go_enter Try.func76,Try.ntmps76;go_wp2
 go_loopw [9] (fun i wr=> ∃k:Nat,k≤l.length∧i= .int .i64 k∧Aside0 ((l.drop k).all (· ==0)=l.all (· ==0))∧Aside0 (Below W.heap.size W wr)) (fun i _=>l.length - (intOf i).toNat)
 case atStart=>exact ⟨0,hU _,rfl,⟨by simp⟩,⟨bH _ _⟩⟩
 case round=>
  obtain ⟨k,hk,rfl,HN,HB⟩:=hrel;by_cases hlt:k<l.length
  ·have hd := fO hlt
   have hg:l[k]=rd l k:=by unfold rd;rw [dF,bP,bT hlt];rfl
   obtain ⟨ad,e0,hcell⟩:=dL (cG HR.out HB.out) k (by omega) (by omega)
   cases e0
   rw [dF] at hcell;have HN2:=HN.out;rw [hd,hg,List.all_cons] at HN2;have HX:=aK HN2;clear hd hg HN HN2;generalize rd l k=x at*;by_cases hx:x=0
   ·have d1 : (x == 0) = true := zH.mpr hx
    have HY:=aK (show (l.drop (k+1)).all (· ==0)=l.all (· ==0) by have:=HX.out;rw [d1,jQ] at this;exact this);clear hx HX
    go_wp2_with fail
    refine (xX x _).mono ?_;rw [d1];rintro e w2 ⟨rfl,hb2⟩;have HB2:=aK (bK HB.out hb2);clear hb2;go_wp2
    go_roundw
    case rel=>exact ⟨k+1,by omega,by rw [show wrap64 ((k:Int)+1)=((k+1:Nat):Int) by have:=HL.out;unfold wrap64;omega],HY,HB2⟩
    case measure=>rw [show wrap64 ((k:Int)+1)=((k+1:Nat):Int) by have:=HL.out;unfold wrap64;omega];simp only [intOf,dF];omega
   ·have d1 : (x == 0) = false := xP.mpr hx
    have HY:=aK (show l.all (· ==0)=false by have:=HX.out;rw [d1,Bool.false_and] at this;exact this.symm);clear hx HX
    go_wp2_with fail
    refine (xX x _).mono ?_;rw [d1];rintro e w2 ⟨rfl,hb2⟩;have HB2:=aK (bK HB.out hb2);clear hb2;go_wp2;go_ret;exact ⟨by rw [HY.out];rfl,HB2.out⟩
  ·have d0 : decide ((k : Int) < l.length) = false := bM (by omega)
   have HY:=aK (show l.all (· ==0)=true by rw [←HN.out,hZ (by omega)];rfl);go_wp2;go_ret;exact ⟨by rw [HY.out];rfl,HB.out⟩
end Go.Proofs.Ytbaklikaoleplaa.K
namespace Go.Proofs.Ytbaklikaoleplaa.K
open Go.RowKit Go.Proofs.YtbaklikaoleplaaW.PrintWords Go.Proofs.YtbaklikaoleplaaW.PrintLast Go.Proofs.YtbaklikaoleplaaW.PrintMore
attribute [local go_sem] gD gB gY gW fR fQ gC gA
set_option linter.unusedVariables false
set_option linter.unusedSimpArgs false
def fJ (a0:Int) (a1:Int) (a2:Int):Option (Bool):=if a0≤a1 then (some (decide (a1≤a2))) else (some false)
theorem dW (a0:Int) (a1:Int) (a2:Int) (r:Bool) (w:World) (h:fJ a0 a1 a2=some r):
  Calls Try.prog 96 #[.int .i64 a0,.int .i64 a1,.int .i64 a2] w fun e w'=>e= .returned (.bool r)∧Drawn0 w w':=by
 have H:(if a0≤a1 then (some (decide (a1≤a2))) else (some false))=some r:=h
 clear h;by_cases c4:a0≤a1
 ·rw [if_pos c4] at H
  have c4b0:decide (a0≤a1)=true:=bD c4
  clear c4;obtain rfl:=bE H;go_enter Try.func96,Try.ntmps96;go_wp2;go_ret;exact ⟨nR,sF⟩
 ·rw [if_neg c4] at H
  have c4b0:decide (a0≤a1)=false:=bM c4
  clear c4;obtain rfl:=bE H;go_enter Try.func96,Try.ntmps96;go_wp2;go_ret;exact ⟨nR,sF⟩
end Go.Proofs.Ytbaklikaoleplaa.K
namespace Go.Proofs.Ytbaklikaoleplaa.K
open Go.RowKit Go.Proofs.YtbaklikaoleplaaW.PrintWords Go.Proofs.YtbaklikaoleplaaW.PrintLast Go.Proofs.YtbaklikaoleplaaW.PrintMore
attribute [local go_sem] gD gB gY gW fR fQ gC gA
set_option linter.unusedVariables false
set_option linter.unusedSimpArgs false
def sI (a0:Int):Option (Int):=some (wrap64 (Int.tdiv (wrap64 ((wrap64 (a0+4)) - 1)) 4))
theorem rO (a0:Int) (r:Int) (w:World) (h:sI a0=some r):
  Calls Try.prog 97 #[.int .i64 a0] w fun e w'=>e= .returned (.int .i64 r)∧Drawn0 w w':=by
 have H:(some (wrap64 (Int.tdiv (wrap64 ((wrap64 (a0+4)) - 1)) 4)))=some r:=h
 clear h;obtain rfl:=bE H;go_enter Try.func97,Try.ntmps97;go_wp2;go_ret;exact ⟨nR,sF⟩
end Go.Proofs.Ytbaklikaoleplaa.K
namespace Go.Proofs.Ytbaklikaoleplaa.K
open Go.RowKit Go.Proofs.YtbaklikaoleplaaW.PrintWords Go.Proofs.YtbaklikaoleplaaW.PrintLast Go.Proofs.YtbaklikaoleplaaW.PrintMore
attribute [local go_sem] gD gB gY gW fR fQ gC gA
set_option linter.unusedVariables false
set_option linter.unusedSimpArgs false
theorem bGn (ad:Addr) (n c y:Nat) (a1 a2 a3:Int) (v4:Value) (h4:v4.oneCell'=true) (w:World) (hy:a1=(y:Int)) (h1:y≤n) (hc:n≤c):
  Calls Try.prog 98 #[.agg #[.slice (some ad) n c,.int .i64 a1,.int .i64 a2,.int .i64 a3,v4]] w fun e w'=>e= .returned (.agg #[.slice (some ad) y c,.slice (if c=y then some ad else some (ad.add y)) (n - y) (c - y)])∧Below w.heap.size w w':=by
 have p2:=bO (show a1≤(n:Int) by omega);have p1:=bO (show 0≤a1 by omega);have p3:=bO (show a1≤(c:Int) by omega);have p4:=bO (show y≤n by omega);have p5:=bO (show y≤c by omega);have p6:a1.toNat=y:=by omega
 go_enter Try.func98,Try.ntmps98;go_wp2
 go_region
 all_goals go_wp2
 all_goals refine fM (jY rfl _ _ (w.heap.size+1) 119 _ (0,0) _ rfl (bY (bFn w _ _).2) Try.underlying119 rfl (by kernel_rfl)) rfl ?_
 ·refine ⟨by first | rfl | (simp; done) | (simp; rfl), ?_⟩
  exact bG (bJ (bJ (bH _ _) _) _)
 ·refine ⟨?_, bG (bJ (bJ (bH _ _) _) _)⟩
  first|rfl|(rw [if_neg (by omega)];rfl)
theorem Mem_parts.calls2 (ad ad2:Addr) (n c y z zc:Nat) (a1 a2 a3:Int) (v4:Value) (h4:v4.oneCell'=true) (w:World) (hy:a1=(y:Int)) (h1:y≤n) (hc:n≤c) (h2:(if c=y then some ad else some (ad.add y))=some ad2) (hz:n - y=z) (hzc:c - y=zc):
  Calls Try.prog 98 #[.agg #[.slice (some ad) n c,.int .i64 a1,.int .i64 a2,.int .i64 a3,v4]] w fun e w'=>e= .returned (.agg #[.slice (some ad) y c,.slice (some ad2) z zc])∧Below w.heap.size w w':=by
 subst hz hzc;rw [←h2];exact bGn ad n c y a1 a2 a3 v4 h4 w hy h1 hc
end Go.Proofs.Ytbaklikaoleplaa.K
