import Derived.Test.YtnjbgkmmfndmeaaProg
import Derived.Below
import Derived.Deep.Draws
import Derived.Deep.AppendLies
import Derived.Maps.AppendAt
import Derived.OwnWalk
import Derived.Laws.BytesArg
import Derived.Laws.MakeOwn
import Derived.Laws.OwnMore
import Derived.Deep.OwnRows
import Derived.Tactics
import Derived.Lib.ConvBytes
import Derived.Laws.Slices
import Derived.WalkKit
import Derived.KernelRfl
import Derived.RowKit3
import Derived.Deep.LoopGhost
import Derived.Deep.QuietTactic
import Derived.BigQuiet
import Derived.WideLaws
import Derived.Deep.DeepCutAuto
import Derived.Deep.CutBlock
import Derived.Deep.RegionHeld3
import Derived.Laws.Rows
import Derived.Lib.AppendStr
import Derived.ArgAppend
import Derived.Laws.IdiomCopy
import Derived.OrdersHeld
import Derived.Laws.BitsLemmas
import Derived.RowKit
import Derived.Test.YtnjbgkmmfndmeaaPj3
import Derived.Test.YtnjbgkmmfndmeaaPj4
import Derived.Test.YtnjbgkmmfndmeaaPj5
import Derived.Test.YtnjbgkmmfndmeaaPj6
import Derived.Test.YtnjbgkmmfndmeaaPj7
import Derived.Test.YtnjbgkmmfndmeaaPj8
import Derived.Test.YtnjbgkmmfndmeaaPj9
import Derived.Test.YtnjbgkmmfndmeaaPj10
import Derived.Test.YtnjbgkmmfndmeaaPj11
import Derived.Test.YtnjbgkmmfndmeaaPj12
import Derived.Test.YtnjbgkmmfndmeaaPj13
import Derived.Test.YtnjbgkmmfndmeaaPj14
import Derived.Test.YtnjbgkmmfndmeaaPj15
import Derived.Test.YtnjbgkmmfndmeaaPj16
import Derived.Test.YtnjbgkmmfndmeaaPj17
import Derived.Test.YtnjbgkmmfndmeaaPj18
import Derived.Test.YtnjbgkmmfndmeaaPj19
import Derived.Test.YtnjbgkmmfndmeaaPj20
import Derived.Test.YtnjbgkmmfndmeaaPj21
import Derived.Test.YtnjbgkmmfndmeaaPj22
import Derived.Test.YtnjbgkmmfndmeaaPj23
namespace Go.Proofs.Ytnjbgkmmfndmeaa.K
open Go.RowKit Go.Proofs.YtnjbgkmmfndmeaaW.PrintWords Go.Proofs.YtnjbgkmmfndmeaaW.PrintLast Go.Proofs.YtnjbgkmmfndmeaaW.PrintMore
attribute [local go_sem] max2_int min2_int max_two min_two max_three min_three max_four min_four
set_option linter.unusedVariables false
set_option linter.unusedSimpArgs false
def errW : Option Int → Value
  | none => .nilIface
  | some c => .iface 0 (.int .i64 c)
theorem errW_none : errW none = .nilIface := rfl
theorem errW_some (c : Int) : errW (some c) = .iface 0 (.int .i64 c) := rfl
def lA (n m : Nat) : Array Bool := ((List.range n).map (Nat.testBit m)).toArray
theorem lA1 {α : Type} (l : List α) (i : Nat) (a : α) : l.toArray.setIfInBounds i a = (l.set i a).toArray := List.setIfInBounds_toArray l i a
theorem lA2 {α : Type} {x a : α} {l : List α} : (x :: l).set 0 a = a :: l := List.set_cons_zero
theorem lA3 {α : Type} {x a : α} {l : List α} {n : Nat} : (x :: l).set (n + 1) a = x :: l.set n a := List.set_cons_succ
section
open Go.Proofs.YtnjbgkmmfndmeaaW.PrintLast
variable {P : Program} {ops : Array Oper} {Q : Exit → Act → World → Prop} {md : Region.Mode} {S : World → Prop} {ds : List Nat} {oi : Oper} {v : Value} {fuel : Nat} {l : Array Bool} {a a' : Act} {w : World}
theorem pS (i : Nat) (n : Tmp) (l' : Array Bool) (h : wpAnyLast P md ops Q S ds fuel l' a' w) (hi : ops[i]? = some oi := by exact rfl) (hN : oi.dst = some n := by exact rfl) (hc : anyB md ops l l' i = true := by as_aux_lemma => kernel_rfl) (hQ : ∀ c a w, Q (.panic c) (a.put oi.dst v) w → Q (.panic c) a w := by exact fun _ _ _ h => h) (hw : Region.wanted oi (yielded ops a.tmps) = true := by rfl) (hv : ∀ w', (execOp a.eval oi).run P w' = .ok (.value v) w' := by intro w'; go_simp; with_reducible rfl) (ha : a.put (some n) v = a' := by simp only [Act.put, lA1, lA2, lA3, i64_w, i32_w]; rfl) : wpAnyLast P md ops Q S ds (fuel + 1) l a w :=
  pure_ l' hi hN hc hQ (Or.inl ⟨hw, hv⟩) ha h
theorem tS (i : Nat) (n : Tmp) (l' : Array Bool) (hi : ops[i]? = some oi) (hN : oi.dst = some n) (hc : takeB md ops ds l l' i = true) (hS : S w) (hv : ∀ w', S w' → (execOp a.eval oi).run P w' = .ok (.value v) w') (h : wpAnyLast P md ops Q S ds fuel l' a' w) (hQ : ∀ c a w, Q (.panic c) (a.put oi.dst v) w → Q (.panic c) a w := by exact fun _ _ _ h => h) (hw : Region.wanted oi (yielded ops a.tmps) = true := by rfl) (ha : a.put (some n) v = a' := by simp only [Act.put, lA1, lA2, lA3, i64_w, i32_w]; rfl) : wpAnyLast P md ops Q S ds (fuel + 1) l a w :=
  take_ l' hi hN hc hQ (Or.inl ⟨hw, hv⟩) hS ha h
end
theorem info3 : (Try.prog.info? 3).map (fun i => (i.zero, i.size, i.bytes)) = some (some (.int .i64 0), 1, 8) := by kernel_rfl
theorem info5 : (Try.prog.info? 5).map (fun i => (i.zero, i.size, i.bytes)) = some (some (.int .u8 0), 1, 1) := by kernel_rfl
theorem info84 : (Try.prog.info? 84).map (fun i => (i.zero, i.size, i.bytes)) = some (some (.agg #[(.int .i64 0), (.slice none 0 0)]), 2, 32) := by kernel_rfl
structure S84 where
  f0 : Int
  f1 : (List Int)
def z84 : S84 := ⟨(0 : Int), ([] : List Int)⟩
def k84 : Kd S84 := Kd.iso (Kd.pair (Kd.int .i64) (Kd.slice 3 (Kd.int .i64))) (fun x : S84 => (x.f0, x.f1))
theorem k84_open {w : World} {x : S84} {cs : List Value} (h : k84.K w x cs) : ∃ A1 c1, cs = [.int .i64 x.f0, .slice A1 x.f1.length c1] ∧ x.f1.length ≤ c1 ∧ (Kd.int .i64).C w A1 x.f1.length x.f1 := by
  obtain ⟨_, _, rfl, rfl, ⟨A1, c1, rfl, l1, g1⟩⟩ := h
  exact ⟨A1, c1, rfl, l1, g1⟩
theorem k84_openM {w : World} {base : Nat} {ok : Nat → Prop} {x : S84} {cs : List Value} (h : k84.M w base ok x cs) : ∃ v1, cs = [.int .i64 x.f0, v1] ∧ (Kd.int .i64).R 3 w base ok v1 x.f1 := by
  obtain ⟨_, _, rfl, rfl, ⟨v1, rfl, g1⟩⟩ := h
  exact ⟨v1, rfl, g1⟩
theorem k84_mk (w : World) (x : S84) {A1 : Option Addr} {c1 : Nat} (l1 : x.f1.length ≤ c1) (g1 : (Kd.int .i64).C w A1 x.f1.length x.f1) : k84.K w x [.int .i64 x.f0, .slice A1 x.f1.length c1] := ⟨[.int .i64 x.f0], [.slice A1 x.f1.length c1], rfl, rfl, ⟨A1, c1, rfl, l1, g1⟩⟩
theorem k84_mkM (w : World) (base : Nat) (ok : Nat → Prop) (x : S84) {v1 : Value} (g1 : (Kd.int .i64).R 3 w base ok v1 x.f1) : k84.M w base ok x [.int .i64 x.f0, v1] := ⟨[.int .i64 x.f0], [v1], rfl, rfl, ⟨v1, rfl, g1⟩⟩
theorem k84_mkF (W : World) (ok : Nat → Prop) (x : S84) {A1 : Option Addr} {c1 : Nat} (l1 : x.f1.length ≤ c1) (g1 : Kd.F (Kd.int .i64) W ok A1 x.f1.length x.f1) : Kd.FK k84 W ok x [.int .i64 x.f0, .slice A1 x.f1.length c1] := fun W2 hW => k84_mk W2 x l1 (g1 W2 hW)
def rd_T84 (xs : List S84) (i : Int) : S84 := xs.getD i.toNat z84
theorem at_T84 {w : World} {A : Option Addr} {n : Nat} {xs : List S84} (h : Kd.C k84 w A n xs) (i : Int) (h0 : 0 ≤ i) (h1 : i < n) : ∃ ad A1 c1, A = some ad ∧ w.cell? (ad.add (i.toNat * 2)) = some (.int .i64 (rd_T84 xs i).f0) ∧ w.cell? ⟨(ad.add (i.toNat * 2)).block, (ad.add (i.toNat * 2)).off + 1, none⟩ = some (.slice A1 (rd_T84 xs i).f1.length c1) ∧ (rd_T84 xs i).f1.length ≤ c1 ∧ (Kd.int .i64).C w A1 (rd_T84 xs i).f1.length (rd_T84 xs i).f1 := by
 obtain ⟨ad, c, e, _, hK, hc0⟩ := Kd.C_get h z84 i h0 h1
 have hc : ∀ j u, c[j]? = some u → w.cell? (ad.add (i.toNat * 2 + j)) = some u := hc0
 obtain ⟨A1, c1, rfl, l1, g1⟩ := k84_open hK
 exact ⟨ad, A1, c1, e, hc 0 _ rfl, by rw [← add_field _ _ 1 (by omega)]; exact hc 1 _ rfl, l1, g1⟩
theorem cbf2 {w : World} {g : Nat} {t : TypeId} {a0 a1 : Value} (h : Aside0 (w.heap[g]? = some (.cells #[a0, a1] t (0, 0)))) : w.cell? ⟨g, 0, none⟩ = some a0 ∧ w.cell? ⟨g, 1, none⟩ = some a1 ∧ w.frozen? ⟨g, 0, none⟩ = false ∧ w.frozen? ⟨g, 1, none⟩ = false := ⟨(blk_cell h.out 0).trans rfl, (blk_cell h.out 1).trans rfl, blk_frozen h.out 0, blk_frozen h.out 1⟩
theorem z1 {p : Prop} (h : p := by (try simp only [List.map_toArray, List.map_cons, List.map_nil]); first | done | rfl | (simp only [List.length_drop, List.length_take]; rfl)) : p := h
theorem z2 {p : Prop} (h : p := by have h_ := hHeld.2.1.out; (try simp only [World.drewN_drewN] at h_); exact below_alloc h_ _) : p := h
theorem z3 {p : Prop} (h : p := by show w.heap.size < _; have := blk_lt HW1.out; omega) : p := h
theorem z4 {p : Prop} (h : p := by simp only [putAll, Act.put, List.setIfInBounds_toArray, List.set_cons_zero, List.set_cons_succ]) : p := h
theorem z5 {p : Prop} (h : p := by simp only [List.map_toArray, List.map_cons, List.map_nil]; rfl) : p := h
theorem z6 {p : Prop} (h : p := by repeat (first | (with_reducible first | exact HB.out | apply below_alloc | apply pw_below_drewN | apply below_drew1) | exact HB.out)) : p := h
theorem z7 {p : Prop} (h : p := by repeat (first | (with_reducible first | exact HK.out | apply KeepBut.set_ | apply keep_drewN | apply keep_drew | apply keep_alloc) | exact HK.out)) : p := h
theorem z8 {p : Prop} (h : p := by first | (with_reducible assumption) | assumption) : p := h
theorem z9 {p : Prop} (h : p := by first | rfl | (simp; done) | (simp [*]; done)) : p := h
theorem z10 {p : Prop} (h : p := by repeat (first | (with_reducible first | exact HBW.out | apply below_alloc | apply pw_below_drewN | apply below_drew1) | exact HBW.out)) : p := h
theorem z11 {p : Prop} (h : p := by rintro w' ⟨s0, s1, s2⟩; go_simp; with_reducible rfl) : p := h
def kndV (t : Int) : Value :=
 if t = 0 then .iface 130 (.agg #[])
 else if t = 1 then .iface 131 (.agg #[])
 else if t = 2 then .iface 132 (.agg #[])
 else if t = 3 then .iface 134 (.agg #[.bool false])
 else if t = 4 then .iface 134 (.agg #[.bool true])
 else .iface 137 (.agg #[.int .i64 (t - 8)])
def kv (t : Int) : Prop := (0 ≤ t ∧ t ≤ 4) ∨ 8 ≤ t
def kOk (n t : Int) : Bool := decide ((0 ≤ t ∧ t ≤ 4) ∨ (8 ≤ t ∧ t < 8 + n))
def kndO (n t : Int) : Value := if kOk n t = true then kndV t else .nilIface
theorem kv_cases {t : Int} (h : kv t) : t = 0 ∨ t = 1 ∨ t = 2 ∨ t = 3 ∨ t = 4 ∨ 8 ≤ t := by unfold kv at h; omega
theorem kndV_cls {t : Int} (h : 8 ≤ t) : kndV t = .iface 137 (.agg #[.int .i64 (t - 8)]) := by
  unfold kndV
  rw [if_neg (by omega), if_neg (by omega), if_neg (by omega), if_neg (by omega), if_neg (by omega)]
theorem eqCls (d : Nat) (w : World) (x0 y0 : Int) :
  (Op.equalIn (d + 2) 137 (.agg #[.int .i64 x0]) (.agg #[.int .i64 y0])).run Try.prog w = .ok (x0 == y0) w := by
 refine eqA_of Try.underlying137 (by kernel_rfl) ?_
 exact eqf_last (by rfl) (by go_simp; rfl) (by go_simp; rfl) (by go_simp)
theorem cls_step (x y : Value) (W : World) : (Op.equal 127 (.iface 137 x) (.iface 137 y)).run Try.prog W = (Op.equalIn 9999 137 x y).run Try.prog W := by
  kernel_rfl
theorem cls_eql (x y : Int) (W : World) : (binOp .eql 127 (.iface 137 (.agg #[.int .i64 x])) (.iface 137 (.agg #[.int .i64 y]))).run Try.prog W = .ok (.bool (x == y)) W := by
  simp only [binOp, Sem.run_bind, cls_step, eqCls 9997]
  rfl
theorem cls_neq (x y : Int) (W : World) : (binOp .neq 127 (.iface 137 (.agg #[.int .i64 x])) (.iface 137 (.agg #[.int .i64 y]))).run Try.prog W = .ok (.bool (!(x == y))) W := by
  simp only [binOp, Sem.run_bind, cls_step, eqCls 9997]
  rfl
theorem kind_eql {s t : Int} (hs : kv s) (ht : kv t) (W : World) : (binOp .eql 127 (kndV s) (kndV t)).run Try.prog W = .ok (.bool (decide (s = t))) W := by
 rcases kv_cases hs with rfl | rfl | rfl | rfl | rfl | hs <;> rcases kv_cases ht with rfl | rfl | rfl | rfl | rfl | ht
 all_goals first
  | (rw [kndV_cls hs, kndV_cls ht, show decide (s = t) = (s - 8 == t - 8) from by rw [Bool.eq_iff_iff, decide_eq_true_iff, beq_iff_eq]; omega]; exact cls_eql _ _ _)
  | (rw [kndV_cls hs, decide_eq_false (by omega)]; kernel_rfl)
  | (rw [kndV_cls ht, decide_eq_false (by omega)]; kernel_rfl)
  | kernel_rfl
theorem kind_neq {s t : Int} (hs : kv s) (ht : kv t) (W : World) : (binOp .neq 127 (kndV s) (kndV t)).run Try.prog W = .ok (.bool (!decide (s = t))) W := by
 rcases kv_cases hs with rfl | rfl | rfl | rfl | rfl | hs <;> rcases kv_cases ht with rfl | rfl | rfl | rfl | rfl | ht
 all_goals first
  | (rw [kndV_cls hs, kndV_cls ht, show decide (s = t) = (s - 8 == t - 8) from by rw [Bool.eq_iff_iff, decide_eq_true_iff, beq_iff_eq]; omega]; exact cls_neq _ _ _)
  | (rw [kndV_cls hs, decide_eq_false (by omega)]; kernel_rfl)
  | (rw [kndV_cls ht, decide_eq_false (by omega)]; kernel_rfl)
  | kernel_rfl
theorem kind_nil {s : Int} (hs : kv s) (W : World) : (binOp .eql 127 (kndV s) .nilIface).run Try.prog W = .ok (.bool false) W := by
 rcases kv_cases hs with rfl | rfl | rfl | rfl | rfl | hs
 all_goals first
  | (rw [kndV_cls hs]; kernel_rfl)
  | kernel_rfl
theorem kind_nnil {s : Int} (hs : kv s) (W : World) : (binOp .neq 127 (kndV s) .nilIface).run Try.prog W = .ok (.bool true) W := by
 rcases kv_cases hs with rfl | rfl | rfl | rfl | rfl | hs
 all_goals first
  | (rw [kndV_cls hs]; kernel_rfl)
  | kernel_rfl
theorem nil_eql (W : World) : (binOp .eql 127 .nilIface .nilIface).run Try.prog W = .ok (.bool true) W := by kernel_rfl
theorem nil_neq (W : World) : (binOp .neq 127 .nilIface .nilIface).run Try.prog W = .ok (.bool false) W := by kernel_rfl
theorem kndV_iface (t : Int) : ∃ u v, kndV t = .iface u v := by
 unfold kndV
 repeat (split; exact ⟨_, _, rfl⟩)
 exact ⟨_, _, rfl⟩
theorem guard_knd (t : Int) (op : BinOp) (T : TypeId) (x y : Operand) (v : Value) : eqGuard op T x y (kndV t) v = pure () := by
 obtain ⟨u, z, h⟩ := kndV_iface t
 rw [h]
 cases op <;> cases v <;> rfl
theorem guard_kndO (n t : Int) (op : BinOp) (T : TypeId) (x : Operand) (c : Value) (v : Value) : eqGuard op T x (.const c) (kndO n t) v = pure () := by
 unfold kndO
 split
 ·exact guard_knd t op T x _ v
 ·cases op <;> cases v <;> first | rfl | (simp [eqGuard])
theorem guard_nil (op : BinOp) (T : TypeId) (x : Operand) (c : Value) (v : Value) : eqGuard op T x (.const c) .nilIface v = pure () := by
  cases op <;> cases v <;> first | rfl | (simp [eqGuard])
theorem kndO_eql (n t : Int) (W : World) : (binOp .eql 127 (kndO n t) .nilIface).run Try.prog W = .ok (.bool (!kOk n t)) W := by
 unfold kndO
 by_cases h : kOk n t = true
 ·rw [if_pos h, kind_nil (by simp [kOk] at h; unfold kv; omega), h]; rfl
 ·rw [if_neg h, nil_eql, Bool.not_eq_true _ |>.mp h]; rfl
theorem kndO_neq (n t : Int) (W : World) : (binOp .neq 127 (kndO n t) .nilIface).run Try.prog W = .ok (.bool (kOk n t)) W := by
 unfold kndO
 by_cases h : kOk n t = true
 ·rw [if_pos h, kind_nnil (by simp [kOk] at h; unfold kv; omega), h]
 ·rw [if_neg h, nil_neq, Bool.not_eq_true _ |>.mp h]
theorem kind_null {s : Int} (hs : kv s) (W : World) : (Instr.typeAssert (kndV s) 127 132 true).run Try.prog W = .ok (.tuple #[.agg #[], .bool (decide (s = 2))]) W := by
 rcases kv_cases hs with rfl | rfl | rfl | rfl | rfl | hs
 all_goals first
  | (rw [kndV_cls hs, decide_eq_false (by omega)]; kernel_rfl)
  | kernel_rfl
theorem kind_int {s : Int} (hs : kv s) (W : World) : (Instr.typeAssert (kndV s) 127 131 true).run Try.prog W = .ok (.tuple #[.agg #[], .bool (decide (s = 1))]) W := by
 rcases kv_cases hs with rfl | rfl | rfl | rfl | rfl | hs
 all_goals first
  | (rw [kndV_cls hs, decide_eq_false (by omega)]; kernel_rfl)
  | kernel_rfl
theorem kind_arr {s : Int} (hs : kv s) (W : World) : (Instr.typeAssert (kndV s) 127 134 true).run Try.prog W = .ok (.tuple #[.agg #[.bool (decide (s = 4))], .bool (decide (s = 3 ∨ s = 4))]) W := by
 rcases kv_cases hs with rfl | rfl | rfl | rfl | rfl | hs
 all_goals first
  | (rw [kndV_cls hs, decide_eq_false (p := s = 4) (by omega), decide_eq_false (by omega)]; kernel_rfl)
  | kernel_rfl
def clsOf (t : Int) : Int := if 8 ≤ t then t - 8 else 0
theorem kind_class {s : Int} (hs : kv s) (W : World) : (Instr.typeAssert (kndV s) 127 137 true).run Try.prog W = .ok (.tuple #[.agg #[.int .i64 (clsOf s)], .bool (decide (8 ≤ s))]) W := by
 rcases kv_cases hs with rfl | rfl | rfl | rfl | rfl | hs
 all_goals first
  | (rw [kndV_cls hs, decide_eq_true hs, show clsOf s = s - 8 from if_pos hs]; kernel_rfl)
  | kernel_rfl
theorem nil_int (W : World) : (Instr.typeAssert .nilIface 127 131 true).run Try.prog W = .ok (.tuple #[.agg #[], .bool false]) W := by kernel_rfl
theorem nil_arr (W : World) : (Instr.typeAssert .nilIface 127 134 true).run Try.prog W = .ok (.tuple #[.agg #[.bool false], .bool false]) W := by kernel_rfl
theorem nil_class (W : World) : (Instr.typeAssert .nilIface 127 137 true).run Try.prog W = .ok (.tuple #[.agg #[.int .i64 0], .bool false]) W := by kernel_rfl
set_option maxHeartbeats 2000000 in
theorem impl_kindOf.calls (a0 a1 : Int) (w : World) (h0 : 0 ≤ a0) (h1 : a0 ≤ 281474976710656) :
  Calls Try.prog 102 #[.int .i64 a0, .int .i64 a1] w fun e w' => e = .returned (kndO a0 a1) ∧ Drawn0 w w' := by
 by_cases c0 : a1 = 0
 ·subst c0
  have HF := Aside0.mk (show kndO a0 0 = kndV 0 from if_pos (by simp [kOk]))
  go_enter Try.func102, Try.ntmps102
  go_wp2
  go_ret
  exact ⟨by rw [HF.out]; rfl, Drawn0.refl _⟩
 by_cases c1 : a1 = 1
 ·subst c1
  have HF := Aside0.mk (show kndO a0 1 = kndV 1 from if_pos (by simp [kOk]))
  go_enter Try.func102, Try.ntmps102
  go_wp2
  go_ret
  exact ⟨by rw [HF.out]; rfl, Drawn0.refl _⟩
 by_cases c2 : a1 = 2
 ·subst c2
  have HF := Aside0.mk (show kndO a0 2 = kndV 2 from if_pos (by simp [kOk]))
  go_enter Try.func102, Try.ntmps102
  go_wp2
  go_ret
  exact ⟨by rw [HF.out]; rfl, Drawn0.refl _⟩
 by_cases c3 : a1 = 3
 ·subst c3
  have HF := Aside0.mk (show kndO a0 3 = kndV 3 from if_pos (by simp [kOk]))
  go_enter Try.func102, Try.ntmps102
  go_wp2
  go_ret
  exact ⟨by rw [HF.out]; rfl, Drawn0.refl _⟩
 by_cases c4 : a1 = 4
 ·subst c4
  have HF := Aside0.mk (show kndO a0 4 = kndV 4 from if_pos (by simp [kOk]))
  go_enter Try.func102, Try.ntmps102
  go_wp2
  go_ret
  exact ⟨by rw [HF.out]; rfl, Drawn0.refl _⟩
 have d0 : (a1 == 0) = false := beq_eq_false_iff_ne.2 c0
 have d1 : (a1 == 1) = false := beq_eq_false_iff_ne.2 c1
 have d2 : (a1 == 2) = false := beq_eq_false_iff_ne.2 c2
 have d3 : (a1 == 3) = false := beq_eq_false_iff_ne.2 c3
 have d4 : (a1 == 4) = false := beq_eq_false_iff_ne.2 c4
 by_cases c5 : 8 ≤ a1
 ·by_cases c6 : a1 < 8 + a0
  ·have HF := Aside0.mk (show kndO a0 a1 = .iface 137 (.agg #[.int .i64 (a1 - 8)]) from (if_pos (by simp [kOk]; omega)).trans (kndV_cls c5))
   have d5 : decide (8 ≤ a1) = true := decide_eq_true c5
   have d6 : decide (a1 < 8 + a0) = true := decide_eq_true c6
   clear c0 c1 c2 c3 c4
   go_enter Try.func102, Try.ntmps102
   go_wp2
   go_ret
   exact ⟨by rw [HF.out]; rfl, Drawn0.refl _⟩
  ·have HF := Aside0.mk (show kndO a0 a1 = .nilIface from if_neg (by simp [kOk]; omega))
   have d5 : decide (8 ≤ a1) = true := decide_eq_true c5
   have d6 : decide (a1 < 8 + a0) = false := decide_eq_false c6
   clear c0 c1 c2 c3 c4
   go_enter Try.func102, Try.ntmps102
   go_wp2
   go_ret
   exact ⟨by rw [HF.out]; rfl, Drawn0.refl _⟩
 ·have HF := Aside0.mk (show kndO a0 a1 = .nilIface from if_neg (by simp [kOk]; omega))
  have d5 : decide (8 ≤ a1) = false := decide_eq_false c5
  clear c0 c1 c2 c3 c4
  go_enter Try.func102, Try.ntmps102
  go_wp2
  go_ret
  exact ⟨by rw [HF.out]; rfl, Drawn0.refl _⟩
def kOkF.f (n t : Int) : Option Bool := if 0 ≤ n ∧ n ≤ 281474976710656 then some (kOk n t) else none
def impl_fieldType.f (a0 a1 : Int) : Option Bool := if 0 ≤ a0 ∧ a0 ≤ 281474976710656 then some (kOk a0 a1 && decide (a1 = 1 ∨ a1 = 3 ∨ a1 = 4 ∨ 8 ≤ a1)) else none
set_option maxHeartbeats 2000000 in
theorem impl_fieldType.calls (a0 : Int) (a1 : Int) (r : Bool) (w : World) (h : impl_fieldType.f a0 a1 = some r) :
  Calls Try.prog 101 #[.int .i64 a0, .int .i64 a1] w fun e w' => e = .returned (.bool r) ∧ Drawn0 w w' := by
 unfold impl_fieldType.f at h
 split at h
 case isFalse => simp at h
 case isTrue hb =>
  obtain ⟨h0, h1⟩ := hb
  have HR := Aside0.mk (Option.some.inj h)
  clear h
  by_cases hk : kOk a0 a1 = true
  ·have hv : kv a1 := by simp [kOk] at hk; unfold kv; omega
   have HO := Aside0.mk (show kndO a0 a1 = kndV a1 from if_pos hk)
   have t1 := kind_int hv
   have t2 := kind_arr hv
   have t3 := kind_class hv
   have HK := Aside0.mk hk
   clear hk hv
   go_enter Try.func101, Try.ntmps101
   go_wp2_with (go_at_call 102; refine (impl_kindOf.calls a0 a1 _ h0 h1).mono ?_; rintro e w' ⟨rfl, ⟨n, rfl⟩⟩; rw [HO.out])
   ·go_ret
    exact ⟨by show Ending.returned (.bool true) = _; rw [← HR.out, HK.out, decide_eq_true (by omega)]; rfl, Drawn0.step (Drawn0.refl _) _⟩
   ·go_ret
    exact ⟨by show Ending.returned (.bool false) = _; rw [← HR.out, HK.out, decide_eq_false (by omega)]; rfl, Drawn0.step (Drawn0.refl _) _⟩
  ·have HO := Aside0.mk (show kndO a0 a1 = .nilIface from if_neg hk)
   have HK := Aside0.mk (Bool.not_eq_true _ |>.mp hk)
   have t1 := nil_int
   have t2 := nil_arr
   have t3 := nil_class
   clear hk
   go_enter Try.func101, Try.ntmps101
   go_wp2_with (go_at_call 102; refine (impl_kindOf.calls a0 a1 _ h0 h1).mono ?_; rintro e w' ⟨rfl, ⟨n, rfl⟩⟩; rw [HO.out])
   go_ret
   exact ⟨by show Ending.returned (.bool false) = _; rw [← HR.out, HK.out]; rfl, Drawn0.step (Drawn0.refl _) _⟩
mutual
def impl_ClassesOk.j0 : Nat → List (S84) → Bool → Option (Bool)
 | 0, _, _ => none
 | k + 1, x0, x15 => if x15 = true then (some false) else (if 0 < (x0.length : Int) then (if ((rd_T84 x0 0).f0) = (-1) then (impl_ClassesOk.j1 k x0 ((((rd_T84 x0 0).f1).length : Int) != 0)) else (impl_ClassesOk.j1 k x0 true)) else (none))
def impl_ClassesOk.j1 : Nat → List (S84) → Bool → Option (Bool)
 | 0, _, _ => none
 | k + 1, x0, x28 => if x28 = true then (some false) else (if 1 < (x0.length : Int) then (if ((rd_T84 x0 1).f0) = 0 then (if (((rd_T84 x0 1).f1).length : Int) = 1 then (if 0 < (((rd_T84 x0 1).f1).length : Int) then (impl_ClassesOk.j2 k x0 ((rd ((rd_T84 x0 1).f1) 0) != 1)) else (none)) else (impl_ClassesOk.j2 k x0 true)) else (impl_ClassesOk.j2 k x0 true)) else (none))
def impl_ClassesOk.j2 : Nat → List (S84) → Bool → Option (Bool)
 | 0, _, _ => none
 | k + 1, x0, x47 => if x47 = true then (some false) else (impl_ClassesOk.l0 k x0 x0 (x0.length : Int) 0)
def impl_ClassesOk.l0 : Nat → List (S84) → List (S84) → Int → Int → Option (Bool)
 | 0, _, _, _, _ => none
 | k + 1, x0, x48, x49, x50 => if x50 < x49 then (if 0 ≤ x50 then (if x50 < (x48.length : Int) then (if x50 > 1 then (if ((rd_T84 x48 x50).f0) < 0 then (impl_ClassesOk.j4 k x0 x48 x49 x50 true ((rd_T84 x48 x50).f0) ((rd_T84 x48 x50).f1)) else (impl_ClassesOk.j4 k x0 x48 x49 x50 (decide (((rd_T84 x48 x50).f0) ≥ x50)) ((rd_T84 x48 x50).f0) ((rd_T84 x48 x50).f1))) else (impl_ClassesOk.j4 k x0 x48 x49 x50 false ((rd_T84 x48 x50).f0) ((rd_T84 x48 x50).f1))) else (none)) else (none)) else (some true)
def impl_ClassesOk.j4 : Nat → List (S84) → List (S84) → Int → Int → Bool → Int → List Int → Option (Bool)
 | 0, _, _, _, _, _, _, _ => none
 | k + 1, x0, x48, x49, x50, x67, x142000, x142001 => if x67 = true then (some false) else (if (x142001.length : Int) > 2 then (some false) else (impl_ClassesOk.l1 k x0 x48 x49 x50 x142001 (x142001.length : Int) 0))
def impl_ClassesOk.l1 : Nat → List (S84) → List (S84) → Int → Int → List Int → Int → Int → Option (Bool)
 | 0, _, _, _, _, _, _, _ => none
 | k + 1, x0, x48, x49, x50, x73, x74, x75 => if x75 < x74 then (if 0 ≤ x75 then (if x75 < (x73.length : Int) then ((impl_fieldType.f (x0.length : Int) (rd x73 x75)).bind fun t143 => (if t143 = true then (impl_ClassesOk.l1 k x0 x48 x49 x50 x73 x74 (wrap64 (x75 + 1))) else (some false))) else (none)) else (none)) else (impl_ClassesOk.l0 k x0 x48 x49 (wrap64 (x50 + 1)))
end
def impl_ClassesOk.f (k : Nat) (l0 : List (S84)) : Option (Bool) := if (l0.length : Int) < 2 then (impl_ClassesOk.j0 k l0 true) else (impl_ClassesOk.j0 k l0 (decide ((l0.length : Int) > 5)))
set_option maxHeartbeats 8000000 in
set_option maxRecDepth 100000 in
theorem impl_ClassesOk.calls (k : Nat) (A0 : Option Addr) (c0 : Nat) (l0 : List (S84)) (r : Bool) (w : World) (hr0 : Kd.C k84 w A0 l0.length l0) (hc0 : l0.length ≤ c0) (h : impl_ClassesOk.f k l0 = some r) :
  Calls Try.prog 47 #[.slice A0 l0.length c0] w fun e w' => e = .returned (.bool r) ∧ Below w.heap.size w w' := by
 have hu84 := Try.underlying84
 have HR0 := Aside0.mk hr0
 have HC0 := Aside0.mk hc0
 clear hr0 hc0
 have HB := Aside0.mk (Below.refl w.heap.size w)
 have H : (if (l0.length : Int) < 2 then (impl_ClassesOk.j0 k l0 true) else (impl_ClassesOk.j0 k l0 (decide ((l0.length : Int) > 5)))) = some r := h
 clear h
 have HC2 := Aside0.mk H
 clear H
 go_enter Try.func47, Try.ntmps47
 go_upto_region 1 with (fail)
 go_cut [15] (fun v15 wc => ∃ (kq : Nat) (x15_1 : Bool), v15 = .bool x15_1 ∧ Aside0 (impl_ClassesOk.j0 kq l0 x15_1 = some r) ∧ Aside0 (kq ≤ k) ∧ Aside0 (Below w.heap.size w wc))
 case first =>
  have H := HC2.out
  clear HC2
  by_cases c3 : (l0.length : Int) < 2
  ·rw [if_pos c3] at H
   have c3b0 : decide ((l0.length : Int) < 2) = true := decide_eq_true c3
   have c3b1 : decide (l0.length < 2) = true := decide_eq_true (by omega)
   clear c3
   (first | rw [c3b0] | (simp only [i64_w, i32_w]; rw [c3b0]) | skip)
   have H' := Aside0.mk H
   clear H
   go_wp2
   go_meet
   case rel => exact ⟨_, (true), z9, H', ⟨by first | omega | exact Nat.le_refl _⟩, ⟨by repeat (first | (with_reducible first | exact HB.out | apply below_alloc | apply pw_below_drewN | apply below_drew1) | exact HB.out)⟩⟩
  ·rw [if_neg c3] at H
   have c3b0 : decide ((l0.length : Int) < 2) = false := decide_eq_false c3
   have c3b1 : decide (l0.length < 2) = false := decide_eq_false (by omega)
   clear c3
   (first | rw [c3b0] | (simp only [i64_w, i32_w]; rw [c3b0]) | skip)
   have H' := Aside0.mk H
   clear H
   go_wp2
   go_meet
   case rel => exact ⟨_, (decide ((l0.length : Int) > 5)), z9, H', ⟨by first | omega | exact Nat.le_refl _⟩, ⟨by repeat (first | (with_reducible first | exact HB.out | apply below_alloc | apply pw_below_drewN | apply below_drew1) | exact HB.out)⟩⟩
 case rest =>
  clear HC2
  try clear p2
  try clear c3
  try clear c3b0
  try clear c3b1
  obtain ⟨kq, x15_1, rfl, HA, HJ1, HB⟩ := hcut
  cases kq with
  | zero => exact absurd HA.out (by simp [impl_ClassesOk.j0])
  | succ kj1 =>
   have H := HA.out
   clear HA
   simp only [impl_ClassesOk.j0] at H
   by_cases c4 : x15_1 = true
   ·subst c4
    rw [if_pos rfl] at H
    obtain rfl := Option.some.inj H
    go_wp2
    go_ret
    exact ⟨by first | rfl | (simp [errW_none, errW_some] <;> rfl) | (simp [*, errW_none, errW_some] <;> rfl), by repeat (first | (with_reducible first | exact HB.out | apply below_alloc | apply pw_below_drewN | apply below_drew1) | exact HB.out)⟩
   ·replace c4 := Bool.eq_false_iff.mpr c4
    subst c4
    rw [if_neg (show ¬ (false = true) by decide)] at H
    have HC5 := Aside0.mk H
    clear H
    go_upto_region 3 with (fail)
    go_cut [28] (fun v28 wc => ∃ (kq : Nat) (x28_4 : Bool), v28 = .bool x28_4 ∧ Aside0 (impl_ClassesOk.j1 kq l0 x28_4 = some r) ∧ Aside0 (kq ≤ kj1) ∧ Aside0 (Below w.heap.size w wc))
    case first =>
     have H := HC5.out
     clear HC5
     by_cases c6 : 0 < (l0.length : Int)
     ·rw [if_pos c6] at H
      have c6b0 : decide (0 < (l0.length : Int)) = true := decide_eq_true c6
      have c6b1 : decide (0 < l0.length) = true := decide_eq_true (by omega)
      clear c6
      (first | rw [c6b0] | (simp only [i64_w, i32_w]; rw [c6b0]) | skip)
      by_cases c7 : ((rd_T84 l0 0).f0) = (-1)
      ·rw [if_pos c7] at H
       have c7b0 : (((rd_T84 l0 0).f0) == (-1)) = true := beq_iff_eq.mpr c7
       have c7b1 : (((rd_T84 l0 0).f0) != (-1)) = false := bne_eq_false_iff_eq.mpr c7
       clear c7
       have H' := Aside0.mk H
       clear H
       have p135 : 0 ≤ (0 : Int) := (by omega)
       have q135 : 0 < (l0.length : Int) := of_decide_eq_true z8
       obtain ⟨ad135, A135_1, c135_1, e135, hx135_0, hx135_1, hl135_1, hi135_1⟩ := at_T84 HR0.out 0 p135 q135
       cases e135
       have qi135 : (0 < l0.length) = True := eq_true (by omega)
       (try rw [show ((0 : Int)).toNat = 0 from rfl] at hx135_0)
       (try rw [show 0 * 2 = 0 from rfl] at hx135_0)
       (try rw [Addr.add_zero'] at hx135_0)
       (try rw [show ((0 : Int)).toNat = 0 from rfl] at hx135_1)
       (try rw [show 0 * 2 = 0 from rfl] at hx135_1)
       (try rw [Addr.add_zero'] at hx135_1)
       replace hx135_0 := (HB.out.cell (World.block_lt_of_cell? w _ hx135_0)).trans hx135_0
       replace hx135_1 := (HB.out.cell (World.block_lt_of_cell? w _ hx135_1)).trans hx135_1
       have HR135_1 := Aside0.mk hi135_1
       have HC135_1 := Aside0.mk hl135_1
       clear hi135_1 hl135_1
       replace p135 := eq_true p135
       replace q135 := eq_true q135
       have p136 : 0 ≤ (0 : Int) := (by omega)
       have q136 : 0 < (l0.length : Int) := of_decide_eq_true z8
       obtain ⟨ad136, A136_1, c136_1, e136, hx136_0, hx136_1, hl136_1, hi136_1⟩ := at_T84 HR0.out 0 p136 q136
       obtain rfl : ad135 = ad136 := (by injection e136)
       have qi136 : (0 < l0.length) = True := eq_true (by omega)
       (try rw [show ((0 : Int)).toNat = 0 from rfl] at hx136_0)
       (try rw [show 0 * 2 = 0 from rfl] at hx136_0)
       (try rw [Addr.add_zero'] at hx136_0)
       (try rw [show ((0 : Int)).toNat = 0 from rfl] at hx136_1)
       (try rw [show 0 * 2 = 0 from rfl] at hx136_1)
       (try rw [Addr.add_zero'] at hx136_1)
       replace hx136_0 := (HB.out.cell (World.block_lt_of_cell? w _ hx136_0)).trans hx136_0
       replace hx136_1 := (HB.out.cell (World.block_lt_of_cell? w _ hx136_1)).trans hx136_1
       have HR136_1 := Aside0.mk hi136_1
       have HC136_1 := Aside0.mk hl136_1
       clear hi136_1 hl136_1
       replace p136 := eq_true p136
       replace q136 := eq_true q136
       have ea_ := Option.some.inj (hx135_1.symm.trans hx136_1)
       injection ea_ with ea_ en_ ec_
       subst ea_
       subst ec_
       clear en_
       go_wp2
       go_meet
       case rel => exact ⟨_, (((((rd_T84 l0 0).f1).length : Int) != 0)), z9, H', ⟨by have := HJ1.out; first | omega | exact Nat.le_refl _⟩, ⟨by repeat (first | (with_reducible first | exact HB.out | apply below_alloc | apply pw_below_drewN | apply below_drew1) | exact HB.out)⟩⟩
      ·rw [if_neg c7] at H
       have c7b0 : (((rd_T84 l0 0).f0) == (-1)) = false := beq_eq_false_iff_ne.mpr c7
       have c7b1 : (((rd_T84 l0 0).f0) != (-1)) = true := bne_iff_ne.mpr c7
       have H' := Aside0.mk H
       clear H
       have p135 : 0 ≤ (0 : Int) := (by omega)
       have q135 : 0 < (l0.length : Int) := of_decide_eq_true z8
       obtain ⟨ad135, A135_1, c135_1, e135, hx135_0, hx135_1, hl135_1, hi135_1⟩ := at_T84 HR0.out 0 p135 q135
       cases e135
       have qi135 : (0 < l0.length) = True := eq_true (by omega)
       (try rw [show ((0 : Int)).toNat = 0 from rfl] at hx135_0)
       (try rw [show 0 * 2 = 0 from rfl] at hx135_0)
       (try rw [Addr.add_zero'] at hx135_0)
       (try rw [show ((0 : Int)).toNat = 0 from rfl] at hx135_1)
       (try rw [show 0 * 2 = 0 from rfl] at hx135_1)
       (try rw [Addr.add_zero'] at hx135_1)
       replace hx135_0 := (HB.out.cell (World.block_lt_of_cell? w _ hx135_0)).trans hx135_0
       replace hx135_1 := (HB.out.cell (World.block_lt_of_cell? w _ hx135_1)).trans hx135_1
       have HR135_1 := Aside0.mk hi135_1
       have HC135_1 := Aside0.mk hl135_1
       clear hi135_1 hl135_1
       replace p135 := eq_true p135
       replace q135 := eq_true q135
       go_wp2
       go_meet
       case rel => exact ⟨_, (true), z9, H', ⟨by have := HJ1.out; first | omega | exact Nat.le_refl _⟩, ⟨by repeat (first | (with_reducible first | exact HB.out | apply below_alloc | apply pw_below_drewN | apply below_drew1) | exact HB.out)⟩⟩
     ·rw [if_neg c6] at H
      exact absurd H (by simp)
    case rest =>
     clear HC5
     try clear c1
     try clear p1
     try clear q1
     try clear hx1
     try clear qi1
     try clear p2
     try clear c3
     try clear c3b0
     try clear c3b1
     try clear c4
     try clear c6
     try clear c6b0
     try clear c6b1
     try clear c7
     try clear c7b0
     try clear c7b1
     try clear hx135_0
     try clear hx135_1
     try clear hx136_0
     try clear hx136_1
     try clear p135
     try clear p136
     try clear p2
     try clear q135
     try clear q136
     obtain ⟨kq, x28_4, rfl, HA, HJ4, HB⟩ := hcut
     cases kq with
     | zero => exact absurd HA.out (by simp [impl_ClassesOk.j1])
     | succ kj4 =>
      have H := HA.out
      clear HA
      simp only [impl_ClassesOk.j1] at H
      by_cases c8 : x28_4 = true
      ·subst c8
       rw [if_pos rfl] at H
       obtain rfl := Option.some.inj H
       go_wp2
       go_ret
       exact ⟨by first | rfl | (simp [errW_none, errW_some] <;> rfl) | (simp [*, errW_none, errW_some] <;> rfl), by repeat (first | (with_reducible first | exact HB.out | apply below_alloc | apply pw_below_drewN | apply below_drew1) | exact HB.out)⟩
      ·replace c8 := Bool.eq_false_iff.mpr c8
       subst c8
       rw [if_neg (show ¬ (false = true) by decide)] at H
       by_cases c9 : 1 < (l0.length : Int)
       ·rw [if_pos c9] at H
        have c9b0 : decide (1 < (l0.length : Int)) = true := decide_eq_true c9
        have c9b1 : decide (1 < l0.length) = true := decide_eq_true (by omega)
        clear c9
        have HC10 := Aside0.mk H
        clear H
        have p137 : 0 ≤ (1 : Int) := (by omega)
        have q137 : 1 < (l0.length : Int) := of_decide_eq_true z8
        obtain ⟨ad137, A137_1, c137_1, e137, hx137_0, hx137_1, hl137_1, hi137_1⟩ := at_T84 HR0.out 1 p137 q137
        cases e137
        (try simp only [show (1 : Int).toNat = 1 from rfl, Nat.reduceMul, Nat.reduceEqDiff, Go.Addr.add, ↓reduceIte] at hx137_0)
        (try simp only [show (1 : Int).toNat = 1 from rfl, Nat.reduceMul, Nat.reduceEqDiff, Go.Addr.add, ↓reduceIte] at hx137_1)
        have qi137 : (1 < l0.length) = True := eq_true (by omega)
        (try rw [show ((1 : Int)).toNat = 1 from rfl] at hx137_0)
        (try rw [show 1 * 2 = 2 from rfl] at hx137_0)
        (try rw [show ((1 : Int)).toNat = 1 from rfl] at hx137_1)
        (try rw [show 1 * 2 = 2 from rfl] at hx137_1)
        replace hx137_0 := (HB.out.cell (World.block_lt_of_cell? w _ hx137_0)).trans hx137_0
        replace hx137_1 := (HB.out.cell (World.block_lt_of_cell? w _ hx137_1)).trans hx137_1
        have HR137_1 := Aside0.mk hi137_1
        have HC137_1 := Aside0.mk hl137_1
        clear hi137_1 hl137_1
        replace p137 := eq_true p137
        replace q137 := eq_true q137
        go_upto_region 6 with (first | ((with_reducible refine gate_dst (N := 3) rfl ?_); (try (refine gate_guard (by rfl) ?_; dsimp only)); refine box_event ?hg (N := 3) ?hd (cs := #[.int .i64 0, .slice none 0 0]) (t := 84) ?hr ?_; (case hd => rfl); (case hg => rfl); (case hr => first | (go_simp; done) | (go_simp; rfl)); intro gb138 hg w11 hbox hb; have BK138 := Aside0.mk (hbox); have GW138 := Aside0.mk ((by rw [hg]; exact (below_size z6) : w.heap.size ≤ gb138)); have GE138 := Aside0.mk ((by rw [hg]; exact (below_size z6) : w.heap.size ≤ gb138)); replace HB := Aside0.mk (below_step z6 hb); clear hb hbox hg; obtain ⟨hcz12_0, hcz12_1, hfz12_0, hfz12_1⟩ := cbf2 BK138))
        (try simp only [Act.put, List.setIfInBounds_toArray, List.set_cons_zero, List.set_cons_succ])
        go_cut [47] (fun v47 wc => ∃ (kq : Nat) (x47_9 : Bool), v47 = .bool x47_9 ∧ Aside0 (impl_ClassesOk.j2 kq l0 x47_9 = some r) ∧ Aside0 (kq ≤ kj4) ∧ Aside0 (wc.heap[gb138]? = some (.cells #[.int .i64 ((rd_T84 l0 1).f0), (.slice A137_1 ((rd_T84 l0 1).f1).length c137_1)] 84 (0, 0))) ∧ Aside0 (Below w.heap.size w wc))
        case first =>
         have H := HC10.out
         clear HC10
         by_cases c13 : ((rd_T84 l0 1).f0) = 0
         ·rw [if_pos c13] at H
          have c13b0 : (((rd_T84 l0 1).f0) == 0) = true := beq_iff_eq.mpr c13
          have c13b1 : (((rd_T84 l0 1).f0) != 0) = false := bne_eq_false_iff_eq.mpr c13
          clear c13
          (first | rw [c13b0] | (simp only [i64_w, i32_w]; rw [c13b0]) | skip)
          by_cases c14 : (((rd_T84 l0 1).f1).length : Int) = 1
          ·rw [if_pos c14] at H
           have c14b0 : ((((rd_T84 l0 1).f1).length : Int) == 1) = true := beq_iff_eq.mpr c14
           have c14b1 : ((((rd_T84 l0 1).f1).length : Int) != 1) = false := bne_eq_false_iff_eq.mpr c14
           clear c14
           by_cases c15 : 0 < (((rd_T84 l0 1).f1).length : Int)
           ·rw [if_pos c15] at H
            have c15b0 : decide (0 < (((rd_T84 l0 1).f1).length : Int)) = true := decide_eq_true c15
            have c15b1 : decide (0 < ((rd_T84 l0 1).f1).length) = true := decide_eq_true (by omega)
            clear c15
            have H' := Aside0.mk H
            clear H
            obtain ⟨hcz16_0, hcz16_1, hfz16_0, hfz16_1⟩ := cbf2 BK138
            have p139 : 0 ≤ (0 : Int) := (by omega)
            have q139 : 0 < (((rd_T84 l0 1).f1).length : Int) := of_decide_eq_true z8
            obtain ⟨ad139, e139, hx139_0⟩ := Kd.at_int HR137_1.out 0 p139 q139
            cases e139
            have qi139 : (0 < ((rd_T84 l0 1).f1).length) = True := eq_true (by omega)
            (try rw [show ((0 : Int)).toNat = 0 from rfl] at hx139_0)
            (try rw [Addr.add_zero'] at hx139_0)
            have hn139_0 : ad139.block ≠ gb138 := Nat.ne_of_lt (Nat.lt_of_lt_of_le (by have := World.block_lt_of_cell? _ _ hx139_0; first | rwa [add_block] at this | exact this) GW138.out)
            have hn139_1 : ad139.block ≠ gb138 := Nat.ne_of_lt (Nat.lt_of_lt_of_le (by have := World.block_lt_of_cell? _ _ hx139_0; first | rwa [add_block] at this | exact this) GW138.out)
            replace hx139_0 := (HB.out.cell (World.block_lt_of_cell? w _ hx139_0)).trans hx139_0
            replace hx139_0 := (cell_far (p := ⟨gb138, 0, none⟩) (by first | (rw [add_block]; exact hn139_0) | (show (Addr.add _ _).block ≠ _; rw [add_block]; exact hn139_0) | exact hn139_0) (.int .i64 ((rd_T84 l0 1).f0))).trans hx139_0
            replace hx139_0 := (cell_far (p := ⟨gb138, 1, none⟩) (by first | (rw [add_block]; exact hn139_1) | (show (Addr.add _ _).block ≠ _; rw [add_block]; exact hn139_1) | exact hn139_1) (.slice (some ad139) ((rd_T84 l0 1).f1).length c137_1)).trans hx139_0
            clear hn139_0
            clear hn139_1
            replace p139 := eq_true p139
            replace q139 := eq_true q139
            go_wp2
            go_meet
            case rel => exact ⟨_, (((rd ((rd_T84 l0 1).f1) 0) != 1)), z9, H', ⟨by have := HJ1.out; have := HJ4.out; first | omega | exact Nat.le_refl _⟩, ⟨by (with_reducible repeat (first | refine blk_drewN ?_ _ | refine blk_drew ?_ | refine blk_alloc ?_ _)); refine blk_put (cs := #[.int .i64 ((rd_T84 l0 1).f0), .slice none 0 0]) ?_ 1 _ rfl; (with_reducible repeat (first | refine blk_drewN ?_ _ | refine blk_drew ?_ | refine blk_alloc ?_ _)); refine blk_put (cs := #[.int .i64 0, .slice none 0 0]) ?_ 0 _ rfl; (with_reducible repeat (first | refine blk_drewN ?_ _ | refine blk_drew ?_ | refine blk_alloc ?_ _)); exact BK138.out⟩, ⟨by repeat (first | (with_reducible first | exact HB.out | apply below_alloc | apply pw_below_drewN | apply below_drew1 | refine below_set ?_ GE138.out) | exact HB.out)⟩⟩
           ·rw [if_neg c15] at H
            exact absurd H (by simp)
          ·rw [if_neg c14] at H
           have c14b0 : ((((rd_T84 l0 1).f1).length : Int) == 1) = false := beq_eq_false_iff_ne.mpr c14
           have c14b1 : ((((rd_T84 l0 1).f1).length : Int) != 1) = true := bne_iff_ne.mpr c14
           have H' := Aside0.mk H
           clear H
           obtain ⟨hcz17_0, hcz17_1, hfz17_0, hfz17_1⟩ := cbf2 BK138
           go_wp2
           go_meet
           case rel => exact ⟨_, (true), z9, H', ⟨by have := HJ1.out; have := HJ4.out; first | omega | exact Nat.le_refl _⟩, ⟨by (with_reducible repeat (first | refine blk_drewN ?_ _ | refine blk_drew ?_ | refine blk_alloc ?_ _)); refine blk_put (cs := #[.int .i64 ((rd_T84 l0 1).f0), .slice none 0 0]) ?_ 1 _ rfl; (with_reducible repeat (first | refine blk_drewN ?_ _ | refine blk_drew ?_ | refine blk_alloc ?_ _)); refine blk_put (cs := #[.int .i64 0, .slice none 0 0]) ?_ 0 _ rfl; (with_reducible repeat (first | refine blk_drewN ?_ _ | refine blk_drew ?_ | refine blk_alloc ?_ _)); exact BK138.out⟩, ⟨by repeat (first | (with_reducible first | exact HB.out | apply below_alloc | apply pw_below_drewN | apply below_drew1 | refine below_set ?_ GE138.out) | exact HB.out)⟩⟩
         ·rw [if_neg c13] at H
          have c13b0 : (((rd_T84 l0 1).f0) == 0) = false := beq_eq_false_iff_ne.mpr c13
          have c13b1 : (((rd_T84 l0 1).f0) != 0) = true := bne_iff_ne.mpr c13
          (first | rw [c13b0] | (simp only [i64_w, i32_w]; rw [c13b0]) | skip)
          have H' := Aside0.mk H
          clear H
          obtain ⟨hcz18_0, hcz18_1, hfz18_0, hfz18_1⟩ := cbf2 BK138
          go_wp2
          go_meet
          case rel => exact ⟨_, (true), z9, H', ⟨by have := HJ1.out; have := HJ4.out; first | omega | exact Nat.le_refl _⟩, ⟨by (with_reducible repeat (first | refine blk_drewN ?_ _ | refine blk_drew ?_ | refine blk_alloc ?_ _)); refine blk_put (cs := #[.int .i64 ((rd_T84 l0 1).f0), .slice none 0 0]) ?_ 1 _ rfl; (with_reducible repeat (first | refine blk_drewN ?_ _ | refine blk_drew ?_ | refine blk_alloc ?_ _)); refine blk_put (cs := #[.int .i64 0, .slice none 0 0]) ?_ 0 _ rfl; (with_reducible repeat (first | refine blk_drewN ?_ _ | refine blk_drew ?_ | refine blk_alloc ?_ _)); exact BK138.out⟩, ⟨by repeat (first | (with_reducible first | exact HB.out | apply below_alloc | apply pw_below_drewN | apply below_drew1 | refine below_set ?_ GE138.out) | exact HB.out)⟩⟩
        case rest =>
         clear HC10
         try clear c1
         try clear p1
         try clear q1
         try clear hx1
         try clear qi1
         try clear p2
         try clear c3
         try clear c3b0
         try clear c3b1
         try clear c4
         try clear c6
         try clear c6b0
         try clear c6b1
         try clear c7
         try clear c7b0
         try clear c7b1
         try clear c8
         try clear c9
         try clear c9b0
         try clear c9b1
         try clear c13
         try clear c13b0
         try clear c13b1
         try clear p13
         try clear q13
         try clear hx13
         try clear qi13
         try clear c14
         try clear c14b0
         try clear c14b1
         try clear c15
         try clear c15b0
         try clear c15b1
         try clear hcz12_0
         try clear hcz12_1
         try clear hcz16_0
         try clear hcz16_1
         try clear hcz17_0
         try clear hcz17_1
         try clear hcz18_0
         try clear hcz18_1
         try clear hfz12_0
         try clear hfz12_1
         try clear hfz16_0
         try clear hfz16_1
         try clear hfz17_0
         try clear hfz17_1
         try clear hfz18_0
         try clear hfz18_1
         try clear hx135_0
         try clear hx135_1
         try clear hx136_0
         try clear hx136_1
         try clear hx137_0
         try clear hx137_1
         try clear hx139_0
         try clear p1
         try clear p135
         try clear p136
         try clear p137
         try clear p139
         try clear p2
         try clear q1
         try clear q135
         try clear q136
         try clear q137
         try clear q139
         obtain ⟨kq, x47_9, rfl, HA, HJ9, BK138, HB⟩ := hcut
         cases kq with
         | zero => exact absurd HA.out (by simp [impl_ClassesOk.j2])
         | succ kj9 =>
          have H := HA.out
          clear HA
          simp only [impl_ClassesOk.j2] at H
          by_cases c19 : x47_9 = true
          ·subst c19
           rw [if_pos rfl] at H
           obtain rfl := Option.some.inj H
           go_wp2
           go_ret
           exact ⟨by first | rfl | (simp [errW_none, errW_some] <;> rfl) | (simp [*, errW_none, errW_some] <;> rfl), by repeat (first | (with_reducible first | exact HB.out | apply below_alloc | apply pw_below_drewN | apply below_drew1 | refine below_set ?_ GE138.out) | exact HB.out)⟩
          ·replace c19 := Bool.eq_false_iff.mpr c19
           subst c19
           rw [if_neg (show ¬ (false = true) by decide)] at H
           have H' := Aside0.mk H
           clear H
           go_wp2
           go_loopg [50] kj9 (fun kq v50 w' => ∃ (x50_4 : Int), v50 = .int .i64 x50_4 ∧ Aside0 (impl_ClassesOk.l0 kq l0 l0 (l0.length : Int) x50_4 = some r) ∧ Aside0 (kq ≤ kj9) ∧ Aside0 (w'.heap[gb138]? = some (.cells #[.int .i64 ((rd_T84 l0 1).f0), (.slice A137_1 ((rd_T84 l0 1).f1).length c137_1)] 84 (0, 0))) ∧ Aside0 (Below w.heap.size w w'))
           case atStart => exact ⟨(0), z9, H', ⟨Nat.le_refl _⟩, ⟨by (with_reducible repeat (first | refine blk_drewN ?_ _ | refine blk_drew ?_ | refine blk_alloc ?_ _)); exact BK138.out⟩, ⟨by repeat (first | (with_reducible first | exact HB.out | apply below_alloc | apply pw_below_drewN | apply below_drew1 | refine below_set ?_ GE138.out) | exact HB.out)⟩⟩
           case round =>
            clear H'
            try clear c1
            try clear p1
            try clear q1
            try clear hx1
            try clear qi1
            try clear p2
            try clear c3
            try clear c3b0
            try clear c3b1
            try clear c4
            try clear c6
            try clear c6b0
            try clear c6b1
            try clear c7
            try clear c7b0
            try clear c7b1
            try clear c8
            try clear c9
            try clear c9b0
            try clear c9b1
            try clear c13
            try clear c13b0
            try clear c13b1
            try clear p13
            try clear q13
            try clear hx13
            try clear qi13
            try clear c14
            try clear c14b0
            try clear c14b1
            try clear c15
            try clear c15b0
            try clear c15b1
            try clear c19
            try clear hcz12_0
            try clear hcz12_1
            try clear hcz16_0
            try clear hcz16_1
            try clear hcz17_0
            try clear hcz17_1
            try clear hcz18_0
            try clear hcz18_1
            try clear hfz12_0
            try clear hfz12_1
            try clear hfz16_0
            try clear hfz16_1
            try clear hfz17_0
            try clear hfz17_1
            try clear hfz18_0
            try clear hfz18_1
            try clear hx135_0
            try clear hx135_1
            try clear hx136_0
            try clear hx136_1
            try clear hx137_0
            try clear hx137_1
            try clear hx139_0
            try clear p1
            try clear p13
            try clear p135
            try clear p136
            try clear p137
            try clear p139
            try clear p2
            try clear q1
            try clear q13
            try clear q135
            try clear q136
            try clear q137
            try clear q139
            obtain ⟨x50_4, rfl, HA, HK4, BK138, HB⟩ := hrel
            cases gk with
            | zero => exact absurd HA.out (by simp [impl_ClassesOk.l0])
            | succ k4 =>
             have H := HA.out
             clear HA
             simp only [impl_ClassesOk.l0] at H
             by_cases c20 : x50_4 < (l0.length : Int)
             ·rw [if_pos c20] at H
              have c20b0 : decide (x50_4 < (l0.length : Int)) = true := decide_eq_true c20
              clear c20
              by_cases c21 : 0 ≤ x50_4
              ·rw [if_pos c21] at H
               have c21b0 : decide (0 ≤ x50_4) = true := decide_eq_true c21
               clear c21
               by_cases c22 : x50_4 < (l0.length : Int)
               ·rw [if_pos c22] at H
                have c22b0 : decide (x50_4 < (l0.length : Int)) = true := decide_eq_true c22
                clear c22
                have HC23 := Aside0.mk H
                clear H
                have p140 : 0 ≤ (x50_4 : Int) := of_decide_eq_true z8
                have q140 : x50_4 < (l0.length : Int) := of_decide_eq_true z8
                obtain ⟨ad140, A140_1, c140_1, e140, hx140_0, hx140_1, hl140_1, hi140_1⟩ := at_T84 HR0.out x50_4 p140 q140
                obtain rfl : ad137 = ad140 := (by injection e140)
                replace hx140_0 := (HB.out.cell (World.block_lt_of_cell? w _ hx140_0)).trans hx140_0
                replace hx140_1 := (HB.out.cell (World.block_lt_of_cell? w _ hx140_1)).trans hx140_1
                have HR140_1 := Aside0.mk hi140_1
                have HC140_1 := Aside0.mk hl140_1
                clear hi140_1 hl140_1
                replace p140 := eq_true p140
                replace q140 := eq_true q140
                go_upto_region 11 with (first | ((with_reducible refine gate_dst (N := 5) rfl ?_); (try (refine gate_guard (by rfl) ?_; dsimp only)); refine box_event ?hg (N := 5) ?hd (cs := #[.int .i64 0, .slice none 0 0]) (t := 84) ?hr ?_; (case hd => rfl); (case hg => rfl); (case hr => first | (go_simp; done) | (go_simp; rfl)); intro gb141 hg w24 hbox hb; have BK141 := Aside0.mk (hbox); have GW141 := Aside0.mk ((by rw [hg]; exact (below_size (by repeat (first | (with_reducible first | exact HB.out | apply below_alloc | apply pw_below_drewN | apply below_drew1 | refine below_set ?_ GE138.out) | exact HB.out))) : w.heap.size ≤ gb141)); have GE141 := Aside0.mk ((by rw [hg]; exact (below_size (by repeat (first | (with_reducible first | exact HB.out | apply below_alloc | apply pw_below_drewN | apply below_drew1 | refine below_set ?_ GE138.out) | exact HB.out))) : w.heap.size ≤ gb141)); have NB138_141 := Aside0.mk ((by rw [hg]; exact Nat.ne_of_lt (blk_lt (g := gb138) (o := .cells #[.int .i64 ((rd_T84 l0 1).f0), .slice A137_1 ((rd_T84 l0 1).f1).length c137_1] 84 (0, 0)) (by (with_reducible repeat (first | refine blk_drewN ?_ _ | refine blk_drew ?_ | refine blk_alloc ?_ _)); exact BK138.out)) : gb138 ≠ gb141)); have NB141_138 := Aside0.mk ((by rw [hg]; exact Nat.ne_of_gt (blk_lt (g := gb138) (o := .cells #[.int .i64 ((rd_T84 l0 1).f0), .slice A137_1 ((rd_T84 l0 1).f1).length c137_1] 84 (0, 0)) (by (with_reducible repeat (first | refine blk_drewN ?_ _ | refine blk_drew ?_ | refine blk_alloc ?_ _)); exact BK138.out)) : gb141 ≠ gb138)); replace BK138 := Aside0.mk (blk_below (g := gb138) (o := .cells #[.int .i64 ((rd_T84 l0 1).f0), .slice A137_1 ((rd_T84 l0 1).f1).length c137_1] 84 (0, 0)) (by (with_reducible repeat (first | refine blk_drewN ?_ _ | refine blk_drew ?_ | refine blk_alloc ?_ _)); exact BK138.out) hb); replace HB := Aside0.mk (below_step (by repeat (first | (with_reducible first | exact HB.out | apply below_alloc | apply pw_below_drewN | apply below_drew1 | refine below_set ?_ GE138.out) | exact HB.out)) hb); clear hb hbox hg; have hnb25 := NB141_138.out; have hnc25 := NB138_141.out; obtain ⟨hcz26_0, hcz26_1, hfz26_0, hfz26_1⟩ := cbf2 BK141))
                (try simp only [Act.put, List.setIfInBounds_toArray, List.set_cons_zero, List.set_cons_succ])
                go_cut [67] (fun v67 wc => ∃ (kq : Nat) (x67_22 : Bool), v67 = .bool x67_22 ∧ Aside0 (impl_ClassesOk.j4 kq l0 l0 (l0.length : Int) x50_4 x67_22 ((rd_T84 l0 x50_4).f0) ((rd_T84 l0 x50_4).f1) = some r) ∧ Aside0 (kq ≤ k4) ∧ Aside0 (wc.heap[gb138]? = some (.cells #[.int .i64 ((rd_T84 l0 1).f0), (.slice A137_1 ((rd_T84 l0 1).f1).length c137_1)] 84 (0, 0))) ∧ Aside0 (wc.heap[gb141]? = some (.cells #[.int .i64 ((rd_T84 l0 x50_4).f0), (.slice A140_1 ((rd_T84 l0 x50_4).f1).length c140_1)] 84 (0, 0))) ∧ Aside0 (Below w.heap.size w wc))
                case first =>
                 have H := HC23.out
                 clear HC23
                 by_cases c27 : x50_4 > 1
                 ·rw [if_pos c27] at H
                  have c27b0 : decide (1 < x50_4) = true := decide_eq_true c27
                  clear c27
                  (first | rw [c27b0] | (simp only [i64_w, i32_w]; rw [c27b0]) | skip)
                  by_cases c28 : ((rd_T84 l0 x50_4).f0) < 0
                  ·rw [if_pos c28] at H
                   have c28b0 : decide (((rd_T84 l0 x50_4).f0) < 0) = true := decide_eq_true c28
                   clear c28
                   have H' := Aside0.mk H
                   clear H
                   have hnb29 := NB141_138.out
                   have hnc29 := NB138_141.out
                   obtain ⟨hcz30_0, hcz30_1, hfz30_0, hfz30_1⟩ := cbf2 BK141
                   go_wp2
                   go_meet
                   case rel => exact ⟨_, (true), z9, H', ⟨by have := HJ1.out; have := HJ4.out; have := HJ9.out; have := HK4.out; first | omega | exact Nat.le_refl _⟩, ⟨by (with_reducible repeat (first | refine blk_drewN ?_ _ | refine blk_drew ?_ | refine blk_alloc ?_ _)); refine blk_far ?_ NB138_141.out _; (with_reducible repeat (first | refine blk_drewN ?_ _ | refine blk_drew ?_ | refine blk_alloc ?_ _)); refine blk_far ?_ NB138_141.out _; (with_reducible repeat (first | refine blk_drewN ?_ _ | refine blk_drew ?_ | refine blk_alloc ?_ _)); exact BK138.out⟩, ⟨by (with_reducible repeat (first | refine blk_drewN ?_ _ | refine blk_drew ?_ | refine blk_alloc ?_ _)); refine blk_put (cs := #[.int .i64 ((rd_T84 l0 x50_4).f0), .slice none 0 0]) ?_ 1 _ rfl; (with_reducible repeat (first | refine blk_drewN ?_ _ | refine blk_drew ?_ | refine blk_alloc ?_ _)); refine blk_put (cs := #[.int .i64 0, .slice none 0 0]) ?_ 0 _ rfl; (with_reducible repeat (first | refine blk_drewN ?_ _ | refine blk_drew ?_ | refine blk_alloc ?_ _)); exact BK141.out⟩, ⟨by repeat (first | (with_reducible first | exact HB.out | apply below_alloc | apply pw_below_drewN | apply below_drew1 | refine below_set ?_ GE138.out | refine below_set ?_ GE141.out) | exact HB.out)⟩⟩
                  ·rw [if_neg c28] at H
                   have c28b0 : decide (((rd_T84 l0 x50_4).f0) < 0) = false := decide_eq_false c28
                   clear c28
                   have H' := Aside0.mk H
                   clear H
                   have hnb31 := NB141_138.out
                   have hnc31 := NB138_141.out
                   obtain ⟨hcz32_0, hcz32_1, hfz32_0, hfz32_1⟩ := cbf2 BK141
                   go_wp2
                   go_meet
                   case rel => exact ⟨_, (decide (((rd_T84 l0 x50_4).f0) ≥ x50_4)), z9, H', ⟨by have := HJ1.out; have := HJ4.out; have := HJ9.out; have := HK4.out; first | omega | exact Nat.le_refl _⟩, ⟨by (with_reducible repeat (first | refine blk_drewN ?_ _ | refine blk_drew ?_ | refine blk_alloc ?_ _)); refine blk_far ?_ NB138_141.out _; (with_reducible repeat (first | refine blk_drewN ?_ _ | refine blk_drew ?_ | refine blk_alloc ?_ _)); refine blk_far ?_ NB138_141.out _; (with_reducible repeat (first | refine blk_drewN ?_ _ | refine blk_drew ?_ | refine blk_alloc ?_ _)); exact BK138.out⟩, ⟨by (with_reducible repeat (first | refine blk_drewN ?_ _ | refine blk_drew ?_ | refine blk_alloc ?_ _)); refine blk_put (cs := #[.int .i64 ((rd_T84 l0 x50_4).f0), .slice none 0 0]) ?_ 1 _ rfl; (with_reducible repeat (first | refine blk_drewN ?_ _ | refine blk_drew ?_ | refine blk_alloc ?_ _)); refine blk_put (cs := #[.int .i64 0, .slice none 0 0]) ?_ 0 _ rfl; (with_reducible repeat (first | refine blk_drewN ?_ _ | refine blk_drew ?_ | refine blk_alloc ?_ _)); exact BK141.out⟩, ⟨by repeat (first | (with_reducible first | exact HB.out | apply below_alloc | apply pw_below_drewN | apply below_drew1 | refine below_set ?_ GE138.out | refine below_set ?_ GE141.out) | exact HB.out)⟩⟩
                 ·rw [if_neg c27] at H
                  have c27b0 : decide (1 < x50_4) = false := decide_eq_false c27
                  clear c27
                  (first | rw [c27b0] | (simp only [i64_w, i32_w]; rw [c27b0]) | skip)
                  have H' := Aside0.mk H
                  clear H
                  go_wp2
                  go_meet
                  case rel => exact ⟨_, (false), z9, H', ⟨by have := HJ1.out; have := HJ4.out; have := HJ9.out; have := HK4.out; first | omega | exact Nat.le_refl _⟩, ⟨by (with_reducible repeat (first | refine blk_drewN ?_ _ | refine blk_drew ?_ | refine blk_alloc ?_ _)); refine blk_far ?_ NB138_141.out _; (with_reducible repeat (first | refine blk_drewN ?_ _ | refine blk_drew ?_ | refine blk_alloc ?_ _)); refine blk_far ?_ NB138_141.out _; (with_reducible repeat (first | refine blk_drewN ?_ _ | refine blk_drew ?_ | refine blk_alloc ?_ _)); exact BK138.out⟩, ⟨by (with_reducible repeat (first | refine blk_drewN ?_ _ | refine blk_drew ?_ | refine blk_alloc ?_ _)); refine blk_put (cs := #[.int .i64 ((rd_T84 l0 x50_4).f0), .slice none 0 0]) ?_ 1 _ rfl; (with_reducible repeat (first | refine blk_drewN ?_ _ | refine blk_drew ?_ | refine blk_alloc ?_ _)); refine blk_put (cs := #[.int .i64 0, .slice none 0 0]) ?_ 0 _ rfl; (with_reducible repeat (first | refine blk_drewN ?_ _ | refine blk_drew ?_ | refine blk_alloc ?_ _)); exact BK141.out⟩, ⟨by repeat (first | (with_reducible first | exact HB.out | apply below_alloc | apply pw_below_drewN | apply below_drew1 | refine below_set ?_ GE138.out | refine below_set ?_ GE141.out) | exact HB.out)⟩⟩
                case rest =>
                 clear HC23
                 try clear c1
                 try clear p1
                 try clear q1
                 try clear hx1
                 try clear qi1
                 try clear c2
                 try clear p2
                 try clear c3
                 try clear c3b0
                 try clear c3b1
                 try clear c4
                 try clear c6
                 try clear c6b0
                 try clear c6b1
                 try clear c7
                 try clear c7b0
                 try clear c7b1
                 try clear c8
                 try clear c9
                 try clear c9b0
                 try clear c9b1
                 try clear c13
                 try clear c13b0
                 try clear c13b1
                 try clear p13
                 try clear q13
                 try clear hx13
                 try clear qi13
                 try clear c14
                 try clear c14b0
                 try clear c14b1
                 try clear p14
                 try clear q14
                 try clear hx14
                 try clear c15
                 try clear c15b0
                 try clear c15b1
                 try clear c19
                 try clear c20
                 try clear c20b0
                 try clear c21
                 try clear c21b0
                 try clear c22
                 try clear c22b0
                 try clear c25
                 try clear c27
                 try clear c27b0
                 try clear c28
                 try clear c28b0
                 try clear c29
                 try clear c31
                 try clear hcz12_0
                 try clear hcz12_1
                 try clear hcz16_0
                 try clear hcz16_1
                 try clear hcz17_0
                 try clear hcz17_1
                 try clear hcz18_0
                 try clear hcz18_1
                 try clear hcz26_0
                 try clear hcz26_1
                 try clear hcz30_0
                 try clear hcz30_1
                 try clear hcz32_0
                 try clear hcz32_1
                 try clear hfz12_0
                 try clear hfz12_1
                 try clear hfz16_0
                 try clear hfz16_1
                 try clear hfz17_0
                 try clear hfz17_1
                 try clear hfz18_0
                 try clear hfz18_1
                 try clear hfz26_0
                 try clear hfz26_1
                 try clear hfz30_0
                 try clear hfz30_1
                 try clear hfz32_0
                 try clear hfz32_1
                 try clear hx135_0
                 try clear hx135_1
                 try clear hx136_0
                 try clear hx136_1
                 try clear hx137_0
                 try clear hx137_1
                 try clear hx139_0
                 try clear hx140_0
                 try clear hx140_1
                 try clear p1
                 try clear p13
                 try clear p135
                 try clear p136
                 try clear p137
                 try clear p139
                 try clear p140
                 try clear p2
                 try clear q1
                 try clear q13
                 try clear q135
                 try clear q136
                 try clear q137
                 try clear q139
                 try clear q140
                 obtain ⟨kq, x67_22, rfl, HA, HJ22, BK138, BK141, HB⟩ := hcut
                 cases kq with
                 | zero => exact absurd HA.out (by simp [impl_ClassesOk.j4])
                 | succ kj22 =>
                  have H := HA.out
                  clear HA
                  simp only [impl_ClassesOk.j4] at H
                  by_cases c33 : x67_22 = true
                  ·subst c33
                   rw [if_pos rfl] at H
                   obtain rfl := Option.some.inj H
                   go_wp2
                   go_ret
                   exact ⟨by first | rfl | (simp [errW_none, errW_some] <;> rfl) | (simp [*, errW_none, errW_some] <;> rfl), by repeat (first | (with_reducible first | exact HB.out | apply below_alloc | apply pw_below_drewN | apply below_drew1 | refine below_set ?_ GE138.out | refine below_set ?_ GE141.out) | exact HB.out)⟩
                  ·replace c33 := Bool.eq_false_iff.mpr c33
                   subst c33
                   rw [if_neg (show ¬ (false = true) by decide)] at H
                   by_cases c34 : (((rd_T84 l0 x50_4).f1).length : Int) > 2
                   ·rw [if_pos c34] at H
                    have c34b0 : decide (2 < (((rd_T84 l0 x50_4).f1).length : Int)) = true := decide_eq_true c34
                    have c34b1 : decide (2 < ((rd_T84 l0 x50_4).f1).length) = true := decide_eq_true (by omega)
                    clear c34
                    obtain rfl := Option.some.inj H
                    have hnb35 := NB141_138.out
                    have hnc35 := NB138_141.out
                    obtain ⟨hcz36_0, hcz36_1, hfz36_0, hfz36_1⟩ := cbf2 BK141
                    go_wp2
                    go_ret
                    exact ⟨by first | rfl | (simp [errW_none, errW_some] <;> rfl) | (simp [*, errW_none, errW_some] <;> rfl), by repeat (first | (with_reducible first | exact HB.out | apply below_alloc | apply pw_below_drewN | apply below_drew1 | refine below_set ?_ GE138.out | refine below_set ?_ GE141.out) | exact HB.out)⟩
                   ·rw [if_neg c34] at H
                    have c34b0 : decide (2 < (((rd_T84 l0 x50_4).f1).length : Int)) = false := decide_eq_false c34
                    have c34b1 : decide (2 < ((rd_T84 l0 x50_4).f1).length) = false := decide_eq_false (by omega)
                    clear c34
                    have H' := Aside0.mk H
                    clear H
                    have hnb37 := NB141_138.out
                    have hnc37 := NB138_141.out
                    obtain ⟨hcz38_0, hcz38_1, hfz38_0, hfz38_1⟩ := cbf2 BK141
                    go_wp2
                    go_loopg [75] kj22 (fun kq v75 w' => ∃ (x75_6 : Int), v75 = .int .i64 x75_6 ∧ Aside0 (impl_ClassesOk.l1 kq l0 l0 (l0.length : Int) x50_4 ((rd_T84 l0 x50_4).f1) (((rd_T84 l0 x50_4).f1).length : Int) x75_6 = some r) ∧ Aside0 (kq ≤ kj22) ∧ Aside0 (w'.heap[gb138]? = some (.cells #[.int .i64 ((rd_T84 l0 1).f0), (.slice A137_1 ((rd_T84 l0 1).f1).length c137_1)] 84 (0, 0))) ∧ Aside0 (w'.heap[gb141]? = some (.cells #[.int .i64 ((rd_T84 l0 x50_4).f0), (.slice A140_1 ((rd_T84 l0 x50_4).f1).length c140_1)] 84 (0, 0))) ∧ Aside0 (Below w.heap.size w w'))
                    case atStart => exact ⟨(0), z9, H', ⟨Nat.le_refl _⟩, ⟨by (with_reducible repeat (first | refine blk_drewN ?_ _ | refine blk_drew ?_ | refine blk_alloc ?_ _)); exact BK138.out⟩, ⟨by (with_reducible repeat (first | refine blk_drewN ?_ _ | refine blk_drew ?_ | refine blk_alloc ?_ _)); exact BK141.out⟩, ⟨by repeat (first | (with_reducible first | exact HB.out | apply below_alloc | apply pw_below_drewN | apply below_drew1 | refine below_set ?_ GE138.out | refine below_set ?_ GE141.out) | exact HB.out)⟩⟩
                    case round =>
                     clear H'
                     try clear c1
                     try clear p1
                     try clear q1
                     try clear hx1
                     try clear qi1
                     try clear c2
                     try clear p2
                     try clear c3
                     try clear c3b0
                     try clear c3b1
                     try clear c4
                     try clear c6
                     try clear c6b0
                     try clear c6b1
                     try clear c7
                     try clear c7b0
                     try clear c7b1
                     try clear c8
                     try clear c9
                     try clear c9b0
                     try clear c9b1
                     try clear c13
                     try clear c13b0
                     try clear c13b1
                     try clear p13
                     try clear q13
                     try clear hx13
                     try clear qi13
                     try clear c14
                     try clear c14b0
                     try clear c14b1
                     try clear p14
                     try clear q14
                     try clear hx14
                     try clear c15
                     try clear c15b0
                     try clear c15b1
                     try clear c19
                     try clear c20
                     try clear c20b0
                     try clear c21
                     try clear c21b0
                     try clear c22
                     try clear c22b0
                     try clear c25
                     try clear c27
                     try clear c27b0
                     try clear c28
                     try clear c28b0
                     try clear c29
                     try clear c31
                     try clear c33
                     try clear c34
                     try clear c34b0
                     try clear c34b1
                     try clear c35
                     try clear c37
                     try clear hcz12_0
                     try clear hcz12_1
                     try clear hcz16_0
                     try clear hcz16_1
                     try clear hcz17_0
                     try clear hcz17_1
                     try clear hcz18_0
                     try clear hcz18_1
                     try clear hcz26_0
                     try clear hcz26_1
                     try clear hcz30_0
                     try clear hcz30_1
                     try clear hcz32_0
                     try clear hcz32_1
                     try clear hcz36_0
                     try clear hcz36_1
                     try clear hcz38_0
                     try clear hcz38_1
                     try clear hfz12_0
                     try clear hfz12_1
                     try clear hfz16_0
                     try clear hfz16_1
                     try clear hfz17_0
                     try clear hfz17_1
                     try clear hfz18_0
                     try clear hfz18_1
                     try clear hfz26_0
                     try clear hfz26_1
                     try clear hfz30_0
                     try clear hfz30_1
                     try clear hfz32_0
                     try clear hfz32_1
                     try clear hfz36_0
                     try clear hfz36_1
                     try clear hfz38_0
                     try clear hfz38_1
                     try clear hx135_0
                     try clear hx135_1
                     try clear hx136_0
                     try clear hx136_1
                     try clear hx137_0
                     try clear hx137_1
                     try clear hx139_0
                     try clear hx140_0
                     try clear hx140_1
                     try clear p1
                     try clear p13
                     try clear p135
                     try clear p136
                     try clear p137
                     try clear p139
                     try clear p14
                     try clear p140
                     try clear p2
                     try clear q1
                     try clear q13
                     try clear q135
                     try clear q136
                     try clear q137
                     try clear q139
                     try clear q14
                     try clear q140
                     obtain ⟨x75_6, rfl, HA, HK6, BK138, BK141, HB⟩ := hrel
                     cases gk with
                     | zero => exact absurd HA.out (by simp [impl_ClassesOk.l1])
                     | succ k6 =>
                      have H := HA.out
                      clear HA
                      simp only [impl_ClassesOk.l1] at H
                      by_cases c39 : x75_6 < (((rd_T84 l0 x50_4).f1).length : Int)
                      ·rw [if_pos c39] at H
                       have c39b0 : decide (x75_6 < (((rd_T84 l0 x50_4).f1).length : Int)) = true := decide_eq_true c39
                       clear c39
                       by_cases c40 : 0 ≤ x75_6
                       ·rw [if_pos c40] at H
                        have c40b0 : decide (0 ≤ x75_6) = true := decide_eq_true c40
                        clear c40
                        by_cases c41 : x75_6 < (((rd_T84 l0 x50_4).f1).length : Int)
                        ·rw [if_pos c41] at H
                         have c41b0 : decide (x75_6 < (((rd_T84 l0 x50_4).f1).length : Int)) = true := decide_eq_true c41
                         clear c41
                         replace H := Option.bind_eq_some_iff.mp H
                         obtain ⟨t143, A420, H⟩ := H
                         try dsimp only at H
                         have A42 := Aside0.mk A420
                         clear A420
                         by_cases c43 : t143 = true
                         ·subst c43
                          rw [if_pos rfl] at H
                          have H' := Aside0.mk H
                          clear H
                          have p142 : 0 ≤ (x75_6 : Int) := of_decide_eq_true z8
                          have q142 : x75_6 < (((rd_T84 l0 x50_4).f1).length : Int) := of_decide_eq_true z8
                          obtain ⟨ad142, e142, hx142_0⟩ := Kd.at_int HR140_1.out x75_6 p142 q142
                          cases e142
                          replace hx142_0 := (HB.out.cell (World.block_lt_of_cell? w _ hx142_0)).trans hx142_0
                          replace p142 := eq_true p142
                          replace q142 := eq_true q142
                          go_wp2_with (first | ((with_reducible refine gate_callee (f := 101) rfl ?_); refine goesL_ (some 82) rfl rfl Try.func101 (by kernel_rfl) rfl #[.int .i64 (l0.length : Int), .int .i64 (rd ((rd_T84 l0 x50_4).f1) x75_6)] rfl z1 ?_; (with_reducible refine (impl_fieldType.calls (l0.length : Int) (rd ((rd_T84 l0 x50_4).f1) x75_6) true _ A42.out).mono ?_); rintro e w' ⟨rfl, ⟨nd, rfl⟩⟩; refine ⟨_, rfl, ?_⟩))
                          go_roundg k6
                          case measure => have := HJ1.out; have := HJ4.out; have := HJ9.out; have := HK4.out; have := HJ22.out; have := HK6.out; omega
                          case rel => exact ⟨(wrap64 (x75_6 + 1)), z9, H', ⟨by have := HJ1.out; have := HJ4.out; have := HJ9.out; have := HK4.out; have := HJ22.out; have := HK6.out; omega⟩, ⟨by (with_reducible repeat (first | refine blk_drewN ?_ _ | refine blk_drew ?_ | refine blk_alloc ?_ _)); exact BK138.out⟩, ⟨by (with_reducible repeat (first | refine blk_drewN ?_ _ | refine blk_drew ?_ | refine blk_alloc ?_ _)); exact BK141.out⟩, ⟨by repeat (first | (with_reducible first | exact HB.out | apply below_alloc | apply pw_below_drewN | apply below_drew1 | refine below_set ?_ GE138.out | refine below_set ?_ GE141.out) | exact HB.out)⟩⟩
                         ·replace c43 := Bool.eq_false_iff.mpr c43
                          subst c43
                          rw [if_neg (show ¬ (false = true) by decide)] at H
                          obtain rfl := Option.some.inj H
                          have p142 : 0 ≤ (x75_6 : Int) := of_decide_eq_true z8
                          have q142 : x75_6 < (((rd_T84 l0 x50_4).f1).length : Int) := of_decide_eq_true z8
                          obtain ⟨ad142, e142, hx142_0⟩ := Kd.at_int HR140_1.out x75_6 p142 q142
                          cases e142
                          replace hx142_0 := (HB.out.cell (World.block_lt_of_cell? w _ hx142_0)).trans hx142_0
                          replace p142 := eq_true p142
                          replace q142 := eq_true q142
                          go_wp2_with (first | ((with_reducible refine gate_callee (f := 101) rfl ?_); refine goesL_ (some 82) rfl rfl Try.func101 (by kernel_rfl) rfl #[.int .i64 (l0.length : Int), .int .i64 (rd ((rd_T84 l0 x50_4).f1) x75_6)] rfl z1 ?_; (with_reducible refine (impl_fieldType.calls (l0.length : Int) (rd ((rd_T84 l0 x50_4).f1) x75_6) false _ A42.out).mono ?_); rintro e w' ⟨rfl, ⟨nd, rfl⟩⟩; refine ⟨_, rfl, ?_⟩))
                          go_ret
                          exact ⟨by first | rfl | (simp [errW_none, errW_some] <;> rfl) | (simp [*, errW_none, errW_some] <;> rfl), by repeat (first | (with_reducible first | exact HB.out | apply below_alloc | apply pw_below_drewN | apply below_drew1 | refine below_set ?_ GE138.out | refine below_set ?_ GE141.out) | exact HB.out)⟩
                        ·rw [if_neg c41] at H
                         exact absurd H (by simp)
                       ·rw [if_neg c40] at H
                        exact absurd H (by simp)
                      ·rw [if_neg c39] at H
                       have c39b0 : decide (x75_6 < (((rd_T84 l0 x50_4).f1).length : Int)) = false := decide_eq_false c39
                       clear c39
                       have H' := Aside0.mk H
                       clear H
                       go_wp2
                       go_roundg k6
                       case measure => have := HJ1.out; have := HJ4.out; have := HJ9.out; have := HK4.out; have := HJ22.out; have := HK6.out; omega
                       case rel => exact ⟨(wrap64 (x50_4 + 1)), z9, H', ⟨by have := HJ1.out; have := HJ4.out; have := HJ9.out; have := HK4.out; have := HJ22.out; have := HK6.out; omega⟩, ⟨by (with_reducible repeat (first | refine blk_drewN ?_ _ | refine blk_drew ?_ | refine blk_alloc ?_ _)); exact BK138.out⟩, ⟨by repeat (first | (with_reducible first | exact HB.out | apply below_alloc | apply pw_below_drewN | apply below_drew1 | refine below_set ?_ GE138.out | refine below_set ?_ GE141.out) | exact HB.out)⟩⟩
               ·rw [if_neg c22] at H
                exact absurd H (by simp)
              ·rw [if_neg c21] at H
               exact absurd H (by simp)
             ·rw [if_neg c20] at H
              have c20b0 : decide (x50_4 < (l0.length : Int)) = false := decide_eq_false c20
              clear c20
              obtain rfl := Option.some.inj H
              go_wp2
              go_ret
              exact ⟨by first | rfl | (simp [errW_none, errW_some] <;> rfl) | (simp [*, errW_none, errW_some] <;> rfl), by repeat (first | (with_reducible first | exact HB.out | apply below_alloc | apply pw_below_drewN | apply below_drew1 | refine below_set ?_ GE138.out) | exact HB.out)⟩
       ·rw [if_neg c9] at H
        exact absurd H (by simp)
end Go.Proofs.Ytnjbgkmmfndmeaa.K
namespace Go.Proofs.Ytnjbgkmmfndmeaa.K
open Go.RowKit Go.Proofs.YtnjbgkmmfndmeaaW.PrintWords Go.Proofs.YtnjbgkmmfndmeaaW.PrintLast Go.Proofs.YtnjbgkmmfndmeaaW.PrintMore
attribute [local go_sem] max2_int min2_int max_two min_two max_three min_three max_four min_four
set_option linter.unusedVariables false
set_option linter.unusedSimpArgs false
def impl_classUp.l0 : Nat → List (S84) → Int → Int → Option (Bool)
  | 0, _, _, _ => none
  | k + 1, x0, x2, x7 => if x7 ≥ 0 then (if x7 = x2 then (some true) else (if 0 ≤ x7 then (if x7 < (x0.length : Int) then (impl_classUp.l0 k x0 x2 ((rd_T84 x0 x7).f0)) else (none)) else (none))) else (some false)
def impl_classUp.f (k : Nat) (l0 : List (S84)) (a1 : Int) (a2 : Int) : Option (Bool) := impl_classUp.l0 k l0 a2 a1
set_option maxHeartbeats 8000000 in
set_option maxRecDepth 100000 in
theorem impl_classUp.calls (k : Nat) (A0 : Option Addr) (c0 : Nat) (l0 : List (S84)) (a1 : Int) (a2 : Int) (r : Bool) (w : World) (hr0 : Kd.C k84 w A0 l0.length l0) (hc0 : l0.length ≤ c0) (h : impl_classUp.f k l0 a1 a2 = some r) :
  Calls Try.prog 147 #[.slice A0 l0.length c0, .int .i64 a1, .int .i64 a2] w fun e w' => e = .returned (.bool r) ∧ Drawn0 w w' := by
 have HR0 := Aside0.mk hr0
 have HC0 := Aside0.mk hc0
 clear hr0 hc0
 have H : (impl_classUp.l0 k l0 a2 a1) = some r := h
 clear h
 have H' := Aside0.mk H
 clear H
 go_enter Try.func147, Try.ntmps147
 go_wp2
 go_loopg [7] k (fun kq v7 w' => ∃ (x7_1 : Int), v7 = .int .i64 x7_1 ∧ Aside0 (impl_classUp.l0 kq l0 a2 x7_1 = some r) ∧ Aside0 (kq ≤ k) ∧ Drawn0 w w')
 case atStart => exact ⟨(a1), z9, H', ⟨Nat.le_refl _⟩, by repeat (first | exact Drawn0.refl _ | apply Drawn0.step)⟩
 case round =>
  clear H'
  try clear c1
  try clear p2
  obtain ⟨x7_1, rfl, HA, HK1, ⟨m1, rfl⟩⟩ := hrel
  cases gk with
  | zero => exact absurd HA.out (by simp [impl_classUp.l0])
  | succ k1 =>
   have H := HA.out
   clear HA
   simp only [impl_classUp.l0] at H
   by_cases c4 : x7_1 ≥ 0
   ·rw [if_pos c4] at H
    have c4b0 : decide (0 ≤ x7_1) = true := decide_eq_true c4
    clear c4
    by_cases c5 : x7_1 = a2
    ·rw [if_pos c5] at H
     have c5b0 : (x7_1 == a2) = true := beq_iff_eq.mpr c5
     have c5b1 : (x7_1 != a2) = false := bne_eq_false_iff_eq.mpr c5
     clear c5
     obtain rfl := Option.some.inj H
     go_wp2
     go_ret
     exact ⟨by first | rfl | (simp; done) | (simp [*]; done), by repeat (first | exact Drawn0.refl _ | apply Drawn0.step)⟩
    ·rw [if_neg c5] at H
     have c5b0 : (x7_1 == a2) = false := beq_eq_false_iff_ne.mpr c5
     have c5b1 : (x7_1 != a2) = true := bne_iff_ne.mpr c5
     by_cases c6 : 0 ≤ x7_1
     ·rw [if_pos c6] at H
      have c6b0 : decide (0 ≤ x7_1) = true := decide_eq_true c6
      clear c6
      by_cases c7 : x7_1 < (l0.length : Int)
      ·rw [if_pos c7] at H
       have c7b0 : decide (x7_1 < (l0.length : Int)) = true := decide_eq_true c7
       clear c7
       have H' := Aside0.mk H
       clear H
       have p144 : 0 ≤ (x7_1 : Int) := of_decide_eq_true z8
       have q144 : x7_1 < (l0.length : Int) := of_decide_eq_true z8
       obtain ⟨ad144, A144_1, c144_1, e144, hx144_0, hx144_1, hl144_1, hi144_1⟩ := at_T84 HR0.out x7_1 p144 q144
       cases e144
       have HR144_1 := Aside0.mk hi144_1
       have HC144_1 := Aside0.mk hl144_1
       clear hi144_1 hl144_1
       replace p144 := eq_true p144
       replace q144 := eq_true q144
       go_wp2
       go_roundg k1
       case measure => have := HK1.out; omega
       case rel => exact ⟨((rd_T84 l0 x7_1).f0), z9, H', ⟨by have := HK1.out; omega⟩, by repeat (first | exact Drawn0.refl _ | apply Drawn0.step)⟩
      ·rw [if_neg c7] at H
       exact absurd H (by simp)
     ·rw [if_neg c6] at H
      exact absurd H (by simp)
   ·rw [if_neg c4] at H
    have c4b0 : decide (0 ≤ x7_1) = false := decide_eq_false c4
    clear c4
    obtain rfl := Option.some.inj H
    go_wp2
    go_ret
    exact ⟨by first | rfl | (simp; done) | (simp [*]; done), by repeat (first | exact Drawn0.refl _ | apply Drawn0.step)⟩
end Go.Proofs.Ytnjbgkmmfndmeaa.K
namespace Go.Proofs.Ytnjbgkmmfndmeaa.K
open Go.RowKit Go.Proofs.YtnjbgkmmfndmeaaW.PrintWords Go.Proofs.YtnjbgkmmfndmeaaW.PrintLast Go.Proofs.YtnjbgkmmfndmeaaW.PrintMore
attribute [local go_sem] max2_int min2_int max_two min_two max_three min_three max_four min_four
set_option linter.unusedVariables false
set_option linter.unusedSimpArgs false
def kndIn (l0 : List S84) (a b : Int) : Option Bool :=
 if a = b ∨ b = 0 then some true
 else if a = 2 then some (!decide (b = 1))
 else if a = 3 ∨ a = 4 then some (decide (b = 8))
 else if 8 ≤ a then (if 8 ≤ b then impl_classUp.f 100 l0 (a - 8) (b - 8) else some false)
 else some false
theorem kv0 : kv 0 := by unfold kv; omega
theorem kv1 : kv 1 := by unfold kv; omega
theorem kv8 : kv 8 := by unfold kv; omega
set_option maxHeartbeats 4000000 in
theorem impl_kindIn.calls (A0 : Option Addr) (c0 : Nat) (l0 : List S84) (a b : Int) (r : Bool) (w : World) (hr0 : Kd.C k84 w A0 l0.length l0) (hc0 : l0.length ≤ c0) (ha : kv a) (hb : kv b) (hB : b ≤ 9223372036854775807) (h : kndIn l0 a b = some r) :
  Calls Try.prog 104 #[.slice A0 l0.length c0, kndV a, kndV b] w fun e w' => e = .returned (.bool r) ∧ Below w.heap.size w w' := by
 have HR0 := Aside0.mk hr0
 have HC0 := Aside0.mk hc0
 have E1 := kind_eql ha hb
 have E2 : ∀ W : World, (binOp .eql 127 (kndV b) (.iface 130 (.agg #[]))).run Try.prog W = .ok (.bool (decide (b = 0))) W := kind_eql hb kv0
 have E3 : ∀ W : World, (binOp .neq 127 (kndV b) (.iface 131 (.agg #[]))).run Try.prog W = .ok (.bool (!decide (b = 1))) W := kind_neq hb kv1
 have E4 : ∀ W : World, (binOp .eql 127 (kndV b) (.iface 137 (.agg #[.int .i64 0]))).run Try.prog W = .ok (.bool (decide (b = 8))) W := kind_eql hb kv8
 have G1 := guard_knd a
 have G2 := guard_knd b
 have T1 := kind_null ha
 have T2 := kind_arr ha
 have T3 := kind_class ha
 have T4 := kind_class hb
 clear hr0 hc0
 by_cases c1 : a = b
 ·have HR := Aside0.mk (Option.some.inj ((if_pos (Or.inl c1)).symm.trans h))
  have d1 : decide (a = b) = true := decide_eq_true c1
  clear h c1
  go_enter Try.func104, Try.ntmps104
  go_wp2
  go_ret
  exact ⟨by rw [← HR.out]; rfl, Below.refl _ _⟩
 have d1 : decide (a = b) = false := decide_eq_false c1
 by_cases c2 : b = 0
 ·have HR := Aside0.mk (Option.some.inj ((if_pos (Or.inr c2)).symm.trans h))
  have d2 : decide (b = 0) = true := decide_eq_true c2
  clear h c1 c2
  go_enter Try.func104, Try.ntmps104
  go_wp2
  go_ret
  exact ⟨by rw [← HR.out]; rfl, Below.refl _ _⟩
 have d2 : decide (b = 0) = false := decide_eq_false c2
 have h := (if_neg (show ¬ (a = b ∨ b = 0) from fun z => z.elim c1 c2)).symm.trans h
 by_cases c3 : a = 2
 ·have HR := Aside0.mk (Option.some.inj ((if_pos c3).symm.trans h))
  have d3 : decide (a = 2) = true := decide_eq_true c3
  clear h c1 c2 c3
  go_enter Try.func104, Try.ntmps104
  go_wp2
  go_ret
  exact ⟨by rw [← HR.out]; rfl, by repeat (first | exact Below.refl _ _ | apply below_alloc | (refine below_set ?_ (by simp)))⟩
 have h := (if_neg c3).symm.trans h
 have d3 : decide (a = 2) = false := decide_eq_false c3
 by_cases c4 : a = 3 ∨ a = 4
 ·have HR := Aside0.mk (Option.some.inj ((if_pos c4).symm.trans h))
  have d4 : decide (a = 3 ∨ a = 4) = true := decide_eq_true c4
  clear h c1 c2 c3 c4
  go_enter Try.func104, Try.ntmps104
  go_wp2
  go_ret
  exact ⟨by rw [← HR.out]; rfl, by repeat (first | exact Below.refl _ _ | apply below_alloc | (refine below_set ?_ (by simp)))⟩
 have h := (if_neg c4).symm.trans h
 have d4 : decide (a = 3 ∨ a = 4) = false := decide_eq_false c4
 by_cases c5 : 8 ≤ a
 ·have h := (if_pos c5).symm.trans h
  have d5 : decide (8 ≤ a) = true := decide_eq_true c5
  have e5 : clsOf a = a - 8 := if_pos c5
  by_cases c6 : 8 ≤ b
  ·have HR := Aside0.mk ((if_pos c6).symm.trans h)
   have d6 : decide (8 ≤ b) = true := decide_eq_true c6
   have e6 : clsOf b = b - 8 := if_pos c6
   clear h c1 c2 c3 c4
   go_enter Try.func104, Try.ntmps104
   go_wp2_with (go_at_call 147; refine (impl_classUp.calls 100 A0 c0 l0 (a - 8) (b - 8) r _ (Kd.C_below HR0.out (by repeat (first | exact Below.refl _ _ | apply below_alloc))) HC0.out HR.out).mono ?_; rintro e w' ⟨rfl, ⟨n, rfl⟩⟩)
   go_ret
   exact ⟨rfl, by repeat (first | exact Below.refl _ _ | apply below_alloc | apply pw_below_drewN | (refine below_set ?_ (by simp)))⟩
  ·have HR := Aside0.mk (Option.some.inj ((if_neg c6).symm.trans h))
   have d6 : decide (8 ≤ b) = false := decide_eq_false c6
   have e6 : clsOf b = 0 := if_neg c6
   clear h c1 c2 c3 c4
   go_enter Try.func104, Try.ntmps104
   go_wp2
   go_ret
   exact ⟨by rw [← HR.out]; rfl, by repeat (first | exact Below.refl _ _ | apply below_alloc | (refine below_set ?_ (by simp)))⟩
 have HR := Aside0.mk (Option.some.inj ((if_neg c5).symm.trans h))
 have d5 : decide (8 ≤ a) = false := decide_eq_false c5
 clear h c1 c2 c3 c4
 go_enter Try.func104, Try.ntmps104
 go_wp2
 go_ret
 exact ⟨by rw [← HR.out]; rfl, by repeat (first | exact Below.refl _ _ | apply below_alloc | (refine below_set ?_ (by simp)))⟩
end Go.Proofs.Ytnjbgkmmfndmeaa.K
namespace Go.Proofs.Ytnjbgkmmfndmeaa.K
open Go.RowKit Go.Proofs.YtnjbgkmmfndmeaaW.PrintWords Go.Proofs.YtnjbgkmmfndmeaaW.PrintLast Go.Proofs.YtnjbgkmmfndmeaaW.PrintMore
attribute [local go_sem] max2_int min2_int max_two min_two max_three min_three max_four min_four
set_option linter.unusedVariables false
set_option linter.unusedSimpArgs false
def kKnd : Kd Int := Kd.scalar kndV (fun x => by obtain ⟨u, v, h⟩ := kndV_iface x; rw [h]; rfl)
def nearIn (cn : Int → Option Bool) (un : Int → Int → Option Bool) (one : Int) : List Int → Option Bool
  | [] => some true
  | o :: os => (cn o).bind fun c => if c = true then ((un one o).bind fun u => if u = true then nearIn cn un one os else some false) else nearIn cn un one os
def nearOut (cn : Int → Option Bool) (un : Int → Int → Option Bool) (all : List Int) : List Int → Option (Option Int)
  | [] => some none
  | o :: os => (cn o).bind fun c => if c = true then ((nearIn cn un o all).bind fun l => if l = true then some (some o) else nearOut cn un all os) else nearOut cn un all os
theorem kKnd_at {W : World} {A : Option Addr} {l : List Int} (h : Kd.C kKnd W A l.length l) (i : Nat) (hi : i < l.length) : ∃ ad, A = some ad ∧ W.cell? (ad.add i) = some (kndV (l.getD i 0)) := by
 obtain ⟨ad, c, hA, hl, hk, hc⟩ := Kd.C_get h 0 (i : Int) (by omega) (by omega)
 have hk' : c = [kndV (l.getD i 0)] := by have e : c = [kndV (l.getD ((i : Int).toNat) 0)] := hk; simpa using e
 refine ⟨ad, hA, ?_⟩
 have := hc 0 (kndV (l.getD i 0)) (by rw [hk']; rfl)
 simpa [kKnd, Kd.scalar] using this
set_option maxHeartbeats 8000000 in
set_option maxRecDepth 100000 in
theorem nearest_calls (p1 p2 p3 : Value) (cn : Int → Option Bool) (un : Int → Int → Option Bool) (A : Option Addr) (c : Nat) (l : List Int) (r : Option Int) (W : World)
  (hr : Kd.C kKnd W A l.length l) (hc : l.length ≤ c) (hl : l.length ≤ 1005)
  (H1 : ∀ t w1 b, t ∈ l → Below W.heap.size W w1 → cn t = some b → Calls Try.prog 103 #[kndV t, p1, p2, p3] w1 fun e w2 => e = .returned (.bool b) ∧ Below w1.heap.size w1 w2)
  (H2 : ∀ s t w1 b, s ∈ l → t ∈ l → Below W.heap.size W w1 → un s t = some b → Calls Try.prog 105 #[kndV s, kndV t, p1] w1 fun e w2 => e = .returned (.bool b) ∧ Below w1.heap.size w1 w2)
  (h : nearOut cn un l l = some r) :
  Calls Try.prog 106 #[.slice A l.length c, .func (.func 103) #[] #[p1, p2, p3], .func (.func 105) #[] #[p1]] W fun e w' => e = .returned (.tuple #[r.elim .nilIface kndV, .bool r.isSome]) ∧ Below W.heap.size W w' := by
 have HR := Aside0.mk hr
 have K1 := Aside0.mk H1
 have K2 := Aside0.mk H2
 have H := Aside0.mk h
 clear hr H1 H2 h
 go_enter Try.func106, Try.ntmps106
 go_wp2
 go_loopw [16] (fun i wr => ∃ k : Nat, k ≤ l.length ∧ i = .int .i64 k ∧ Aside0 (nearOut cn un l (l.drop k) = some r) ∧ Aside0 (Below W.heap.size W wr)) (fun i _ => l.length - (intOf i).toNat)
 case atStart => exact ⟨0, Nat.zero_le _, rfl, by simpa using H, ⟨Below.refl _ _⟩⟩
 case round =>
  obtain ⟨k, hk, rfl, HN, HB⟩ := hrel
  by_cases hlt : k < l.length
  ·obtain ⟨ad, rfl, hcell⟩ := kKnd_at (Kd.C_below HR.out HB.out) k hlt
   have HM := Aside0.mk (show l.getD k 0 ∈ l by rw [List.getD_eq_getElem?_getD, List.getElem?_eq_getElem hlt]; exact List.getElem_mem _)
   have hd := List.drop_eq_getElem_cons hlt
   have hg : l[k] = l.getD k 0 := by simp [List.getD_eq_getElem?_getD, hlt]
   rw [hg] at hd
   have HN2 := HN.out
   rw [hd] at HN2
   clear hd hg HN
   have HD := Aside0.mk HN2
   clear HN2
   generalize l.getD k 0 = x at *
   obtain ⟨b, hb, HE0⟩ := Option.bind_eq_some_iff.mp HD.out
   have HE := Aside0.mk HE0
   clear HE0 HD
   obtain ⟨wo, rfl⟩ : ∃ wo : World, wo = wr := ⟨_, rfl⟩
   cases b with
   | false =>
    go_wp2_with fail
    refine (K1.out x _ false HM.out HB.out hb).mono ?_
    rintro e w2 ⟨rfl, hb2⟩
    have HB2 := Aside0.mk (below_step HB.out hb2)
    clear hb2
    go_wp2
    go_roundw
    case rel => exact ⟨k + 1, by omega, by go_num, ⟨by simpa using HE.out⟩, HB2⟩
    case measure => simp [intOf]; omega
   | true =>
    have HE1 := HE.out
    rw [if_pos rfl] at HE1
    obtain ⟨lst, hlst, HF0⟩ := Option.bind_eq_some_iff.mp HE1
    have HL := Aside0.mk hlst
    have HF := Aside0.mk HF0
    clear HE1 hlst HF0 HE
    go_wp2_with fail
    refine (K1.out x _ true HM.out HB.out hb).mono ?_
    rintro e w2 ⟨rfl, hb2⟩
    have HB2 := Aside0.mk (below_step HB.out hb2)
    clear hb2 hb hcell
    go_wp2
    go_loopw [10, 26] (fun lb j wr2 => ∃ m : Nat, m ≤ l.length ∧ j = .int .i64 m ∧ lb = .bool true ∧ Aside0 (nearIn cn un x (l.drop m) = some lst) ∧ Aside0 (Below W.heap.size W wr2)) (fun _ j _ => l.length - (intOf j).toNat)
    case atStart => exact ⟨0, Nat.zero_le _, rfl, rfl, by simpa using HL, HB2⟩
    case round =>
     obtain ⟨m, hm, rfl, rfl, HI, HB3⟩ := hrel
     by_cases hlt2 : m < l.length
     ·obtain ⟨ad2, he2, hcell⟩ := kKnd_at (Kd.C_below HR.out HB3.out) m hlt2
      obtain rfl := Option.some.inj he2
      have HM2 := Aside0.mk (show l.getD m 0 ∈ l by rw [List.getD_eq_getElem?_getD, List.getElem?_eq_getElem hlt2]; exact List.getElem_mem _)
      have hd := List.drop_eq_getElem_cons hlt2
      have hg : l[m] = l.getD m 0 := by simp [List.getD_eq_getElem?_getD, hlt2]
      rw [hg] at hd
      have HN2 := HI.out
      rw [hd] at HN2
      clear hd hg HI he2
      obtain ⟨b2, hb2, HG0⟩ := Option.bind_eq_some_iff.mp HN2
      have HG := Aside0.mk HG0
      clear HN2 HG0
      generalize l.getD m 0 = y at *
      cases b2 with
      | false =>
       go_wp2_with fail
       refine (K1.out y _ false HM2.out HB3.out hb2).mono ?_
       rintro e w3 ⟨rfl, hb4⟩
       have HB4 := Aside0.mk (below_step HB3.out hb4)
       clear hb4
       go_wp2
       go_roundw
       case rel => exact ⟨m + 1, by omega, by go_num, rfl, ⟨by simpa using HG.out⟩, HB4⟩
       case measure => simp [intOf]; omega
      | true =>
       have HG1 := HG.out
       rw [if_pos rfl] at HG1
       obtain ⟨u, hu, HH0⟩ := Option.bind_eq_some_iff.mp HG1
       have HH := Aside0.mk HH0
       have HU := Aside0.mk hu
       clear HG1 HH0 HG hu
       go_wp2_with fail
       refine (K1.out y _ true HM2.out HB3.out hb2).mono ?_
       rintro e w3 ⟨rfl, hb4⟩
       have HB4 := Aside0.mk (below_step HB3.out hb4)
       clear hb4 hcell hb2
       go_wp2_with fail
       refine (K2.out x y _ u HM.out HM2.out HB4.out HU.out).mono ?_
       rintro e w4 ⟨rfl, hb5⟩
       have HB5 := Aside0.mk (below_step HB4.out hb5)
       clear hb5
       cases u with
       | true =>
        go_wp2
        go_roundw
        case rel => exact ⟨m + 1, by omega, by go_num, rfl, ⟨by simpa using HH.out⟩, HB5⟩
        case measure => simp [intOf]; omega
       | false =>
        have HZ := HF.out
        rw [show lst = false from (Option.some.inj (by simpa using HH.out)).symm] at HZ
        have HZ2 := Aside0.mk (show nearOut cn un l (l.drop (k + 1)) = some r by simpa using HZ)
        clear HZ
        go_wp2
        go_roundw
        case rel => exact ⟨k + 1, by omega, by go_num, HZ2, HB5⟩
        case measure => simp [intOf]; omega
     ·have hm2 : m = l.length := by omega
      have HZ := HF.out
      have hl2 := HI.out
      rw [hm2, List.drop_length] at hl2
      rw [show lst = true from (Option.some.inj hl2).symm, if_pos rfl] at HZ
      have HZ2 := Aside0.mk (Option.some.inj HZ)
      clear HZ hl2 hm2
      go_wp2
      go_ret2
      exact ⟨by rw [← HZ2.out]; rfl, HB3.out⟩
  ·have hk2 : k = l.length := by omega
   have HZ := HN.out
   rw [hk2, List.drop_length] at HZ
   have HZ2 := Aside0.mk (Option.some.inj HZ)
   clear HZ hk2
   go_wp2
   go_ret2
   exact ⟨by rw [← HZ2.out]; rfl, HB.out⟩
end Go.Proofs.Ytnjbgkmmfndmeaa.K
namespace Go.Proofs.Ytnjbgkmmfndmeaa.K
open Go.RowKit Go.Proofs.YtnjbgkmmfndmeaaW.PrintWords Go.Proofs.YtnjbgkmmfndmeaaW.PrintLast Go.Proofs.YtnjbgkmmfndmeaaW.PrintMore
attribute [local go_sem] max2_int min2_int max_two min_two max_three min_three max_four min_four
set_option linter.unusedVariables false
set_option linter.unusedSimpArgs false
def impl_typeIn.f (l0 : List S84) (a1 a2 : Int) : Option Bool :=
  if l0.length ≤ 1000 ∧ a2 ≤ 9223372036854775807 then (if kOk l0.length a1 = true then (if kOk l0.length a2 = true then kndIn l0 a1 a2 else some false) else some false) else none
theorem kv_of_kOk {n t : Int} (h : kOk n t = true) : kv t := by simp [kOk] at h; unfold kv; omega
set_option maxHeartbeats 4000000 in
theorem impl_typeIn.calls (A0 : Option Addr) (c0 : Nat) (l0 : List S84) (a1 : Int) (a2 : Int) (r : Bool) (w : World) (hr0 : Kd.C k84 w A0 l0.length l0) (hc0 : l0.length ≤ c0) (h : impl_typeIn.f l0 a1 a2 = some r) :
  Calls Try.prog 52 #[.slice A0 l0.length c0, .int .i64 a1, .int .i64 a2] w fun e w' => e = .returned (.bool r) ∧ Below w.heap.size w w' := by
 have HR0 := Aside0.mk hr0
 have HC0 := Aside0.mk hc0
 clear hr0 hc0
 have hl : l0.length ≤ 1000 ∧ a2 ≤ 9223372036854775807 := by
  unfold impl_typeIn.f at h
  split at h
  ·assumption
  ·simp at h
 have h : (if kOk l0.length a1 = true then (if kOk l0.length a2 = true then kndIn l0 a1 a2 else some false) else some false) = some r := (if_pos hl).symm.trans h
 obtain ⟨hl, ha2⟩ := hl
 have N1 := kndO_neq l0.length a1
 have N2 := kndO_neq l0.length a2
 have G1 := fun (op : BinOp) (T : TypeId) (x : Operand) (c : Value) (v : Value) => guard_kndO l0.length a1 op T x c v
 have G2 := fun (op : BinOp) (T : TypeId) (x : Operand) (c : Value) (v : Value) => guard_kndO l0.length a2 op T x c v
 by_cases k1 : kOk l0.length a1 = true
 ·have h := (if_pos k1).symm.trans h
  have V1 := Aside0.mk (kv_of_kOk k1)
  have O1 := Aside0.mk (show kndO l0.length a1 = kndV a1 from if_pos k1)
  by_cases k2 : kOk l0.length a2 = true
  ·have H := Aside0.mk ((if_pos k2).symm.trans h)
   have V2 := Aside0.mk (kv_of_kOk k2)
   have O2 := Aside0.mk (show kndO l0.length a2 = kndV a2 from if_pos k2)
   clear h
   go_enter Try.func52, Try.ntmps52
   go_wp2_with fail
   refine (impl_kindOf.calls _ _ _ (by omega) (by omega)).mono ?_
   rintro e w' ⟨rfl, ⟨n1, rfl⟩⟩
   go_wp2_with fail
   refine (impl_kindOf.calls _ _ _ (by omega) (by omega)).mono ?_
   rintro e w' ⟨rfl, ⟨n2, rfl⟩⟩
   go_wp2_with fail
   rw [O1.out, O2.out]
   refine (impl_kindIn.calls A0 c0 l0 a1 a2 r _ (Kd.C_below HR0.out (by repeat (first | exact Below.refl _ _ | apply below_alloc | apply pw_below_drewN))) HC0.out V1.out V2.out ha2 H.out).mono ?_
   rintro e w' ⟨rfl, hb⟩
   go_wp2
   go_ret
   exact ⟨rfl, below_step (by repeat (first | exact Below.refl _ _ | apply below_alloc | apply pw_below_drewN)) hb⟩
  ·have H := Aside0.mk (Option.some.inj ((if_neg k2).symm.trans h))
   have k2 := Bool.not_eq_true _ |>.mp k2
   clear h
   go_enter Try.func52, Try.ntmps52
   go_wp2_with fail
   refine (impl_kindOf.calls _ _ _ (by omega) (by omega)).mono ?_
   rintro e w' ⟨rfl, ⟨n1, rfl⟩⟩
   go_wp2_with fail
   refine (impl_kindOf.calls _ _ _ (by omega) (by omega)).mono ?_
   rintro e w' ⟨rfl, ⟨n2, rfl⟩⟩
   go_wp2
   go_ret
   exact ⟨by rw [← H.out]; rfl, (by repeat (first | exact Below.refl _ _ | apply below_alloc | apply pw_below_drewN))⟩
 ·have H := Aside0.mk (Option.some.inj ((if_neg k1).symm.trans h))
  have k1 := Bool.not_eq_true _ |>.mp k1
  clear h
  go_enter Try.func52, Try.ntmps52
  go_wp2_with fail
  refine (impl_kindOf.calls _ _ _ (by omega) (by omega)).mono ?_
  rintro e w' ⟨rfl, ⟨n1, rfl⟩⟩
  go_wp2_with fail
  refine (impl_kindOf.calls _ _ _ (by omega) (by omega)).mono ?_
  rintro e w' ⟨rfl, ⟨n2, rfl⟩⟩
  go_wp2
  go_ret
  exact ⟨by rw [← H.out]; rfl, (by repeat (first | exact Below.refl _ _ | apply below_alloc | apply pw_below_drewN))⟩
end Go.Proofs.Ytnjbgkmmfndmeaa.K
